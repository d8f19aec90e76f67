/- A part of the proof of DeltaLines: Run Scan One. -/
import Derived.Test.YtdhehcobnbcmdaaGreatDoorPMc
import Derived.Test.YtdhehcobnbcmdaaGreatDoorPEs
import Derived.Test.YtdhehcobnbcmdaaGreatDoorPCf
set_option linter.all false
namespace Go.Proofs.YtdhehcobnbcmdaaGreatDoor
open Go.RowKit
attribute [local go_sem ↓] Go.wp_at_zero Go.wp_at_succ
def cls:Nat→Int
  | 0=>1
  | 1=>3
  | 2=>2
  | 3=>4
  | _=>0
def RunJ (s : ByteArray) (M : Nat) (w0 : World) (R : Int × Sc) (l : Nat) : Act → World → Prop := fun a' w' =>
  ∃ (k : Nat) (m : Sc) (v : Value) (f : Nat → Value),
    a'={ tmps:=#[.pointer (some ⟨M,0,none⟩),f 1,f 2,f 3,f 4,f 5,f 6,f 7,f 8,f 9,f 10,f 11,f 12,f 13,f 14,f 15,f 16,f 17,f 18,f 19,f 20,f 21,f 22,f 23,f 24,f 25,f 26,f 27,f 28,f 29,f 30,f 31,f 32,f 33,f 34,f 35,f 36,f 37,f 38,f 39,f 40,f 41,f 42,f 43,f 44,f 45,f 46,f 47,f 48,f 49,f 50,f 51,f 52,f 53,f 54,f 55,f 56,f 57,f 58,f 59,f 60,f 61,f 62,f 63,f 64,f 65,f 66,f 67,f 68,f 69,f 70,f 71,f 72,f 73,f 74,f 75,f 76,f 77,f 78,f 79,f 80,f 81,f 82,f 83,f 84,f 85],defers:=[] } ∧
    Hid (MachAt w' M ⟨s,m.pos,m.line,m.col,m.opn,v⟩)∧Hid (w'.ownsRow (M+1) 272 4 v m.n m.toks)∧m.Ok s∧s.size<m.pos+k∧Hid (R=runS s k m) ∧
    Hid (Env w')∧Hid (Below M w0 w')∧(l=0∨l=1∨l=2∨l=3∨l=4)∧Hid (l≠4→classL ((bs s).drop m.pos)=cls l)
theorem runJ_mk {s:ByteArray}{M:Nat}{w0 w':World}{R:Int×Sc}(l k:Nat)(m:Sc)(v:Value){x1 x2 x3 x4 x5 x6 x7 x8 x9 x10 x11 x12 x13 x14 x15 x16 x17 x18 x19 x20 x21 x22 x23 x24 x25 x26 x27 x28 x29 x30 x31 x32 x33 x34 x35 x36 x37 x38 x39 x40 x41 x42 x43 x44 x45 x46 x47 x48 x49 x50 x51 x52 x53 x54 x55 x56 x57 x58 x59 x60 x61 x62 x63 x64 x65 x66 x67 x68 x69 x70 x71 x72 x73 x74 x75 x76 x77 x78 x79 x80 x81 x82 x83 x84 x85:Value}
    (hM:Hid (MachAt w' M ⟨s,m.pos,m.line,m.col,m.opn,v⟩)) (hO:Hid (w'.ownsRow (M+1) 272 4 v m.n m.toks)) (hok:m.Ok s) (hk:s.size<m.pos+k) (hR:Hid (R=runS s k m))
    (hE:Hid (Env w')) (hB:Hid (Below M w0 w')) (hl:l=0∨l=1∨l=2∨l=3∨l=4) (hc:Hid (l≠4→classL ((bs s).drop m.pos)=cls l)) :
    RunJ s M w0 R l { tmps:=#[.pointer (some ⟨M,0,none⟩),x1,x2,x3,x4,x5,x6,x7,x8,x9,x10,x11,x12,x13,x14,x15,x16,x17,x18,x19,x20,x21,x22,x23,x24,x25,x26,x27,x28,x29,x30,x31,x32,x33,x34,x35,x36,x37,x38,x39,x40,x41,x42,x43,x44,x45,x46,x47,x48,x49,x50,x51,x52,x53,x54,x55,x56,x57,x58,x59,x60,x61,x62,x63,x64,x65,x66,x67,x68,x69,x70,x71,x72,x73,x74,x75,x76,x77,x78,x79,x80,x81,x82,x83,x84,x85],defers:=[] } w':=
  ⟨k,m,v,fun i=>(#[.pointer (some ⟨M,0,none⟩),x1,x2,x3,x4,x5,x6,x7,x8,x9,x10,x11,x12,x13,x14,x15,x16,x17,x18,x19,x20,x21,x22,x23,x24,x25,x26,x27,x28,x29,x30,x31,x32,x33,x34,x35,x36,x37,x38,x39,x40,x41,x42,x43,x44,x45,x46,x47,x48,x49,x50,x51,x52,x53,x54,x55,x56,x57,x58,x59,x60,x61,x62,x63,x64,x65,x66,x67,x68,x69,x70,x71,x72,x73,x74,x75,x76,x77,x78,x79,x80,x81,x82,x83,x84,x85]:Array Value).getD i undef,rfl,hM,hO,hok,hk,hR,hE,hB,hl,hc⟩
def runMu (s:ByteArray)(M:Nat)(l:Nat)(w:World):Nat:=2*(s.size+1-(intOf ((w.cell? ⟨M,1,none⟩).getD undef)).toNat)+if l=4 then 1 else 0
theorem runMu_of (s:ByteArray)(M l:Nat)(w:World)(m:Mach)(h:MachAt w M m):runMu s M l w=2*(s.size+1-m.pos)+if l=4 then 1 else 0:=by
  unfold runMu;rw [h.c1];rfl
theorem own_fwd {w w':World}{M n:Nat}{v:Value}{xs:List Value}(h:w.ownsRow (M+1) 272 4 v n xs)(hg:w.grownBy w' (some M)):w'.ownsRow (M+1) 272 4 v n xs:=by
  refine own_heap h (fun k hk=>hg.block k (h.lt k hk).2 (fun e=>?_))
  have h1:=(h.lt k hk).1
  injection e with e
  omega
theorem lineLen_at (s:ByteArray)(k:Nat)(h:k<s.size):lineLen ((bs s).drop k)=if s[k].toNat=10 then 0 else lineLen ((bs s).drop (k+1))+1:=by
  rw [bs_drop s k h];rfl
theorem lineLen_end (s:ByteArray)(k:Nat)(h:s.size≤k):lineLen ((bs s).drop k)=0:=by rw [bs_drop_end s k (by omega)];rfl
def RunPost (s:ByteArray)(M:Nat)(w:World)(R:Int×Sc)(e:Ending)(w':World):Prop:=
  e=.returned (.int .i64 R.1)∧∃ v,MachAt w' M ⟨s,R.2.pos,R.2.line,R.2.col,R.2.opn,v⟩∧w'.ownsRow (M+1) 272 4 v R.2.n R.2.toks∧Below M w w'∧R.2.n≤2*s.size+1
set_option maxHeartbeats 2000000 in
set_option maxRecDepth 100000 in
theorem run_any (s : ByteArray) (M : Nat) (w : World) (hm : MachAt w M ⟨s, 0, 1, 1, false, .slice none 0 0⟩) (hs : s.size ≤ 2147483647) (E : ∀ w', Below M w w' → Env w') :
    Calls Tryz.prog 228 #[.pointer (some ⟨M,0,none⟩)] w fun e w'=>RunPost s M w (runS s (s.size+1) ⟨0,1,1,false,0,[]⟩) e w':=by
  obtain ⟨R,hR⟩:∃ R,R=runS s (s.size+1) ⟨0,1,1,false,0,[]⟩:=⟨_,rfl⟩
  rw [← hR]
  have hR0:=Lib.hid hR
  have hM0:=Lib.hid hm
  have EE:=Lib.hid E
  clear hR hm E
  go_enter Tryz.func228,Tryz.ntmps228
  go_wp2_with fail
  refine wp_scope_many2 (RunJ s M w R) (fun l _ w'=>runMu s M l w') ?_ ?_
  · rintro l a' w' ⟨k,m,v,f,rfl,hM,hO,hok,hk,hR,hE,hB,hl,hc⟩
    have hpos:=hok.pos
    have hmu:=Lib.hid (runMu_of s M l w' _ hM.out)
    have q0:=hM.out.c0
    have q1:=hM.out.c1
    dsimp only at q0 q1
    have hpz:(m.pos:Int)≤(s.size:Int):=by omega
    have hp0:(0:Int)≤(m.pos:Int):=by omega
    rcases hl with rfl|rfl|rfl|rfl|rfl
    case' inr.inr.inr.inr=>
      refine ⟨_,rfl,?_⟩
      have c0:=Lib.hid (fun W=>classOf_any s m.pos W (by omega) (by omega) (by omega))
      simp only [Int.toNat_natCast] at c0
      clear hc
      obtain ⟨q,hq⟩:∃ q,q=classL ((bs s).drop m.pos):=⟨_,rfl⟩
      rw [← hq] at c0
      go_wp2_with fail
      go_region_held3 (fun W=>W.cell? ⟨M,0,none⟩=some (.string s)∧W.cell? ⟨M,1,none⟩=some (.int .i64 m.pos)) (first|exact hHeld|go_keep) ((go_at_call 235;refine (c0.out _).mono ?_;rintro e w1 ⟨rfl,rfl⟩))
      (try clear hHeld)
      clear c0 q0 q1
      have hM:Hid (MachAt w'.drew M ⟨s,m.pos,m.line,m.col,m.opn,v⟩):=hM
      have hO:Hid (w'.drew.ownsRow (M+1) 272 4 v m.n m.toks):=Lib.hid hO.out.drew
      have hE:Hid (Env w'.drew):=Lib.hid (hE.out.drewN 1)
      have hB:Hid (Below M w w'.drew):=Lib.hid hB.out.drew
      have hmu2:Hid (∀ l',l'≠4→runMu s M l' w'.drew<runMu s M 4 w'):=Lib.hid (fun l' hl'=>by
        rw [runMu_of s M l' _ _ hM.out,hmu.out,if_neg hl'];simp)
      generalize w'.drew=W at *
      by_cases h1:q=1
      · subst h1
        go_wp2_with fail
        go_step3
        (try simp only [Exit.jumps])
        exact ⟨runJ_mk _ k m v hM hO hok hk hR hE hB (by decide) (Lib.hid (fun _=>hq.symm)),hmu2.out _ (by decide)⟩
      by_cases h3:q=3
      · subst h3
        go_wp2_with fail
        go_step3
        (try simp only [Exit.jumps])
        exact ⟨runJ_mk _ k m v hM hO hok hk hR hE hB (by decide) (Lib.hid (fun _=>hq.symm)),hmu2.out _ (by decide)⟩
      by_cases h2:q=2
      · subst h2
        go_wp2_with fail
        go_step3
        (try simp only [Exit.jumps])
        exact ⟨runJ_mk _ k m v hM hO hok hk hR hE hB (by decide) (Lib.hid (fun _=>hq.symm)),hmu2.out _ (by decide)⟩
      by_cases h4:q=4
      · subst h4
        go_wp2_with fail
        go_step3
        (try simp only [Exit.jumps])
        exact ⟨runJ_mk _ k m v hM hO hok hk hR hE hB (by decide) (Lib.hid (fun _=>hq.symm)),hmu2.out _ (by decide)⟩
      obtain ⟨kd,cd,sz,off,hpc,hsz,hoff,hsz1⟩:=pieceS_le (s.extract m.pos s.size) (by
        have:m.pos≠s.size:=fun e=>h1 (hq.trans ((classL_end s m.pos hpos).2 e))
        rw [ByteArray.size_extract];omega)
      have hxs:(s.extract m.pos s.size).size=s.size-m.pos:=by rw [ByteArray.size_extract];omega
      rw [hxs] at hsz hoff
      have hlt:m.pos<s.size:=by
        have:m.pos≠s.size:=fun e=>h1 (hq.trans ((classL_end s m.pos hpos).2 e))
        omega
      have c1:Hid (∀ W,Env W→Calls Tryz.prog 236 #[.string (s.extract m.pos s.size)] W fun e w'=>e=.returned (.tuple #[.int .i64 kd, .int .i64 sz, .int .i64 off, .int .i64 cd])∧Below W.heap.size W w'):=
        Lib.hid (fun W E=>(piece_any (s.extract m.pos s.size) (by omega) (by omega) W E).mono fun e w' h=>by rw [hpc] at h;exact h)
      have hR:Hid (R=if cd=0 then runS s (k-1) (m.put s kd sz) else (cd,m.fwd s off)):=Lib.hid (by
        rw [hR.out]
        obtain ⟨k',rfl⟩:∃ k',k=k'+1:=⟨k-1,by omega⟩
        conv=>lhs;unfold runS
        rw [← hq,if_neg h1,if_neg h3,if_neg h2,if_neg h4,hpc]
        rfl)
      have hMl:=hM.out.lt
      have q0:=hM.out.c0
      have q1:=hM.out.c1
      dsimp only at q0 q1
      clear hmu2 hpc hxs
      have hh1:=Lib.hid h1
      have hh2:=Lib.hid h2
      have hh3:=Lib.hid h3
      have hh4:=Lib.hid h4
      have e1:(q == 1)=false:=by simpa using h1
      have e2:(q == 2)=false:=by simpa using h2
      have e3:(q == 3)=false:=by simpa using h3
      have e4:(q == 4)=false:=by simpa using h4
      clear h1 h2 h3 h4
      rw [← hq]
      go_wp2_with fail
      go_region_held3 (fun W=>W.cell? ⟨M,0,none⟩=some (.string s)∧W.cell? ⟨M,1,none⟩=some (.int .i64 m.pos)) (first|exact hHeld|go_keep|exact ⟨(hb1.cell (p:=⟨M,0,none⟩) hMl).trans q0,(hb1.cell (p:=⟨M,1,none⟩) hMl).trans q1⟩) ((go_at_call 236;refine (c1.out _ (hE.out.drewN 1)).mono ?_;rintro e w1 ⟨rfl,hb1⟩))
      (try clear hHeld)
      clear c1 q0 q1
      have hb1:Below W.heap.size W w1:=⟨hb1.os,hb1.tape,hb1.output,hb1.size,hb1.block⟩
      have hM1:=Lib.hid (hM.out.of_block (hb1.block M hMl))
      have hO1:=Lib.hid (own_below hO.out hb1)
      have hE1:=Lib.hid (hE.out.below hb1)
      have hB1:=Lib.hid (hB.out.trans (hb1.mono (Nat.le_of_lt hMl)))
      clear hM hO hE hB hb1
      by_cases hcd:cd=0
      · subst hcd
        have hs1:1≤sz:=hsz1 rfl
        clear hsz1
        have hR:=Lib.hid (hR.out.trans (if_pos rfl))
        have hnn:=hok.n
        have hp:=Lib.hid (put_any M _ kd sz m.n m.toks w1 hM1.out hO1.out (by omega) (by show m.pos+sz≤s.size;omega) (by show s.size≤_;omega) (by have:=hok.c0;show 0≤m.col;omega) (by have:=hok.c1;show m.col≤_;omega))
        go_wp2_with fail
        refine hp.out.mono ?_
        rintro e w3 ⟨rfl,v3,hM3,hO3,hB3⟩
        go_wp2_with fail
        go_step3
        (try simp only [Exit.jumps])
        refine ⟨runJ_mk 4 (k-1) (m.put s kd sz) v3 (Lib.hid hM3) (Lib.hid hO3) (hok.put kd sz hs1 (by omega)) (by show s.size<m.pos+sz+(k-1);omega) hR (Lib.hid (EE.out _ (hB1.out.trans hB3))) (Lib.hid (hB1.out.trans hB3)) (by decide) (Lib.hid (fun h=>absurd rfl h)),?_⟩
        rw [runMu_of s M 4 w3 _ hM3,hmu.out]
        show 2*(s.size+1-(m.pos+sz))+1<2*(s.size+1-m.pos)+1
        omega
      · have hR:=Lib.hid (hR.out.trans (if_neg hcd))
        have ecd:(cd == 0)=false:=by simpa using hcd
        have ecd2:(cd != 0)=true:=by simpa using hcd
        clear hcd
        have hp:=Lib.hid (forward_any M _ off w1 hM1.out (by show m.pos+off≤s.size;omega) (by show s.size≤_;omega) (by have:=hok.c0;show 0≤m.col;omega) (by have:=hok.c1;show m.col≤_;omega))
        go_wp2_with fail
        refine hp.out.mono ?_
        rintro e w3 ⟨rfl,hM3,hg3⟩
        go_wp2_with fail
        (try simp only [Exit.jumps])
        go_ret
        rw [hR.out]
        have hnn:=hok.n
        exact ⟨rfl,v,hM3,own_fwd hO1.out hg3,hB1.out.trans ((Below.refl M w1).grown hg3 (Nat.le_of_lt hM1.out.lt) (fun k hk=>by injection hk with hk;omega)),by show m.n≤_;omega⟩
    case' inl=>
      refine ⟨_,rfl,?_⟩
      have hcl:classL ((bs s).drop m.pos)=1:=hc.out (by decide)
      have hR:Hid (R=(0,m.endl)):=Lib.hid (by
        rw [hR.out]
        obtain ⟨k',rfl⟩:∃ k',k=k'+1:=⟨k-1,by omega⟩
        unfold runS
        rw [hcl,if_pos rfl])
      have hnn:=hok.n
      have hp:=Lib.hid (endLine_any M _ m.n m.toks w' hM.out hO.out (by omega) hpos (by show s.size≤_;omega) (by have:=hok.l0;show 0≤m.line;omega) (by have:=hok.l1;show m.line≤_;omega))
      clear hcl
      go_wp2_with fail
      refine hp.out.mono ?_
      rintro e w3 ⟨rfl,v3,hM3,hO3,hB3⟩
      go_wp2_with fail
      (try simp only [Exit.jumps])
      go_ret
      rw [hR.out]
      refine ⟨rfl,v3,hM3,hO3,hB.out.trans hB3,?_⟩
      show (if m.opn then m.n+1 else m.n)≤_
      cases hmo:m.opn<;>rw [hmo] at hnn<;>simp at hnn ⊢<;>omega
    case' inr.inl =>
      refine ⟨_,rfl,?_⟩
      have hcl:classL ((bs s).drop m.pos)=3:=hc.out (by decide)
      have hlt:m.pos<s.size:=by
        have:m.pos≠s.size:=fun e=>by
          have:=(classL_end s m.pos hpos).2 e
          rw [hcl] at this;exact absurd this (by decide)
        omega
      have hR:Hid (R=runS s (k-1) m.endl):=Lib.hid (by
        rw [hR.out]
        obtain ⟨k',rfl⟩:∃ k',k=k'+1:=⟨k-1,by omega⟩
        conv=>lhs;unfold runS
        rw [hcl,if_neg (by decide),if_pos rfl];rfl)
      have hnn:=hok.n
      have hp:=Lib.hid (endLine_any M _ m.n m.toks w' hM.out hO.out (by omega) hpos (by show s.size≤_;omega) (by have:=hok.l0;show 0≤m.line;omega) (by have:=hok.l1;show m.line≤_;omega))
      clear hcl
      go_wp2_with fail
      refine hp.out.mono ?_
      rintro e w3 ⟨rfl,v3,hM3,hO3,hB3⟩
      go_wp2_with fail
      go_step3
      (try simp only [Exit.jumps])
      refine ⟨runJ_mk 4 (k-1) m.endl v3 (Lib.hid hM3) (Lib.hid hO3) (hok.endl hlt) (by show s.size<m.pos+1+(k-1);omega) hR (Lib.hid (EE.out _ (hB.out.trans hB3))) (Lib.hid (hB.out.trans hB3)) (by decide) (Lib.hid (fun h=>absurd rfl h)),?_⟩
      rw [runMu_of s M 4 w3 _ hM3,hmu.out]
      show 2*(s.size+1-(m.pos+1))+1<2*(s.size+1-m.pos)+0
      omega
    case' inr.inr.inl =>
      refine ⟨_,rfl,?_⟩
      have hcl:classL ((bs s).drop m.pos)=2:=hc.out (by decide)
      have hlt:m.pos<s.size:=by
        have:m.pos≠s.size:=fun e=>by
          have:=(classL_end s m.pos hpos).2 e
          rw [hcl] at this;exact absurd this (by decide)
        omega
      have hR:Hid (R=runS s (k-1) (m.fwd s 1)):=Lib.hid (by
        rw [hR.out]
        obtain ⟨k',rfl⟩:∃ k',k=k'+1:=⟨k-1,by omega⟩
        conv=>lhs;unfold runS
        rw [hcl,if_neg (by decide),if_neg (by decide),if_pos rfl];rfl)
      have hp:=Lib.hid (forward_any M _ 1 w' hM.out hlt (by show s.size≤_;omega) (by have:=hok.c0;show 0≤m.col;omega) (by have:=hok.c1;show m.col≤_;omega))
      clear hcl
      go_wp2_with fail
      refine hp.out.mono ?_
      rintro e w3 ⟨rfl,hM3,hg3⟩
      have hB3:Below M w' w3:=(Below.refl M w').grown hg3 (Nat.le_of_lt hM.out.lt) (fun k hk=>by injection hk with hk;omega)
      go_wp2_with fail
      go_step3
      (try simp only [Exit.jumps])
      refine ⟨runJ_mk 4 (k-1) (m.fwd s 1) v (Lib.hid hM3) (Lib.hid (own_fwd hO.out hg3)) (hok.fwd 1 hlt) (by show s.size<m.pos+1+(k-1);omega) hR (Lib.hid (EE.out _ (hB.out.trans hB3))) (Lib.hid (hB.out.trans hB3)) (by decide) (Lib.hid (fun h=>absurd rfl h)),?_⟩
      rw [runMu_of s M 4 w3 _ hM3,hmu.out]
      show 2*(s.size+1-(m.pos+1))+1<2*(s.size+1-m.pos)+0
      omega
    case' inr.inr.inr.inl =>
      refine ⟨_,rfl,?_⟩
      have hcl:classL ((bs s).drop m.pos)=4:=hc.out (by decide)
      have hn1:=lineLen_pos _ hcl
      have hn2:=lineLen_le ((bs s).drop m.pos)
      rw [List.length_drop,bs_length] at hn2
      have hR:Hid (R=runS s (k-1) (m.fwd s (lineLen ((bs s).drop m.pos)))):=Lib.hid (by
        rw [hR.out]
        obtain ⟨k',rfl⟩:∃ k',k=k'+1:=⟨k-1,by omega⟩
        conv=>lhs;unfold runS
        rw [hcl,if_neg (by decide),if_neg (by decide),if_neg (by decide),if_pos rfl];rfl)
      clear hcl
      have hn1:=Lib.hid hn1
      have hn2:=Lib.hid hn2
      have HL:=Lib.hid (lineLen_at s)
      have HZ:=Lib.hid (lineLen_end s)
      obtain ⟨ll,hll⟩:∃ ll,ll=lineLen ((bs s).drop m.pos):=⟨_,rfl⟩
      rw [← hll] at hn1 hn2 hR
      have hll:=Lib.hid hll
      go_wp2_with fail
      go_loopw [4] (fun i wr=>∃ j:Nat,i=.int .i64 j∧m.pos+j≤s.size∧Hid (ll=j+lineLen ((bs s).drop (m.pos+j)))∧Qt w' wr) (fun i _=>s.size-(m.pos+(intOf i).toNat))
      case atStart=>exact ⟨0,rfl,by omega,Lib.hid (by rw [hll.out];simp),Qt.refl _⟩
      case round=>
        obtain ⟨j,rfl,hj,hr,nd,rfl⟩:=hrel
        have bw:IntKind.i64.wrap ((m.pos:Int)+(j:Int))=(m.pos:Int)+(j:Int):=IntWalk.i64_in _ (by omega)
        have bt:((m.pos:Int)+(j:Int)).toNat=m.pos+j:=by omega
        have b00:(0:Int)≤(m.pos:Int)+(j:Int):=by omega
        have bj:IntKind.i64.wrap ((j:Int)+1)=(j:Int)+1:=IntWalk.i64_in _ (by omega)
        have hp:=Lib.hid (show m.pos+j=m.pos+j from rfl)
        by_cases hlt:m.pos+j<s.size
        · have hl2:=Lib.hid (HL.out (m.pos+j) hlt)
          have blt:(m.pos:Int)+(j:Int)<(s.size:Int):=by omega
          by_cases h10:s[m.pos+j].toNat=10
          · have e10:((s[m.pos+j].toNat:Int) != 10)=false:=by simp;omega
            have hr:=Lib.hid (show ll=j by rw [hr.out,hl2.out,if_pos h10];rfl)
            clear h10 hl2
            go_wp2_with fail
            go_quiet (fail)
            clear q0 q1
            go_wp2_with fail
            obtain rfl:ll=j:=hr.out
            refine (forward_any M ⟨s,m.pos,m.line,m.col,m.opn,v⟩ ll (w'.drewN (nd+nq)) hM.out (by have:=hp.out;show m.pos+ll≤s.size;omega) (by show s.size≤_;omega) (by have:=hok.c0;show 0≤m.col;omega) (by have:=hok.c1;show m.col≤_;omega)).mono ?_
            rintro e w3 ⟨rfl,hM3,hg3⟩
            have hg3:w'.grownBy w3 (some M):=⟨hg3.os,hg3.tape,hg3.output,hg3.size,hg3.block⟩
            have hB3:Below M w' w3:=(Below.refl M w').grown hg3 (Nat.le_of_lt hM.out.lt) (fun k hk=>by injection hk with hk;omega)
            go_wp2_with fail
            go_step3
            (try simp only [Exit.jumps])
            have hnl:=hn1.out
            have hpl:=hp.out
            refine ⟨runJ_mk 4 (k-1) (m.fwd s ll) v (Lib.hid hM3) (Lib.hid (own_fwd hO.out hg3)) (hok.fwd ll (by omega)) (by show s.size<m.pos+ll+(k-1);omega) hR (Lib.hid (EE.out _ (hB.out.trans hB3))) (Lib.hid (hB.out.trans hB3)) (by decide) (Lib.hid (fun h=>absurd rfl h)),?_⟩
            rw [runMu_of s M 4 w3 _ hM3,hmu.out]
            show 2*(s.size+1-(m.pos+ll))+1<2*(s.size+1-m.pos)+0
            omega
          · have e10:((s[m.pos+j].toNat:Int) != 10)=true:=by simp;omega
            have hr:=Lib.hid (show ll=(j+1)+lineLen ((bs s).drop (m.pos+(j+1))) by
              rw [hr.out,hl2.out,if_neg h10,Nat.add_assoc m.pos j 1];omega)
            clear h10 hl2
            go_wp2_with fail
            go_quiet (fail)
            go_wp2_with fail
            go_round
            case rel=>exact ⟨j+1,by go_num,by have:=hp.out;omega,hr,Qt.self w' (nd+nq)⟩
            case measure=>simp [intOf];have:=hp.out;omega
        · have hr:=Lib.hid (show ll=j by rw [hr.out,HZ.out (m.pos+j) (by omega)];rfl)
          have blt:decide ((m.pos:Int)+(j:Int)<(s.size:Int))=false:=by simp;omega
          have blt2:¬ ((m.pos:Int)+(j:Int)<(s.size:Int)):=by omega
          go_wp2_with fail
          go_quiet (fail)
          clear q0 q1
          go_wp2_with fail
          obtain rfl:ll=j:=hr.out
          refine (forward_any M ⟨s,m.pos,m.line,m.col,m.opn,v⟩ ll (w'.drewN (nd+nq)) hM.out (by have:=hp.out;show m.pos+ll≤s.size;omega) (by show s.size≤_;omega) (by have:=hok.c0;show 0≤m.col;omega) (by have:=hok.c1;show m.col≤_;omega)).mono ?_
          rintro e w3 ⟨rfl,hM3,hg3⟩
          have hg3:w'.grownBy w3 (some M):=⟨hg3.os,hg3.tape,hg3.output,hg3.size,hg3.block⟩
          have hB3:Below M w' w3:=(Below.refl M w').grown hg3 (Nat.le_of_lt hM.out.lt) (fun k hk=>by injection hk with hk;omega)
          go_wp2_with fail
          go_step3
          (try simp only [Exit.jumps])
          have hnl:=hn1.out
          have hpl:=hp.out
          refine ⟨runJ_mk 4 (k-1) (m.fwd s ll) v (Lib.hid hM3) (Lib.hid (own_fwd hO.out hg3)) (hok.fwd ll (by omega)) (by show s.size<m.pos+ll+(k-1);omega) hR (Lib.hid (EE.out _ (hB.out.trans hB3))) (Lib.hid (hB.out.trans hB3)) (by decide) (Lib.hid (fun h=>absurd rfl h)),?_⟩
          rw [runMu_of s M 4 w3 _ hM3,hmu.out]
          show 2*(s.size+1-(m.pos+ll))+1<2*(s.size+1-m.pos)+0
          omega
  · intro pass
    refine wp_seq ?_
    repeat go_step
    rename_i hk
    obtain ⟨y,hy,hw⟩:=pass 4 _ w (runJ_mk 4 (s.size+1) ⟨0,1,1,false,0,[]⟩ (.slice none 0 0) hM0 (Lib.hid (World.ownsRow_nil _ _ _ _)) ⟨Nat.zero_le _,by decide,by decide,by decide,by decide,by decide⟩ (by show s.size<0+(s.size+1);omega) hR0 (Lib.hid (EE.out _ (Below.refl _ _))) (Lib.hid (Below.refl _ _)) (by decide) (Lib.hid (fun h=>absurd rfl h)))
    injection hy with hy
    injection hy with _ hy
    subst hy
    refine wp_label ?_
    exact hk _ _ hw
structure Scanned where
  n:Nat
  toks:List Value
  code:Int
  line:Int
  col:Int
def scanS (s : ByteArray) : Scanned :=
  if 16384<s.size then ⟨0,[],2,0,0⟩
  else if (runS s (s.size+1) ⟨0,1,1,false,0,[]⟩).1=0 then
    ⟨(runS s (s.size+1) ⟨0,1,1,false,0,[]⟩).2.n,(runS s (s.size+1) ⟨0,1,1,false,0,[]⟩).2.toks,0,0,0⟩
  else ⟨0,[],(runS s (s.size+1) ⟨0,1,1,false,0,[]⟩).1,(runS s (s.size+1) ⟨0,1,1,false,0,[]⟩).2.line,(runS s (s.size+1) ⟨0,1,1,false,0,[]⟩).2.col⟩
def ScanPost (w:World)(R:Scanned)(e:Ending)(w':World):Prop:=
  ∃ v,e=.returned (.tuple #[v, .int .i64 R.code, .int .i64 R.line, .int .i64 R.col])∧w'.ownsRow (w.heap.size+1) 272 4 v R.n R.toks∧Below w.heap.size w w'∧R.n≤32769
set_option maxHeartbeats 2000000 in
set_option maxRecDepth 100000 in
theorem Scan_any (s:ByteArray)(w:World)(hs:s.size≤9223372036854775807)(E:Env w) :
    Calls Tryz.prog 203 #[.string s] w fun e w'=>ScanPost w (scanS s) e w':=by
  by_cases h16:16384<s.size
  · have H:=Lib.hid (show scanS s=⟨0,[],2,0,0⟩ by unfold scanS;rw [if_pos h16])
    have b16:(s.size:Int)>16384:=by omega
    clear h16 E
    go_enter Tryz.func203,Tryz.ntmps203
    go_wp2_with fail
    ((try simp only [Exit.inBlock,Exit.then]);refine bodyPost_ret (results4 rfl _ _ _) rfl ?_)
    rw [H.out]
    exact ⟨_,rfl,World.ownsRow_nil _ _ _ _,Below.refl _ _,by decide⟩
  · have b16:decide ((s.size:Int)>16384)=false:=by simp;omega
    have b17:¬ ((s.size:Int)>16384):=by omega
    have H:Hid (scanS s=_):=Lib.hid (by unfold scanS;rw [if_neg h16])
    have c:=Lib.hid (run_any s w.heap.size (w.alloc (.cells #[.string s, .int .i64 0, .int .i64 1, .int .i64 1, .bool false, .slice none 0 0] 304 (0,0))) (heap_alloc_new w _) (by omega) (fun w' hb=>E.below (((Below.refl w.heap.size w).alloc (Nat.le_refl _) _).trans hb)))
    generalize runS s (s.size+1) ⟨0,1,1,false,0,[]⟩=R at *
    obtain ⟨code,m⟩:=R
    dsimp only at H c
    have hb0:=Lib.hid ((Below.refl w.heap.size w).alloc (Nat.le_refl _) (.cells #[.string s, .int .i64 0, .int .i64 1, .int .i64 1, .bool false, .slice none 0 0] 304 (0,0)))
    clear E h16
    go_enter Tryz.func203,Tryz.ntmps203
    go_wp2_with fail
    refine c.out.mono ?_
    rintro e w1 ⟨rfl,v,hM,hO,hB,hn⟩
    clear c
    have q2:=hM.c2
    have q3:=hM.c3
    have q5:=hM.c5
    dsimp only at q2 q3 q5
    have hb:=Lib.hid (hb0.out.trans hB)
    have hO:=Lib.hid hO
    have hM:=Lib.hid hM
    dsimp only at hO hn
    by_cases hc:code=0
    · subst hc
      have H2:=Lib.hid (H.out.trans (if_pos rfl))
      clear H hB hb0 q2 q3
      go_wp2_with fail
      ((try simp only [Exit.inBlock,Exit.then]);refine bodyPost_ret (results4 rfl _ _ _) rfl ?_)
      rw [H2.out]
      exact ⟨_,rfl,hO,hb.out,by show m.n≤32769;omega⟩
    · have H2:=Lib.hid (H.out.trans (if_neg hc))
      have hc1:(code != 0)=true:=by simp [hc]
      have hc2:(code == 0)=false:=by simp [hc]
      clear H hB hb0 q5 hc
      go_wp2_with fail
      go_quiet (fail)
      go_wp2_with fail
      ((try simp only [Exit.inBlock,Exit.then]);refine bodyPost_ret (results4 rfl _ _ _) rfl ?_)
      rw [H2.out]
      exact ⟨_,rfl,World.ownsRow_nil _ _ _ _,below_drewN hb.out _,Nat.zero_le _⟩
end Go.Proofs.YtdhehcobnbcmdaaGreatDoor
namespace Go.Proofs.YtdhehcobnbcmdaaGreatDoor
open Go.RowKit
theorem extract_all (s:ByteArray):s.extract 0 s.size=s:=by
  apply ByteArray.ext
  rw [ByteArray.data_extract]
  exact Array.extract_size
theorem wordLen_full:∀ (l:Bytes),(∀ c∈l,wordU c=true)→wordLen l=l.length
  | [],_=>rfl
  | c :: r, h => by
    have h1:=h c (by simp)
    have h2:=wordLen_full r (fun x hx=>h x (by simp [hx]))
    show (if wordU c then wordLen r+1 else 0)=_
    rw [if_pos h1,h2];rfl
theorem nm_each : ∀ (f : Bool) (l : Bytes), nm f l = true → ∀ c ∈ l, wordU c = true
  | _,[],_,c,h=>by simp at h
  | f, c :: r, h, x, hx => by
    unfold nm at h
    split at h
    · cases h
    · rename_i hc
      rcases List.mem_cons.1 hx with rfl|hx
      · unfold wordU
        cases hl:letterU x<;>cases hd:digitU x<;>simp_all
      · exact nm_each false r h x hx
theorem cube_word {c:UInt8}(h:cubeU c=true):wordU c=true:=by
  unfold cubeU at h
  unfold wordU letterU digitU letterN digitN
  simp only [Bool.or_eq_true,beq_iff_eq] at h
  simp only [Bool.or_eq_true,decide_eq_true_eq]
  omega
theorem run_one (s:ByteArray)(k:Int)(h0:0<s.size)(hs:s.size≤16384)(hc:classL (bs s)=5∨classL (bs s)=7)(hp:pieceS s=q4 k s.size 0 0) :
    ∃ c,scanS s=⟨2,tokC k s 1 1++tokC 1 ⟨#[10]⟩ 1 c,0,0,0⟩:=by
  obtain ⟨n,hn⟩:∃ n,s.size=n+1:=⟨s.size-1,by omega⟩
  have e1:runS s (s.size+1) ⟨0,1,1,false,0,[]⟩=runS s s.size ((⟨0,1,1,false,0,[]⟩:Sc).put s k s.size):=by
    conv=>lhs;unfold runS
    simp only [List.drop_zero,extract_all,hp]
    rw [if_neg (by omega),if_neg (by omega),if_neg (by omega),if_neg (by omega),if_pos trivial]
    rfl
  have e2:∀ m:Sc,m.pos=s.size→runS s s.size m=(0,m.endl):=by
    intro m hm
    rw [hn]
    unfold runS
    rw [hm,if_pos ((classL_end s _ (Nat.le_refl _)).2 rfl)]
  have e3:((⟨0,1,1,false,0,[]⟩:Sc).put s k s.size).pos=s.size:=by
    show 0+s.size=s.size
    omega
  rw [e2 _ e3] at e1
  refine ⟨1+runesFrom s 0,?_⟩
  unfold scanS
  rw [if_neg (by omega),e1,if_pos rfl]
  simp only [Sc.endl,Sc.put,if_true,List.nil_append,Nat.zero_add,extract_all]
theorem one_name {s:ByteArray}(h:isName (bs s)=true):∃ c,scanS s=⟨2,tokC 2 s 1 1++tokC 1 ⟨#[10]⟩ 1 c,0,0,0⟩:=by
  have h1:1≤s.size∧s.size≤24∧nm true (bs s)=true:=by
    unfold isName at h;rw [bs_length] at h;simpa using h
  obtain ⟨h1,h2,h3⟩:=h1
  have ha:=nm_each _ _ h3
  have hw:wordLen (bs s)=s.size:=by rw [wordLen_full _ ha,bs_length]
  have hL:classL (bs s)=5:=by
    have hd:=bs_drop s 0 (by omega)
    rw [List.drop_zero] at hd
    rw [hd] at h3 ⊢
    unfold nm at h3
    split at h3
    · cases h3
    · rename_i hc
      refine (class_letter _).2 ?_
      cases hl:letterU s[0]
      · rw [hl] at hc;simp at hc
      · exact hl
  refine run_one s 2 (by omega) (by omega) (.inl hL) ?_
  unfold pieceS
  rw [if_pos hL]
  unfold nameP
  rw [hw,if_neg (by omega),List.drop_of_length_le (by rw [bs_length];omega),if_neg (by simp)]
theorem one_pat {p:ByteArray}(h1:1≤p.size)(h2:p.size≤32)(h:pat01x p=true):∃ c,scanS (⟨#[37]⟩++p)=⟨2,tokC 5 (⟨#[37]⟩++p) 1 1++tokC 1 ⟨#[10]⟩ 1 c,0,0,0⟩:=by
  have hz:((⟨#[37]⟩:ByteArray)++p).size=p.size+1:=by rw [ByteArray.size_append];show 1+p.size=_;omega
  have hb:bs ((⟨#[37]⟩:ByteArray)++p)=37::bs p:=by
    unfold bs
    rw [ByteArray.data_append]
    simp
  have hL:classL (bs ((⟨#[37]⟩:ByteArray)++p))=7:=by rw [hb];rfl
  have he:((⟨#[37]⟩:ByteArray)++p).extract 1 (p.size+1)=p:=by
    apply ByteArray.ext
    rw [ByteArray.data_extract,ByteArray.data_append]
    simp
  have ha:∀ c∈bs p,wordU c=true:=fun c hc=>cube_word (List.all_eq_true.1 h c hc)
  have hw:wordLen (bs p)=p.size:=by rw [wordLen_full _ ha,bs_length]
  refine run_one _ 5 (by omega) (by omega) (.inr hL) ?_
  unfold pieceS
  rw [if_neg (by rw [hL];decide),if_neg (by rw [hL];decide),if_pos hL,hz,he,hw,Nat.add_comm 1,he]
  rw [if_pos]
  unfold patS
  rw [bs_length]
  simp only [Bool.and_eq_true,decide_eq_true_eq]
  exact ⟨h,by omega,h2⟩
end Go.Proofs.YtdhehcobnbcmdaaGreatDoor
