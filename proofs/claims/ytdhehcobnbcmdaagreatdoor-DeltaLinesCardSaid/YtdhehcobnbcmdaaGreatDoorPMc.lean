/- A part of the proof of DeltaLines: Piece Mach2 Mach3 RunS. -/
import Derived.Test.YtdhehcobnbcmdaaGreatDoorPEs
import Derived.Test.YtdhehcobnbcmdaaGreatDoorPN2
import Derived.Deep.AppendLies
set_option linter.all false
namespace Go.Proofs.YtdhehcobnbcmdaaGreatDoor
open Go.RowKit
def signFrom (s:ByteArray):List ByteArray→Nat
  | []=>0
  | g::r=>if g.size≤s.size∧s.extract 0 g.size=g then g.size else signFrom s r
def pieceS (s : ByteArray) : Int × Int × Int × Int :=
  if classL (bs s)=5 then nameP (bs s)
  else if classL (bs s)=6 then
    (match numS (s.extract 0 (numLen (bs s))) with|some _=>q4 4 (numLen (bs s)) 0 0|none=>q4 0 0 0 31)
  else if classL (bs s)=7 then
    (if patS (bs (s.extract 1 (1+wordLen (bs (s.extract 1 s.size))))) then q4 5 ((1:Nat)+wordLen (bs (s.extract 1 s.size)):Nat) 0 0 else q4 0 0 0 44)
  else if classL (bs s)=8 then
    (if (speakS s true (s.size+1) 1 []).2.2=0 then
      (if 256<(speakS s true (s.size+1) 1 []).1.length then q4 0 0 0 37 else q4 6 (speakS s true (s.size+1) 1 []).2.1 0 0)
    else q4 0 0 (speakS s true (s.size+1) 1 []).2.1 (speakS s true (s.size+1) 1 []).2.2)
  else if signFrom s signsB=0 then q4 0 0 0 30 else q4 7 (signFrom s signsB) 0 0
def PcPost (w:World)(q:Int×Int×Int×Int)(e:Ending)(w':World):Prop:=e=.returned (V4 q)∧Below w.heap.size w w'
theorem pc_of {w w':World}{q:Int×Int×Int×Int}{a b c d:Int}(h:q=(a,b,c,d))(hb:Below w.heap.size w w') :
    PcPost w q (.returned (.tuple #[.int .i64 a, .int .i64 b, .int .i64 c, .int .i64 d])) w':=⟨ret_V4 h,hb⟩
theorem sign_index (W:World)(k:Nat)(g:ByteArray)(h:signsB[k]?=some g):(Instr.index 322 (.agg signsA) (.int .i64 k)).run Tryz.prog W=.ok (.string g) W:=by
  have hk:k<16:=(List.getElem?_eq_some_iff.1 h).1
  have hg:g=signsB.getD k ByteArray.empty:=by rw [List.getD_eq_getElem?_getD,h];rfl
  subst hg
  clear h
  have:k=0∨k=1∨k=2∨k=3∨k=4∨k=5∨k=6∨k=7∨k=8∨k=9∨k=10∨k=11∨k=12∨k=13∨k=14∨k=15:=by omega
  rcases this with rfl|rfl|rfl|rfl|rfl|rfl|rfl|rfl|rfl|rfl|rfl|rfl|rfl|rfl|rfl|rfl<;>(show _=_;kernel_rfl)
theorem sign_size (k:Nat)(g:ByteArray)(h:signsB[k]?=some g):1≤g.size∧g.size≤2:=by
  have hk:k<16:=(List.getElem?_eq_some_iff.1 h).1
  have hg:g=signsB.getD k ByteArray.empty:=by rw [List.getD_eq_getElem?_getD,h];rfl
  subst hg
  clear h
  have:k=0∨k=1∨k=2∨k=3∨k=4∨k=5∨k=6∨k=7∨k=8∨k=9∨k=10∨k=11∨k=12∨k=13∨k=14∨k=15:=by omega
  rcases this with rfl|rfl|rfl|rfl|rfl|rfl|rfl|rfl|rfl|rfl|rfl|rfl|rfl|rfl|rfl|rfl<;>decide
set_option maxHeartbeats 1600000 in
set_option maxRecDepth 100000 in
theorem piece_any (s : ByteArray) (h1 : 1 ≤ s.size) (hs : s.size < 4294967281) (w : World) (E : Env w) :
    Calls Tryz.prog 236 #[.string s] w fun e w'=>PcPost w (pieceS s) e w':=by
  have c0:=Lib.hid (classOf_any s 0 w (by omega) (by omega) (by omega))
  rw [show (bs s).drop (0:Int).toNat=bs s from rfl] at c0
  have HE:=Lib.hid E
  clear E
  by_cases k5:classL (bs s)=5
  · have H:=Lib.hid (show pieceS s=nameP (bs s) by unfold pieceS;rw [if_pos k5])
    have c1:=Lib.hid (scan_name_any s w (by omega))
    rw [k5] at c0
    rw [H.out]
    clear H k5
    generalize nameP (bs s)=q at *
    obtain ⟨a,b,c,d⟩:=q
    go_enter Tryz.func236,Tryz.ntmps236
    go_wp2_with fail
    refine c0.out.mono ?_
    rintro e w1 ⟨rfl,rfl⟩
    go_wp2_with fail
    refine c1.out.mono ?_
    rintro e w1 ⟨rfl,rfl⟩
    unfold V4
    go_wp2_with fail
    ((try simp only [Exit.inBlock,Exit.then]);refine bodyPost_ret (results4 rfl _ _ _) rfl ?_)
    exact pc_of rfl (Below.refl _ _)
  by_cases k6:classL (bs s)=6
  · have H:=Lib.hid (show pieceS s=match numS (s.extract 0 (numLen (bs s))) with|some _=>q4 4 (numLen (bs s)) 0 0|none=>q4 0 0 0 31 by unfold pieceS;rw [if_neg k5,if_pos k6])
    have c1:=Lib.hid (numberRun_any s w (by omega))
    have hle:numLen (bs s)≤s.size:=numLen_le (bs s)
    rw [k6] at c0
    have hx:=size_extract_le s 0 (numLen (bs s))
    have c2:=Lib.hid (fun w E=>number_any (s.extract 0 (numLen (bs s))) (by omega) w E)
    clear k5 k6 hx
    generalize numLen (bs s)=n at *
    generalize numS (s.extract 0 n)=o at *
    go_enter Tryz.func236,Tryz.ntmps236
    go_wp2_with fail
    refine c0.out.mono ?_
    rintro e w1 ⟨rfl,rfl⟩
    go_wp2_with fail
    refine c1.out.mono ?_
    rintro e w1 ⟨rfl,rfl⟩
    go_wp2_with fail
    refine (c2.out _ HE.out).mono ?_
    rintro e w2 ⟨rfl,hb⟩
    cases o with
    | some v =>
      unfold optT
      dsimp only [Option.getD_some,Option.isSome_some]
      have H:=Lib.hid (show pieceS s=q4 4 n 0 0 from H.out)
      go_wp2_with fail
      ((try simp only [Exit.inBlock,Exit.then]);refine bodyPost_ret (results4 rfl _ _ _) rfl ?_)
      exact pc_of H.out hb
    | none =>
      unfold optT
      dsimp only [Option.getD_none,Option.isSome_none]
      have H:=Lib.hid (show pieceS s=q4 0 0 0 31 from H.out)
      go_wp2_with fail
      ((try simp only [Exit.inBlock,Exit.then]);refine bodyPost_ret (results4 rfl _ _ _) rfl ?_)
      exact pc_of H.out hb
  by_cases k7:classL (bs s)=7
  · have H:=Lib.hid (show pieceS s=if patS (bs (s.extract 1 (1+wordLen (bs (s.extract 1 s.size))))) then q4 5 ((1:Nat)+wordLen (bs (s.extract 1 s.size)):Nat) 0 0 else q4 0 0 0 44 by
      unfold pieceS;rw [if_neg k5,if_neg k6,if_pos k7])
    have hx1:=size_extract_le s 1 s.size
    have hx3:(s.extract 1 s.size).size=s.size-1:=by rw [ByteArray.size_extract];omega
    have c1:=Lib.hid (wordRun_any (s.extract 1 s.size) w (by omega))
    have hle:wordLen (bs (s.extract 1 s.size))≤s.size-1:=by
      have:=wordLen_le (bs (s.extract 1 s.size));rw [bs_length] at this;omega
    rw [k7] at c0
    clear k5 k6 k7 hx3
    generalize wordLen (bs (s.extract 1 s.size))=n at *
    have hx2:=size_extract_le s 1 (1+n)
    have c2:=Lib.hid (fun w=>pattern_any (s.extract 1 (1+n)) (by omega) w)
    generalize patS (bs (s.extract 1 (1+n)))=b at *
    clear hx1 hx2
    go_enter Tryz.func236,Tryz.ntmps236
    go_wp2_with fail
    refine c0.out.mono ?_
    rintro e w1 ⟨rfl,rfl⟩
    go_wp2_with fail
    refine c1.out.mono ?_
    rintro e w1 ⟨rfl,rfl⟩
    go_wp2_with fail
    refine (c2.out _).mono ?_
    rintro e w2 ⟨rfl,hb⟩
    cases b with
    | true =>
      have H:=Lib.hid (show pieceS s=q4 5 ((1+n:Nat)) 0 0 from H.out)
      go_wp2_with fail
      ((try simp only [Exit.inBlock,Exit.then]);refine bodyPost_ret (results4 rfl _ _ _) rfl ?_)
      exact pc_of (by rw [H.out];simp) hb
    | false =>
      have H:=Lib.hid (show pieceS s=q4 0 0 0 44 from H.out)
      go_wp2_with fail
      ((try simp only [Exit.inBlock,Exit.then]);refine bodyPost_ret (results4 rfl _ _ _) rfl ?_)
      exact pc_of H.out hb
  by_cases k8:classL (bs s)=8
  · have H:=Lib.hid (show pieceS s=if (speakS s true (s.size+1) 1 []).2.2=0 then
        (if 256<(speakS s true (s.size+1) 1 []).1.length then q4 0 0 0 37 else q4 6 (speakS s true (s.size+1) 1 []).2.1 0 0)
      else q4 0 0 (speakS s true (s.size+1) 1 []).2.1 (speakS s true (s.size+1) 1 []).2.2 by
      unfold pieceS;rw [if_neg k5,if_neg k6,if_neg k7,if_pos k8])
    have c1:=Lib.hid (fun w E=>speak_any s true h1 hs w E)
    rw [k8] at c0
    clear k5 k6 k7 k8
    generalize speakS s true (s.size+1) 1 []=R at *
    obtain ⟨sd,en,code⟩:=R
    dsimp only at H
    have hl0:(0:Int)≤(sd.length:Int):=by omega
    go_enter Tryz.func236,Tryz.ntmps236
    go_wp2_with fail
    refine c0.out.mono ?_
    rintro e w1 ⟨rfl,rfl⟩
    go_wp2_with fail
    refine (c1.out _ HE.out).mono ?_
    rintro e w2 ⟨sv,rfl,hown,hb⟩
    dsimp only at hown
    by_cases hc:code=0
    · have H2:=Lib.hid (H.out.trans (if_pos hc))
      subst hc
      clear H
      have hform:∃ A cap,sv=.slice A sd.length cap:=by
        rcases hown.2 with ⟨rfl,h0⟩|⟨g,cap,cur,rfl,_⟩
        · exact ⟨none,0,by rw [h0]⟩
        · exact ⟨_,cap,rfl⟩
      obtain ⟨A,cap,rfl⟩:=hform
      have hown:=Lib.hid hown
      by_cases h256:256<sd.length
      · have H:=Lib.hid (H2.out.trans (if_pos h256))
        go_wp2_with fail
        ((try simp only [Exit.inBlock,Exit.then]);refine bodyPost_ret (results4 rfl _ _ _) rfl ?_)
        exact pc_of H.out hb
      · have H:=Lib.hid (H2.out.trans (if_neg h256))
        go_wp2_with fail
        ((try simp only [Exit.inBlock,Exit.then]);refine bodyPost_ret (results4 rfl _ _ _) rfl ?_)
        exact pc_of H.out hb
    · have H:=Lib.hid (H.out.trans (if_neg hc))
      have hc':(code != 0)=true:=by rw [bne_iff_ne];exact hc
      have hown:=Lib.hid hown
      go_wp2_with fail
      ((try simp only [Exit.inBlock,Exit.then]);refine bodyPost_ret (results4 rfl _ _ _) rfl ?_)
      exact pc_of H.out hb
  have H:=Lib.hid (show pieceS s=if signFrom s signsB=0 then q4 0 0 0 30 else q4 7 (signFrom s signsB) 0 0 by
    unfold pieceS;rw [if_neg k5,if_neg k6,if_neg k7,if_neg k8])
  have b5:(classL (bs s) == 5)=false:=beq_eq_false_iff_ne.2 k5
  have b6:(classL (bs s) == 6)=false:=beq_eq_false_iff_ne.2 k6
  have b7:(classL (bs s) == 7)=false:=beq_eq_false_iff_ne.2 k7
  have b8:(classL (bs s) == 8)=false:=beq_eq_false_iff_ne.2 k8
  clear k5 k6 k7 k8
  generalize classL (bs s)=q at *
  obtain ⟨tt,fr,hg⟩:=HE.out.signs
  have hidx:=Lib.hid sign_index
  obtain ⟨SA,hSA⟩:∃ SA,SA=signsA:=⟨_,rfl⟩
  have hinfo:(Tryz.prog.info? 322).map (·.size)=some SA.size:=by rw [hSA];kernel_rfl
  rw [← hSA] at hg hidx
  have hinfo:=Lib.hid hinfo
  have hg:=Lib.hid hg
  clear hSA
  go_enter Tryz.func236,Tryz.ntmps236
  go_wp2_with fail
  refine c0.out.mono ?_
  rintro e w1 ⟨rfl,rfl⟩
  go_wp2_with (refine wpList_load_row rfl 322 _ rfl 9 rfl tt SA fr _ hg.out Tryz.underlying322 rfl hinfo.out ?_)
  go_loop [66] (fun i=>∃ k:Nat,k≤16∧i=.int .i64 k∧Hid (signFrom s signsB=signFrom s (signsB.drop k))) (fun i=>16-(intOf i).toNat)
  case atStart=>exact ⟨0,by omega,rfl,Lib.hid rfl⟩
  case round=>
    obtain ⟨k,hk,rfl,hr⟩:=hrel
    by_cases hlt:k<16
    · obtain ⟨g,hgk⟩:∃ g,signsB[k]?=some g:=⟨_,List.getElem?_eq_getElem (show k<signsB.length from hlt)⟩
      have hix:=fun W=>hidx.out W k g hgk
      obtain ⟨hg1,hg2⟩:=sign_size k g hgk
      have hr2:=Lib.hid (hr.out.trans (show signFrom s (signsB.drop k)=if g.size≤s.size∧s.extract 0 g.size=g then g.size else signFrom s (signsB.drop (k+1)) by rw [drop_at hgk];rfl))
      clear hr hgk
      by_cases hge:g.size≤s.size
      · by_cases heq:s.extract 0 g.size=g
        · have hr3:=Lib.hid (hr2.out.trans (if_pos ⟨hge,heq⟩))
          have H2:=Lib.hid (show pieceS s=q4 7 g.size 0 0 by rw [H.out,if_neg (by rw [hr3.out];omega),hr3.out])
          have be:((s.extract 0 g.size).toList == g.toList)=true:=by rw [heq];simp
          have heq:=Lib.hid heq
          clear H hr2
          go_wp2_with fail
          ((try simp only [Exit.inBlock,Exit.then]);refine bodyPost_ret (results4 rfl _ _ _) rfl ?_)
          exact pc_of H2.out (Below.refl _ _)
        · have hr3:=Lib.hid (hr2.out.trans (if_neg (fun h=>heq h.2)))
          have be:((s.extract 0 g.size).toList == g.toList)=false:=by
            rw [beq_eq_false_iff_ne]
            intro h
            apply heq
            rw [ByteArray.toList_eq,ByteArray.toList_eq] at h
            exact WideShapes.bytes_inj h
          clear H hr2 heq
          go_wp2_with fail
          go_round
          case rel=>exact ⟨k+1,by omega,by go_num,hr3⟩
          case measure=>simp [intOf];omega
      · have hr3:=Lib.hid (hr2.out.trans (if_neg (fun h=>hge h.1)))
        clear H hr2
        go_wp2_with fail
        go_round
        case rel=>exact ⟨k+1,by omega,by go_num,hr3⟩
        case measure=>simp [intOf];omega
    · have H2:=Lib.hid (show pieceS s=q4 0 0 0 30 by
        rw [H.out,if_pos]
        rw [hr.out,drop_end (show ¬ k<signsB.length from hlt)];rfl)
      clear H hr
      go_wp2_with fail
      ((try simp only [Exit.inBlock,Exit.then]);refine bodyPost_ret (results4 rfl _ _ _) rfl ?_)
      exact pc_of H2.out (Below.refl _ _)
def tokC (kind:Int)(text:ByteArray)(line col:Int):List Value:=[.int .i64 kind, .string text, .int .i64 line, .int .i64 col]
theorem tok_info:(Tryz.prog.info? 272).map (fun i=>(i.zero,i.size,i.bytes))=some (some (.agg #[.int .i64 0, .string ByteArray.empty, .int .i64 0, .int .i64 0]),4,40):=by kernel_rfl
theorem own_ne_mach {w:World}{M base n:Nat}{m:Mach}{v:Value}{xs:List Value}(h:w.ownsRow base 272 4 v n xs)(hm:MachAt w M m):v.ownBlock≠some M:=by
  rcases h.2 with ⟨rfl,_⟩|⟨g',cap,cur,rfl,_,hh,_⟩
  · simp [Value.ownBlock]
  · intro he
    have:g'=M:=by simpa [Value.ownBlock] using he
    subst this
    unfold MachAt at hm
    rw [hh] at hm
    injection hm with hm
    injection hm with _ ht
    exact absurd ht (by decide)
theorem set_far {w:World}{M i j:Nat}{v u:Value}(h:w.cell? ⟨M,i,none⟩=some u)(hne:j≠i):(w.setCell ⟨M,j,none⟩ v).cell? ⟨M,i,none⟩=some u:=by
  rw [World.cell?_setCell_other]
  · exact h
  · intro e;exact hne (congrArg Addr.off e)
attribute [local go_sem ↓] Go.wp_at_zero Go.wp_at_succ
set_option maxHeartbeats 2000000 in
set_option maxRecDepth 100000 in
theorem put_any (M:Nat)(m:Mach)(kind:Int)(size n:Nat)(xs:List Value)(w:World)(hm:MachAt w M m)(hown:w.ownsRow (M+1) 272 4 m.toks n xs)(hn:n≤8589934592)
    (hsz:m.pos+size≤m.text.size) (ht:m.text.size≤4294967295) (hc0:0≤m.col) (hc1:m.col≤4611686018427387904) :
    Calls Tryz.prog 238 #[.pointer (some ⟨M,0,none⟩), .int .i64 kind, .int .i64 size] w fun e w'=>e=.returned (.tuple #[])∧∃ v,
      MachAt w' M { m with pos:=m.pos+size,col:=m.col+runesFrom (m.text.extract m.pos (m.pos+size)) 0,opn:=true,toks:=v } ∧
      w'.ownsRow (M+1) 272 4 v (n+1) (xs++tokC kind (m.text.extract m.pos (m.pos+size)) m.line m.col)∧Below M w w':=by
  obtain ⟨text,pos,line,col,opn,toks⟩:=m
  dsimp only at *
  have q0:=hm.c0
  have q1:=hm.c1
  have q2:=hm.c2
  have q3:=hm.c3
  have q5:=hm.c5
  have hM:=Lib.hid hm
  have hO:=Lib.hid hown
  have hne:=Lib.hid (own_ne_mach hown hm)
  have hfz:=hm.free 5
  have hlt:=hm.lt
  clear hm
  dsimp only at q0 q1 q2 q3 q5
  have bw:IntKind.i64.wrap ((pos:Int)+(size:Int))=(pos:Int)+(size:Int):=IntWalk.i64_in _ (by omega)
  have b0:(0:Int)≤(pos:Int):=by omega
  have b1:(pos:Int)≤(pos:Int)+(size:Int):=by omega
  have b2:(pos:Int)+(size:Int)≤(text.size:Int):=by omega
  obtain ⟨i0,hi,hz0,hz1,hz2⟩:=info_parts tok_info
  have hi:=Lib.hid hi;have hz0:=Lib.hid hz0;have hz1:=Lib.hid hz1;have hz2:=Lib.hid hz2
  go_enter Tryz.func238,Tryz.ntmps238
  go_wp2_with fail
  have n5:=World.new_ne w ⟨M,5,none⟩ q5
  clear hown
  refine wp_region_held_drew (S:=(fun w'=>w'.cell? ⟨M,0,none⟩=some (.string text)∧w'.cell? ⟨M,1,none⟩=some (.int .i64 pos)∧w'.cell? ⟨M,2,none⟩=some (.int .i64 line)∧w'.cell? ⟨M,3,none⟩=some (.int .i64 col))) (by kernel_rfl) ⟨q0,q1,q2,q3⟩ (fun hHeld=>?_)
  refine' wpAnyH_take (i:=0) (oi:=_) (v:=_) ?a0 ?b0 ?c0 ?d0 ?e0 (Or.inl ⟨?f0,?g0⟩) hHeld ?h0
  case a0=>(simp only [List.getElem?_toArray,List.getElem?_cons_zero];exact rfl)
  case b0=>kernel_rfl
  case c0=>kernel_rfl
  case d0=>kernel_rfl
  case e0=>exact fun _ _ _ h=>h
  case f0=>rfl
  case g0=>(intro w' hSw;obtain ⟨s0,s1,s2,s3⟩:=hSw;go_simp;(try with_reducible rfl))
  simp only [Act.put,List.setIfInBounds_toArray,List.set_cons_zero,List.set_cons_succ]
  refine' wpAnyH_take (i:=1) (oi:=_) (v:=_) ?a1 ?b1 ?c1 ?d1 ?e1 (Or.inl ⟨?f1,?g1⟩) hHeld ?h1
  case a1=>(simp only [List.getElem?_toArray,List.getElem?_cons_succ,List.getElem?_cons_zero];exact rfl)
  case b1=>kernel_rfl
  case c1=>kernel_rfl
  case d1=>kernel_rfl
  case e1=>exact fun _ _ _ h=>h
  case f1=>rfl
  case g1=>(intro w' hSw;obtain ⟨s0,s1,s2,s3⟩:=hSw;go_simp;(try with_reducible rfl))
  simp only [Act.put,List.setIfInBounds_toArray,List.set_cons_zero,List.set_cons_succ]
  refine' wpAnyH_take (i:=2) (oi:=_) (v:=_) ?a2 ?b2 ?c2 ?d2 ?e2 (Or.inl ⟨?f2,?g2⟩) hHeld ?h2
  case a2=>(simp only [List.getElem?_toArray,List.getElem?_cons_succ,List.getElem?_cons_zero];exact rfl)
  case b2=>kernel_rfl
  case c2=>kernel_rfl
  case d2=>kernel_rfl
  case e2=>exact fun _ _ _ h=>h
  case f2=>rfl
  case g2=>(intro w' hSw;obtain ⟨s0,s1,s2,s3⟩:=hSw;go_simp;(try with_reducible rfl))
  simp only [Act.put,List.setIfInBounds_toArray,List.set_cons_zero,List.set_cons_succ]
  refine' wpAnyH_take (i:=3) (oi:=_) (v:=_) ?a3 ?b3 ?c3 ?d3 ?e3 (Or.inl ⟨?f3,?g3⟩) hHeld ?h3
  case a3=>(simp only [List.getElem?_toArray,List.getElem?_cons_succ,List.getElem?_cons_zero];exact rfl)
  case b3=>kernel_rfl
  case c3=>kernel_rfl
  case d3=>kernel_rfl
  case e3=>exact fun _ _ _ h=>h
  case f3=>rfl
  case g3=>(intro w' hSw;obtain ⟨s0,s1,s2,s3⟩:=hSw;go_simp;(try with_reducible rfl))
  simp only [Act.put,List.setIfInBounds_toArray,List.set_cons_zero,List.set_cons_succ]
  refine' wpAnyH_take (i:=5) (oi:=_) (v:=_) ?a5 ?b5 ?c5 ?d5 ?e5 (Or.inl ⟨?f5,?g5⟩) hHeld ?h5
  case a5=>(simp only [List.getElem?_toArray,List.getElem?_cons_succ,List.getElem?_cons_zero];exact rfl)
  case b5=>kernel_rfl
  case c5=>kernel_rfl
  case d5=>kernel_rfl
  case e5=>exact fun _ _ _ h=>h
  case f5=>rfl
  case g5=>(intro w' hSw;obtain ⟨s0,s1,s2,s3⟩:=hSw;go_simp;(try with_reducible rfl))
  simp only [Act.put,List.setIfInBounds_toArray,List.set_cons_zero,List.set_cons_succ]
  refine' wpAnyH_take (i:=6) (oi:=_) (v:=_) ?a6 ?b6 ?c6 ?d6 ?e6 (Or.inl ⟨?f6,?g6⟩) hHeld ?h6
  case a6=>(simp only [List.getElem?_toArray,List.getElem?_cons_succ,List.getElem?_cons_zero];exact rfl)
  case b6=>kernel_rfl
  case c6=>kernel_rfl
  case d6=>kernel_rfl
  case e6=>exact fun _ _ _ h=>h
  case f6=>rfl
  case g6=>(intro w' hSw;obtain ⟨s0,s1,s2,s3⟩:=hSw;go_simp;(try with_reducible rfl))
  simp only [Act.put,List.setIfInBounds_toArray,List.set_cons_zero,List.set_cons_succ]
  refine' wpAnyH_take (i:=7) (oi:=_) (v:=_) ?a7 ?b7 ?c7 ?d7 ?e7 (Or.inl ⟨?f7,?g7⟩) hHeld ?h7
  case a7=>(simp only [List.getElem?_toArray,List.getElem?_cons_succ,List.getElem?_cons_zero];exact rfl)
  case b7=>kernel_rfl
  case c7=>kernel_rfl
  case d7=>kernel_rfl
  case e7=>exact fun _ _ _ h=>h
  case f7=>rfl
  case g7=>(intro w' hSw;obtain ⟨s0,s1,s2,s3⟩:=hSw;go_simp;(try with_reducible rfl))
  simp only [Act.put,List.setIfInBounds_toArray,List.set_cons_zero,List.set_cons_succ]
  refine' wpAnyH_take (i:=8) (oi:=_) (v:=_) ?a8 ?b8 ?c8 ?d8 ?e8 (Or.inl ⟨?f8,?g8⟩) hHeld ?h8
  case a8=>(simp only [List.getElem?_toArray,List.getElem?_cons_succ,List.getElem?_cons_zero];exact rfl)
  case b8=>kernel_rfl
  case c8=>kernel_rfl
  case d8=>kernel_rfl
  case e8=>exact fun _ _ _ h=>h
  case f8=>rfl
  case g8=>(intro w' hSw;obtain ⟨s0,s1,s2,s3⟩:=hSw;go_simp;(try with_reducible rfl))
  simp only [Act.put,List.setIfInBounds_toArray,List.set_cons_zero,List.set_cons_succ]
  refine' wpAnyH_take (i:=9) (oi:=_) (v:=_) ?a9 ?b9 ?c9 ?d9 ?e9 (Or.inl ⟨?f9,?g9⟩) hHeld ?h9
  case a9=>(simp only [List.getElem?_toArray,List.getElem?_cons_succ,List.getElem?_cons_zero];exact rfl)
  case b9=>kernel_rfl
  case c9=>kernel_rfl
  case d9=>kernel_rfl
  case e9=>exact fun _ _ _ h=>h
  case f9=>rfl
  case g9=>(intro w' hSw;obtain ⟨s0,s1,s2,s3⟩:=hSw;go_simp;(try with_reducible rfl))
  simp only [Act.put,List.setIfInBounds_toArray,List.set_cons_zero,List.set_cons_succ]
  refine' wpAnyH_take (i:=10) (oi:=_) (v:=_) ?a10 ?b10 ?c10 ?d10 ?e10 (Or.inl ⟨?f10,?g10⟩) hHeld ?h10
  case a10=>(simp only [List.getElem?_toArray,List.getElem?_cons_succ,List.getElem?_cons_zero];exact rfl)
  case b10=>kernel_rfl
  case c10=>kernel_rfl
  case d10=>kernel_rfl
  case e10=>exact fun _ _ _ h=>h
  case f10=>rfl
  case g10=>(intro w' hSw;obtain ⟨s0,s1,s2,s3⟩:=hSw;go_simp;(try with_reducible rfl))
  simp only [Act.put,List.setIfInBounds_toArray,List.set_cons_zero,List.set_cons_succ]
  refine' wpAnyH_take (i:=11) (oi:=_) (v:=_) ?a11 ?b11 ?c11 ?d11 ?e11 (Or.inl ⟨?f11,?g11⟩) hHeld ?h11
  case a11=>(simp only [List.getElem?_toArray,List.getElem?_cons_succ,List.getElem?_cons_zero];exact rfl)
  case b11=>kernel_rfl
  case c11=>kernel_rfl
  case d11=>kernel_rfl
  case e11=>exact fun _ _ _ h=>h
  case f11=>rfl
  case g11=>(intro w' hSw;obtain ⟨s0,s1,s2,s3⟩:=hSw;go_simp;(try with_reducible rfl))
  simp only [Act.put,List.setIfInBounds_toArray,List.set_cons_zero,List.set_cons_succ]
  refine' wpAnyH_take (i:=12) (oi:=_) (v:=_) ?a12 ?b12 ?c12 ?d12 ?e12 (Or.inl ⟨?f12,?g12⟩) hHeld ?h12
  case a12=>(simp only [List.getElem?_toArray,List.getElem?_cons_succ,List.getElem?_cons_zero];exact rfl)
  case b12=>kernel_rfl
  case c12=>kernel_rfl
  case d12=>kernel_rfl
  case e12=>exact fun _ _ _ h=>h
  case f12=>rfl
  case g12=>(intro w' hSw;obtain ⟨s0,s1,s2,s3⟩:=hSw;go_simp;(try with_reducible rfl))
  simp only [Act.put,List.setIfInBounds_toArray,List.set_cons_zero,List.set_cons_succ]
  refine' wpAnyH_take (i:=13) (oi:=_) (v:=_) ?a13 ?b13 ?c13 ?d13 ?e13 (Or.inl ⟨?f13,?g13⟩) hHeld ?h13
  case a13=>(simp only [List.getElem?_toArray,List.getElem?_cons_succ,List.getElem?_cons_zero];exact rfl)
  case b13=>kernel_rfl
  case c13=>kernel_rfl
  case d13=>kernel_rfl
  case e13=>exact fun _ _ _ h=>h
  case f13=>rfl
  case g13=>(intro w' hSw;obtain ⟨s0,s1,s2,s3⟩:=hSw;go_simp;(try with_reducible rfl))
  simp only [Act.put,List.setIfInBounds_toArray,List.set_cons_zero,List.set_cons_succ]
  refine' wpAnyH_take (i:=14) (oi:=_) (v:=_) ?a14 ?b14 ?c14 ?d14 ?e14 (Or.inl ⟨?f14,?g14⟩) hHeld ?h14
  case a14=>(simp only [List.getElem?_toArray,List.getElem?_cons_succ,List.getElem?_cons_zero];exact rfl)
  case b14=>kernel_rfl
  case c14=>kernel_rfl
  case d14=>kernel_rfl
  case e14=>exact fun _ _ _ h=>h
  case f14=>rfl
  case g14=>(intro w' hSw;obtain ⟨s0,s1,s2,s3⟩:=hSw;go_simp;(try with_reducible rfl))
  simp only [Act.put,List.setIfInBounds_toArray,List.set_cons_zero,List.set_cons_succ]
  refine' wpAnyH_take (i:=15) (oi:=_) (v:=_) ?a15 ?b15 ?c15 ?d15 ?e15 (Or.inl ⟨?f15,?g15⟩) hHeld ?h15
  case a15=>(simp only [List.getElem?_toArray,List.getElem?_cons_succ,List.getElem?_cons_zero];exact rfl)
  case b15=>kernel_rfl
  case c15=>kernel_rfl
  case d15=>kernel_rfl
  case e15=>exact fun _ _ _ h=>h
  case f15=>rfl
  case g15=>(intro w' hSw;obtain ⟨s0,s1,s2,s3⟩:=hSw;go_simp;(try with_reducible rfl))
  simp only [Act.put,List.setIfInBounds_toArray,List.set_cons_zero,List.set_cons_succ]
  refine' wpAnyH_take (i:=16) (oi:=_) (v:=_) ?a16 ?b16 ?c16 ?d16 ?e16 (Or.inl ⟨?f16,?g16⟩) hHeld ?h16
  case a16=>(simp only [List.getElem?_toArray,List.getElem?_cons_succ,List.getElem?_cons_zero];exact rfl)
  case b16=>kernel_rfl
  case c16=>kernel_rfl
  case d16=>kernel_rfl
  case e16=>exact fun _ _ _ h=>h
  case f16=>rfl
  case g16=>(intro w' hSw;obtain ⟨s0,s1,s2,s3⟩:=hSw;go_simp;(try with_reducible rfl))
  simp only [Act.put,List.setIfInBounds_toArray,List.set_cons_zero,List.set_cons_succ]
  refine' wpAnyH_take (i:=17) (oi:=_) (v:=_) ?a17 ?b17 ?c17 ?d17 ?e17 (Or.inl ⟨?f17,?g17⟩) hHeld ?h17
  case a17=>(simp only [List.getElem?_toArray,List.getElem?_cons_succ,List.getElem?_cons_zero];exact rfl)
  case b17=>kernel_rfl
  case c17=>kernel_rfl
  case d17=>kernel_rfl
  case e17=>exact fun _ _ _ h=>h
  case f17=>rfl
  case g17=>(intro w' hSw;obtain ⟨s0,s1,s2,s3⟩:=hSw;go_simp;(try with_reducible rfl))
  simp only [Act.put,List.setIfInBounds_toArray,List.set_cons_zero,List.set_cons_succ]
  refine' wpAnyH_take (i:=18) (oi:=_) (v:=_) ?a18 ?b18 ?c18 ?d18 ?e18 (Or.inl ⟨?f18,?g18⟩) hHeld ?h18
  case a18=>(simp only [List.getElem?_toArray,List.getElem?_cons_succ,List.getElem?_cons_zero];exact rfl)
  case b18=>kernel_rfl
  case c18=>kernel_rfl
  case d18=>kernel_rfl
  case e18=>exact fun _ _ _ h=>h
  case f18=>rfl
  case g18=>(intro w' hSw;obtain ⟨s0,s1,s2,s3⟩:=hSw;go_simp;(try with_reducible rfl))
  simp only [Act.put,List.setIfInBounds_toArray,List.set_cons_zero,List.set_cons_succ]
  refine' wpAnyH_take (i:=19) (oi:=_) (v:=_) ?a19 ?b19 ?c19 ?d19 ?e19 (Or.inl ⟨?f19,?g19⟩) hHeld ?h19
  case a19=>(simp only [List.getElem?_toArray,List.getElem?_cons_succ,List.getElem?_cons_zero];exact rfl)
  case b19=>kernel_rfl
  case c19=>kernel_rfl
  case d19=>kernel_rfl
  case e19=>exact fun _ _ _ h=>h
  case f19=>rfl
  case g19=>(intro w' hSw;obtain ⟨s0,s1,s2,s3⟩:=hSw;go_simp;(try with_reducible rfl))
  simp only [Act.put,List.setIfInBounds_toArray,List.set_cons_zero,List.set_cons_succ]
  refine' wpAnyH_take (i:=20) (oi:=_) (v:=_) ?a20 ?b20 ?c20 ?d20 ?e20 (Or.inl ⟨?f20,?g20⟩) hHeld ?h20
  case a20=>(simp only [List.getElem?_toArray,List.getElem?_cons_succ,List.getElem?_cons_zero];exact rfl)
  case b20=>kernel_rfl
  case c20=>kernel_rfl
  case d20=>kernel_rfl
  case e20=>exact fun _ _ _ h=>h
  case f20=>rfl
  case g20=>(intro w' hSw;obtain ⟨s0,s1,s2,s3⟩:=hSw;go_simp;(try with_reducible rfl))
  simp only [Act.put,List.setIfInBounds_toArray,List.set_cons_zero,List.set_cons_succ]
  refine' wpAnyH_take (i:=21) (oi:=_) (v:=_) ?a21 ?b21 ?c21 ?d21 ?e21 (Or.inl ⟨?f21,?g21⟩) hHeld ?h21
  case a21=>(simp only [List.getElem?_toArray,List.getElem?_cons_succ,List.getElem?_cons_zero];exact rfl)
  case b21=>kernel_rfl
  case c21=>kernel_rfl
  case d21=>kernel_rfl
  case e21=>exact fun _ _ _ h=>h
  case f21=>rfl
  case g21=>(intro w' hSw;obtain ⟨s0,s1,s2,s3⟩:=hSw;go_simp;(try with_reducible rfl))
  simp only [Act.put,List.setIfInBounds_toArray,List.set_cons_zero,List.set_cons_succ]
  refine' wpAnyH_take (i:=22) (oi:=_) (v:=_) ?a22 ?b22 ?c22 ?d22 ?e22 (Or.inl ⟨?f22,?g22⟩) hHeld ?h22
  case a22=>(simp only [List.getElem?_toArray,List.getElem?_cons_succ,List.getElem?_cons_zero];exact rfl)
  case b22=>kernel_rfl
  case c22=>kernel_rfl
  case d22=>kernel_rfl
  case e22=>exact fun _ _ _ h=>h
  case f22=>rfl
  case g22=>(intro w' hSw;obtain ⟨s0,s1,s2,s3⟩:=hSw;go_simp;(try with_reducible rfl))
  simp only [Act.put,List.setIfInBounds_toArray,List.set_cons_zero,List.set_cons_succ]
  refine' wpAnyH_take (i:=23) (oi:=_) (v:=_) ?a23 ?b23 ?c23 ?d23 ?e23 (Or.inl ⟨?f23,?g23⟩) hHeld ?h23
  case a23=>(simp only [List.getElem?_toArray,List.getElem?_cons_succ,List.getElem?_cons_zero];exact rfl)
  case b23=>kernel_rfl
  case c23=>kernel_rfl
  case d23=>kernel_rfl
  case e23=>exact fun _ _ _ h=>h
  case f23=>rfl
  case g23=>(intro w' hSw;obtain ⟨s0,s1,s2,s3⟩:=hSw;go_simp;(try with_reducible rfl))
  simp only [Act.put,List.setIfInBounds_toArray,List.set_cons_zero,List.set_cons_succ]
  refine' wpAnyH_take (i:=24) (oi:=_) (v:=_) ?a24 ?b24 ?c24 ?d24 ?e24 (Or.inl ⟨?f24,?g24⟩) hHeld ?h24
  case a24=>(simp only [List.getElem?_toArray,List.getElem?_cons_succ,List.getElem?_cons_zero];exact rfl)
  case b24=>kernel_rfl
  case c24=>kernel_rfl
  case d24=>kernel_rfl
  case e24=>exact fun _ _ _ h=>h
  case f24=>rfl
  case g24=>(intro w' hSw;obtain ⟨s0,s1,s2,s3⟩:=hSw;go_simp;(try with_reducible rfl))
  simp only [Act.put,List.setIfInBounds_toArray,List.set_cons_zero,List.set_cons_succ]
  refine' wpAnyH_take (i:=25) (oi:=_) (v:=_) ?a25 ?b25 ?c25 ?d25 ?e25 (Or.inl ⟨?f25,?g25⟩) hHeld ?h25
  case a25=>(simp only [List.getElem?_toArray,List.getElem?_cons_succ,List.getElem?_cons_zero];exact rfl)
  case b25=>kernel_rfl
  case c25=>kernel_rfl
  case d25=>kernel_rfl
  case e25=>exact fun _ _ _ h=>h
  case f25=>rfl
  case g25=>(intro w' hSw;obtain ⟨s0,s1,s2,s3⟩:=hSw;go_simp;(try with_reducible rfl))
  simp only [Act.put,List.setIfInBounds_toArray,List.set_cons_zero,List.set_cons_succ]
  refine' wpAnyH_take (i:=26) (oi:=_) (v:=_) ?a26 ?b26 ?c26 ?d26 ?e26 (Or.inl ⟨?f26,?g26⟩) hHeld ?h26
  case a26=>(simp only [List.getElem?_toArray,List.getElem?_cons_succ,List.getElem?_cons_zero];exact rfl)
  case b26=>kernel_rfl
  case c26=>kernel_rfl
  case d26=>kernel_rfl
  case e26=>exact fun _ _ _ h=>h
  case f26=>rfl
  case g26=>(intro w' hSw;obtain ⟨s0,s1,s2,s3⟩:=hSw;go_simp;(try with_reducible rfl))
  simp only [Act.put,List.setIfInBounds_toArray,List.set_cons_zero,List.set_cons_succ]
  refine' wpAnyH_take (i:=27) (oi:=_) (v:=_) ?a27 ?b27 ?c27 ?d27 ?e27 (Or.inl ⟨?f27,?g27⟩) hHeld ?h27
  case a27=>(simp only [List.getElem?_toArray,List.getElem?_cons_succ,List.getElem?_cons_zero];exact rfl)
  case b27=>kernel_rfl
  case c27=>kernel_rfl
  case d27=>kernel_rfl
  case e27=>exact fun _ _ _ h=>h
  case f27=>rfl
  case g27=>(intro w' hSw;obtain ⟨s0,s1,s2,s3⟩:=hSw;go_simp;(try with_reducible rfl))
  simp only [Act.put,List.setIfInBounds_toArray,List.set_cons_zero,List.set_cons_succ]
  refine' wpAnyH_take (i:=28) (oi:=_) (v:=_) ?a28 ?b28 ?c28 ?d28 ?e28 (Or.inl ⟨?f28,?g28⟩) hHeld ?h28
  case a28=>(simp only [List.getElem?_toArray,List.getElem?_cons_succ,List.getElem?_cons_zero];exact rfl)
  case b28=>kernel_rfl
  case c28=>kernel_rfl
  case d28=>kernel_rfl
  case e28=>exact fun _ _ _ h=>h
  case f28=>rfl
  case g28=>(intro w' hSw;obtain ⟨s0,s1,s2,s3⟩:=hSw;go_simp;(try with_reducible rfl))
  simp only [Act.put,List.setIfInBounds_toArray,List.set_cons_zero,List.set_cons_succ]
  refine' wpAnyH_take (i:=29) (oi:=_) (v:=_) ?a29 ?b29 ?c29 ?d29 ?e29 (Or.inl ⟨?f29,?g29⟩) hHeld ?h29
  case a29=>(simp only [List.getElem?_toArray,List.getElem?_cons_succ,List.getElem?_cons_zero];exact rfl)
  case b29=>kernel_rfl
  case c29=>kernel_rfl
  case d29=>kernel_rfl
  case e29=>exact fun _ _ _ h=>h
  case f29=>rfl
  case g29=>(intro w' hSw;obtain ⟨s0,s1,s2,s3⟩:=hSw;go_simp;(try with_reducible rfl))
  simp only [Act.put,List.setIfInBounds_toArray,List.set_cons_zero,List.set_cons_succ]
  refine wpAnyH_ready (rs:=[4,30]) (by kernel_rfl) (by simp) ?_
  refine' AllReadyH.cons (o:=_) ?p4A (fun K hK=>?q4A) ?r4A
  case p4A=>(simp only [List.getElem?_toArray,List.getElem?_cons_succ,List.getElem?_cons_zero];exact rfl)
  go_simp
  refine hK.out _ _ ?_ (fun hHeld=>?_)
  · exact hHeld
  clear hK K
  (try simp only [Act.put,List.setIfInBounds_toArray,List.set_cons_zero,List.set_cons_succ])
  refine wpAnyH_ready (rs:=[30]) (by kernel_rfl) (by simp) ?_
  refine' AllReadyH.cons (o:=_) ?p30A (fun K hK=>?q30A) ?r30A
  case p30A=>(simp only [List.getElem?_toArray,List.getElem?_cons_succ,List.getElem?_cons_zero];exact rfl)
  case r30A=>exact AllReadyH.nil
  go_simp
  refine hK.out _ _ ?_ (fun hHeld=>?_)
  · (first|exact hHeld|go_keep|(refine ⟨?_,?_,?_,?_⟩<;>go_keep))
  clear hK K
  (try simp only [Act.put,List.setIfInBounds_toArray,List.set_cons_zero,List.set_cons_succ])
  refine wpAnyH_ready (rs:=[31]) (by kernel_rfl) (by simp) ?_
  refine' AllReadyH.cons (o:=_) ?p31A (fun K hK=>?q31A) ?r31A
  case p31A=>(simp only [List.getElem?_toArray,List.getElem?_cons_succ,List.getElem?_cons_zero];exact rfl)
  case r31A=>exact AllReadyH.nil
  refine step_append_lies _ (by rfl) (.tmp 10) (.tmp 36) _ (by rfl) (M+1) 272 i0 _ 4 40 Tryz.underlying268 hi.out hz0.out hz1.out hz2.out rfl (by decide) toks n xs (by rfl) ((hO.out.alloc _).drew) ⟨w.heap.size,0,none⟩ 1 1 (tokC kind (text.extract pos (pos+size)) line col) (by rfl) (by rfl) (World.news_of_block (heap_alloc_new w _)) (by intro u hu;simp only [tokC,List.mem_cons,List.not_mem_nil,or_false] at hu;rcases hu with rfl|rfl|rfl|rfl<;>rfl) (by decide) (by unfold maxLen;omega) (by omega) (by simp;omega) (w.heap.size+1) (by simp) ?_
  intro g cap w1 hown1 hgrow hat hg
  have hfz1:w1.frozen? ⟨M,5,none⟩=false:=(hgrow.frozen_far (a:=⟨M,5,none⟩) (by simp;omega) (by intro e;exact hne.out e.symm)).trans ((Below.frozen ((Below.refl w.heap.size w).alloc (Nat.le_refl _) _).drew (p:=⟨M,5,none⟩) hlt).trans hfz)
  have q51:w1.cell? ⟨M,5,none⟩=some toks:=(hgrow.cell_far (a:=⟨M,5,none⟩) (by simp;omega) (by intro e;exact hne.out e.symm)).trans ((Below.cell ((Below.refl w.heap.size w).alloc (Nat.le_refl _) _).drew (p:=⟨M,5,none⟩) hlt).trans q5)
  refine hK.out _ _ ?_ (fun hHeld=>?_)
  · refine ⟨?_,?_,?_,?_⟩<;>(rw [hgrow.cell_far _ (by simp;omega) (by intro e;exact hne.out e.symm)];go_keep)
  clear hK K
  (try simp only [Act.put,List.setIfInBounds_toArray,List.set_cons_zero,List.set_cons_succ])
  refine' wpAnyH_take (i:=32) (oi:=_) (v:=_) ?a32A ?b32A ?c32A ?d32A ?e32A (Or.inl ⟨?f32A,?g32A⟩) hHeld ?h32A
  case a32A=>(simp only [List.getElem?_toArray,List.getElem?_cons_succ,List.getElem?_cons_zero];exact rfl)
  case b32A=>kernel_rfl
  case c32A=>kernel_rfl
  case d32A=>kernel_rfl
  case e32A=>exact fun _ _ _ h=>h
  case f32A=>rfl
  case g32A=>(intro w' hSw;obtain ⟨s0,s1,s2,s3⟩:=hSw;go_simp;(try with_reducible rfl))
  simp only [Act.put,List.setIfInBounds_toArray,List.set_cons_zero,List.set_cons_succ]
  refine' wpAnyH_take (i:=33) (oi:=_) (v:=_) ?a33A ?b33A ?c33A ?d33A ?e33A (Or.inl ⟨?f33A,?g33A⟩) hHeld ?h33A
  case a33A=>(simp only [List.getElem?_toArray,List.getElem?_cons_succ,List.getElem?_cons_zero];exact rfl)
  case b33A=>kernel_rfl
  case c33A=>kernel_rfl
  case d33A=>kernel_rfl
  case e33A=>exact fun _ _ _ h=>h
  case f33A=>rfl
  case g33A=>(intro w' hSw;obtain ⟨s0,s1,s2,s3⟩:=hSw;go_simp;(try with_reducible rfl))
  simp only [Act.put,List.setIfInBounds_toArray,List.set_cons_zero,List.set_cons_succ]
  refine wpAnyH_ready (rs:=[34]) (by kernel_rfl) (by simp) ?_
  refine' AllReadyH.cons (o:=_) ?p34A (fun K hK=>?q34A) ?r34A
  case p34A=>(simp only [List.getElem?_toArray,List.getElem?_cons_succ,List.getElem?_cons_zero];exact rfl)
  case r34A=>exact AllReadyH.nil
  go_simp
  refine hK.out _ _ ?_ (fun hHeld=>?_)
  · obtain ⟨k0,k1,k2,k3⟩:=hHeld;exact ⟨set_far k0 (by decide),set_far k1 (by decide),set_far k2 (by decide),set_far k3 (by decide)⟩
  clear hK K
  (try simp only [Act.put,List.setIfInBounds_toArray,List.set_cons_zero,List.set_cons_succ])
  refine wpAnyH_done (by kernel_rfl) ?_ _
  have hM1:MachAt w1 M { text:=text,pos:=pos,line:=line,col:=col,opn:=opn,toks:=toks }:=MachAt.of_block hM.out ((hgrow.block M (by simp;omega) (fun e=>hne.out e.symm)).trans (((Below.refl w.heap.size w).alloc (Nat.le_refl _) _).drew.block M hlt))
  have hM2:=hM1.set (m':={ text:=text,pos:=pos,line:=line,col:=col,opn:=opn,toks:=Value.slice (some { block:=g,off:=0 }) (n+1) cap }) 5 (Value.slice (some { block:=g,off:=0 }) (n+1) cap) rfl
  have hO2:=ownsRow_setCell_below hown1 (a:=⟨M,5,none⟩) (by show M<M+1;omega) (Value.slice (some { block:=g,off:=0 }) (n+1) cap)
  have hB2:Below M w (w1.setCell ⟨M,5,none⟩ (Value.slice (some { block:=g,off:=0 }) (n+1) cap)):=Below.setCell ((((Below.refl M w).alloc (Nat.le_of_lt hlt) _).drew).grown hgrow (show M≤(w.heap.push _).size by simp only [Array.size_push];omega) (fun k hk=>Nat.le_of_succ_le (hO.out.lt k hk).1)) (Nat.le_refl M) _
  clear hfz1 q51 hHeld q0 q1 q2 q3 q5 hfz hM1 hown1
  generalize w1.setCell ⟨M,5,none⟩ (Value.slice (some { block:=g,off:=0 }) (n+1) cap)=W at *
  have q4:=hM2.c4
  have f4:=hM2.free 4
  dsimp only at q4
  have hM2:=Lib.hid hM2
  have hO2:=Lib.hid hO2
  have hB2:=Lib.hid hB2
  go_wp2_with fail
  have hM3:=hM2.out.set (m':={ text:=text,pos:=pos,line:=line,col:=col,opn:=true,toks:=Value.slice (some { block:=g,off:=0 }) (n+1) cap }) 4 (.bool true) rfl
  refine (forward_any M _ size _ hM3 hsz ht hc0 hc1).mono ?_
  rintro e w3 ⟨rfl,hM4,hg4⟩
  go_wp2_with fail
  go_end0
  refine ⟨rfl,_,hM4,?_,?_⟩
  · have hO3:=ownsRow_setCell_below hO2.out (a:=⟨M,4,none⟩) (by show M<M+1;omega) (Value.bool true)
    refine own_heap hO3 (fun k hk=>hg4.block k (hO3.lt k hk).2 (fun e=>?_))
    have h1:=(hO3.lt k hk).1
    injection e with e
    omega
  · exact (hB2.out.setCell (p:=⟨M,4,none⟩) (Nat.le_refl M) _).grown hg4 (by have:=hM3.lt;omega) (fun k hk=>by injection hk with hk;omega)
  refine' AllReadyH.cons (o:=_) ?p30C (fun K hK=>?q30C) ?r30C
  case p30C=>(simp only [List.getElem?_toArray,List.getElem?_cons_succ,List.getElem?_cons_zero];exact rfl)
  case r30C=>exact AllReadyH.nil
  go_simp
  refine hK.out _ _ ?_ (fun hHeld=>?_)
  · go_keep
  clear hK K
  (try simp only [Act.put,List.setIfInBounds_toArray,List.set_cons_zero,List.set_cons_succ])
  refine wpAnyH_ready (rs:=[4]) (by kernel_rfl) (by simp) ?_
  refine' AllReadyH.cons (o:=_) ?p4D (fun K hK=>?q4D) ?r4D
  case p4D=>(simp only [List.getElem?_toArray,List.getElem?_cons_succ,List.getElem?_cons_zero];exact rfl)
  case r4D=>exact AllReadyH.nil
  go_simp
  refine hK.out _ _ ?_ (fun hHeld=>?_)
  · exact hHeld
  clear hK K
  (try simp only [Act.put,List.setIfInBounds_toArray,List.set_cons_zero,List.set_cons_succ])
  refine wpAnyH_ready (rs:=[31]) (by kernel_rfl) (by simp) ?_
  refine' AllReadyH.cons (o:=_) ?p31E (fun K hK=>?q31E) ?r31E
  case p31E=>(simp only [List.getElem?_toArray,List.getElem?_cons_succ,List.getElem?_cons_zero];exact rfl)
  case r31E=>exact AllReadyH.nil
  refine step_append_lies _ (by rfl) (.tmp 10) (.tmp 36) _ (by rfl) (M+1) 272 i0 _ 4 40 Tryz.underlying268 hi.out hz0.out hz1.out hz2.out rfl (by decide) toks n xs (by rfl) ((hO.out.alloc _).drew) ⟨w.heap.size,0,none⟩ 1 1 (tokC kind (text.extract pos (pos+size)) line col) (by rfl) (by rfl) (World.news_of_block (heap_alloc_new w _)) (by intro u hu;simp only [tokC,List.mem_cons,List.not_mem_nil,or_false] at hu;rcases hu with rfl|rfl|rfl|rfl<;>rfl) (by decide) (by unfold maxLen;omega) (by omega) (by simp;omega) (w.heap.size+1) (by simp) ?_
  intro g cap w1 hown1 hgrow hat hg
  have hfz1:w1.frozen? ⟨M,5,none⟩=false:=(hgrow.frozen_far (a:=⟨M,5,none⟩) (by simp;omega) (by intro e;exact hne.out e.symm)).trans ((Below.frozen ((Below.refl w.heap.size w).alloc (Nat.le_refl _) _).drew (p:=⟨M,5,none⟩) hlt).trans hfz)
  have q51:w1.cell? ⟨M,5,none⟩=some toks:=(hgrow.cell_far (a:=⟨M,5,none⟩) (by simp;omega) (by intro e;exact hne.out e.symm)).trans ((Below.cell ((Below.refl w.heap.size w).alloc (Nat.le_refl _) _).drew (p:=⟨M,5,none⟩) hlt).trans q5)
  refine hK.out _ _ ?_ (fun hHeld=>?_)
  · refine ⟨?_,?_,?_,?_⟩<;>(rw [hgrow.cell_far _ (by simp;omega) (by intro e;exact hne.out e.symm)];go_keep)
  clear hK K
  (try simp only [Act.put,List.setIfInBounds_toArray,List.set_cons_zero,List.set_cons_succ])
  refine' wpAnyH_take (i:=32) (oi:=_) (v:=_) ?a32E ?b32E ?c32E ?d32E ?e32E (Or.inl ⟨?f32E,?g32E⟩) hHeld ?h32E
  case a32E=>(simp only [List.getElem?_toArray,List.getElem?_cons_succ,List.getElem?_cons_zero];exact rfl)
  case b32E=>kernel_rfl
  case c32E=>kernel_rfl
  case d32E=>kernel_rfl
  case e32E=>exact fun _ _ _ h=>h
  case f32E=>rfl
  case g32E=>(intro w' hSw;obtain ⟨s0,s1,s2,s3⟩:=hSw;go_simp;(try with_reducible rfl))
  simp only [Act.put,List.setIfInBounds_toArray,List.set_cons_zero,List.set_cons_succ]
  refine' wpAnyH_take (i:=33) (oi:=_) (v:=_) ?a33E ?b33E ?c33E ?d33E ?e33E (Or.inl ⟨?f33E,?g33E⟩) hHeld ?h33E
  case a33E=>(simp only [List.getElem?_toArray,List.getElem?_cons_succ,List.getElem?_cons_zero];exact rfl)
  case b33E=>kernel_rfl
  case c33E=>kernel_rfl
  case d33E=>kernel_rfl
  case e33E=>exact fun _ _ _ h=>h
  case f33E=>rfl
  case g33E=>(intro w' hSw;obtain ⟨s0,s1,s2,s3⟩:=hSw;go_simp;(try with_reducible rfl))
  simp only [Act.put,List.setIfInBounds_toArray,List.set_cons_zero,List.set_cons_succ]
  refine wpAnyH_ready (rs:=[34]) (by kernel_rfl) (by simp) ?_
  refine' AllReadyH.cons (o:=_) ?p34E (fun K hK=>?q34E) ?r34E
  case p34E=>(simp only [List.getElem?_toArray,List.getElem?_cons_succ,List.getElem?_cons_zero];exact rfl)
  case r34E=>exact AllReadyH.nil
  go_simp
  refine hK.out _ _ ?_ (fun hHeld=>?_)
  · obtain ⟨k0,k1,k2,k3⟩:=hHeld;exact ⟨set_far k0 (by decide),set_far k1 (by decide),set_far k2 (by decide),set_far k3 (by decide)⟩
  clear hK K
  (try simp only [Act.put,List.setIfInBounds_toArray,List.set_cons_zero,List.set_cons_succ])
  refine wpAnyH_done (by kernel_rfl) ?_ _
  have hM1:MachAt w1 M { text:=text,pos:=pos,line:=line,col:=col,opn:=opn,toks:=toks }:=MachAt.of_block hM.out ((hgrow.block M (by simp;omega) (fun e=>hne.out e.symm)).trans (((Below.refl w.heap.size w).alloc (Nat.le_refl _) _).drew.block M hlt))
  have hM2:=hM1.set (m':={ text:=text,pos:=pos,line:=line,col:=col,opn:=opn,toks:=Value.slice (some { block:=g,off:=0 }) (n+1) cap }) 5 (Value.slice (some { block:=g,off:=0 }) (n+1) cap) rfl
  have hO2:=ownsRow_setCell_below hown1 (a:=⟨M,5,none⟩) (by show M<M+1;omega) (Value.slice (some { block:=g,off:=0 }) (n+1) cap)
  have hB2:Below M w (w1.setCell ⟨M,5,none⟩ (Value.slice (some { block:=g,off:=0 }) (n+1) cap)):=Below.setCell ((((Below.refl M w).alloc (Nat.le_of_lt hlt) _).drew).grown hgrow (show M≤(w.heap.push _).size by simp only [Array.size_push];omega) (fun k hk=>Nat.le_of_succ_le (hO.out.lt k hk).1)) (Nat.le_refl M) _
  clear hfz1 q51 hHeld q0 q1 q2 q3 q5 hfz hM1 hown1
  generalize w1.setCell ⟨M,5,none⟩ (Value.slice (some { block:=g,off:=0 }) (n+1) cap)=W at *
  have q4:=hM2.c4
  have f4:=hM2.free 4
  dsimp only at q4
  have hM2:=Lib.hid hM2
  have hO2:=Lib.hid hO2
  have hB2:=Lib.hid hB2
  go_wp2_with fail
  have hM3:=hM2.out.set (m':={ text:=text,pos:=pos,line:=line,col:=col,opn:=true,toks:=Value.slice (some { block:=g,off:=0 }) (n+1) cap }) 4 (.bool true) rfl
  refine (forward_any M _ size _ hM3 hsz ht hc0 hc1).mono ?_
  rintro e w3 ⟨rfl,hM4,hg4⟩
  go_wp2_with fail
  go_end0
  refine ⟨rfl,_,hM4,?_,?_⟩
  · have hO3:=ownsRow_setCell_below hO2.out (a:=⟨M,4,none⟩) (by show M<M+1;omega) (Value.bool true)
    refine own_heap hO3 (fun k hk=>hg4.block k (hO3.lt k hk).2 (fun e=>?_))
    have h1:=(hO3.lt k hk).1
    injection e with e
    omega
  · exact (hB2.out.setCell (p:=⟨M,4,none⟩) (Nat.le_refl M) _).grown hg4 (by have:=hM3.lt;omega) (fun k hk=>by injection hk with hk;omega)
end Go.Proofs.YtdhehcobnbcmdaaGreatDoor
namespace Go.Proofs.YtdhehcobnbcmdaaGreatDoor
open Go.RowKit
attribute [local go_sem ↓] Go.wp_at_zero Go.wp_at_succ
set_option maxHeartbeats 2000000 in
set_option maxRecDepth 100000 in
theorem endLine_any (M:Nat)(m:Mach)(n:Nat)(xs:List Value)(w:World)(hm:MachAt w M m)(hown:w.ownsRow (M+1) 272 4 m.toks n xs)(hn:n≤8589934592)
    (hp:m.pos≤m.text.size) (ht:m.text.size≤4294967295) (hl0:0≤m.line) (hl1:m.line≤4611686018427387904) :
    Calls Tryz.prog 239 #[.pointer (some ⟨M,0,none⟩)] w fun e w'=>e=.returned (.tuple #[])∧∃ v,
      MachAt w' M { m with pos:=m.pos+1,line:=m.line+1,col:=1,opn:=false,toks:=v } ∧
      w'.ownsRow (M+1) 272 4 v (if m.opn then n+1 else n) (if m.opn then xs++tokC 1 ⟨#[10]⟩ m.line m.col else xs)∧Below M w w':=by
  obtain ⟨text,pos,line,col,opn,toks⟩:=m
  dsimp only at *
  have q1:=hm.c1
  have q2:=hm.c2
  have q3:=hm.c3
  have q4:=hm.c4
  have q5:=hm.c5
  have hM:=Lib.hid hm
  have hO:=Lib.hid hown
  have hne:=Lib.hid (own_ne_mach hown hm)
  have hfz:=hm.free 5
  have hlt:=hm.lt
  clear hm hown
  dsimp only at q1 q2 q3 q4 q5
  have bw:IntKind.i64.wrap ((pos:Int)+1)=(pos:Int)+1:=IntWalk.i64_in _ (by omega)
  have bl:IntKind.i64.wrap (line+1)=line+1:=IntWalk.i64_in _ (by omega)
  obtain ⟨i0,hi,hz0,hz1,hz2⟩:=info_parts tok_info
  have hi:=Lib.hid hi;have hz0:=Lib.hid hz0;have hz1:=Lib.hid hz1;have hz2:=Lib.hid hz2
  have n5:=World.new_ne w ⟨M,5,none⟩ q5
  cases opn with
  | false =>
    have hO2:=hO
    have hB2:=Lib.hid (Below.refl M w)
    have hM2:=hM
    go_enter Tryz.func239,Tryz.ntmps239
    clear q1 q2 q3 q4 q5 hfz n5
    have q1:=hM2.out.c1
    have q2:=hM2.out.c2
    have f4:=hM2.out.free 4
    have q4:=hM2.out.c4
    have f1:=hM2.out.free 1
    have f2:=hM2.out.free 2
    have f3:=hM2.out.free 3
    have q3:=hM2.out.c3
    dsimp only at q1 q2 q3 q4
    go_wp2_with fail
    go_end0
    have hM3:=(((hM2.out.set (m':={ text:=text,pos:=pos,line:=line,col:=col,opn:=false,toks:=toks }) 4 (.bool false) rfl).set (m':={ text:=text,pos:=pos+1,line:=line,col:=col,opn:=false,toks:=toks }) 1 (.int .i64 ((pos:Int)+1)) rfl).set (m':={ text:=text,pos:=pos+1,line:=line+1,col:=col,opn:=false,toks:=toks }) 2 (.int .i64 (line+1)) rfl).set (m':={ text:=text,pos:=pos+1,line:=line+1,col:=1,opn:=false,toks:=toks }) 3 (.int .i64 1) rfl
    refine ⟨rfl,_,hM3,?_,?_⟩
    · exact ownsRow_setCell_below (ownsRow_setCell_below (ownsRow_setCell_below (ownsRow_setCell_below hO2.out (a:=⟨M,4,none⟩) (by show M<M+1;omega) _) (a:=⟨M,1,none⟩) (by show M<M+1;omega) _) (a:=⟨M,2,none⟩) (by show M<M+1;omega) _) (a:=⟨M,3,none⟩) (by show M<M+1;omega) _
    · exact (((hB2.out.setCell (p:=⟨M,4,none⟩) (Nat.le_refl M) _).setCell (p:=⟨M,1,none⟩) (Nat.le_refl M) _).setCell (p:=⟨M,2,none⟩) (Nat.le_refl M) _).setCell (p:=⟨M,3,none⟩) (Nat.le_refl M) _
  | true =>
    go_enter Tryz.func239,Tryz.ntmps239
    go_wp2_with fail
    refine wp_region_held_drew (S:=(fun w'=>w'.cell? ⟨M,2,none⟩=some (.int .i64 line)∧w'.cell? ⟨M,3,none⟩=some (.int .i64 col))) (by kernel_rfl) ⟨q2,q3⟩ (fun hHeld=>?_)
    refine' wpAnyH_take (i:=0) (oi:=_) (v:=_) ?a0 ?b0 ?c0 ?d0 ?e0 (Or.inl ⟨?f0,?g0⟩) hHeld ?h0
    case a0=>(simp only [List.getElem?_toArray,List.getElem?_cons_zero];exact rfl)
    case b0=>kernel_rfl
    case c0=>kernel_rfl
    case d0=>kernel_rfl
    case e0=>exact fun _ _ _ h=>h
    case f0=>rfl
    case g0=>(intro w' hSw;obtain ⟨s2,s3⟩:=hSw;go_simp;(try with_reducible rfl))
    simp only [Act.put,List.setIfInBounds_toArray,List.set_cons_zero,List.set_cons_succ]
    refine' wpAnyH_take (i:=1) (oi:=_) (v:=_) ?a1 ?b1 ?c1 ?d1 ?e1 (Or.inl ⟨?f1,?g1⟩) hHeld ?h1
    case a1=>(simp only [List.getElem?_toArray,List.getElem?_cons_succ,List.getElem?_cons_zero];exact rfl)
    case b1=>kernel_rfl
    case c1=>kernel_rfl
    case d1=>kernel_rfl
    case e1=>exact fun _ _ _ h=>h
    case f1=>rfl
    case g1=>(intro w' hSw;obtain ⟨s2,s3⟩:=hSw;go_simp;(try with_reducible rfl))
    simp only [Act.put,List.setIfInBounds_toArray,List.set_cons_zero,List.set_cons_succ]
    refine' wpAnyH_take (i:=2) (oi:=_) (v:=_) ?a2 ?b2 ?c2 ?d2 ?e2 (Or.inl ⟨?f2,?g2⟩) hHeld ?h2
    case a2=>(simp only [List.getElem?_toArray,List.getElem?_cons_succ,List.getElem?_cons_zero];exact rfl)
    case b2=>kernel_rfl
    case c2=>kernel_rfl
    case d2=>kernel_rfl
    case e2=>exact fun _ _ _ h=>h
    case f2=>rfl
    case g2=>(intro w' hSw;obtain ⟨s2,s3⟩:=hSw;go_simp;(try with_reducible rfl))
    simp only [Act.put,List.setIfInBounds_toArray,List.set_cons_zero,List.set_cons_succ]
    refine' wpAnyH_take (i:=3) (oi:=_) (v:=_) ?a3 ?b3 ?c3 ?d3 ?e3 (Or.inl ⟨?f3,?g3⟩) hHeld ?h3
    case a3=>(simp only [List.getElem?_toArray,List.getElem?_cons_succ,List.getElem?_cons_zero];exact rfl)
    case b3=>kernel_rfl
    case c3=>kernel_rfl
    case d3=>kernel_rfl
    case e3=>exact fun _ _ _ h=>h
    case f3=>rfl
    case g3=>(intro w' hSw;obtain ⟨s2,s3⟩:=hSw;go_simp;(try with_reducible rfl))
    simp only [Act.put,List.setIfInBounds_toArray,List.set_cons_zero,List.set_cons_succ]
    refine' wpAnyH_take (i:=5) (oi:=_) (v:=_) ?a5 ?b5 ?c5 ?d5 ?e5 (Or.inl ⟨?f5,?g5⟩) hHeld ?h5
    case a5=>(simp only [List.getElem?_toArray,List.getElem?_cons_succ,List.getElem?_cons_zero];exact rfl)
    case b5=>kernel_rfl
    case c5=>kernel_rfl
    case d5=>kernel_rfl
    case e5=>exact fun _ _ _ h=>h
    case f5=>rfl
    case g5=>(intro w' hSw;obtain ⟨s2,s3⟩:=hSw;go_simp;(try with_reducible rfl))
    simp only [Act.put,List.setIfInBounds_toArray,List.set_cons_zero,List.set_cons_succ]
    refine' wpAnyH_take (i:=6) (oi:=_) (v:=_) ?a6 ?b6 ?c6 ?d6 ?e6 (Or.inl ⟨?f6,?g6⟩) hHeld ?h6
    case a6=>(simp only [List.getElem?_toArray,List.getElem?_cons_succ,List.getElem?_cons_zero];exact rfl)
    case b6=>kernel_rfl
    case c6=>kernel_rfl
    case d6=>kernel_rfl
    case e6=>exact fun _ _ _ h=>h
    case f6=>rfl
    case g6=>(intro w' hSw;obtain ⟨s2,s3⟩:=hSw;go_simp;(try with_reducible rfl))
    simp only [Act.put,List.setIfInBounds_toArray,List.set_cons_zero,List.set_cons_succ]
    refine' wpAnyH_take (i:=7) (oi:=_) (v:=_) ?a7 ?b7 ?c7 ?d7 ?e7 (Or.inl ⟨?f7,?g7⟩) hHeld ?h7
    case a7=>(simp only [List.getElem?_toArray,List.getElem?_cons_succ,List.getElem?_cons_zero];exact rfl)
    case b7=>kernel_rfl
    case c7=>kernel_rfl
    case d7=>kernel_rfl
    case e7=>exact fun _ _ _ h=>h
    case f7=>rfl
    case g7=>(intro w' hSw;obtain ⟨s2,s3⟩:=hSw;go_simp;(try with_reducible rfl))
    simp only [Act.put,List.setIfInBounds_toArray,List.set_cons_zero,List.set_cons_succ]
    refine' wpAnyH_take (i:=8) (oi:=_) (v:=_) ?a8 ?b8 ?c8 ?d8 ?e8 (Or.inl ⟨?f8,?g8⟩) hHeld ?h8
    case a8=>(simp only [List.getElem?_toArray,List.getElem?_cons_succ,List.getElem?_cons_zero];exact rfl)
    case b8=>kernel_rfl
    case c8=>kernel_rfl
    case d8=>kernel_rfl
    case e8=>exact fun _ _ _ h=>h
    case f8=>rfl
    case g8=>(intro w' hSw;obtain ⟨s2,s3⟩:=hSw;go_simp;(try with_reducible rfl))
    simp only [Act.put,List.setIfInBounds_toArray,List.set_cons_zero,List.set_cons_succ]
    refine' wpAnyH_take (i:=9) (oi:=_) (v:=_) ?a9 ?b9 ?c9 ?d9 ?e9 (Or.inl ⟨?f9,?g9⟩) hHeld ?h9
    case a9=>(simp only [List.getElem?_toArray,List.getElem?_cons_succ,List.getElem?_cons_zero];exact rfl)
    case b9=>kernel_rfl
    case c9=>kernel_rfl
    case d9=>kernel_rfl
    case e9=>exact fun _ _ _ h=>h
    case f9=>rfl
    case g9=>(intro w' hSw;obtain ⟨s2,s3⟩:=hSw;go_simp;(try with_reducible rfl))
    simp only [Act.put,List.setIfInBounds_toArray,List.set_cons_zero,List.set_cons_succ]
    refine' wpAnyH_take (i:=10) (oi:=_) (v:=_) ?a10 ?b10 ?c10 ?d10 ?e10 (Or.inl ⟨?f10,?g10⟩) hHeld ?h10
    case a10=>(simp only [List.getElem?_toArray,List.getElem?_cons_succ,List.getElem?_cons_zero];exact rfl)
    case b10=>kernel_rfl
    case c10=>kernel_rfl
    case d10=>kernel_rfl
    case e10=>exact fun _ _ _ h=>h
    case f10=>rfl
    case g10=>(intro w' hSw;obtain ⟨s2,s3⟩:=hSw;go_simp;(try with_reducible rfl))
    simp only [Act.put,List.setIfInBounds_toArray,List.set_cons_zero,List.set_cons_succ]
    refine' wpAnyH_take (i:=11) (oi:=_) (v:=_) ?a11 ?b11 ?c11 ?d11 ?e11 (Or.inl ⟨?f11,?g11⟩) hHeld ?h11
    case a11=>(simp only [List.getElem?_toArray,List.getElem?_cons_succ,List.getElem?_cons_zero];exact rfl)
    case b11=>kernel_rfl
    case c11=>kernel_rfl
    case d11=>kernel_rfl
    case e11=>exact fun _ _ _ h=>h
    case f11=>rfl
    case g11=>(intro w' hSw;obtain ⟨s2,s3⟩:=hSw;go_simp;(try with_reducible rfl))
    simp only [Act.put,List.setIfInBounds_toArray,List.set_cons_zero,List.set_cons_succ]
    refine' wpAnyH_take (i:=12) (oi:=_) (v:=_) ?a12 ?b12 ?c12 ?d12 ?e12 (Or.inl ⟨?f12,?g12⟩) hHeld ?h12
    case a12=>(simp only [List.getElem?_toArray,List.getElem?_cons_succ,List.getElem?_cons_zero];exact rfl)
    case b12=>kernel_rfl
    case c12=>kernel_rfl
    case d12=>kernel_rfl
    case e12=>exact fun _ _ _ h=>h
    case f12=>rfl
    case g12=>(intro w' hSw;obtain ⟨s2,s3⟩:=hSw;go_simp;(try with_reducible rfl))
    simp only [Act.put,List.setIfInBounds_toArray,List.set_cons_zero,List.set_cons_succ]
    refine' wpAnyH_take (i:=13) (oi:=_) (v:=_) ?a13 ?b13 ?c13 ?d13 ?e13 (Or.inl ⟨?f13,?g13⟩) hHeld ?h13
    case a13=>(simp only [List.getElem?_toArray,List.getElem?_cons_succ,List.getElem?_cons_zero];exact rfl)
    case b13=>kernel_rfl
    case c13=>kernel_rfl
    case d13=>kernel_rfl
    case e13=>exact fun _ _ _ h=>h
    case f13=>rfl
    case g13=>(intro w' hSw;obtain ⟨s2,s3⟩:=hSw;go_simp;(try with_reducible rfl))
    simp only [Act.put,List.setIfInBounds_toArray,List.set_cons_zero,List.set_cons_succ]
    refine wpAnyH_ready (rs:=[4,14]) (by kernel_rfl) (by simp) ?_
    refine' AllReadyH.cons (o:=_) ?p4A (fun K hK=>?q4A) ?r4A
    case p4A=>(simp only [List.getElem?_toArray,List.getElem?_cons_succ,List.getElem?_cons_zero];exact rfl)
    go_simp
    refine hK.out _ _ ?_ (fun hHeld=>?_)
    · exact hHeld
    clear hK K
    (try simp only [Act.put,List.setIfInBounds_toArray,List.set_cons_zero,List.set_cons_succ])
    refine wpAnyH_ready (rs:=[14]) (by kernel_rfl) (by simp) ?_
    refine' AllReadyH.cons (o:=_) ?p14A (fun K hK=>?q14A) ?r14A
    case p14A=>(simp only [List.getElem?_toArray,List.getElem?_cons_succ,List.getElem?_cons_zero];exact rfl)
    case r14A=>exact AllReadyH.nil
    go_simp
    refine hK.out _ _ ?_ (fun hHeld=>?_)
    · (first|exact hHeld|go_keep|(refine ⟨?_,?_⟩<;>go_keep))
    clear hK K
    (try simp only [Act.put,List.setIfInBounds_toArray,List.set_cons_zero,List.set_cons_succ])
    refine wpAnyH_ready (rs:=[15]) (by kernel_rfl) (by simp) ?_
    refine' AllReadyH.cons (o:=_) ?p15A (fun K hK=>?q15A) ?r15A
    case p15A=>(simp only [List.getElem?_toArray,List.getElem?_cons_succ,List.getElem?_cons_zero];exact rfl)
    case r15A=>exact AllReadyH.nil
    refine step_append_lies _ (by rfl) (.tmp 10) (.tmp 20) _ (by rfl) (M+1) 272 i0 _ 4 40 Tryz.underlying268 hi.out hz0.out hz1.out hz2.out rfl (by decide) toks n xs (by rfl) ((hO.out.alloc _).drew) ⟨w.heap.size,0,none⟩ 1 1 (tokC 1 ⟨#[10]⟩ line col) (by rfl) (by rfl) (World.news_of_block (heap_alloc_new w _)) (by intro u hu;simp only [tokC,List.mem_cons,List.not_mem_nil,or_false] at hu;rcases hu with rfl|rfl|rfl|rfl<;>rfl) (by decide) (by unfold maxLen;omega) (by omega) (by simp;omega) (w.heap.size+1) (by simp) ?_
    intro g cap w1 hown1 hgrow hat hg
    have hfz1:w1.frozen? ⟨M,5,none⟩=false:=(hgrow.frozen_far (a:=⟨M,5,none⟩) (by simp;omega) (by intro e;exact hne.out e.symm)).trans ((Below.frozen ((Below.refl w.heap.size w).alloc (Nat.le_refl _) _).drew (p:=⟨M,5,none⟩) hlt).trans hfz)
    have q51:w1.cell? ⟨M,5,none⟩=some toks:=(hgrow.cell_far (a:=⟨M,5,none⟩) (by simp;omega) (by intro e;exact hne.out e.symm)).trans ((Below.cell ((Below.refl w.heap.size w).alloc (Nat.le_refl _) _).drew (p:=⟨M,5,none⟩) hlt).trans q5)
    refine hK.out _ _ ?_ (fun hHeld=>?_)
    · refine ⟨?_,?_⟩<;>(rw [hgrow.cell_far _ (by simp;omega) (by intro e;exact hne.out e.symm)];go_keep)
    clear hK K
    (try simp only [Act.put,List.setIfInBounds_toArray,List.set_cons_zero,List.set_cons_succ])
    refine' wpAnyH_take (i:=16) (oi:=_) (v:=_) ?a16A ?b16A ?c16A ?d16A ?e16A (Or.inl ⟨?f16A,?g16A⟩) hHeld ?h16A
    case a16A=>(simp only [List.getElem?_toArray,List.getElem?_cons_succ,List.getElem?_cons_zero];exact rfl)
    case b16A=>kernel_rfl
    case c16A=>kernel_rfl
    case d16A=>kernel_rfl
    case e16A=>exact fun _ _ _ h=>h
    case f16A=>rfl
    case g16A=>(intro w' hSw;obtain ⟨s2,s3⟩:=hSw;go_simp;(try with_reducible rfl))
    simp only [Act.put,List.setIfInBounds_toArray,List.set_cons_zero,List.set_cons_succ]
    refine' wpAnyH_take (i:=17) (oi:=_) (v:=_) ?a17A ?b17A ?c17A ?d17A ?e17A (Or.inl ⟨?f17A,?g17A⟩) hHeld ?h17A
    case a17A=>(simp only [List.getElem?_toArray,List.getElem?_cons_succ,List.getElem?_cons_zero];exact rfl)
    case b17A=>kernel_rfl
    case c17A=>kernel_rfl
    case d17A=>kernel_rfl
    case e17A=>exact fun _ _ _ h=>h
    case f17A=>rfl
    case g17A=>(intro w' hSw;obtain ⟨s2,s3⟩:=hSw;go_simp;(try with_reducible rfl))
    simp only [Act.put,List.setIfInBounds_toArray,List.set_cons_zero,List.set_cons_succ]
    refine wpAnyH_ready (rs:=[18]) (by kernel_rfl) (by simp) ?_
    refine' AllReadyH.cons (o:=_) ?p18A (fun K hK=>?q18A) ?r18A
    case p18A=>(simp only [List.getElem?_toArray,List.getElem?_cons_succ,List.getElem?_cons_zero];exact rfl)
    case r18A=>exact AllReadyH.nil
    go_simp
    refine hK.out _ _ ?_ (fun hHeld=>?_)
    · obtain ⟨k2,k3⟩:=hHeld;exact ⟨set_far k2 (by decide),set_far k3 (by decide)⟩
    clear hK K
    (try simp only [Act.put,List.setIfInBounds_toArray,List.set_cons_zero,List.set_cons_succ])
    refine wpAnyH_done (by kernel_rfl) ?_ _
    have hM1:MachAt w1 M { text:=text,pos:=pos,line:=line,col:=col,opn:=true,toks:=toks }:=MachAt.of_block hM.out ((hgrow.block M (by simp;omega) (fun e=>hne.out e.symm)).trans (((Below.refl w.heap.size w).alloc (Nat.le_refl _) _).drew.block M hlt))
    have hM2:=hM1.set (m':={ text:=text,pos:=pos,line:=line,col:=col,opn:=true,toks:=Value.slice (some { block:=g,off:=0 }) (n+1) cap }) 5 (Value.slice (some { block:=g,off:=0 }) (n+1) cap) rfl
    have hO2:=ownsRow_setCell_below hown1 (a:=⟨M,5,none⟩) (by show M<M+1;omega) (Value.slice (some { block:=g,off:=0 }) (n+1) cap)
    have hB2:Below M w (w1.setCell ⟨M,5,none⟩ (Value.slice (some { block:=g,off:=0 }) (n+1) cap)):=Below.setCell ((((Below.refl M w).alloc (Nat.le_of_lt hlt) _).drew).grown hgrow (show M≤(w.heap.push _).size by simp only [Array.size_push];omega) (fun k hk=>Nat.le_of_succ_le (hO.out.lt k hk).1)) (Nat.le_refl M) _
    clear hfz1 q51 hHeld hM1 hown1
    generalize w1.setCell ⟨M,5,none⟩ (Value.slice (some { block:=g,off:=0 }) (n+1) cap)=W at *
    have hM2:=Lib.hid hM2
    have hO2:=Lib.hid hO2
    have hB2:=Lib.hid hB2
    clear q1 q2 q3 q4 q5 hfz n5
    have q1:=hM2.out.c1
    have q2:=hM2.out.c2
    have f4:=hM2.out.free 4
    have q4:=hM2.out.c4
    have f1:=hM2.out.free 1
    have f2:=hM2.out.free 2
    have f3:=hM2.out.free 3
    have q3:=hM2.out.c3
    dsimp only at q1 q2 q3 q4
    go_wp2_with fail
    go_end0
    have hM3:=(((hM2.out.set (m':={ text:=text,pos:=pos,line:=line,col:=col,opn:=false,toks:=Value.slice (some { block:=g,off:=0 }) (n+1) cap }) 4 (.bool false) rfl).set (m':={ text:=text,pos:=pos+1,line:=line,col:=col,opn:=false,toks:=Value.slice (some { block:=g,off:=0 }) (n+1) cap }) 1 (.int .i64 ((pos:Int)+1)) rfl).set (m':={ text:=text,pos:=pos+1,line:=line+1,col:=col,opn:=false,toks:=Value.slice (some { block:=g,off:=0 }) (n+1) cap }) 2 (.int .i64 (line+1)) rfl).set (m':={ text:=text,pos:=pos+1,line:=line+1,col:=1,opn:=false,toks:=Value.slice (some { block:=g,off:=0 }) (n+1) cap }) 3 (.int .i64 1) rfl
    refine ⟨rfl,_,hM3,?_,?_⟩
    · exact ownsRow_setCell_below (ownsRow_setCell_below (ownsRow_setCell_below (ownsRow_setCell_below hO2.out (a:=⟨M,4,none⟩) (by show M<M+1;omega) _) (a:=⟨M,1,none⟩) (by show M<M+1;omega) _) (a:=⟨M,2,none⟩) (by show M<M+1;omega) _) (a:=⟨M,3,none⟩) (by show M<M+1;omega) _
    · exact (((hB2.out.setCell (p:=⟨M,4,none⟩) (Nat.le_refl M) _).setCell (p:=⟨M,1,none⟩) (Nat.le_refl M) _).setCell (p:=⟨M,2,none⟩) (Nat.le_refl M) _).setCell (p:=⟨M,3,none⟩) (Nat.le_refl M) _
    refine' AllReadyH.cons (o:=_) ?p14C (fun K hK=>?q14C) ?r14C
    case p14C=>(simp only [List.getElem?_toArray,List.getElem?_cons_succ,List.getElem?_cons_zero];exact rfl)
    case r14C=>exact AllReadyH.nil
    go_simp
    refine hK.out _ _ ?_ (fun hHeld=>?_)
    · go_keep
    clear hK K
    (try simp only [Act.put,List.setIfInBounds_toArray,List.set_cons_zero,List.set_cons_succ])
    refine wpAnyH_ready (rs:=[4]) (by kernel_rfl) (by simp) ?_
    refine' AllReadyH.cons (o:=_) ?p4D (fun K hK=>?q4D) ?r4D
    case p4D=>(simp only [List.getElem?_toArray,List.getElem?_cons_succ,List.getElem?_cons_zero];exact rfl)
    case r4D=>exact AllReadyH.nil
    go_simp
    refine hK.out _ _ ?_ (fun hHeld=>?_)
    · exact hHeld
    clear hK K
    (try simp only [Act.put,List.setIfInBounds_toArray,List.set_cons_zero,List.set_cons_succ])
    refine wpAnyH_ready (rs:=[15]) (by kernel_rfl) (by simp) ?_
    refine' AllReadyH.cons (o:=_) ?p15E (fun K hK=>?q15E) ?r15E
    case p15E=>(simp only [List.getElem?_toArray,List.getElem?_cons_succ,List.getElem?_cons_zero];exact rfl)
    case r15E=>exact AllReadyH.nil
    refine step_append_lies _ (by rfl) (.tmp 10) (.tmp 20) _ (by rfl) (M+1) 272 i0 _ 4 40 Tryz.underlying268 hi.out hz0.out hz1.out hz2.out rfl (by decide) toks n xs (by rfl) ((hO.out.alloc _).drew) ⟨w.heap.size,0,none⟩ 1 1 (tokC 1 ⟨#[10]⟩ line col) (by rfl) (by rfl) (World.news_of_block (heap_alloc_new w _)) (by intro u hu;simp only [tokC,List.mem_cons,List.not_mem_nil,or_false] at hu;rcases hu with rfl|rfl|rfl|rfl<;>rfl) (by decide) (by unfold maxLen;omega) (by omega) (by simp;omega) (w.heap.size+1) (by simp) ?_
    intro g cap w1 hown1 hgrow hat hg
    have hfz1:w1.frozen? ⟨M,5,none⟩=false:=(hgrow.frozen_far (a:=⟨M,5,none⟩) (by simp;omega) (by intro e;exact hne.out e.symm)).trans ((Below.frozen ((Below.refl w.heap.size w).alloc (Nat.le_refl _) _).drew (p:=⟨M,5,none⟩) hlt).trans hfz)
    have q51:w1.cell? ⟨M,5,none⟩=some toks:=(hgrow.cell_far (a:=⟨M,5,none⟩) (by simp;omega) (by intro e;exact hne.out e.symm)).trans ((Below.cell ((Below.refl w.heap.size w).alloc (Nat.le_refl _) _).drew (p:=⟨M,5,none⟩) hlt).trans q5)
    refine hK.out _ _ ?_ (fun hHeld=>?_)
    · refine ⟨?_,?_⟩<;>(rw [hgrow.cell_far _ (by simp;omega) (by intro e;exact hne.out e.symm)];go_keep)
    clear hK K
    (try simp only [Act.put,List.setIfInBounds_toArray,List.set_cons_zero,List.set_cons_succ])
    refine' wpAnyH_take (i:=16) (oi:=_) (v:=_) ?a16E ?b16E ?c16E ?d16E ?e16E (Or.inl ⟨?f16E,?g16E⟩) hHeld ?h16E
    case a16E=>(simp only [List.getElem?_toArray,List.getElem?_cons_succ,List.getElem?_cons_zero];exact rfl)
    case b16E=>kernel_rfl
    case c16E=>kernel_rfl
    case d16E=>kernel_rfl
    case e16E=>exact fun _ _ _ h=>h
    case f16E=>rfl
    case g16E=>(intro w' hSw;obtain ⟨s2,s3⟩:=hSw;go_simp;(try with_reducible rfl))
    simp only [Act.put,List.setIfInBounds_toArray,List.set_cons_zero,List.set_cons_succ]
    refine' wpAnyH_take (i:=17) (oi:=_) (v:=_) ?a17E ?b17E ?c17E ?d17E ?e17E (Or.inl ⟨?f17E,?g17E⟩) hHeld ?h17E
    case a17E=>(simp only [List.getElem?_toArray,List.getElem?_cons_succ,List.getElem?_cons_zero];exact rfl)
    case b17E=>kernel_rfl
    case c17E=>kernel_rfl
    case d17E=>kernel_rfl
    case e17E=>exact fun _ _ _ h=>h
    case f17E=>rfl
    case g17E=>(intro w' hSw;obtain ⟨s2,s3⟩:=hSw;go_simp;(try with_reducible rfl))
    simp only [Act.put,List.setIfInBounds_toArray,List.set_cons_zero,List.set_cons_succ]
    refine wpAnyH_ready (rs:=[18]) (by kernel_rfl) (by simp) ?_
    refine' AllReadyH.cons (o:=_) ?p18E (fun K hK=>?q18E) ?r18E
    case p18E=>(simp only [List.getElem?_toArray,List.getElem?_cons_succ,List.getElem?_cons_zero];exact rfl)
    case r18E=>exact AllReadyH.nil
    go_simp
    refine hK.out _ _ ?_ (fun hHeld=>?_)
    · obtain ⟨k2,k3⟩:=hHeld;exact ⟨set_far k2 (by decide),set_far k3 (by decide)⟩
    clear hK K
    (try simp only [Act.put,List.setIfInBounds_toArray,List.set_cons_zero,List.set_cons_succ])
    refine wpAnyH_done (by kernel_rfl) ?_ _
    have hM1:MachAt w1 M { text:=text,pos:=pos,line:=line,col:=col,opn:=true,toks:=toks }:=MachAt.of_block hM.out ((hgrow.block M (by simp;omega) (fun e=>hne.out e.symm)).trans (((Below.refl w.heap.size w).alloc (Nat.le_refl _) _).drew.block M hlt))
    have hM2:=hM1.set (m':={ text:=text,pos:=pos,line:=line,col:=col,opn:=true,toks:=Value.slice (some { block:=g,off:=0 }) (n+1) cap }) 5 (Value.slice (some { block:=g,off:=0 }) (n+1) cap) rfl
    have hO2:=ownsRow_setCell_below hown1 (a:=⟨M,5,none⟩) (by show M<M+1;omega) (Value.slice (some { block:=g,off:=0 }) (n+1) cap)
    have hB2:Below M w (w1.setCell ⟨M,5,none⟩ (Value.slice (some { block:=g,off:=0 }) (n+1) cap)):=Below.setCell ((((Below.refl M w).alloc (Nat.le_of_lt hlt) _).drew).grown hgrow (show M≤(w.heap.push _).size by simp only [Array.size_push];omega) (fun k hk=>Nat.le_of_succ_le (hO.out.lt k hk).1)) (Nat.le_refl M) _
    clear hfz1 q51 hHeld hM1 hown1
    generalize w1.setCell ⟨M,5,none⟩ (Value.slice (some { block:=g,off:=0 }) (n+1) cap)=W at *
    have hM2:=Lib.hid hM2
    have hO2:=Lib.hid hO2
    have hB2:=Lib.hid hB2
    clear q1 q2 q3 q4 q5 hfz n5
    have q1:=hM2.out.c1
    have q2:=hM2.out.c2
    have f4:=hM2.out.free 4
    have q4:=hM2.out.c4
    have f1:=hM2.out.free 1
    have f2:=hM2.out.free 2
    have f3:=hM2.out.free 3
    have q3:=hM2.out.c3
    dsimp only at q1 q2 q3 q4
    go_wp2_with fail
    go_end0
    have hM3:=(((hM2.out.set (m':={ text:=text,pos:=pos,line:=line,col:=col,opn:=false,toks:=Value.slice (some { block:=g,off:=0 }) (n+1) cap }) 4 (.bool false) rfl).set (m':={ text:=text,pos:=pos+1,line:=line,col:=col,opn:=false,toks:=Value.slice (some { block:=g,off:=0 }) (n+1) cap }) 1 (.int .i64 ((pos:Int)+1)) rfl).set (m':={ text:=text,pos:=pos+1,line:=line+1,col:=col,opn:=false,toks:=Value.slice (some { block:=g,off:=0 }) (n+1) cap }) 2 (.int .i64 (line+1)) rfl).set (m':={ text:=text,pos:=pos+1,line:=line+1,col:=1,opn:=false,toks:=Value.slice (some { block:=g,off:=0 }) (n+1) cap }) 3 (.int .i64 1) rfl
    refine ⟨rfl,_,hM3,?_,?_⟩
    · exact ownsRow_setCell_below (ownsRow_setCell_below (ownsRow_setCell_below (ownsRow_setCell_below hO2.out (a:=⟨M,4,none⟩) (by show M<M+1;omega) _) (a:=⟨M,1,none⟩) (by show M<M+1;omega) _) (a:=⟨M,2,none⟩) (by show M<M+1;omega) _) (a:=⟨M,3,none⟩) (by show M<M+1;omega) _
    · exact (((hB2.out.setCell (p:=⟨M,4,none⟩) (Nat.le_refl M) _).setCell (p:=⟨M,1,none⟩) (Nat.le_refl M) _).setCell (p:=⟨M,2,none⟩) (Nat.le_refl M) _).setCell (p:=⟨M,3,none⟩) (Nat.le_refl M) _
end Go.Proofs.YtdhehcobnbcmdaaGreatDoor
namespace Go.Proofs.YtdhehcobnbcmdaaGreatDoor
open Go.RowKit
theorem speakS_le (s : ByteArray) (lines : Bool) : ∀ n i said, i ≤ s.size → (speakS s lines n i said).2.1 ≤ s.size ∧ i ≤ (speakS s lines n i said).2.1
  | 0,i,said,h=>⟨h,Nat.le_refl _⟩
  | n + 1, i, said, h => by
    unfold speakS
    by_cases hi:i<s.size
    · rw [if_pos hi]
      have he:=(escS_le (s.extract i s.size)).1
      have hes:(s.extract i s.size).size=s.size-i:=by simp [ByteArray.size_extract]
      have hw:=width_le s i hi
      split
      · exact ⟨hi,Nat.le_succ _⟩
      split
      · split
        · exact ⟨h,Nat.le_refl _⟩
        · have:=speakS_le s lines n (i+(escS (s.extract i s.size)).2) (said++(escS (s.extract i s.size)).1) (by omega)
          omega
      split
      · exact ⟨h,Nat.le_refl _⟩
      split
      · exact ⟨h,Nat.le_refl _⟩
      · have:=speakS_le s lines n (i+(Utf8.decode s i).2) (said++Lib.encodeRuneZ (Utf8.decode s i).1) hw
        omega
    · rw [if_neg hi];exact ⟨Nat.le_refl _,by omega⟩
theorem wordLen_pos (l:Bytes)(h:classL l=5∨classL l=6):1≤wordLen l:=by
  cases l with
  | nil=>rcases h with h|h<;>cases h
  | cons c r =>
    have:wordU c=true:=by rw [← wordL_cons c r];unfold wordL;rcases h with h|h<;>rw [h]<;>decide
    unfold wordLen;rw [if_pos this];omega
theorem numLen_pos (l:Bytes)(h:classL l=6):1≤numLen l:=by
  cases l with
  | nil=>cases h
  | cons c r =>
    have:wordU c=true:=by rw [← wordL_cons c r];unfold wordL;rw [h];decide
    unfold numLen;rw [if_pos (by rw [this];rfl)];omega
theorem signFrom_le (s:ByteArray):∀ l:List ByteArray,signFrom s l≤s.size
  | []=>Nat.zero_le _
  | g :: r => by unfold signFrom; split; · rename_i h; exact h.1
                 · exact signFrom_le s r
theorem pieceS_le (s : ByteArray) (h1 : 1 ≤ s.size) : ∃ (k c : Int) (sz off : Nat), pieceS s = (k, (sz : Int), (off : Int), c) ∧ sz ≤ s.size ∧ off ≤ s.size ∧ (c = 0 → 1 ≤ sz) := by
  have hl:=bs_length s
  unfold pieceS
  split
  · rename_i h
    have hp:=wordLen_pos _ (.inl h)
    have hw:=wordLen_le (bs s)
    unfold nameP
    split
    · exact ⟨0,36,0,0,rfl,by omega,by omega,by intro h;cases h⟩
    split
    · rename_i hd
      split
      · exact ⟨0,36,0,0,rfl,by omega,by omega,by intro h;cases h⟩
      · have hw2:=wordLen_le ((bs s).drop (wordLen (bs s)+1))
        have hp2:=wordLen_pos _ (.inl hd.2)
        rw [List.length_drop] at hw2
        exact ⟨3,0,wordLen (bs s)+1+wordLen ((bs s).drop (wordLen (bs s)+1)),0,by simp [q4],by omega,by omega,by intro;omega⟩
    · exact ⟨2,0,wordLen (bs s),0,rfl,by omega,by omega,by intro;omega⟩
  split
  · rename_i h
    have hp:=numLen_pos _ h
    have hw:=numLen_le (bs s)
    split
    · exact ⟨4,0,numLen (bs s),0,rfl,by omega,by omega,by intro;omega⟩
    · exact ⟨0,31,0,0,rfl,by omega,by omega,by intro h;cases h⟩
  split
  · have hw:=wordLen_le (bs (s.extract 1 s.size))
    rw [bs_length,ByteArray.size_extract] at hw
    split
    · exact ⟨5,0,1+wordLen (bs (s.extract 1 s.size)),0,rfl,by omega,by omega,by intro;omega⟩
    · exact ⟨0,44,0,0,rfl,by omega,by omega,by intro h;cases h⟩
  split
  · have hsp:=speakS_le s true (s.size+1) 1 [] h1
    split
    · split
      · exact ⟨0,37,0,0,rfl,by omega,by omega,by intro h;cases h⟩
      · exact ⟨6,0,(speakS s true (s.size+1) 1 []).2.1,0,rfl,hsp.1,by omega,fun _=>hsp.2⟩
    · rename_i hne
      exact ⟨0,(speakS s true (s.size+1) 1 []).2.2,0,(speakS s true (s.size+1) 1 []).2.1,rfl,by omega,hsp.1,fun h=>absurd h hne⟩
  split
  · exact ⟨0,30,0,0,rfl,by omega,by omega,by intro h;cases h⟩
  · rename_i hne
    exact ⟨7,0,signFrom s signsB,0,rfl,signFrom_le s _,by omega,fun _=>by omega⟩
structure Sc where
  pos:Nat
  line:Int
  col:Int
  opn:Bool
  n:Nat
  toks:List Value
def Sc.fwd (m:Sc)(s:ByteArray)(size:Nat):Sc:={ m with pos:=m.pos+size,col:=m.col+runesFrom (s.extract m.pos (m.pos+size)) 0 }
def Sc.put (m:Sc)(s:ByteArray)(kind:Int)(size:Nat):Sc:=
  { m with pos:=m.pos+size,col:=m.col+runesFrom (s.extract m.pos (m.pos+size)) 0,opn:=true,n:=m.n+1,toks:=m.toks++tokC kind (s.extract m.pos (m.pos+size)) m.line m.col }
def Sc.endl (m:Sc):Sc:=
  { pos:=m.pos+1,line:=m.line+1,col:=1,opn:=false,n:=if m.opn then m.n+1 else m.n,toks:=if m.opn then m.toks++tokC 1 ⟨#[10]⟩ m.line m.col else m.toks }
def lineLen:Bytes→Nat
  | []=>0
  | c::r=>if c.toNat=10 then 0 else lineLen r+1
theorem lineLen_le:∀ l:Bytes,lineLen l≤l.length
  | []=>Nat.le_refl _
  | c::r=>by have:=lineLen_le r;unfold lineLen;split<;>simp<;>omega
theorem lineLen_pos (l:Bytes)(h:classL l=4):1≤lineLen l:=by
  cases l with
  | nil=>cases h
  | cons c r =>
    unfold lineLen
    split
    · rename_i h10;change classN c.toNat=4 at h;rw [h10] at h;exact absurd h (by decide)
    · omega
def runS (s : ByteArray) : Nat → Sc → Int × Sc
  | 0,m=>(0,m)
  | k + 1, m =>
    if classL ((bs s).drop m.pos)=1 then (0,m.endl)
    else if classL ((bs s).drop m.pos)=3 then runS s k m.endl
    else if classL ((bs s).drop m.pos)=2 then runS s k (m.fwd s 1)
    else if classL ((bs s).drop m.pos)=4 then runS s k (m.fwd s (lineLen ((bs s).drop m.pos)))
    else if (pieceS (s.extract m.pos s.size)).2.2.2=0 then runS s k (m.put s (pieceS (s.extract m.pos s.size)).1 (pieceS (s.extract m.pos s.size)).2.1.toNat)
    else ((pieceS (s.extract m.pos s.size)).2.2.2,m.fwd s (pieceS (s.extract m.pos s.size)).2.2.1.toNat)
theorem classL_end (s:ByteArray)(k:Nat)(hk:k≤s.size):classL ((bs s).drop k)=1↔k=s.size:=by
  by_cases h:k<s.size
  · rw [bs_drop s k h]
    constructor
    · intro hc;exfalso;change classN _=1 at hc;unfold classN at hc;(repeat' split at hc)<;>cases hc
    · intro e;omega
  · rw [bs_drop_end s k h]
    exact ⟨fun _=>by omega,fun _=>rfl⟩
structure Sc.Ok (m:Sc)(s:ByteArray):Prop where
  pos:m.pos≤s.size
  l0:1≤m.line
  l1:m.line≤m.pos+1
  c0:1≤m.col
  c1:m.col≤m.pos+1
  n:m.n+(if m.opn then 1 else 0)≤2*m.pos
theorem Sc.Ok.fwd {m:Sc}{s:ByteArray}(h:m.Ok s)(k:Nat)(hk:m.pos+k≤s.size):(m.fwd s k).Ok s:=by
  obtain ⟨h1,h2,h3,h4,h5,h6⟩:=h
  have hr:=runesFrom_le (s.extract m.pos (m.pos+k)) _ 0 (Nat.le_refl _)
  rw [ByteArray.size_extract] at hr
  have:(runesFrom (s.extract m.pos (m.pos+k)) 0:Nat)≤k:=by omega
  refine ⟨hk,h2,?_,?_,?_,(show m.n+(if m.opn then 1 else 0)≤2*(m.pos+k) by omega)⟩<;>simp only [Sc.fwd]<;>omega
theorem Sc.Ok.put {m:Sc}{s:ByteArray}(h:m.Ok s)(kind:Int)(k:Nat)(h1':1≤k)(hk:m.pos+k≤s.size):(m.put s kind k).Ok s:=by
  obtain ⟨h1,h2,h3,h4,h5,h6⟩:=h
  have hr:=runesFrom_le (s.extract m.pos (m.pos+k)) _ 0 (Nat.le_refl _)
  rw [ByteArray.size_extract] at hr
  have:(runesFrom (s.extract m.pos (m.pos+k)) 0:Nat)≤k:=by omega
  refine ⟨hk,h2,?_,?_,?_,?_⟩<;>simp only [Sc.put,if_true]<;>omega
theorem Sc.Ok.endl {m:Sc}{s:ByteArray}(h:m.Ok s)(hk:m.pos<s.size):m.endl.Ok s:=by
  obtain ⟨h1,h2,h3,h4,h5,h6⟩:=h
  refine ⟨hk,?_,?_,?_,?_,?_⟩<;>simp only [Sc.endl]
  · omega
  · omega
  · omega
  · omega
  · cases hm:m.opn<;>rw [hm] at h6<;>simp only [if_true,Bool.false_eq_true,if_false] at h6 ⊢<;>omega
end Go.Proofs.YtdhehcobnbcmdaaGreatDoor
