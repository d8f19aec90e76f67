/- A part of the proof of DeltaLines: Mod1 Mod2. -/
import Derived.Test.YtdhehcobnbcmdaaGreatDoorPF1
import Derived.Test.YtdhehcobnbcmdaaGreatDoorPCf
set_option linter.all false
namespace Go.Proofs.YtdhehcobnbcmdaaGreatDoor
open Go.RowKit
def sideB (f:Tab)(n:Nat)(s:ByteArray)(inn:Bool):Bool:=match f s with
  | some k=>decide (k<(n:Int)) == inn
  | none=>false
set_option maxHeartbeats 1600000 in
theorem m_side (f:Tab)(n mb ni cap:Nat)(A:Option Addr)(vc vn vo vg vr va vb:Value)(s:ByteArray)(inn:Bool)(w:World)(hM:MapIs w mb n f)(hs:Sm s) :
    Calls Tryz.prog 130 #[.agg #[vc,vn, .slice A ni cap,vo,vg,vr,va,vb, .map (some mb)], .string s, .bool inn] w (CodePost (sideB f ni s inn) w):=by
  have hM:=Lib.hid hM
  have hs':s.size≤1000000000000000:=by unfold Sm at hs;omega
  have hb:=Lib.hid fun o=>(Below.refl w.heap.size w).alloc (Nat.le_refl _) o
  cases hf:f s with
  | none =>
    have H:=Lib.hid (show sideB f ni s inn=false by unfold sideB;rw [hf])
    have hf:=Lib.hid hf
    go_enter Tryz.func130,Tryz.ntmps130
    go_wp2_with (at_lookup;refine map_look (hM.out.alloc _) rfl _ _ rfl rfl s rfl hs' ?_;intro c _;rw [hf.out])
    go_ret
    exact code_bad H.out (by decide) (hb.out _)
  | some k =>
    have H:=Lib.hid (show sideB f ni s inn=(decide (k<(ni:Int)) == inn) by unfold sideB;rw [hf])
    have hf:=Lib.hid hf
    go_enter Tryz.func130,Tryz.ntmps130
    go_wp2_with (at_lookup;refine map_look (hM.out.alloc _) rfl _ _ rfl rfl s rfl hs' ?_;intro c hc;obtain rfl:=hc k hf.out;clear hc;rw [hf.out])
    all_goals (go_ret)
    · exact code_bad (by rw [H.out];revert ‹(!_)=true›;cases (decide (c<(ni:Int)) == inn)<;>simp) (by decide) (hb.out _)
    · exact code_ok (by rw [H.out];revert ‹(!_)=false›;cases (decide (c<(ni:Int)) == inn)<;>simp) (hb.out _)
def sidesFrom (f:Tab)(n:Nat)(inn:Bool):List ByteArray→List ByteArray→Bool
  | _,[]=>true
  | seen,s::r=>sideB f n s inn && !(seen.any fun q=>decide (q=s)) && sidesFrom f n inn (seen++[s]) r
theorem take_snoc {α : Type}{l:List α}{k:Nat}{x : α}(h:l[k]?=some x):l.take (k+1)=l.take k++[x]:=by rw [List.take_add_one,h];rfl
set_option maxHeartbeats 4000000 in
theorem m_sides (f : Tab) (n mb ni cap : Nat) (A : Option Addr) (vc vn vo vg vr va vb v : Value) (l : List ByteArray) (inn : Bool) (B : Nat) (w : World) (hM : MapIs w mb n f) (hl : Texts w B v l) (hB : B ≤ w.heap.size) :
    Calls Tryz.prog 128 #[.agg #[vc,vn, .slice A ni cap,vo,vg,vr,va,vb, .map (some mb)],v, .bool inn] w (CodePost (sidesFrom f ni inn [] l) w):=by
  obtain ⟨A1,cap1,rfl,hcl,hcap⟩:=SlOf.form hl
  have HR0:Hid (sidesFrom f ni inn [] l=sidesFrom f ni inn (l.take 0) (l.drop 0)):=Lib.hid rfl
  generalize sidesFrom f ni inn [] l=R at *
  obtain ⟨W0,hW0⟩:∃ W0,w.alloc (.cells #[vc,vn, .slice A ni cap,vo,vg,vr,va,vb, .map (some mb)] 104 (0,0))=W0:=⟨_,rfl⟩
  have hz:Hid (W0.heap.size=w.heap.size+1):=Lib.hid (by rw [← hW0];simp)
  have hb0:Hid (Below w.heap.size w W0):=Lib.hid (by rw [← hW0];exact (Below.refl _ _).alloc (Nat.le_refl _) _)
  have hX:Hid (W0.heap[w.heap.size]?=some (.cells #[vc,vn, .slice A ni cap,vo,vg,vr,va,vb, .map (some mb)] 104 (0,0))):=Lib.hid (by rw [← hW0];exact heap_alloc_new w _)
  have hS0:Hid (SetIs (W0.alloc (.map #[] 0)) (w.heap.size+1) 0 (l.take 0)):=Lib.hid (by have:=SetIs.new W0;rw [hz.out] at this;exact this)
  have hb1:Hid (Below (w.heap.size+1) W0 (W0.alloc (.map #[] 0))):=Lib.hid ((Below.refl _ _).alloc (by rw [hz.out];exact Nat.le_refl _) _)
  have hz':=hz.out
  have hmm:=@run_makeMap Tryz.prog
  replace hM:=Lib.hid hM
  replace hl:=Lib.hid hl
  go_enter Tryz.func128,Tryz.ntmps128
  go_wp2_with fail
  clear hW0 hmm hz'
  go_loopw [6,8,9,10,11,12,16] (fun _ _ _ _ _ _ i wr=>∃ k:Nat,k≤l.length∧i=.int .i64 k∧Hid (R=sidesFrom f ni inn (l.take k) (l.drop k))∧Hid (SetIs wr (w.heap.size+1) k (l.take k))∧Hid (Below (w.heap.size+1) W0 wr)) (fun _ _ _ _ _ _ i _=>l.length-(intOf i).toNat)
  case atStart=>exact ⟨0,Nat.zero_le _,rfl,HR0,hS0,hb1⟩
  case round=>
    obtain ⟨k,hk,rfl,HR,hS,hbw⟩:=hrel
    clear HR0 hS0 hb1
    have hO:=Lib.hid (hb0.out.trans (hbw.out.mono (by omega)))
    by_cases hlt:k<l.length
    · have hT:=Texts.below hl.out hO.out hB
      obtain ⟨b,off,rfl⟩:=SlOf.addr hT (by omega)
      obtain ⟨hb,x,hx,hxs,e0⟩:=texts_el hT hlt
      have hM1:=Lib.hid (hM.out.below hO.out hM.out.lt)
      have hc:=Lib.hid (m_side f n mb ni cap A vc vn vo vg vr va vb x inn wr hM1.out (by unfold Sm;omega))
      have hX1:=Lib.hid ((hbw.out.block w.heap.size (by omega)).trans hX.out)
      have HS:Hid (R=(sideB f ni x inn && !((l.take k).any fun q=>decide (q=x)) && sidesFrom f ni inn (l.take (k+1)) (l.drop (k+1)))):=Lib.hid (by rw [HR.out,drop_at hx,take_snoc hx];rfl)
      obtain ⟨x0,x1,x2,x3,x4,x5,x6,x7,x8⟩:=cells9 hX1.out
      have hlw:Hid (w.heap.size+1<wr.heap.size):=Lib.hid hS.out.lt
      have hxs':x.size≤1000000000000000:=by omega
      clear HR hM1 hX1 hT hX hb0 hM
      cases h1:sideB f ni x inn
      · rw [h1] at hc HS
        have HF:Hid (R=false):=Lib.hid (by rw [HS.out];rfl)
        clear HS hS
        go_wp2_with (go_at_call 130;refine hc.out.mono ?_;intro e w2 hp;obtain ⟨kk,rfl,hk0,hk1,hb2⟩:=code_no hp)
        go_ret
        exact code_bad HF.out hk0 (hO.out.trans (hb2.mono (by have:=hlw.out;omega)))
      rw [h1] at hc HS
      cases h2:(l.take k).any fun q=>decide (q=x)
      case true=>
        have HF:Hid (R=false):=Lib.hid (by rw [HS.out,h2];rfl)
        replace h2:=Lib.hid h2
        clear HS
        go_wp2_with (first
          | (go_at_call 130;refine hc.out.mono ?_;intro e w2 hp;obtain ⟨rfl,hb2⟩:=code_yes hp;clear hp)
          | (at_lookup;refine set_look (hS.out.below hb2 (by have:=hlw.out;omega)) rfl _ _ rfl rfl x rfl hxs' ?_;intro c;rw [h2.out]))
        go_ret
        exact code_bad HF.out (by decide) (hO.out.trans (hb2.mono (by have:=hlw.out;omega)))
      have HF:Hid (R=sidesFrom f ni inn (l.take (k+1)) (l.drop (k+1))):=Lib.hid (by rw [HS.out,h2];rfl)
      have ht:=Lib.hid (take_snoc hx)
      replace h2:=Lib.hid h2
      have hkb:k≤1000000000000000:=by omega
      clear HS hx
      go_wp2_with (first
        | (go_at_call 130;refine hc.out.mono ?_;intro e w2 hp;obtain ⟨rfl,hb2⟩:=code_yes hp;clear hp;have hS2:=Lib.hid (hS.out.below hb2 (by have:=hlw.out;omega));have hbw2:=Lib.hid (hbw.out.trans (hb2.mono (by have:=hlw.out;omega)));clear hb2)
        | (at_lookup;refine set_look hS2.out rfl _ _ rfl rfl x rfl hxs' ?_;intro c;rw [h2.out])
        | (at_mapUpdate;refine set_put hS2.out rfl _ _ _ rfl rfl x rfl hxs' hkb _ rfl (by omega) ?_;intro w3 hS3 hg3;rw [← ht.out] at hS3;have hbw3:=Lib.hid (hbw2.out.trans (below_grow _ hg3 (by have:=hS2.out.lt;omega)));clear hg3))
      go_roundw
      case rel=>exact ⟨k+1,by omega,by go_num,HF,Lib.hid hS3,hbw3⟩
      case measure=>simp [intOf];omega
    · have HF:Hid (R=true):=Lib.hid (by rw [HR.out,drop_end hlt];rfl)
      clear HR
      go_wp2_with fail
      go_ret
      exact code_ok HF.out hO.out
set_option maxHeartbeats 1600000 in
theorem m_find (l : List FieldS) (nm : ByteArray) (v : Value) (B : Nat) (w : World) (h : Fields w B v l) (hB : B ≤ w.heap.size) :
    Calls Tryz.prog 56 #[v, .string nm] w fun e w'=>e=.returned (.int .i64 (findF l nm))∧Below w.heap.size w w':=by
  obtain ⟨A,cap,rfl,hcl,hcap⟩:=SlOf.form h
  have hf:=Lib.hid h
  have HR0:Hid (findF l nm=findFrom nm 0 (l.drop 0)):=Lib.hid rfl
  have hb0:=Lib.hid (Below.refl w.heap.size w)
  generalize findF l nm=R at *
  clear h
  go_enter Tryz.func56,Tryz.ntmps56
  go_wp2_with fail
  go_loopw [5,6,9] (fun _ _ i wr=>∃ k:Nat,k≤l.length∧i=.int .i64 k∧Hid (R=findFrom nm k (l.drop k))∧Hid (Below w.heap.size w wr)) (fun _ _ i _=>l.length-(intOf i).toNat)
  case atStart=>exact ⟨0,Nat.zero_le _,rfl,HR0,hb0⟩
  case round=>
    obtain ⟨k,hk,rfl,HR,hbw⟩:=hrel
    by_cases hlt:k<l.length
    · have hF:=Fields.below hf.out hbw.out hB
      obtain ⟨b,off,rfl⟩:=SlOf.addr hF (by omega)
      obtain ⟨hb,c,x,hx,⟨hc,_⟩,hj⟩:=SlOf.el hF hlt
      subst hc
      have e0:wr.cell? ⟨b,off+k*2,none⟩=some (.string x.name):=hj 0 _ rfl
      have e1:wr.cell? ⟨b,off+k*2+1,none⟩=some (.int .i64 x.bits):=hj 1 _ rfl
      have HS:Hid (R=if x.name=nm then (k:Int) else findFrom nm (k+1) (l.drop (k+1))):=Lib.hid (by rw [HR.out,drop_at hx];rfl)
      have hbw1:=Lib.hid fun o=>hbw.out.alloc hbw.out.size o
      clear HR hj hF hbw hx
      by_cases he:x.name=nm
      · have HF:Hid (R=k):=Lib.hid (by rw [HS.out,if_pos he])
        have hbe:(x.name.toList == nm.toList)=true:=by rw [ba_beq,decide_eq_true he]
        clear HS he
        go_wp2_with fail
        go_ret
        exact ⟨ret_int HF.out.symm,hbw1.out _⟩
      · have HF:Hid (R=findFrom nm (k+1) (l.drop (k+1))):=Lib.hid (by rw [HS.out,if_neg he])
        have hbe:(x.name.toList == nm.toList)=false:=by rw [ba_beq,decide_eq_false he]
        clear HS he
        go_wp2_with fail
        go_roundw
        case rel=>exact ⟨k+1,by omega,by go_num,HF,hbw1.out _⟩
        case measure=>simp [intOf];omega
    · have HF:Hid (R = -1):=Lib.hid (by rw [HR.out,drop_end hlt];rfl)
      clear HR
      go_wp2_with fail
      go_ret
      exact ⟨ret_int HF.out.symm,hbw.out⟩
theorem Texts.len {w:World}{B:Nat}{v:Value}{l:List ByteArray}(h:Texts w B v l):l.length≤140737488355328:=by
  obtain ⟨_,_,_,_,h⟩:=SlOf.form h
  exact h.2
set_option maxHeartbeats 1600000 in
theorem m_port (li lo:List ByteArray)(k:Nat)(vn vi vo vg vr va vb:Value)(B:Nat)(w:World)(hi:Texts w B vi li)(ho:Texts w B vo lo)(hB:B≤w.heap.size)(hk:k<li.length+lo.length) :
    Calls Tryz.prog 58 #[.agg #[vn,vi,vo,vg,vr,va,vb], .int .i64 k] w fun e w'=>∃ x,e=.returned (.string x)∧(li++lo)[k]?=some x∧x.size≤140737488355328∧Below w.heap.size w w':=by
  have l1:=hi.len
  have l2:=ho.len
  obtain ⟨A1,cap1,rfl,hcl1,hcap1⟩:=SlOf.form hi
  obtain ⟨A2,cap2,rfl,hcl2,hcap2⟩:=SlOf.form ho
  obtain ⟨W,hW⟩:∃ W,w.alloc (.cells #[vn, .slice A1 li.length cap1, .slice A2 lo.length cap2,vg,vr,va,vb] 43 (0,0))=W:=⟨_,rfl⟩
  have hb0:=Lib.hid (show Below w.heap.size w W by rw [← hW];exact (Below.refl _ _).alloc (Nat.le_refl _) _)
  have hX:W.heap[w.heap.size]?=some (.cells #[vn, .slice A1 li.length cap1, .slice A2 lo.length cap2,vg,vr,va,vb] 43 (0,0)):=by rw [← hW];exact heap_alloc_new w _
  obtain ⟨_,x1,x2,_,_,_,_⟩:=cells7 hX
  replace hi:=Texts.below hi hb0.out hB
  replace ho:=Texts.below ho hb0.out hB
  clear hX
  by_cases hlt:k<li.length
  · obtain ⟨b,off,rfl⟩:=SlOf.addr hi (by omega)
    obtain ⟨hb,x,hx,hxs,e0⟩:=texts_el hi hlt
    have H:=Lib.hid (show (li++lo)[k]?=some x by rw [List.getElem?_append_left hlt];exact hx)
    have hlt':(k:Int)<(li.length:Int):=by omega
    clear hi ho hx hk hlt
    go_enter Tryz.func58,Tryz.ntmps58
    go_wp2_with fail
    go_ret
    exact ⟨x,rfl,H.out,hxs,hb0.out⟩
  · obtain ⟨b,off,rfl⟩:=SlOf.addr ho (by omega)
    obtain ⟨j,rfl⟩:∃ j,k=li.length+j:=⟨k-li.length,by omega⟩
    obtain ⟨hb,x,hx,hxs,e0⟩:=texts_el ho (k:=j) (by omega)
    have H:=Lib.hid (show (li++lo)[li.length+j]?=some x by rw [List.getElem?_append_right (by omega),Nat.add_sub_cancel_left];exact hx)
    have hj:j<lo.length:=by omega
    have hs1:wrap64 (((li.length+j:Nat):Int)-(li.length:Int))=(j:Int):=by rw [w64 (by omega)];omega
    clear hi ho hx hk hlt
    go_enter Tryz.func58,Tryz.ntmps58
    go_wp2_with fail
    go_ret
    exact ⟨x,rfl,H.out,hxs,hb0.out⟩
end Go.Proofs.YtdhehcobnbcmdaaGreatDoor
