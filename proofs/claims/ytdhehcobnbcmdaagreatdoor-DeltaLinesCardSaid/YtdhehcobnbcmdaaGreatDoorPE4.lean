/- A part of the proof of DeltaLines: Exp4 Exp5. -/
import Derived.Test.YtdhehcobnbcmdaaGreatDoorPE3
import Derived.Test.YtdhehcobnbcmdaaGreatDoorPNw
set_option linter.all false
namespace Go.Proofs.YtdhehcobnbcmdaaGreatDoor
open Go.RowKit
set_option maxHeartbeats 4000000 in
set_option maxRecDepth 100000 in
theorem x_leafT (b:Bool)(w:World):Calls Tryz.prog 295 #[.agg #[.bool b]] w (StrW (Tree.leaf b).text w):=by
  cases b<;>(simp only [Tree.text];go_enter Tryz.func295,Tryz.ntmps295;go_wp2_with fail;go_ret;exact ⟨rfl,(Below.refl w.heap.size w).alloc (Nat.le_refl _) _⟩)
def formT (H A B C Q pt:ByteArray)(fm:Int):ByteArray:=
  if fm=2 then ((H++Q)++ba [47])++C else if fm=3 then ((H++A)++ba [46,46])++B else if fm=4 then (H++ba [37])++pt else H++A
set_option maxHeartbeats 4000000 in
set_option maxRecDepth 100000 in
theorem x_testT (t : TestS) (h : WrT t) (w : World) (E : Env w) : Calls Tryz.prog 289 #[.agg (testV t).toArray] w (StrW (testT t) w) := by
  obtain ⟨W,hW⟩:∃ W,w.alloc (.cells (testV t).toArray 202 (0,0))=W:=⟨_,rfl⟩
  have hbT:=Lib.hid (show Below w.heap.size w W by rw [← hW];exact (Below.refl w.heap.size w).alloc (Nat.le_refl _) _)
  have hX:W.heap[w.heap.size]?=some (.cells (testV t).toArray 202 (0,0)):=by rw [← hW];exact heap_alloc_new w _
  have hl:=(Array.getElem?_eq_some_iff.1 hX).1
  have hEW:=Lib.hid fun w' (hb:Below W.heap.size W w')=>(E.below hbT.out).below hb
  have h1:=isName_le h.nm
  have h2:=opT_le t.op
  have h3:=numT_le h.lo.1.1
  have h4:=numT_le h.hi.1.1
  have h5:=numT_le h.len.1.1
  have h6:=quadL_le (v:=t.lo)
  have h7:t.pat.size≤32:=by
    by_cases hf:t.form=4
    · exact (h.pat4 hf).1.2
    · rw [h.pat hf];omega
  have cS:=Lib.hid (x_signOf t.op h.op)
  have cL:=Lib.hid fun w' (hb:Below W.heap.size W w')=>x_number t.lo h.lo.1.1 h.lo.1.2 w' (hEW.out w' hb)
  have cH:=Lib.hid fun w' (hb:Below W.heap.size W w')=>x_number t.hi h.hi.1.1 h.hi.1.2 w' (hEW.out w' hb)
  have cP:=Lib.hid fun w' (hb:Below W.heap.size W w')=>x_number t.len h.len.1.1 (by have:=h.len.1.2;omega) w' (hEW.out w' hb)
  have cQ:=Lib.hid fun w' (hb:Below W.heap.size W w')=>n_dot t.lo h.lo.1.1 h.lo.1.2 w' (hEW.out w' hb)
  have hform:=h.form
  have hop0:t.form=t.form:=rfl
  have hne:(opT t.op).toList.isEmpty=false:=by
    have:=h.op
    rcases (show t.op=1∨t.op=2∨t.op=3∨t.op=4∨t.op=5∨t.op=6 by omega) with e|e|e|e|e|e<;>(rw [e,ByteArray.toList_eq];rfl)
  clear h E hEW hop0
  have hR:Hid (testT t=formT (t.field++((ba [32]++opT t.op)++ba [32])) (numT t.lo) (numT t.hi) (numT t.len) (ba (quadL t.lo)) t.pat t.form):=Lib.hid rfl
  obtain ⟨tf,op,fm,lo,hi,ln,pt⟩:=t
  simp only [testV] at *
  have z0:=cell_of_row W _ 0 _ _ _ hX
  have z1:=cell_of_row W _ 1 _ _ _ hX
  have z2:=cell_of_row W _ 2 _ _ _ hX
  have z3:=cell_of_row W _ 3 _ _ _ hX
  have z4:=cell_of_row W _ 4 _ _ _ hX
  have z5:=cell_of_row W _ 5 _ _ _ hX
  have z6:=cell_of_row W _ 6 _ _ _ hX
  simp only [List.getElem?_toArray,List.getElem?_cons_zero,List.getElem?_cons_succ] at z0 z1 z2 z3 z4 z5 z6
  generalize testT _=RT at *
  generalize opT op=S at *
  generalize numT lo=A at *
  generalize numT hi=B at *
  generalize numT ln=C at *
  obtain ⟨Q,hQ⟩:∃ Q,Q=ba (quadL lo):=⟨_,rfl⟩
  have h6':Q.size≤15:=by rw [hQ];exact h6
  rw [← hQ] at cQ hR
  clear hQ h6 hX
  rcases (show fm=1∨fm=2∨fm=3∨fm=4 by omega) with rfl|rfl|rfl|rfl
  · replace hR:Hid (RT=(tf++((ba [32]++S)++ba [32]))++A):=hR
    clear cH cP cQ
    go_enter Tryz.func289,Tryz.ntmps289
    go_upto_region 1 with fail
    clear hW
    go_wp2_with (first
      | (go_at_call 290;refine (cS.out _).mono ?_;rintro e w2 ⟨rfl,rfl⟩)
      | (go_at_call 291;refine (cL.out _ (Below.refl _ _)).mono ?_;rintro e w3 ⟨rfl,hb3⟩;have hb4:=Lib.hid (hbT.out.trans (hb3.mono hbT.out.size));clear hb3))
    go_ret
    exact ⟨by rw [hR.out];rfl,hb4.out⟩
  · replace hR:Hid (RT=(((tf++((ba [32]++S)++ba [32]))++Q)++ba [47])++C):=hR
    clear cH cL
    go_enter Tryz.func289,Tryz.ntmps289
    go_upto_region 1 with fail
    clear hW
    go_wp2_with (first
      | (go_at_call 290;refine (cS.out _).mono ?_;rintro e w2 ⟨rfl,rfl⟩)
      | (go_at_call 113;refine (cQ.out _ (Below.refl _ _)).mono ?_;rintro e w3 ⟨rfl,hb3⟩;have hb4:=Lib.hid hb3;have y5:=(hb3.cell (p:=⟨w.heap.size,5,none⟩) hl).trans z5;clear hb3)
      | (go_at_call 291;refine (cP.out _ hb4.out).mono ?_;rintro e w5 ⟨rfl,hb5⟩;have hb6:=Lib.hid (hbT.out.trans ((hb4.out.trans (hb5.mono hb4.out.size)).mono hbT.out.size));clear hb5))
    go_ret
    exact ⟨by rw [hR.out];rfl,hb6.out⟩
  · replace hR:Hid (RT=(((tf++((ba [32]++S)++ba [32]))++A)++ba [46,46])++B):=hR
    clear cP cQ
    go_enter Tryz.func289,Tryz.ntmps289
    go_upto_region 1 with fail
    clear hW
    go_wp2_with (first
      | (go_at_call 290;refine (cS.out _).mono ?_;rintro e w2 ⟨rfl,rfl⟩))
    have hd:=Lib.hid (Below.refl w2.heap.size w2).drew
    have s2:∀ a b:UInt8,(ByteArray.mk #[a,b]).size=2:=fun _ _=>rfl
    have s1:∀ a:UInt8,(ByteArray.mk #[a]).size=1:=fun _=>rfl
    have g1:¬ 9223372036854775807<(tf++(⟨#[32]⟩++S++⟨#[32]⟩)).size+A.size:=by simp only [ByteArray.size_append,s1];omega
    have g2:¬ 9223372036854775807<(tf++(⟨#[32]⟩++S++⟨#[32]⟩)++A).size+(ByteArray.mk #[46,46]).size:=by simp only [ByteArray.size_append,s1,s2];omega
    have g3:¬ 9223372036854775807<(tf++(⟨#[32]⟩++S++⟨#[32]⟩)++A++⟨#[46,46]⟩).size+B.size:=by simp only [ByteArray.size_append,s1,s2];omega
    simp only [ByteArray.size_append,s1,s2] at g1 g2 g3
    clear s1 s2
    go_region_held3 (fun W'=>W'.cell? ⟨w.heap.size,3,none⟩=some (.int .i64 lo)∧W'.cell? ⟨w.heap.size,4,none⟩=some (.int .i64 hi))
      (first|exact hHeld|go_keep|exact ⟨(hbj.cell (p:=⟨w.heap.size,3,none⟩) hl).trans z3,(hbj.cell (p:=⟨w.heap.size,4,none⟩) hl).trans z4⟩|exact ⟨(hbk.cell (p:=⟨w.heap.size,3,none⟩) hl).trans z3,(hbk.cell (p:=⟨w.heap.size,4,none⟩) hl).trans z4⟩)
      ((first
        | (have hbi:=hbk;go_at_call 291;(with_reducible refine (cL.out _ hbi).mono ?_);rintro e wy ⟨rfl,hbB⟩;have hbj:=hbi.trans (hbB.mono hbi.size))
        | (have hbi:=hbk;go_at_call 291;(with_reducible refine (cH.out _ hbi).mono ?_);rintro e wy ⟨rfl,hbB⟩;have hbj:=hbi.trans (hbB.mono hbi.size))
        | (go_at_call 291;(with_reducible refine (cL.out _ hd.out).mono ?_);rintro e wz ⟨rfl,hbA⟩;have hbk:=hd.out.trans (hbA.mono hd.out.size))
        | (go_at_call 291;(with_reducible refine (cH.out _ hd.out).mono ?_);rintro e wz ⟨rfl,hbA⟩;have hbk:=hd.out.trans (hbA.mono hd.out.size))))
    all_goals
      have hF:=Lib.hid (hbT.out.trans (hbj.mono hbT.out.size))
      go_wp2_with fail
      go_ret
      exact ⟨by rw [hR.out];rfl,hF.out⟩
  · replace hR:Hid (RT=((tf++((ba [32]++S)++ba [32]))++ba [37])++pt):=hR
    clear cH cL cP cQ
    go_enter Tryz.func289,Tryz.ntmps289
    go_upto_region 1 with fail
    clear hW
    go_wp2_with (go_at_call 290;refine (cS.out _).mono ?_;rintro e w2 ⟨rfl,rfl⟩)
    go_ret
    exact ⟨by rw [hR.out];rfl,hbT.out⟩
def textF:Tree→FuncId
  | .leaf _=>295
  | .test _=>289
  | .not _=>299
  | .and _ _=>306
  | .or _ _=>312
theorem me_text (t : Tree) : ∃ T x, treeV t = .iface T x ∧ (∀ w, (method 470 T x "reach/expr.text").run Tryz.prog w = .ok (textF t, x) w) ∧ (∀ w, (nilAhead 470 T x "reach/expr.text").run Tryz.prog w = .ok (some false) w) ∧ ∀ w, (callFunc (textF t) #[x]).run Tryz.prog w = .ok (.enter (textF t) #[x]) w := by
  cases t<;>exact ⟨_,_,rfl,fun w=>by kernel_rfl,fun w=>by kernel_rfl,fun w=>by kernel_rfl⟩
def TextIs (t:Tree):Prop:=∀ (x:Value) (w:World),(∃ T,treeV t=.iface T x)→Env w→Calls Tryz.prog (textF t) #[x] w (StrW t.text w)
set_option maxHeartbeats 4000000 in
set_option maxRecDepth 100000 in
theorem x_brT (t:Tree)(h:TextIs t)(hz:t.text.size≤10000)(b:Bool)(w:World)(E:Env w):Calls Tryz.prog 301 #[treeV t, .bool b] w (StrW (brT t.text b) w):=by
  obtain ⟨T,x,hT,hm,hn,hq⟩:=me_text t
  have ci:=Lib.hid (h x w ⟨T,hT⟩ E)
  rw [hT]
  generalize textF t=F at *
  generalize t.text=S at *
  have g1:¬ 9223372036854775807<(ByteArray.mk #[40]).size+S.size:=by rw [show (ByteArray.mk #[40]).size=1 from rfl];omega
  clear h hT E
  cases b
  all_goals
    simp only [brT,if_true,if_false,Bool.false_eq_true]
    go_enter Tryz.func301,Tryz.ntmps301
    go_wp2_with (refine ci.out.mono ?_;rintro e w3 ⟨rfl,hb3⟩;replace hb3:=Lib.hid hb3)
    go_ret
    exact ⟨rfl,hb3.out⟩
theorem sz1 (a:UInt8):(ByteArray.mk #[a]).size=1:=rfl
theorem brT_ge (s:ByteArray)(b:Bool):s.size≤(brT s b).size:=by
  unfold brT
  split
  · simp only [ByteArray.size_append];omega
  · exact Nat.le_refl _
theorem sz3 (a b c:UInt8):(ByteArray.mk #[a,b,c]).size=3:=rfl
set_option maxHeartbeats 4000000 in
set_option maxRecDepth 100000 in
theorem x_notT (t:Tree)(h:TextIs t)(hz:t.text.size≤10000)(w:World)(E:Env w):Calls Tryz.prog 299 #[.agg #[treeV t]] w (StrW (Tree.not t).text w):=by
  have cj:=Lib.hid (x_joined t)
  have cb:=Lib.hid fun b w' hE=>x_brT t h hz b w' hE
  have hN:=Lib.hid (show (Tree.not t).text=ba [33]++brT t.text t.joined from rfl)
  obtain ⟨T,x,hT,_⟩:=me_text t
  have hb2:=brT_le t.text t.joined
  rw [hT] at cj cb ⊢
  clear h hT
  generalize (Tree.not t).text=N at *
  generalize t.joined=j at *
  replace cb:=Lib.hid (cb.out j)
  generalize brT t.text j=R at *
  have g1:¬ 9223372036854775807<(ByteArray.mk #[33]).size+R.size:=by rw [sz1];omega
  simp only [sz1] at g1
  clear hz hb2
  obtain ⟨W,hW⟩:∃ W,w.alloc (.cells #[.iface T x] 230 (0,0))=W:=⟨_,rfl⟩
  have hbT:=Lib.hid (show Below w.heap.size w W by rw [← hW];exact (Below.refl w.heap.size w).alloc (Nat.le_refl _) _)
  have hX:W.heap[w.heap.size]?=some (.cells #[.iface T x] 230 (0,0)):=by rw [← hW];exact heap_alloc_new w _
  have hl:=(Array.getElem?_eq_some_iff.1 hX).1
  have z0:=cell_of_row W _ 0 _ _ _ hX
  simp only [List.getElem?_toArray,List.getElem?_cons_zero,List.getElem?_cons_succ] at z0
  clear hX
  have hE:=Lib.hid fun w' (hb:Below W.heap.size W w')=>(E.below hbT.out).below hb
  clear E
  have hd:=Lib.hid (Below.refl W.heap.size W).drew
  go_enter Tryz.func299,Tryz.ntmps299
  go_upto_region 1 with fail
  clear hW
  go_region_held3 (fun W'=>W'.cell? ⟨w.heap.size,0,none⟩=some (.iface T x))
    (first|exact hHeld|go_keep|exact (hbk.cell (p:=⟨w.heap.size,0,none⟩) hl).trans z0)
    ((first
      | (go_at_call 300;(with_reducible refine (cj.out _).mono ?_);rintro e wy ⟨rfl,rfl⟩)
      | (go_at_call 301;(with_reducible refine (cb.out _ (hE.out _ hd.out)).mono ?_);rintro e wz ⟨rfl,hbA⟩;have hbk:=hd.out.trans (hbA.mono hd.out.size))))
  all_goals
    have hF:=Lib.hid (hbT.out.trans (hbk.mono hbT.out.size))
    go_wp2_with fail
    go_ret
    exact ⟨by rw [hN.out];rfl,hF.out⟩
set_option maxHeartbeats 4000000 in
set_option maxRecDepth 100000 in
theorem x_andT (l r:Tree)(h1:TextIs l)(h2:TextIs r)(hz1:l.text.size≤10000)(hz2:r.text.size≤10000)(w:World)(E:Env w):Calls Tryz.prog 306 #[.agg #[treeV l,treeV r]] w (StrW (Tree.and l r).text w):=by
  have ci:=Lib.hid (x_isOr l)
  have cj:=Lib.hid (x_joined r)
  have cb:=Lib.hid (x_brT l h1 hz1 l.isOr)
  have cr:=Lib.hid (x_brT r h2 hz2 r.joined)
  have hN:=Lib.hid (show (Tree.and l r).text=(brT l.text l.isOr++ba [32,38,32])++brT r.text r.joined from rfl)
  have k1:=brT_le l.text l.isOr
  have k2:=brT_le r.text r.joined
  obtain ⟨T1,x1,hT1,hm,hn,hq⟩:=me_text l
  obtain ⟨T2,x2,hT2,_⟩:=me_text r
  rw [hT1,hT2]
  rw [hT1] at ci cb
  rw [hT2] at cj cr
  clear hm hn hq
  clear h1 h2 hT1 hT2
  generalize (Tree.and l r).text=N at *
  generalize brT l.text l.isOr=L at *
  generalize l.isOr=b1 at *
  generalize brT r.text r.joined=R at *
  generalize r.joined=b2 at *
  have g1:¬ 9223372036854775807<L.size+(ByteArray.mk #[32,38,32]).size:=by rw [sz3];omega
  have g2:¬ 9223372036854775807<(L++ByteArray.mk #[32,38,32]).size+R.size:=by rw [ByteArray.size_append,sz3];omega
  simp only [ByteArray.size_append,sz3] at g1 g2
  clear hz1 hz2 k2 k1
  obtain ⟨W,hW⟩:∃ W,w.alloc (.cells #[.iface T1 x1, .iface T2 x2] 234 (0,0))=W:=⟨_,rfl⟩
  have hbT:=Lib.hid (show Below w.heap.size w W by rw [← hW];exact (Below.refl w.heap.size w).alloc (Nat.le_refl _) _)
  have hX:W.heap[w.heap.size]?=some (.cells #[.iface T1 x1, .iface T2 x2] 234 (0,0)):=by rw [← hW];exact heap_alloc_new w _
  have hl:=(Array.getElem?_eq_some_iff.1 hX).1
  have z0:=cell_of_row W _ 0 _ _ _ hX
  have z1:=cell_of_row W _ 1 _ _ _ hX
  simp only [List.getElem?_toArray,List.getElem?_cons_zero,List.getElem?_cons_succ] at z0 z1
  clear hX
  have hE:=Lib.hid fun w' (hb:Below W.heap.size W w')=>(E.below hbT.out).below hb
  clear E
  have hd:=Lib.hid (Below.refl W.heap.size W).drew
  go_enter Tryz.func306,Tryz.ntmps306
  go_upto_region 1 with fail
  clear hW
  go_region_held3 (fun W'=>W'.cell? ⟨w.heap.size,0,none⟩=some (.iface T1 x1)∧W'.cell? ⟨w.heap.size,1,none⟩=some (.iface T2 x2))
    (first|exact hHeld|go_keep|exact ⟨(hbj.cell (p:=⟨w.heap.size,0,none⟩) hl).trans z0,(hbj.cell (p:=⟨w.heap.size,1,none⟩) hl).trans z1⟩|exact ⟨(hbk.cell (p:=⟨w.heap.size,0,none⟩) hl).trans z0,(hbk.cell (p:=⟨w.heap.size,1,none⟩) hl).trans z1⟩)
    ((first
      | (go_at_call 308;(with_reducible refine (ci.out _).mono ?_);rintro e wy ⟨rfl,rfl⟩)
      | (go_at_call 300;(with_reducible refine (cj.out _).mono ?_);rintro e wy ⟨rfl,rfl⟩)
      | (have hbi:=hbk;go_at_call 301;(with_reducible refine (cb.out _ (hE.out _ hbi)).mono ?_);rintro e wy ⟨rfl,hbB⟩;have hbj:=hbi.trans (hbB.mono hbi.size))
      | (have hbi:=hbk;go_at_call 301;(with_reducible refine (cr.out _ (hE.out _ hbi)).mono ?_);rintro e wy ⟨rfl,hbB⟩;have hbj:=hbi.trans (hbB.mono hbi.size))
      | (go_at_call 301;(with_reducible refine (cb.out _ (hE.out _ hd.out)).mono ?_);rintro e wz ⟨rfl,hbA⟩;have hbk:=hd.out.trans (hbA.mono hd.out.size))
      | (go_at_call 301;(with_reducible refine (cr.out _ (hE.out _ hd.out)).mono ?_);rintro e wz ⟨rfl,hbA⟩;have hbk:=hd.out.trans (hbA.mono hd.out.size))))
  all_goals
    have hF:=Lib.hid (hbT.out.trans (hbj.mono hbT.out.size))
    go_wp2_with fail
    go_ret
    exact ⟨by rw [hN.out];rfl,hF.out⟩
set_option maxHeartbeats 4000000 in
set_option maxRecDepth 100000 in
theorem x_orT (l r:Tree)(h1:TextIs l)(h2:TextIs r)(hz1:l.text.size≤10000)(hz2:r.text.size≤10000)(w:World)(E:Env w):Calls Tryz.prog 312 #[.agg #[treeV l,treeV r]] w (StrW (Tree.or l r).text w):=by
  have cj:=Lib.hid (x_isOr r)
  have cr:=Lib.hid (x_brT r h2 hz2 r.isOr)
  have hN:=Lib.hid (show (Tree.or l r).text=(l.text++ba [32,124,32])++brT r.text r.isOr from rfl)
  have k2:=brT_le r.text r.isOr
  obtain ⟨T1,x1,hT1,hm,hn,hq⟩:=me_text l
  obtain ⟨T2,x2,hT2,_⟩:=me_text r
  have cb:=Lib.hid fun w'=>h1 x1 w' ⟨T1,hT1⟩
  rw [hT1,hT2]
  rw [hT2] at cj cr
  generalize textF l=F at *
  clear h1 h2 hT1 hT2
  generalize (Tree.or l r).text=N at *
  generalize l.text=L at *
  generalize brT r.text r.isOr=R at *
  generalize r.isOr=b2 at *
  have g1:¬ 9223372036854775807<L.size+(ByteArray.mk #[32,124,32]).size:=by rw [sz3];omega
  have g2:¬ 9223372036854775807<(L++ByteArray.mk #[32,124,32]).size+R.size:=by rw [ByteArray.size_append,sz3];omega
  simp only [ByteArray.size_append,sz3] at g1 g2
  clear hz1 hz2 k2
  obtain ⟨W,hW⟩:∃ W,w.alloc (.cells #[.iface T1 x1, .iface T2 x2] 235 (0,0))=W:=⟨_,rfl⟩
  have hbT:=Lib.hid (show Below w.heap.size w W by rw [← hW];exact (Below.refl w.heap.size w).alloc (Nat.le_refl _) _)
  have hX:W.heap[w.heap.size]?=some (.cells #[.iface T1 x1, .iface T2 x2] 235 (0,0)):=by rw [← hW];exact heap_alloc_new w _
  have hl:=(Array.getElem?_eq_some_iff.1 hX).1
  have z0:=cell_of_row W _ 0 _ _ _ hX
  have z1:=cell_of_row W _ 1 _ _ _ hX
  simp only [List.getElem?_toArray,List.getElem?_cons_zero,List.getElem?_cons_succ] at z0 z1
  clear hX
  have hE:=Lib.hid fun w' (hb:Below W.heap.size W w')=>(E.below hbT.out).below hb
  clear E
  have hd:=Lib.hid (Below.refl W.heap.size W).drew
  go_enter Tryz.func312,Tryz.ntmps312
  go_upto_region 1 with fail
  clear hW
  go_region_held3 (fun W'=>W'.cell? ⟨w.heap.size,0,none⟩=some (.iface T1 x1)∧W'.cell? ⟨w.heap.size,1,none⟩=some (.iface T2 x2))
    (first|exact hHeld|go_keep|exact ⟨(hbj.cell (p:=⟨w.heap.size,0,none⟩) hl).trans z0,(hbj.cell (p:=⟨w.heap.size,1,none⟩) hl).trans z1⟩|exact ⟨(hbk.cell (p:=⟨w.heap.size,0,none⟩) hl).trans z0,(hbk.cell (p:=⟨w.heap.size,1,none⟩) hl).trans z1⟩)
    ((first
      | (go_at_call 308;(with_reducible refine (cj.out _).mono ?_);rintro e wy ⟨rfl,rfl⟩)
      | (have hbi:=hbk;(with_reducible refine (cb.out _ (hE.out _ hbi)).mono ?_);rintro e wy ⟨rfl,hbB⟩;have hbj:=hbi.trans (hbB.mono hbi.size))
      | (have hbi:=hbk;go_at_call 301;(with_reducible refine (cr.out _ (hE.out _ hbi)).mono ?_);rintro e wy ⟨rfl,hbB⟩;have hbj:=hbi.trans (hbB.mono hbi.size))
      | ((with_reducible refine (cb.out _ (hE.out _ hd.out)).mono ?_);rintro e wz ⟨rfl,hbA⟩;have hbk:=hd.out.trans (hbA.mono hd.out.size))
      | (go_at_call 301;(with_reducible refine (cr.out _ (hE.out _ hd.out)).mono ?_);rintro e wz ⟨rfl,hbA⟩;have hbk:=hd.out.trans (hbA.mono hd.out.size))))
  all_goals
    have hF:=Lib.hid (hbT.out.trans (hbj.mono hbT.out.size))
    go_wp2_with fail
    go_ret
    exact ⟨by rw [hN.out];rfl,hF.out⟩
theorem text_is:∀ t:Tree,t.All WrT→t.text.size≤10000→TextIs t
  | .leaf b, _, _ => by
    rintro x w ⟨T,hT⟩ E
    injection hT with _ hx
    subst hx
    exact x_leafT b w
  | .test t, h, _ => by
    rintro x w ⟨T,hT⟩ E
    injection hT with _ hx
    subst hx
    exact x_testT t h w E
  | .not t, h, hz => by
    have h1:t.text.size≤10000:=by have:=brT_ge t.text t.joined;simp only [Tree.text,ByteArray.size_append] at hz;omega
    rintro x w ⟨T,hT⟩ E
    injection hT with _ hx
    subst hx
    exact x_notT t (text_is t h h1) h1 w E
  | .and l r, h, hz => by
    have h1:l.text.size≤10000∧r.text.size≤10000:=by have:=brT_ge l.text l.isOr;have:=brT_ge r.text r.joined;simp only [Tree.text,ByteArray.size_append] at hz;omega
    rintro x w ⟨T,hT⟩ E
    injection hT with _ hx
    subst hx
    exact x_andT l r (text_is l h.1 h1.1) (text_is r h.2 h1.2) h1.1 h1.2 w E
  | .or l r, h, hz => by
    have h1:l.text.size≤10000∧r.text.size≤10000:=by have:=brT_ge r.text r.isOr;simp only [Tree.text,ByteArray.size_append] at hz;omega
    rintro x w ⟨T,hT⟩ E
    injection hT with _ hx
    subst hx
    exact x_orT l r (text_is l h.1 h1.1) (text_is r h.2 h1.2) h1.1 h1.2 w E
end Go.Proofs.YtdhehcobnbcmdaaGreatDoor
