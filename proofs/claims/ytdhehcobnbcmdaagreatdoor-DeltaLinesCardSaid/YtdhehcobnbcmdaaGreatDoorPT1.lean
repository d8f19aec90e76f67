/- A part of the proof of DeltaLines: Trn1 Trn2. -/
import Derived.Test.YtdhehcobnbcmdaaGreatDoorPDe
import Derived.Test.YtdhehcobnbcmdaaGreatDoorPMo14
set_option linter.all false
namespace Go.Proofs.YtdhehcobnbcmdaaGreatDoor
open Go.RowKit
section
variable {w:World} {B:Nat}
theorem cellsAt3 {w:World}{g:Nat}{x0 x1 x2:Value}{t:TypeId}{fr:Nat×Nat}(h:w.heap[g]?=some (.cells #[x0,x1,x2] t fr)):w.cell? ⟨g,0,none⟩=some x0∧w.cell? ⟨g,1,none⟩=some x1∧w.cell? ⟨g,2,none⟩=some x2:=cells3' h
set_option maxHeartbeats 2000000 in
theorem s_Link (x y:LinkS)(c d:List Value)(hx:LinkC w B c x)(hy:LinkC w B d y):Calls Tryz.prog 13 #[.agg c.toArray, .agg d.toArray] w (BoolW (eqLink x y) w):=by
  obtain rfl:=hx.1
  obtain rfl:=hy.1
  obtain ⟨W0,hW0⟩:∃ W0,w.alloc (.cells #[.string x.frm, .string x.dst,I6 x.cost] 63 (0,0))=W0:=⟨_,rfl⟩
  have hz0:W0.heap.size=w.heap.size+1:=by rw [← hW0];simp
  obtain ⟨W1,hW1⟩:∃ W1,W0.alloc (.cells #[.string y.frm, .string y.dst,I6 y.cost] 63 (0,0))=W1:=⟨_,rfl⟩
  have hz1:W1.heap.size=w.heap.size+2:=by rw [← hW1];simp [hz0]
  have hb01:=Lib.hid (show Below w.heap.size w W1 by rw [← hW1,← hW0];exact ((Below.refl _ _).alloc (Nat.le_refl _) _).alloc (by simp) _)
  obtain ⟨a0,a1,a2⟩:=cellsAt3 (show W1.heap[w.heap.size]?=some _ by
    rw [← hW1,← hW0]
    exact (((Below.refl (w.alloc _).heap.size (w.alloc _)).alloc (Nat.le_refl _) _).block w.heap.size (by simp)).trans (heap_alloc_new w _))
  obtain ⟨b0,b1,b2⟩:=cellsAt3 (show W1.heap[w.heap.size+1]?=some _ by
    rw [← hW1,← hz0]
    exact heap_alloc_new W0 _)
  have hee:=fun w=>ee_Link x y w
  clear hx hy
  go_enter Tryz.func13,Tryz.ntmps13
  go_wp2_with fail
  go_ret
  exact ⟨rfl,hb01.out⟩
set_option maxHeartbeats 2000000 in
theorem s_Pref (x y:PrefS)(c d:List Value)(hx:PrefC w B c x)(hy:PrefC w B d y):Calls Tryz.prog 35 #[.agg c.toArray, .agg d.toArray] w (BoolW (eqPref x y) w):=by
  obtain rfl:=hx.1
  obtain rfl:=hy.1
  obtain ⟨W0,hW0⟩:∃ W0,w.alloc (.cells #[I6 x.value,I6 x.len, .string x.dst] 79 (0,0))=W0:=⟨_,rfl⟩
  have hz0:W0.heap.size=w.heap.size+1:=by rw [← hW0];simp
  obtain ⟨W1,hW1⟩:∃ W1,W0.alloc (.cells #[I6 y.value,I6 y.len, .string y.dst] 79 (0,0))=W1:=⟨_,rfl⟩
  have hz1:W1.heap.size=w.heap.size+2:=by rw [← hW1];simp [hz0]
  have hb01:=Lib.hid (show Below w.heap.size w W1 by rw [← hW1,← hW0];exact ((Below.refl _ _).alloc (Nat.le_refl _) _).alloc (by simp) _)
  obtain ⟨a0,a1,a2⟩:=cellsAt3 (show W1.heap[w.heap.size]?=some _ by
    rw [← hW1,← hW0]
    exact (((Below.refl (w.alloc _).heap.size (w.alloc _)).alloc (Nat.le_refl _) _).block w.heap.size (by simp)).trans (heap_alloc_new w _))
  obtain ⟨b0,b1,b2⟩:=cellsAt3 (show W1.heap[w.heap.size+1]?=some _ by
    rw [← hW1,← hz0]
    exact heap_alloc_new W0 _)
  have hee:=fun w=>ee_Pref x y w
  clear hx hy
  go_enter Tryz.func35,Tryz.ntmps35
  go_wp2_with fail
  go_ret
  exact ⟨rfl,hb01.out⟩
def eqSlice (x y:SliceS):Bool:=(x.name.toList == y.name.toList) && (eqL eqText x.ports y.ports && eqL eqNode x.whr y.whr)
set_option maxHeartbeats 2000000 in
theorem s_Slice (x y:SliceS)(c d:List Value)(hx:SliceC w B c x)(hy:SliceC w B d y)(hB:B≤w.heap.size):Calls Tryz.prog 18 #[.agg c.toArray, .agg d.toArray] w (BoolW (eqSlice x y) w):=by
  obtain ⟨Ap,cp,Aw,cw,rfl,_,tp,tw⟩:=slice_form hx
  obtain ⟨Dp,dp,Dw,dw,rfl,_,up,uw⟩:=slice_form hy
  obtain ⟨W0,hW0⟩:∃ W0,w.alloc (.cells #[.string x.name, .slice Ap x.ports.length cp, .slice Aw x.whr.length cw] 69 (0,0))=W0:=⟨_,rfl⟩
  have hz0:W0.heap.size=w.heap.size+1:=by rw [← hW0];simp
  obtain ⟨W1,hW1⟩:∃ W1,W0.alloc (.cells #[.string y.name, .slice Dp y.ports.length dp, .slice Dw y.whr.length dw] 69 (0,0))=W1:=⟨_,rfl⟩
  have hz1:W1.heap.size=w.heap.size+2:=by rw [← hW1];simp [hz0]
  have hb01:=Lib.hid (show Below w.heap.size w W1 by rw [← hW1,← hW0];exact ((Below.refl _ _).alloc (Nat.le_refl _) _).alloc (by simp) _)
  have hX:W1.heap[w.heap.size]?=some (.cells #[.string x.name, .slice Ap x.ports.length cp, .slice Aw x.whr.length cw] 69 (0,0)):=by
    rw [← hW1,← hW0]
    exact (((Below.refl (w.alloc _).heap.size (w.alloc _)).alloc (Nat.le_refl _) _).block w.heap.size (by simp)).trans (heap_alloc_new w _)
  have hY:W1.heap[w.heap.size+1]?=some (.cells #[.string y.name, .slice Dp y.ports.length dp, .slice Dw y.whr.length dw] 69 (0,0)):=by
    rw [← hW1,← hz0]
    exact heap_alloc_new W0 _
  obtain ⟨a0,a1,a2⟩:=cellsAt3 hX
  obtain ⟨b0,b1,b2⟩:=cellsAt3 hY
  have hcx:=Lib.hid fun W (hb:Below W1.heap.size W1 W)=>cellsAt3 ((hb.block _ (by omega)).trans hX)
  have hcy:=Lib.hid fun W (hb:Below W1.heap.size W1 W)=>cellsAt3 ((hb.block _ (by omega)).trans hY)
  have hbz:=Lib.hid fun W (hb:Below W1.heap.size W1 W)=>hb01.out.trans (hb.mono (by omega))
  have c1:=Lib.hid fun W (hb:Below W1.heap.size W1 W)=>q_Text x.ports y.ports _ _ _ W (tp.below (hbz.out W hb) hB) (up.below (hbz.out W hb) hB) (hbz.out W hb).size
  have c2:=Lib.hid fun W (hb:Below W1.heap.size W1 W)=>q_Node x.whr y.whr _ _ _ W (tw.below (hbz.out W hb) hB) (uw.below (hbz.out W hb) hB) (hbz.out W hb).size
  have hKeep:=Lib.hid fun W (hb:Below W1.heap.size W1 W)=>(⟨(hcx.out W hb).1,(hcx.out W hb).2.1,(hcx.out W hb).2.2,(hcy.out W hb).1,(hcy.out W hb).2.1,(hcy.out W hb).2.2⟩:W.cell? ⟨w.heap.size,0,none⟩=some (.string x.name)∧W.cell? ⟨w.heap.size,1,none⟩=some (.slice Ap x.ports.length cp)∧W.cell? ⟨w.heap.size,2,none⟩=some (.slice Aw x.whr.length cw)∧W.cell? ⟨w.heap.size+1,0,none⟩=some (.string y.name)∧W.cell? ⟨w.heap.size+1,1,none⟩=some (.slice Dp y.ports.length dp)∧W.cell? ⟨w.heap.size+1,2,none⟩=some (.slice Dw y.whr.length dw))
  have hd:=Lib.hid (Below.refl W1.heap.size W1).drew
  have hd0:=Lib.hid (Below.refl W1.heap.size W1)
  have hR:Hid (eqSlice x y=((x.name.toList == y.name.toList) && (eqL eqText x.ports y.ports && eqL eqNode x.whr y.whr))):=Lib.hid rfl
  generalize eqSlice x y=R at *
  clear hx hy hX hY tp tw up uw
  by_cases hn:x.name.toList=y.name.toList
  case neg=>
    have hn1:(x.name.toList == y.name.toList)=false:=beq_eq_false_iff_ne.2 hn
    have HF:=Lib.hid (show R=false by rw [hR.out,hn1];rfl)
    clear c1 c2
    go_enter Tryz.func18,Tryz.ntmps18
    go_wp2_with fail
    go_ret
    exact ⟨by rw [HF.out];rfl,hbz.out _ hd0.out⟩
  have hn1:(x.name.toList == y.name.toList)=true:=beq_iff_eq.2 hn
  rw [hn1,Bool.true_and] at hR
  go_enter Tryz.func18,Tryz.ntmps18
  cases hp:eqL eqText x.ports y.ports
  · rw [hp] at hR c1
    have HF:=Lib.hid (show R=false from hR.out)
    clear c2
    go_wp2_with (go_at_call 51;(with_reducible refine (c1.out _ hd0.out).mono ?_);rintro e wy ⟨rfl,hbB⟩)
    go_ret
    exact ⟨by rw [HF.out];rfl,hbz.out _ hbB⟩
  · rw [hp,Bool.true_and] at hR
    rw [hp] at c1
    go_wp2_with (first
      | (go_at_call 52;(with_reducible refine (c2.out _ hbB).mono ?_);rintro e wz ⟨rfl,hbC⟩;have hbD:=hbB.trans (hbC.mono hbB.size))
      | (go_at_call 51;(with_reducible refine (c1.out _ hd0.out).mono ?_);rintro e wy ⟨rfl,hbB⟩;obtain ⟨a0,a1,a2,b0,b1,b2⟩:=hKeep.out _ hbB))
    go_ret
    exact ⟨by rw [hR.out];rfl,hbz.out _ hbD⟩
end
def RuleD (w:World)(B:Nat)(c:List Value)(x:RuleS):Prop:=RuleC w B c x∧x.frm.length≤100000
theorem RuleD.keep {w w':World}{B B':Nat}{c:List Value}{x:RuleS}(h:RuleD w B c x)(hB:B≤B')(hk:∀ b o,b<B→w'.cell? ⟨b,o,none⟩=w.cell? ⟨b,o,none⟩):RuleD w' B' c x:=⟨h.1.keep hB hk,h.2⟩
section
variable {w:World} {B:Nat}
def eqRule (un:List ByteArray→List ByteArray→Bool)(x y:RuleS):Bool:=(x.prio == y.prio) && (un x.frm y.frm && (eqL eqNode x.mat y.mat && (eqL eqSet x.sets y.sets && eqL eqText x.dst y.dst)))
def UnordP (un:List ByteArray→List ByteArray→Bool):Prop:=∀ (l m:List ByteArray) (v u:Value) (B:Nat) (w:World),l.length≤100000→m.length≤100000→Texts w B v l→Texts w B u m→B≤w.heap.size→Calls Tryz.prog 70 #[v,u] w (BoolW (un l m) w)
set_option maxHeartbeats 4000000 in
set_option maxRecDepth 100000 in
theorem s_Rule (un:List ByteArray→List ByteArray→Bool)(hU:UnordP un)(x y:RuleS)(c d:List Value)(hx:RuleC w B c x)(hy:RuleC w B d y)(hB:B≤w.heap.size)(n1:x.frm.length≤100000)(n2:y.frm.length≤100000):Calls Tryz.prog 31 #[.agg c.toArray, .agg d.toArray] w (BoolW (eqRule un x y) w):=by
  obtain ⟨Af,cf,Am,cm,As,cs,At,ct,rfl,tf,tm,ts,tt⟩:=rule_form hx
  obtain ⟨Df,df,Dm,dm,Ds,ds,Dt,dt,rfl,uf,um,us,ut⟩:=rule_form hy
  obtain ⟨W0,hW0⟩:∃ W0,w.alloc (.cells #[I6 x.prio, .slice Af x.frm.length cf, .slice Am x.mat.length cm, .slice As x.sets.length cs, .slice At x.dst.length ct] 51 (0,0))=W0:=⟨_,rfl⟩
  have hz0:W0.heap.size=w.heap.size+1:=by rw [← hW0];simp
  obtain ⟨W1,hW1⟩:∃ W1,W0.alloc (.cells #[I6 y.prio, .slice Df y.frm.length df, .slice Dm y.mat.length dm, .slice Ds y.sets.length ds, .slice Dt y.dst.length dt] 51 (0,0))=W1:=⟨_,rfl⟩
  have hz1:W1.heap.size=w.heap.size+2:=by rw [← hW1];simp [hz0]
  have hb01:=Lib.hid (show Below w.heap.size w W1 by rw [← hW1,← hW0];exact ((Below.refl _ _).alloc (Nat.le_refl _) _).alloc (by simp) _)
  have hX:W1.heap[w.heap.size]?=some (.cells #[I6 x.prio, .slice Af x.frm.length cf, .slice Am x.mat.length cm, .slice As x.sets.length cs, .slice At x.dst.length ct] 51 (0,0)):=by
    rw [← hW1,← hW0]
    exact (((Below.refl (w.alloc _).heap.size (w.alloc _)).alloc (Nat.le_refl _) _).block w.heap.size (by simp)).trans (heap_alloc_new w _)
  have hY:W1.heap[w.heap.size+1]?=some (.cells #[I6 y.prio, .slice Df y.frm.length df, .slice Dm y.mat.length dm, .slice Ds y.sets.length ds, .slice Dt y.dst.length dt] 51 (0,0)):=by
    rw [← hW1,← hz0]
    exact heap_alloc_new W0 _
  have hcx:=Lib.hid fun W (hb:Below W1.heap.size W1 W)=>cells5 ((hb.block _ (by omega)).trans hX)
  have hcy:=Lib.hid fun W (hb:Below W1.heap.size W1 W)=>cells5 ((hb.block _ (by omega)).trans hY)
  have hbz:=Lib.hid fun W (hb:Below W1.heap.size W1 W)=>hb01.out.trans (hb.mono (by omega))
  have c0:=Lib.hid fun W (hb:Below W1.heap.size W1 W)=>hU x.frm y.frm _ _ _ W n1 n2 (tf.below (hbz.out W hb) hB) (uf.below (hbz.out W hb) hB) (hbz.out W hb).size
  have c1:=Lib.hid fun W (hb:Below W1.heap.size W1 W)=>q_Node x.mat y.mat _ _ _ W (tm.below (hbz.out W hb) hB) (um.below (hbz.out W hb) hB) (hbz.out W hb).size
  have c2:=Lib.hid fun W (hb:Below W1.heap.size W1 W)=>q_Set x.sets y.sets _ _ _ W (pureSl ts hB (keepB (hbz.out W hb) hB)) (pureSl us hB (keepB (hbz.out W hb) hB)) (hbz.out W hb).size
  have c3:=Lib.hid fun W (hb:Below W1.heap.size W1 W)=>q_Text x.dst y.dst _ _ _ W (tt.below (hbz.out W hb) hB) (ut.below (hbz.out W hb) hB) (hbz.out W hb).size
  have hKeep:=Lib.hid fun W (hb:Below W1.heap.size W1 W)=>(⟨(hcx.out W hb).1,(hcx.out W hb).2.1,(hcx.out W hb).2.2.1,(hcx.out W hb).2.2.2.1,(hcx.out W hb).2.2.2.2,(hcy.out W hb).1,(hcy.out W hb).2.1,(hcy.out W hb).2.2.1,(hcy.out W hb).2.2.2.1,(hcy.out W hb).2.2.2.2⟩:W.cell? ⟨w.heap.size,0,none⟩=some (I6 x.prio)∧W.cell? ⟨w.heap.size,1,none⟩=some (.slice Af x.frm.length cf)∧W.cell? ⟨w.heap.size,2,none⟩=some (.slice Am x.mat.length cm)∧W.cell? ⟨w.heap.size,3,none⟩=some (.slice As x.sets.length cs)∧W.cell? ⟨w.heap.size,4,none⟩=some (.slice At x.dst.length ct)∧W.cell? ⟨w.heap.size+1,0,none⟩=some (I6 y.prio)∧W.cell? ⟨w.heap.size+1,1,none⟩=some (.slice Df y.frm.length df)∧W.cell? ⟨w.heap.size+1,2,none⟩=some (.slice Dm y.mat.length dm)∧W.cell? ⟨w.heap.size+1,3,none⟩=some (.slice Ds y.sets.length ds)∧W.cell? ⟨w.heap.size+1,4,none⟩=some (.slice Dt y.dst.length dt))
  have hd0:=Lib.hid (Below.refl W1.heap.size W1)
  obtain ⟨a0,a1,a2,a3,a4,b0,b1,b2,b3,b4⟩:=hKeep.out _ hd0.out
  have hR:Hid (eqRule un x y=((x.prio == y.prio) && (un x.frm y.frm && (eqL eqNode x.mat y.mat && (eqL eqSet x.sets y.sets && eqL eqText x.dst y.dst))))):=Lib.hid rfl
  generalize eqRule un x y=R at *
  clear hx hy hX hY tf tm ts tt uf um us ut hU
  by_cases hn:x.prio=y.prio
  case neg=>
    have hn1:(x.prio == y.prio)=false:=beq_eq_false_iff_ne.2 hn
    have HF:=Lib.hid (show R=false by rw [hR.out,hn1];rfl)
    clear c0 c1 c2 c3
    go_enter Tryz.func31,Tryz.ntmps31
    go_wp2_with fail
    go_ret
    exact ⟨by rw [HF.out];rfl,hbz.out _ hd0.out⟩
  have hn1:(x.prio == y.prio)=true:=beq_iff_eq.2 hn
  rw [hn1,Bool.true_and] at hR
  clear hn
  go_enter Tryz.func31,Tryz.ntmps31
  cases h0:un x.frm y.frm
  · rw [h0] at hR c0
    have HF:=Lib.hid (show R=false from hR.out)
    clear c1 c2 c3
    go_wp2_with (go_at_call 70;(with_reducible refine (c0.out _ hd0.out).mono ?_);rintro e z0 ⟨rfl,j0⟩;have k0:=hd0.out.trans (j0.mono hd0.out.size))
    go_ret
    exact ⟨by rw [HF.out];rfl,hbz.out _ k0⟩
  rw [h0,Bool.true_and] at hR
  rw [h0] at c0
  cases h1:eqL eqNode x.mat y.mat
  · rw [h1] at hR c1
    have HF:=Lib.hid (show R=false from hR.out)
    clear c2 c3
    go_wp2_with (first
      | (go_at_call 52;(with_reducible refine (c1.out _ k0).mono ?_);rintro e z1 ⟨rfl,j1⟩;have k1:=k0.trans (j1.mono k0.size))
      | (go_at_call 70;(with_reducible refine (c0.out _ hd0.out).mono ?_);rintro e z0 ⟨rfl,j0⟩;have k0:=hd0.out.trans (j0.mono hd0.out.size);obtain ⟨a0,a1,a2,a3,a4,b0,b1,b2,b3,b4⟩:=hKeep.out _ k0))
    go_ret
    exact ⟨by rw [HF.out];rfl,hbz.out _ k1⟩
  rw [h1,Bool.true_and] at hR
  rw [h1] at c1
  cases h2:eqL eqSet x.sets y.sets
  · rw [h2] at hR c2
    have HF:=Lib.hid (show R=false from hR.out)
    clear c3
    go_wp2_with (first
      | (go_at_call 71;(with_reducible refine (c2.out _ k1).mono ?_);rintro e z2 ⟨rfl,j2⟩;have k2:=k1.trans (j2.mono k1.size))
      | (go_at_call 52;(with_reducible refine (c1.out _ k0).mono ?_);rintro e z1 ⟨rfl,j1⟩;have k1:=k0.trans (j1.mono k0.size);obtain ⟨a0,a1,a2,a3,a4,b0,b1,b2,b3,b4⟩:=hKeep.out _ k1)
      | (go_at_call 70;(with_reducible refine (c0.out _ hd0.out).mono ?_);rintro e z0 ⟨rfl,j0⟩;have k0:=hd0.out.trans (j0.mono hd0.out.size);obtain ⟨a0,a1,a2,a3,a4,b0,b1,b2,b3,b4⟩:=hKeep.out _ k0))
    go_ret
    exact ⟨by rw [HF.out];rfl,hbz.out _ k2⟩
  rw [h2,Bool.true_and] at hR
  rw [h2] at c2
  go_wp2_with (first
    | (go_at_call 51;(with_reducible refine (c3.out _ k2).mono ?_);rintro e z3 ⟨rfl,j3⟩;have k3:=k2.trans (j3.mono k2.size))
    | (go_at_call 71;(with_reducible refine (c2.out _ k1).mono ?_);rintro e z2 ⟨rfl,j2⟩;have k2:=k1.trans (j2.mono k1.size);obtain ⟨a0,a1,a2,a3,a4,b0,b1,b2,b3,b4⟩:=hKeep.out _ k2)
    | (go_at_call 52;(with_reducible refine (c1.out _ k0).mono ?_);rintro e z1 ⟨rfl,j1⟩;have k1:=k0.trans (j1.mono k0.size);obtain ⟨a0,a1,a2,a3,a4,b0,b1,b2,b3,b4⟩:=hKeep.out _ k1)
    | (go_at_call 70;(with_reducible refine (c0.out _ hd0.out).mono ?_);rintro e z0 ⟨rfl,j0⟩;have k0:=hd0.out.trans (j0.mono hd0.out.size);obtain ⟨a0,a1,a2,a3,a4,b0,b1,b2,b3,b4⟩:=hKeep.out _ k0))
  go_ret
  exact ⟨by rw [hR.out];rfl,hbz.out _ k3⟩
end
end Go.Proofs.YtdhehcobnbcmdaaGreatDoor
