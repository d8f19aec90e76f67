/- A part of the proof of RunParses: TraS TraT TraU TraV. -/
import Derived.Test.YtjokciofeicdkaaGreatDoorPW
import Derived.Test.YtjokciofeicdkaaGreatDoorPV
import Derived.Test.YtjokciofeicdkaaGreatDoorPT
set_option maxHeartbeats 16000000
set_option maxRecDepth 100000
set_option linter.all false
namespace Go.Proofs.YtjokciofeicdkaaGreatDoor
open Go.RowKit
attribute [local go_sem ↓] Go.wp_at_zero Go.wp_at_succ
structure EmIH (n:Nat):Prop where
 suf:∀ {w:World} {F:Nat→Prop} {u:Value} {c:UInt8} {m B k:Nat} {v:Value} {xs:List Value},(∀ b,F b→b<B)→B≤w.heap.size→m+1≤n→c.toNat<128→Forest w F [u] m→w.ownsRow B 274 4 v k xs→k+4*(m+1)≤900000→Calls Tryz.prog 267 #[.agg #[u,.int .u8 c.toNat],v] w fun e w'=>EmPost w B v k (m+1) e w'
 seq:∀ {w:World} {F:Nat→Prop} {u:Value} {us:List Value} {m B k:Nat} {v:Value} {xs:List Value},(∀ b,F b→b<B)→B≤w.heap.size→m+1≤n→RowIn w F u us→Forest w F us m→w.ownsRow B 274 4 v k xs→k+4*(m+1)≤900000→Calls Tryz.prog 274 #[u,v] w fun e w'=>EmPost w B v k (m+1) e w'
 cho:∀ {w:World} {F:Nat→Prop} {u:Value} {us:List Value} {m B k:Nat} {v:Value} {xs:List Value},(∀ b,F b→b<B)→B≤w.heap.size→m+1≤n→RowIn w F u us→Forest w F us m→w.ownsRow B 274 4 v k xs→k+4*(m+1)≤900000→Calls Tryz.prog 284 #[u,v] w fun e w'=>EmPost w B v k (m+1) e w'
theorem code_cell {w:World}{B g n cap j:Nat}{xs:List Value}(h:w.ownsRow B 274 4 (.slice (some ⟨g,0,none⟩) n cap) n xs)(hj:j<n*4):∃ u,w.cell? ⟨g,j,none⟩=some u:=by
 rw [h.cellAt j hj];exact ⟨xs[j]'(by rw [h.1];exact hj),List.getElem?_eq_getElem _⟩
theorem EmTo.keep {w w':World}{B n n':Nat}{v v':Value}(h:EmTo w w' B v v' n n'){b:Nat}(hb:b<w.heap.size)(hn:v.ownBlock≠some b):w'.heap[b]?=w.heap[b]?:=h.grown.block b hb fun e=>hn e.symm
theorem t_emit_suf {n:Nat}(ih:EmIH n){w:World}{F:Nat→Prop}{u:Value}{c:UInt8}{m B N:Nat}{v:Value}{xs:List Value}(hFB:∀ b,F b→b<B)(hB:B≤w.heap.size)(hm:m≤n)(hu:Forest w F [u] m)(hv:w.ownsRow B 274 4 v N xs)(hN:N+4*(m+1)≤900000) :
  Calls Tryz.prog 267 #[.agg #[u,.int .u8 c.toNat],v] w fun e w'=>EmPost w B v N (m+1) e w':=by
 obtain ⟨i0,hi0,hz0,hz1,hz2⟩:=info_parts step_info;have hi0:=Hi hi0;have hz0:=Hi hz0;have hz1:=Hi hz1;have hz2:=Hi hz2;have hK:=hu.kind;have ih:=Hi ih;obtain ⟨A,cv,rfl⟩:=own_shape hv;obtain ⟨wa,hwa⟩:∃ wa,w.alloc (.cells #[u,.int .u8 c.toNat] 282 (0,0))=wa:=⟨_,rfl⟩
 have hba:Below w.heap.size w wa:=by rw [← hwa];exact (Below.refl _ w).alloc (Nat.le_refl _) _
 have hza:wa.heap[w.heap.size]?=some (.cells #[u,.int .u8 c.toNat] 282 (0,0)):=by rw [← hwa];exact heap_alloc_new w _
 have z0:=cell_of_row wa w.heap.size 0 _ _ _ hza;have z1:=cell_of_row wa w.heap.size 1 _ _ _ hza;simp only [List.getElem?_toArray,List.getElem?_cons_zero,List.getElem?_cons_succ] at z0 z1;have hXl:=(Array.getElem?_eq_some_iff.1 hza).1;have hvX:(Value.slice A N cv).ownBlock≠some w.heap.size:=fun e=>by have:=(hv.lt _ e).2;omega
 have hFw:∀ b,F b→wa.heap[b]?=w.heap[b]?:=fun b hb=>hba.block b (Nat.lt_of_lt_of_le (hFB b hb) hB)
 have E1:=Hi (EmTo.below hv hba);have ov:wa.ownsRow B 274 4 (.slice A N cv) N xs:=own_below hv hba;have hBa:B≤wa.heap.size:=Nat.le_trans hB hba.size;have hul:=hu.len;have hza:=Hi hza;have ov:=Hi ov;have hvX:=Hi hvX;have hm1:1≤m:=by cases hK<;>omega
 clear hu hv hba
 cases hK with
 | leaf t a b d=>
   have cE:=Hi (fun (W:World) (V:Value) (M:Nat) (ys:List Value) (hV:W.ownsRow B 274 4 V M ys) (hBW:B≤W.heap.size) (hW:∀ b,F b→W.heap[b]?=wa.heap[b]?) (hM:M≤N+1)=>(show Calls Tryz.prog 270 #[.agg #[.string t,.bool a,.bool b,.bool d],V] W fun e w'=>EmPost W B V M (t.size+2) e w' from t_emit_leaf t a b d hV hBW (by omega)))
   have bwN:=wS N (by omega)
   by_cases h43:c.toNat=43
   ·have d43:((c.toNat:Int) == 43)=true:=by rw [h43];rfl
    have cc:=Hi (cE.out wa _ N xs ov.out hBa (fun _ _=>rfl) (Nat.le_succ N))
    clear h43 cE hFw;go_enter Tryz.func267,Tryz.ntmps267;go_wp2_with fail;refine cc.out.mono ?_;rintro e w2 ⟨v2,n2,rfl,E2,hn2⟩;obtain ⟨xs2,o2⟩:=E2.own;obtain ⟨A2,c2,rfl⟩:=own_shape o2;have le2:=E2.le;have hs2:=E2.grown.size;have ov2:=Hi o2;have E3:=Hi (E1.out.trans E2);have bw2:=wS n2 (by omega)
    clear E2 o2 z0 z1
    by_cases hnn:n2=N
    ·subst hnn;go_wp2_with fail;go_ret;exact ⟨_,n2,rfl,E3.out,by omega⟩
    ·have bnn:((n2:Int) == (N:Int))=false:=by rw [beq_eq_false_iff_ne];omega
     clear hnn;go_wp2_with (at_builtin;refine wpList_append_lies _ rfl (.tmp 22) (.tmp 27) _ rfl B 274 i0 _ 4 32 Tryz.underlying269 hi0.out hz0.out hz1.out hz2.out rfl (by decide) (.slice A2 n2 c2) n2 xs2 rfl (World.ownsRow.alloc ov2.out _) ⟨w2.heap.size,0,none⟩ 1 1 [.nilFunc,.int .i64 N,.int .i64 ((n2:Int)+1),.bool false] rfl rfl (World.news_of_block (heap_alloc_new w2 _)) (oc _ rfl) (by decide) (by unfold maxLen;omega) (by omega) (by simp;omega) (w2.heap.size+1) (by simp) ?_;intro g5 cap5 w4 hown4 hg4 hat4 hlt4;have hown5:=Hi hown4;have hg5:=Hi hg4;have hat5:=Hi hat4;clear hown4 hg4 hat4)
     go_ret;exact ⟨_,n2+1,rfl,E3.out.trans (EmTo.push hg5.out hown5.out hat5.out),by omega⟩
   ·have d43:((c.toNat:Int) == 43)=false:=by rw [beq_eq_false_iff_ne];omega
    clear h43;go_enter Tryz.func267,Tryz.ntmps267;go_upto_region 9 with (at_builtin;refine wpList_append_lies _ rfl (.tmp 29) (.tmp 33) _ rfl B 274 i0 _ 4 32 Tryz.underlying269 hi0.out hz0.out hz1.out hz2.out rfl (by decide) (.slice A N cv) N xs rfl (World.ownsRow.alloc ov.out _) ⟨wa.heap.size,0,none⟩ 1 1 [.nilFunc,.int .i64 ((N:Int)+1),.int .i64 0,.bool false] rfl rfl (World.news_of_block (heap_alloc_new wa _)) (oc _ rfl) (by decide) (by unfold maxLen;omega) (by omega) (by simp;omega) (wa.heap.size+1) (by simp) ?_;intro g5 cap5 w4 hown4 hg4 hat4 hlt4;have hown5:=Hi hown4;have hg5:=Hi hg4;have hat5:=Hi hat4;clear hown4 hg4 hat4)
    have E2:=EmTo.push hg5.out hown5.out hat5.out;have s4:=E2.grown.size;have hF4:∀ b,F b→w4.heap[b]?=wa.heap[b]?:=fun b hb=>E2.block ov.out (Nat.lt_of_lt_of_le (hFB b hb) hBa) (hFB b hb)
    have cc:=Hi (cE.out w4 _ (N+1) _ hown5.out (Nat.le_trans hBa s4) hF4 (Nat.le_refl _));have e4:=E2.keep hXl hvX.out;have z0':=(World.cell?_of_block (a:=⟨w.heap.size,0,none⟩) e4).trans z0;have E2:=Hi E2;clear cE hFw hF4 hg5 hown5 hat5 z0 e4;go_wp2_with fail;refine cc.out.mono ?_;rintro e w2 ⟨v2,n2,rfl,E3,hn2⟩;have E3:=E2.out.trans E3;obtain ⟨xs2,o2⟩:=E3.own;have le2:=E3.le;have hs2:=E3.grown.size;have e4:=E3.keep hXl hvX.out;have z1:=(World.cell?_of_block (a:=⟨w.heap.size,1,none⟩) e4).trans z1;have E4:=Hi (E1.out.trans E3);have le3:N+1≤n2:=by obtain ⟨_,_,_,h⟩:=‹EmTo w4 w2 B _ _ (N+1) n2›;exact h
    clear E3 e4 z0' cc;obtain ⟨gg,c2,rfl⟩:=Go.Joins.ownsRow_form o2 (by omega)
    have ov2:=Hi o2;have b0:(0:Int)≤(N:Int):=by omega
    by_cases h42:c.toNat=42
    ·have d42:((c.toNat:Int) == 42)=true:=by rw [h42];rfl
     clear h42;go_upto_region 12 with (at_builtin;refine wpList_append_lies _ rfl (.tmp 42) (.tmp 45) _ rfl B 274 i0 _ 4 32 Tryz.underlying269 hi0.out hz0.out hz1.out hz2.out rfl (by decide) (.slice (some ⟨gg,0,none⟩) n2 c2) n2 xs2 rfl (World.ownsRow.alloc ov2.out _) ⟨w2.heap.size,0,none⟩ 1 1 [.nilFunc,.int .i64 N,.int .i64 0,.bool false] rfl rfl (World.news_of_block (heap_alloc_new w2 _)) (oc _ rfl) (by decide) (by unfold maxLen;omega) (by omega) (by simp;omega) (w2.heap.size+1) (by simp) ?_;intro g7 cap7 w6 hown4 hg4 hat4 hlt4;have hown7:=Hi hown4;have hg7:=Hi hg4;have hat7:=Hi hat4;clear hown4 hg4 hat4)
     have E5:=Hi (E4.out.trans (EmTo.push hg7.out hown7.out hat7.out));obtain ⟨q,hq⟩:=code_cell hown7.out (show N*4+2<(n2+1)*4 by omega)
     have hfz:=hown7.out.frozenAt (N*4+2);have b1:(N:Int)<(n2:Int)+1:=by omega
     clear z1 hg7 hat7;go_wp2_with fail;go_ret;exact ⟨_,n2+1,rfl,E5.out.trans (EmTo.store hown7.out),by omega⟩
    ·have d42:((c.toNat:Int) == 42)=false:=by rw [beq_eq_false_iff_ne];omega
     clear h42;obtain ⟨q,hq⟩:=code_cell ov2.out (show N*4+2<n2*4 by omega)
     have hfz:=ov2.out.frozenAt (N*4+2);have b1:(N:Int)<(n2:Int):=by omega
     go_wp2_with fail;go_ret;exact ⟨_,n2,rfl,E4.out.trans (EmTo.store ov2.out),by omega⟩
 | suf u2 d k hd hv2=>
   have cE:=Hi (fun (W:World) (V:Value) (M:Nat) (ys:List Value) (hV:W.ownsRow B 274 4 V M ys) (hBW:B≤W.heap.size) (hW:∀ b,F b→W.heap[b]?=wa.heap[b]?) (hM:M≤N+1)=>(show Calls Tryz.prog 267 #[.agg #[u2,.int .u8 d.toNat],V] W fun e w'=>EmPost W B V M (k+1) e w' from ih.out.suf hFB hBW (by omega) hd (hv2.up (fun _ h=>h) (fun b hb=>(hW b hb).trans (hFw b hb))) hV (by omega)))
   have bwN:=wS N (by omega)
   by_cases h43:c.toNat=43
   ·have d43:((c.toNat:Int) == 43)=true:=by rw [h43];rfl
    have cc:=Hi (cE.out wa _ N xs ov.out hBa (fun _ _=>rfl) (Nat.le_succ N))
    clear h43 cE hFw;go_enter Tryz.func267,Tryz.ntmps267;go_wp2_with fail;refine cc.out.mono ?_;rintro e w2 ⟨v2,n2,rfl,E2,hn2⟩;obtain ⟨xs2,o2⟩:=E2.own;obtain ⟨A2,c2,rfl⟩:=own_shape o2;have le2:=E2.le;have hs2:=E2.grown.size;have ov2:=Hi o2;have E3:=Hi (E1.out.trans E2);have bw2:=wS n2 (by omega)
    clear E2 o2 z0 z1
    by_cases hnn:n2=N
    ·subst hnn;go_wp2_with fail;go_ret;exact ⟨_,n2,rfl,E3.out,by omega⟩
    ·have bnn:((n2:Int) == (N:Int))=false:=by rw [beq_eq_false_iff_ne];omega
     clear hnn;go_wp2_with (at_builtin;refine wpList_append_lies _ rfl (.tmp 22) (.tmp 27) _ rfl B 274 i0 _ 4 32 Tryz.underlying269 hi0.out hz0.out hz1.out hz2.out rfl (by decide) (.slice A2 n2 c2) n2 xs2 rfl (World.ownsRow.alloc ov2.out _) ⟨w2.heap.size,0,none⟩ 1 1 [.nilFunc,.int .i64 N,.int .i64 ((n2:Int)+1),.bool false] rfl rfl (World.news_of_block (heap_alloc_new w2 _)) (oc _ rfl) (by decide) (by unfold maxLen;omega) (by omega) (by simp;omega) (w2.heap.size+1) (by simp) ?_;intro g5 cap5 w4 hown4 hg4 hat4 hlt4;have hown5:=Hi hown4;have hg5:=Hi hg4;have hat5:=Hi hat4;clear hown4 hg4 hat4)
     go_ret;exact ⟨_,n2+1,rfl,E3.out.trans (EmTo.push hg5.out hown5.out hat5.out),by omega⟩
   ·have d43:((c.toNat:Int) == 43)=false:=by rw [beq_eq_false_iff_ne];omega
    clear h43;go_enter Tryz.func267,Tryz.ntmps267;go_upto_region 9 with (at_builtin;refine wpList_append_lies _ rfl (.tmp 29) (.tmp 33) _ rfl B 274 i0 _ 4 32 Tryz.underlying269 hi0.out hz0.out hz1.out hz2.out rfl (by decide) (.slice A N cv) N xs rfl (World.ownsRow.alloc ov.out _) ⟨wa.heap.size,0,none⟩ 1 1 [.nilFunc,.int .i64 ((N:Int)+1),.int .i64 0,.bool false] rfl rfl (World.news_of_block (heap_alloc_new wa _)) (oc _ rfl) (by decide) (by unfold maxLen;omega) (by omega) (by simp;omega) (wa.heap.size+1) (by simp) ?_;intro g5 cap5 w4 hown4 hg4 hat4 hlt4;have hown5:=Hi hown4;have hg5:=Hi hg4;have hat5:=Hi hat4;clear hown4 hg4 hat4)
    have E2:=EmTo.push hg5.out hown5.out hat5.out;have s4:=E2.grown.size;have hF4:∀ b,F b→w4.heap[b]?=wa.heap[b]?:=fun b hb=>E2.block ov.out (Nat.lt_of_lt_of_le (hFB b hb) hBa) (hFB b hb)
    have cc:=Hi (cE.out w4 _ (N+1) _ hown5.out (Nat.le_trans hBa s4) hF4 (Nat.le_refl _));have e4:=E2.keep hXl hvX.out;have z0':=(World.cell?_of_block (a:=⟨w.heap.size,0,none⟩) e4).trans z0;have E2:=Hi E2;clear cE hFw hF4 hg5 hown5 hat5 z0 e4;go_wp2_with fail;refine cc.out.mono ?_;rintro e w2 ⟨v2,n2,rfl,E3,hn2⟩;have E3:=E2.out.trans E3;obtain ⟨xs2,o2⟩:=E3.own;have le2:=E3.le;have hs2:=E3.grown.size;have e4:=E3.keep hXl hvX.out;have z1:=(World.cell?_of_block (a:=⟨w.heap.size,1,none⟩) e4).trans z1;have E4:=Hi (E1.out.trans E3);have le3:N+1≤n2:=by obtain ⟨_,_,_,h⟩:=‹EmTo w4 w2 B _ _ (N+1) n2›;exact h
    clear E3 e4 z0' cc;obtain ⟨gg,c2,rfl⟩:=Go.Joins.ownsRow_form o2 (by omega)
    have ov2:=Hi o2;have b0:(0:Int)≤(N:Int):=by omega
    by_cases h42:c.toNat=42
    ·have d42:((c.toNat:Int) == 42)=true:=by rw [h42];rfl
     clear h42;go_upto_region 12 with (at_builtin;refine wpList_append_lies _ rfl (.tmp 42) (.tmp 45) _ rfl B 274 i0 _ 4 32 Tryz.underlying269 hi0.out hz0.out hz1.out hz2.out rfl (by decide) (.slice (some ⟨gg,0,none⟩) n2 c2) n2 xs2 rfl (World.ownsRow.alloc ov2.out _) ⟨w2.heap.size,0,none⟩ 1 1 [.nilFunc,.int .i64 N,.int .i64 0,.bool false] rfl rfl (World.news_of_block (heap_alloc_new w2 _)) (oc _ rfl) (by decide) (by unfold maxLen;omega) (by omega) (by simp;omega) (w2.heap.size+1) (by simp) ?_;intro g7 cap7 w6 hown4 hg4 hat4 hlt4;have hown7:=Hi hown4;have hg7:=Hi hg4;have hat7:=Hi hat4;clear hown4 hg4 hat4)
     have E5:=Hi (E4.out.trans (EmTo.push hg7.out hown7.out hat7.out));obtain ⟨q,hq⟩:=code_cell hown7.out (show N*4+2<(n2+1)*4 by omega)
     have hfz:=hown7.out.frozenAt (N*4+2);have b1:(N:Int)<(n2:Int)+1:=by omega
     clear z1 hg7 hat7;go_wp2_with fail;go_ret;exact ⟨_,n2+1,rfl,E5.out.trans (EmTo.store hown7.out),by omega⟩
    ·have d42:((c.toNat:Int) == 42)=false:=by rw [beq_eq_false_iff_ne];omega
     clear h42;obtain ⟨q,hq⟩:=code_cell ov2.out (show N*4+2<n2*4 by omega)
     have hfz:=ov2.out.frozenAt (N*4+2);have b1:(N:Int)<(n2:Int):=by omega
     go_wp2_with fail;go_ret;exact ⟨_,n2,rfl,E4.out.trans (EmTo.store ov2.out),by omega⟩
 | seq u2 us k hv2 hu2=>
   have cE:=Hi (fun (W:World) (V:Value) (M:Nat) (ys:List Value) (hV:W.ownsRow B 274 4 V M ys) (hBW:B≤W.heap.size) (hW:∀ b,F b→W.heap[b]?=wa.heap[b]?) (hM:M≤N+1)=>(show Calls Tryz.prog 274 #[u2,V] W fun e w'=>EmPost W B V M (k+1) e w' from ih.out.seq hFB hBW (by omega) (hv2.up (fun _ h=>h) (fun b hb=>(hW b hb).trans (hFw b hb))) (hu2.up (fun _ h=>h) (fun b hb=>(hW b hb).trans (hFw b hb))) hV (by omega)))
   have bwN:=wS N (by omega)
   by_cases h43:c.toNat=43
   ·have d43:((c.toNat:Int) == 43)=true:=by rw [h43];rfl
    have cc:=Hi (cE.out wa _ N xs ov.out hBa (fun _ _=>rfl) (Nat.le_succ N))
    clear h43 cE hFw;go_enter Tryz.func267,Tryz.ntmps267;go_wp2_with fail;refine cc.out.mono ?_;rintro e w2 ⟨v2,n2,rfl,E2,hn2⟩;obtain ⟨xs2,o2⟩:=E2.own;obtain ⟨A2,c2,rfl⟩:=own_shape o2;have le2:=E2.le;have hs2:=E2.grown.size;have ov2:=Hi o2;have E3:=Hi (E1.out.trans E2);have bw2:=wS n2 (by omega)
    clear E2 o2 z0 z1
    by_cases hnn:n2=N
    ·subst hnn;go_wp2_with fail;go_ret;exact ⟨_,n2,rfl,E3.out,by omega⟩
    ·have bnn:((n2:Int) == (N:Int))=false:=by rw [beq_eq_false_iff_ne];omega
     clear hnn;go_wp2_with (at_builtin;refine wpList_append_lies _ rfl (.tmp 22) (.tmp 27) _ rfl B 274 i0 _ 4 32 Tryz.underlying269 hi0.out hz0.out hz1.out hz2.out rfl (by decide) (.slice A2 n2 c2) n2 xs2 rfl (World.ownsRow.alloc ov2.out _) ⟨w2.heap.size,0,none⟩ 1 1 [.nilFunc,.int .i64 N,.int .i64 ((n2:Int)+1),.bool false] rfl rfl (World.news_of_block (heap_alloc_new w2 _)) (oc _ rfl) (by decide) (by unfold maxLen;omega) (by omega) (by simp;omega) (w2.heap.size+1) (by simp) ?_;intro g5 cap5 w4 hown4 hg4 hat4 hlt4;have hown5:=Hi hown4;have hg5:=Hi hg4;have hat5:=Hi hat4;clear hown4 hg4 hat4)
     go_ret;exact ⟨_,n2+1,rfl,E3.out.trans (EmTo.push hg5.out hown5.out hat5.out),by omega⟩
   ·have d43:((c.toNat:Int) == 43)=false:=by rw [beq_eq_false_iff_ne];omega
    clear h43;go_enter Tryz.func267,Tryz.ntmps267;go_upto_region 9 with (at_builtin;refine wpList_append_lies _ rfl (.tmp 29) (.tmp 33) _ rfl B 274 i0 _ 4 32 Tryz.underlying269 hi0.out hz0.out hz1.out hz2.out rfl (by decide) (.slice A N cv) N xs rfl (World.ownsRow.alloc ov.out _) ⟨wa.heap.size,0,none⟩ 1 1 [.nilFunc,.int .i64 ((N:Int)+1),.int .i64 0,.bool false] rfl rfl (World.news_of_block (heap_alloc_new wa _)) (oc _ rfl) (by decide) (by unfold maxLen;omega) (by omega) (by simp;omega) (wa.heap.size+1) (by simp) ?_;intro g5 cap5 w4 hown4 hg4 hat4 hlt4;have hown5:=Hi hown4;have hg5:=Hi hg4;have hat5:=Hi hat4;clear hown4 hg4 hat4)
    have E2:=EmTo.push hg5.out hown5.out hat5.out;have s4:=E2.grown.size;have hF4:∀ b,F b→w4.heap[b]?=wa.heap[b]?:=fun b hb=>E2.block ov.out (Nat.lt_of_lt_of_le (hFB b hb) hBa) (hFB b hb)
    have cc:=Hi (cE.out w4 _ (N+1) _ hown5.out (Nat.le_trans hBa s4) hF4 (Nat.le_refl _));have e4:=E2.keep hXl hvX.out;have z0':=(World.cell?_of_block (a:=⟨w.heap.size,0,none⟩) e4).trans z0;have E2:=Hi E2;clear cE hFw hF4 hg5 hown5 hat5 z0 e4;go_wp2_with fail;refine cc.out.mono ?_;rintro e w2 ⟨v2,n2,rfl,E3,hn2⟩;have E3:=E2.out.trans E3;obtain ⟨xs2,o2⟩:=E3.own;have le2:=E3.le;have hs2:=E3.grown.size;have e4:=E3.keep hXl hvX.out;have z1:=(World.cell?_of_block (a:=⟨w.heap.size,1,none⟩) e4).trans z1;have E4:=Hi (E1.out.trans E3);have le3:N+1≤n2:=by obtain ⟨_,_,_,h⟩:=‹EmTo w4 w2 B _ _ (N+1) n2›;exact h
    clear E3 e4 z0' cc;obtain ⟨gg,c2,rfl⟩:=Go.Joins.ownsRow_form o2 (by omega)
    have ov2:=Hi o2;have b0:(0:Int)≤(N:Int):=by omega
    by_cases h42:c.toNat=42
    ·have d42:((c.toNat:Int) == 42)=true:=by rw [h42];rfl
     clear h42;go_upto_region 12 with (at_builtin;refine wpList_append_lies _ rfl (.tmp 42) (.tmp 45) _ rfl B 274 i0 _ 4 32 Tryz.underlying269 hi0.out hz0.out hz1.out hz2.out rfl (by decide) (.slice (some ⟨gg,0,none⟩) n2 c2) n2 xs2 rfl (World.ownsRow.alloc ov2.out _) ⟨w2.heap.size,0,none⟩ 1 1 [.nilFunc,.int .i64 N,.int .i64 0,.bool false] rfl rfl (World.news_of_block (heap_alloc_new w2 _)) (oc _ rfl) (by decide) (by unfold maxLen;omega) (by omega) (by simp;omega) (w2.heap.size+1) (by simp) ?_;intro g7 cap7 w6 hown4 hg4 hat4 hlt4;have hown7:=Hi hown4;have hg7:=Hi hg4;have hat7:=Hi hat4;clear hown4 hg4 hat4)
     have E5:=Hi (E4.out.trans (EmTo.push hg7.out hown7.out hat7.out));obtain ⟨q,hq⟩:=code_cell hown7.out (show N*4+2<(n2+1)*4 by omega)
     have hfz:=hown7.out.frozenAt (N*4+2);have b1:(N:Int)<(n2:Int)+1:=by omega
     clear z1 hg7 hat7;go_wp2_with fail;go_ret;exact ⟨_,n2+1,rfl,E5.out.trans (EmTo.store hown7.out),by omega⟩
    ·have d42:((c.toNat:Int) == 42)=false:=by rw [beq_eq_false_iff_ne];omega
     clear h42;obtain ⟨q,hq⟩:=code_cell ov2.out (show N*4+2<n2*4 by omega)
     have hfz:=ov2.out.frozenAt (N*4+2);have b1:(N:Int)<(n2:Int):=by omega
     go_wp2_with fail;go_ret;exact ⟨_,n2,rfl,E4.out.trans (EmTo.store ov2.out),by omega⟩
 | cho u2 us k hv2 hu2=>
   have cE:=Hi (fun (W:World) (V:Value) (M:Nat) (ys:List Value) (hV:W.ownsRow B 274 4 V M ys) (hBW:B≤W.heap.size) (hW:∀ b,F b→W.heap[b]?=wa.heap[b]?) (hM:M≤N+1)=>(show Calls Tryz.prog 284 #[u2,V] W fun e w'=>EmPost W B V M (k+1) e w' from ih.out.cho hFB hBW (by omega) (hv2.up (fun _ h=>h) (fun b hb=>(hW b hb).trans (hFw b hb))) (hu2.up (fun _ h=>h) (fun b hb=>(hW b hb).trans (hFw b hb))) hV (by omega)))
   have bwN:=wS N (by omega)
   by_cases h43:c.toNat=43
   ·have d43:((c.toNat:Int) == 43)=true:=by rw [h43];rfl
    have cc:=Hi (cE.out wa _ N xs ov.out hBa (fun _ _=>rfl) (Nat.le_succ N))
    clear h43 cE hFw;go_enter Tryz.func267,Tryz.ntmps267;go_wp2_with fail;refine cc.out.mono ?_;rintro e w2 ⟨v2,n2,rfl,E2,hn2⟩;obtain ⟨xs2,o2⟩:=E2.own;obtain ⟨A2,c2,rfl⟩:=own_shape o2;have le2:=E2.le;have hs2:=E2.grown.size;have ov2:=Hi o2;have E3:=Hi (E1.out.trans E2);have bw2:=wS n2 (by omega)
    clear E2 o2 z0 z1
    by_cases hnn:n2=N
    ·subst hnn;go_wp2_with fail;go_ret;exact ⟨_,n2,rfl,E3.out,by omega⟩
    ·have bnn:((n2:Int) == (N:Int))=false:=by rw [beq_eq_false_iff_ne];omega
     clear hnn;go_wp2_with (at_builtin;refine wpList_append_lies _ rfl (.tmp 22) (.tmp 27) _ rfl B 274 i0 _ 4 32 Tryz.underlying269 hi0.out hz0.out hz1.out hz2.out rfl (by decide) (.slice A2 n2 c2) n2 xs2 rfl (World.ownsRow.alloc ov2.out _) ⟨w2.heap.size,0,none⟩ 1 1 [.nilFunc,.int .i64 N,.int .i64 ((n2:Int)+1),.bool false] rfl rfl (World.news_of_block (heap_alloc_new w2 _)) (oc _ rfl) (by decide) (by unfold maxLen;omega) (by omega) (by simp;omega) (w2.heap.size+1) (by simp) ?_;intro g5 cap5 w4 hown4 hg4 hat4 hlt4;have hown5:=Hi hown4;have hg5:=Hi hg4;have hat5:=Hi hat4;clear hown4 hg4 hat4)
     go_ret;exact ⟨_,n2+1,rfl,E3.out.trans (EmTo.push hg5.out hown5.out hat5.out),by omega⟩
   ·have d43:((c.toNat:Int) == 43)=false:=by rw [beq_eq_false_iff_ne];omega
    clear h43;go_enter Tryz.func267,Tryz.ntmps267;go_upto_region 9 with (at_builtin;refine wpList_append_lies _ rfl (.tmp 29) (.tmp 33) _ rfl B 274 i0 _ 4 32 Tryz.underlying269 hi0.out hz0.out hz1.out hz2.out rfl (by decide) (.slice A N cv) N xs rfl (World.ownsRow.alloc ov.out _) ⟨wa.heap.size,0,none⟩ 1 1 [.nilFunc,.int .i64 ((N:Int)+1),.int .i64 0,.bool false] rfl rfl (World.news_of_block (heap_alloc_new wa _)) (oc _ rfl) (by decide) (by unfold maxLen;omega) (by omega) (by simp;omega) (wa.heap.size+1) (by simp) ?_;intro g5 cap5 w4 hown4 hg4 hat4 hlt4;have hown5:=Hi hown4;have hg5:=Hi hg4;have hat5:=Hi hat4;clear hown4 hg4 hat4)
    have E2:=EmTo.push hg5.out hown5.out hat5.out;have s4:=E2.grown.size;have hF4:∀ b,F b→w4.heap[b]?=wa.heap[b]?:=fun b hb=>E2.block ov.out (Nat.lt_of_lt_of_le (hFB b hb) hBa) (hFB b hb)
    have cc:=Hi (cE.out w4 _ (N+1) _ hown5.out (Nat.le_trans hBa s4) hF4 (Nat.le_refl _));have e4:=E2.keep hXl hvX.out;have z0':=(World.cell?_of_block (a:=⟨w.heap.size,0,none⟩) e4).trans z0;have E2:=Hi E2;clear cE hFw hF4 hg5 hown5 hat5 z0 e4;go_wp2_with fail;refine cc.out.mono ?_;rintro e w2 ⟨v2,n2,rfl,E3,hn2⟩;have E3:=E2.out.trans E3;obtain ⟨xs2,o2⟩:=E3.own;have le2:=E3.le;have hs2:=E3.grown.size;have e4:=E3.keep hXl hvX.out;have z1:=(World.cell?_of_block (a:=⟨w.heap.size,1,none⟩) e4).trans z1;have E4:=Hi (E1.out.trans E3);have le3:N+1≤n2:=by obtain ⟨_,_,_,h⟩:=‹EmTo w4 w2 B _ _ (N+1) n2›;exact h
    clear E3 e4 z0' cc;obtain ⟨gg,c2,rfl⟩:=Go.Joins.ownsRow_form o2 (by omega)
    have ov2:=Hi o2;have b0:(0:Int)≤(N:Int):=by omega
    by_cases h42:c.toNat=42
    ·have d42:((c.toNat:Int) == 42)=true:=by rw [h42];rfl
     clear h42;go_upto_region 12 with (at_builtin;refine wpList_append_lies _ rfl (.tmp 42) (.tmp 45) _ rfl B 274 i0 _ 4 32 Tryz.underlying269 hi0.out hz0.out hz1.out hz2.out rfl (by decide) (.slice (some ⟨gg,0,none⟩) n2 c2) n2 xs2 rfl (World.ownsRow.alloc ov2.out _) ⟨w2.heap.size,0,none⟩ 1 1 [.nilFunc,.int .i64 N,.int .i64 0,.bool false] rfl rfl (World.news_of_block (heap_alloc_new w2 _)) (oc _ rfl) (by decide) (by unfold maxLen;omega) (by omega) (by simp;omega) (w2.heap.size+1) (by simp) ?_;intro g7 cap7 w6 hown4 hg4 hat4 hlt4;have hown7:=Hi hown4;have hg7:=Hi hg4;have hat7:=Hi hat4;clear hown4 hg4 hat4)
     have E5:=Hi (E4.out.trans (EmTo.push hg7.out hown7.out hat7.out));obtain ⟨q,hq⟩:=code_cell hown7.out (show N*4+2<(n2+1)*4 by omega)
     have hfz:=hown7.out.frozenAt (N*4+2);have b1:(N:Int)<(n2:Int)+1:=by omega
     clear z1 hg7 hat7;go_wp2_with fail;go_ret;exact ⟨_,n2+1,rfl,E5.out.trans (EmTo.store hown7.out),by omega⟩
    ·have d42:((c.toNat:Int) == 42)=false:=by rw [beq_eq_false_iff_ne];omega
     clear h42;obtain ⟨q,hq⟩:=code_cell ov2.out (show N*4+2<n2*4 by omega)
     have hfz:=ov2.out.frozenAt (N*4+2);have b1:(N:Int)<(n2:Int):=by omega
     go_wp2_with fail;go_ret;exact ⟨_,n2,rfl,E4.out.trans (EmTo.store ov2.out),by omega⟩
theorem t_emit_seq {n:Nat}(ih:EmIH n){w:World}{F:Nat→Prop}{u:Value}{us:List Value}{m B N:Nat}{v:Value}{xs:List Value}(hFB:∀ b,F b→b<B)(hB:B≤w.heap.size)(hm:m≤n)(hu:RowIn w F u us)(hf:Forest w F us m)(hv:w.ownsRow B 274 4 v N xs)(hN:N+4*(m+1)≤900000) :
  Calls Tryz.prog 274 #[u,v] w fun e w'=>EmPost w B v N (m+1) e w':=by
 rcases hu with ⟨rfl,rfl⟩|⟨gl,cl,csl,fzl,hne,rfl,hFg,hgl,hcl⟩
 ·have hv:=Hi hv;go_enter Tryz.func274,Tryz.ntmps274;go_wp2_with fail
  go_loopw [1,9] (fun a b wr=>a=v∧b=.int .i64 0∧wr=w) (fun _ _ _=>0)
  case atStart=>exact ⟨rfl,rfl,rfl⟩
  case round=>
   obtain ⟨rfl,rfl,rfl⟩:=hrel;go_wp2_with fail;go_ret;exact ⟨_,N,rfl,EmTo.refl hv.out,by omega⟩
 have hgB:=hFB gl hFg;have hcl:=Hi hcl;have hln:=hf.len;have hv:=Hi hv;have hFB:=Hi hFB;have ih:=Hi ih;clear hgl hne;go_enter Tryz.func274,Tryz.ntmps274;go_wp2_with fail
 go_loopw [1,9] (fun a b wr=>∃ (i n2 k m2:Nat),b=.int .i64 i∧i≤us.length∧Hid (EmTo w wr B v a N n2)∧n2≤N+4*k∧Hid (Forest w F (us.drop i) m2)∧k+m2≤m) (fun _ b _=>us.length-(intOf b).toNat)
 case atStart=>exact ⟨0,N,0,m,rfl,Nat.zero_le _,Hi (EmTo.refl hv.out),by omega,Hi hf,by omega⟩
 case round=>
  obtain ⟨i,n2,k0,m2,rfl,hi,hE,hn2,hrs,hkm⟩:=hrel;obtain ⟨wq,rfl⟩:∃ wq,wq=wr:=⟨_,rfl⟩
  obtain ⟨xs2,o2⟩:=hE.out.own;have ov2:=Hi o2;have le2:=hE.out.le;clear o2
  by_cases hlt:i<us.length
  ·have b1:(i:Int)<(us.length:Int):=by omega
   have b0:(0:Int)≤(i:Int):=by omega
   have hkI:us[i]?=some us[i]:=List.getElem?_eq_getElem hlt;have hdr:=hrs.out;rw [List.drop_eq_getElem_cons hlt] at hdr;obtain ⟨k1,m1,rfl,ht,hr⟩:=hdr.uncons;generalize us[i]=z at hkI ht;have hr:=Hi hr;have hsz:=hE.out.grown.size;have hFw:∀ b,F b→wq.heap[b]?=w.heap[b]?:=fun b hb=>hE.out.block hv.out (Nat.lt_of_lt_of_le (hFB.out b hb) hB) (hFB.out b hb)
   have ek:wq.cell? ⟨gl,i,none⟩=some z:=(World.cell?_of_block (a:=⟨gl,i,none⟩) (hFw gl hFg)).trans (hcl.out i z hkI);have bwi:=wS i (by omega)
   have hBq:B≤wq.heap.size:=Nat.le_trans hB hsz;have hK:=ht.kind;have hFw:=Hi hFw;clear hkI hdr hrs ht
   cases hK with
   | leaf t a b d=>
     have cc:=Hi (show Calls Tryz.prog 270 #[.agg #[.string t,.bool a,.bool b,.bool d],u1] wq fun e w'=>EmPost wq B u1 n2 (t.size+2) e w' from t_emit_leaf t a b d ov2.out hBq (by omega))
     clear hFw;go_wp2_with fail;refine cc.out.mono ?_;rintro e w2 ⟨v2,n3,rfl,E2,hn3⟩;have E3:=Hi (hE.out.trans E2);clear E2 cc;go_wp2_with fail
     go_roundw
     case rel=>exact ⟨i+1,n3,k0+(t.size+2),m1,by first|rfl|go_num,hlt,E3,by omega,hr,by omega⟩
     case measure=>simp [intOf];omega
   | suf u2 d k hd hv2=>
     have cc:=Hi (show Calls Tryz.prog 267 #[.agg #[u2,.int .u8 d.toNat],u1] wq fun e w'=>EmPost wq B u1 n2 (k+1) e w' from ih.out.suf hFB.out hBq (by omega) hd (hv2.up (fun _ h=>h) hFw.out) ov2.out (by omega))
     clear hFw;go_wp2_with fail;refine cc.out.mono ?_;rintro e w2 ⟨v2,n3,rfl,E2,hn3⟩;have E3:=Hi (hE.out.trans E2);clear E2 cc;go_wp2_with fail
     go_roundw
     case rel=>exact ⟨i+1,n3,k0+(k+1),m1,by first|rfl|go_num,hlt,E3,by omega,hr,by omega⟩
     case measure=>simp [intOf];omega
   | seq u2 us k hv2 hu2=>
     have cc:=Hi (show Calls Tryz.prog 274 #[u2,u1] wq fun e w'=>EmPost wq B u1 n2 (k+1) e w' from ih.out.seq hFB.out hBq (by omega) (hv2.up (fun _ h=>h) hFw.out) (hu2.up (fun _ h=>h) hFw.out) ov2.out (by omega))
     clear hFw;go_wp2_with fail;refine cc.out.mono ?_;rintro e w2 ⟨v2,n3,rfl,E2,hn3⟩;have E3:=Hi (hE.out.trans E2);clear E2 cc;go_wp2_with fail
     go_roundw
     case rel=>exact ⟨i+1,n3,k0+(k+1),m1,by first|rfl|go_num,hlt,E3,by omega,hr,by omega⟩
     case measure=>simp [intOf];omega
   | cho u2 us k hv2 hu2=>
     have cc:=Hi (show Calls Tryz.prog 284 #[u2,u1] wq fun e w'=>EmPost wq B u1 n2 (k+1) e w' from ih.out.cho hFB.out hBq (by omega) (hv2.up (fun _ h=>h) hFw.out) (hu2.up (fun _ h=>h) hFw.out) ov2.out (by omega))
     clear hFw;go_wp2_with fail;refine cc.out.mono ?_;rintro e w2 ⟨v2,n3,rfl,E2,hn3⟩;have E3:=Hi (hE.out.trans E2);clear E2 cc;go_wp2_with fail
     go_roundw
     case rel=>exact ⟨i+1,n3,k0+(k+1),m1,by first|rfl|go_num,hlt,E3,by omega,hr,by omega⟩
     case measure=>simp [intOf];omega
  ·obtain rfl:i=us.length:=by omega
   have b1:¬ ((us.length:Int)<(us.length:Int)):=by omega
   go_wp2_with fail;go_ret;exact ⟨_,n2,rfl,hE.out,by omega⟩
theorem EmTo.other {w w1 w2:World}{B n n1:Nat}{v v1:Value}{o:Obj}{r:Option Nat}(h:EmTo w w1 B v v1 n n1)(hg:(w1.alloc o).grownBy w2 r)(hr:∀ b,r=some b→w.heap.size≤b∧v1.ownBlock≠some b):EmTo w w2 B v v1 n n1:=by
 obtain ⟨xs,ho⟩:=h.own;have hs:=h.grown.size;refine ⟨⟨xs,own_heap ho fun g hg2=>?_⟩,⟨hg.os.trans h.grown.os,hg.tape.trans h.grown.tape,hg.output.trans h.grown.output,by have:=hg.size;simp at this;omega,fun b hb hn=>?_⟩,h.at_,h.le⟩
 ·have hl:=(ho.lt g hg2).2;exact (hg.block g (by simp;omega) (fun e=>(hr g e.symm).2 hg2)).trans (heap_alloc_old w1 _ hl)
 ·exact ((hg.block b (by simp;omega) (fun e=>by have:=(hr b e.symm).1;omega)).trans (heap_alloc_old w1 _ (by omega))).trans (h.grown.block b hb hn)
structure Jmp (w0 w:World)(j:Value)(js:List Nat)(n:Nat):Prop where
 own:w.ownsRow w0.heap.size 3 1 j js.length (intsV js)
 lt:∀ x∈js,x<n
theorem row_ne {w:World}{B B2 n n2 k k2:Nat}{T T2:TypeId}{v v2:Value}{xs xs2:List Value}(h:w.ownsRow B T k v n xs)(h2:w.ownsRow B2 T2 k2 v2 n2 xs2)(hT:T≠T2):∀ b,v.ownBlock=some b→v2.ownBlock≠some b:=fun b e e2=>by
 obtain ⟨c,fz,h3⟩:=Lib.ownsRow_kind h b e;obtain ⟨c2,fz2,h4⟩:=Lib.ownsRow_kind h2 b e2;rw [h3] at h4;simp only [Option.some.injEq,Obj.cells.injEq] at h4;exact hT h4.2.1
theorem Jmp.keep {w0 w w':World}{j:Value}{js:List Nat}{n n' B m m':Nat}{v v':Value}{xs:List Value}(h:Jmp w0 w j js n)(ho:w.ownsRow B 274 4 v m xs)(hE:EmTo w w' B v v' m m')(hn:n≤n'):Jmp w0 w' j js n':=
 ⟨own_heap h.own fun g hg=>hE.keep (h.own.lt g hg).2 (row_ne h.own ho (by decide) g hg),fun x hx=>Nat.lt_of_lt_of_le (h.lt x hx) hn⟩
theorem Jmp.put {w0 w1 w2:World}{j:Value}{js:List Nat}{n g cap x:Nat}(h:Jmp w0 w1 j js n)(ho:w2.ownsRow w0.heap.size 3 1 (.slice (some ⟨g,0,none⟩) (js.length+1) cap) (js.length+1) (intsV js++[.int .i64 x]))(hx:x<n+1):Jmp w0 w2 (.slice (some ⟨g,0,none⟩) (js.length+1) cap) (js++[x]) (n+1):=by
 refine ⟨by rw [List.length_append];show World.ownsRow _ _ _ _ _ _ (intsV (js++[x]));rw [show intsV (js++[x])=intsV js++[.int .i64 x] by simp [intsV]];exact ho,fun y hy=>?_⟩
 rcases List.mem_append.1 hy with hy|hy
 ·exact Nat.lt_succ_of_lt (h.lt y hy)
 ·rw [List.mem_singleton] at hy;omega
theorem t_emit_cho {n:Nat}(ih:EmIH n){w:World}{F:Nat→Prop}{u:Value}{us:List Value}{m B N:Nat}{v:Value}{xs:List Value}(hFB:∀ b,F b→b<B)(hB:B≤w.heap.size)(hm:m≤n)(hu:RowIn w F u us)(hf:Forest w F us m)(hv:w.ownsRow B 274 4 v N xs)(hN:N+4*(m+1)≤900000) :
  Calls Tryz.prog 284 #[u,v] w fun e w'=>EmPost w B v N (m+1) e w':=by
 rcases hu with ⟨rfl,rfl⟩|⟨gl,cl,csl,fzl,hne,rfl,hFg,hgl,hcl⟩
 ·have hv:=Hi hv;go_enter Tryz.func284,Tryz.ntmps284;go_wp2_with fail
  go_loopw [1,5,14] (fun a c b wr=>a=v∧c=.slice none 0 0∧b=.int .i64 0∧wr=w) (fun _ _ _ _=>0)
  case atStart=>exact ⟨rfl,rfl,rfl,rfl⟩
  case round=>
   obtain ⟨rfl,rfl,rfl,rfl⟩:=hrel;go_wp2_with fail
   go_loopw [57] (fun b wr2=>b=.int .i64 0∧wr2=wr) (fun _ _=>0)
   case atStart=>exact ⟨rfl,rfl⟩
   case round=>
    obtain ⟨rfl,rfl⟩:=hrel;go_wp2_with fail;go_ret;exact ⟨_,N,rfl,EmTo.refl hv.out,by omega⟩
 obtain ⟨i0,hi0,hz0,hz1,hz2⟩:=info_parts step_info;have hi0:=Hi hi0;have hz0:=Hi hz0;have hz1:=Hi hz1;have hz2:=Hi hz2;obtain ⟨j0,hj0,hy0,hy1,hy2⟩:=info_parts int_info;have hj0:=Hi hj0;have hy0:=Hi hy0;have hy1:=Hi hy1;have hy2:=Hi hy2;have hgB:=hFB gl hFg;have hcl:=Hi hcl;have hln:=hf.len;have hv:=Hi hv;have hFB:=Hi hFB;have ih:=Hi ih;clear hgl hne;go_enter Tryz.func284,Tryz.ntmps284;go_wp2_with fail
 go_loopw [1,5,14] (fun a c b wr=>∃ (i n2 k m2:Nat) (js:List Nat),b=.int .i64 i∧i≤us.length∧Hid (EmTo w wr B v a N n2)∧Hid (Jmp w wr c js n2)∧js.length≤i∧n2≤N+4*k∧Hid (Forest w F (us.drop i) m2)∧k+m2≤m) (fun _ _ b _=>us.length-(intOf b).toNat)
 case atStart=>exact ⟨0,N,0,m,[],rfl,Nat.zero_le _,Hi (EmTo.refl hv.out),Hi ⟨⟨by simp [intsV],.inl ⟨rfl,rfl⟩⟩,fun x hx=>by cases hx⟩,Nat.zero_le _,by omega,Hi hf,by omega⟩
 case round=>
  obtain ⟨i,n2,k0,m2,js,rfl,hi,hE,hJ,hjl,hn2,hrs,hkm⟩:=hrel;obtain ⟨wq,rfl⟩:∃ wq,wq=wr:=⟨_,rfl⟩
  obtain ⟨xs2,o2⟩:=hE.out.own;obtain ⟨A2,c2,rfl⟩:=own_shape o2;have ov2:=Hi o2;have le2:=hE.out.le;clear o2
  by_cases hlt:i<us.length
  ·have b1:(i:Int)<(us.length:Int):=by omega
   have b0:(0:Int)≤(i:Int):=by omega
   have hkI:us[i]?=some us[i]:=List.getElem?_eq_getElem hlt;have hdr:=hrs.out;rw [List.drop_eq_getElem_cons hlt] at hdr;obtain ⟨k1,m1,rfl,ht,hr⟩:=hdr.uncons;generalize us[i]=z at hkI ht;have hr:=Hi hr;have hsz:=hE.out.grown.size;have hFw:∀ b,F b→wq.heap[b]?=w.heap[b]?:=fun b hb=>hE.out.block hv.out (Nat.lt_of_lt_of_le (hFB.out b hb) hB) (hFB.out b hb)
   have ek:wq.cell? ⟨gl,i,none⟩=some z:=(World.cell?_of_block (a:=⟨gl,i,none⟩) (hFw gl hFg)).trans (hcl.out i z hkI);have bwi:=wS i (by omega)
   have bwl:IntKind.i64.wrap ((us.length:Int)-1)=(us.length:Int)-1:=IntWalk.i64_in _ (by omega)
   have bwn:=wS n2 (by omega)
   have hBq:B≤wq.heap.size:=Nat.le_trans hB hsz;have hK:=Hi ht.kind;have hFw:=Hi hFw;have hk1:1≤k1:=by have:=ht.len;simpa using this
   clear hkI hdr hrs ht
   by_cases hlast:i+1=us.length
   ·have dl:((i:Int) == (us.length:Int)-1)=true:=by rw [beq_iff_eq];omega
    go_upto_region 9 with fail
    go_cut [1] (fun y wx=>∃ n3,Hid (EmTo wq wx B (.slice A2 n2 c2) y n2 n3)∧n3+2≤n2+4*k1)
    case first=>
     have hK:=hK.out;clear ek
     cases hK with
     | leaf t a b d=>
       have cc:=Hi (show Calls Tryz.prog 270 #[.agg #[.string t,.bool a,.bool b,.bool d],.slice A2 n2 c2] wq fun e w'=>EmPost wq B (.slice A2 n2 c2) n2 (t.size+2) e w' from t_emit_leaf t a b d ov2.out hBq (by omega))
       clear hFw;go_wp2_with fail;refine cc.out.mono ?_;rintro e w2 ⟨v2,n3,rfl,E2,hn3⟩;have E2:=Hi E2;go_wp2_with fail;go_meet;exact ⟨n3,E2,by omega⟩
     | suf u2 d k hd hv2=>
       have cc:=Hi (show Calls Tryz.prog 267 #[.agg #[u2,.int .u8 d.toNat],.slice A2 n2 c2] wq fun e w'=>EmPost wq B (.slice A2 n2 c2) n2 (k+1) e w' from ih.out.suf hFB.out hBq (by omega) hd (hv2.up (fun _ h=>h) hFw.out) ov2.out (by omega))
       clear hFw;go_wp2_with fail;refine cc.out.mono ?_;rintro e w2 ⟨v2,n3,rfl,E2,hn3⟩;have E2:=Hi E2;go_wp2_with fail;go_meet;exact ⟨n3,E2,by omega⟩
     | seq u2 us k hv2 hu2=>
       have cc:=Hi (show Calls Tryz.prog 274 #[u2,.slice A2 n2 c2] wq fun e w'=>EmPost wq B (.slice A2 n2 c2) n2 (k+1) e w' from ih.out.seq hFB.out hBq (by omega) (hv2.up (fun _ h=>h) hFw.out) (hu2.up (fun _ h=>h) hFw.out) ov2.out (by omega))
       clear hFw;go_wp2_with fail;refine cc.out.mono ?_;rintro e w2 ⟨v2,n3,rfl,E2,hn3⟩;have E2:=Hi E2;go_wp2_with fail;go_meet;exact ⟨n3,E2,by omega⟩
     | cho u2 us k hv2 hu2=>
       have cc:=Hi (show Calls Tryz.prog 284 #[u2,.slice A2 n2 c2] wq fun e w'=>EmPost wq B (.slice A2 n2 c2) n2 (k+1) e w' from ih.out.cho hFB.out hBq (by omega) (hv2.up (fun _ h=>h) hFw.out) (hu2.up (fun _ h=>h) hFw.out) ov2.out (by omega))
       clear hFw;go_wp2_with fail;refine cc.out.mono ?_;rintro e w2 ⟨v2,n3,rfl,E2,hn3⟩;have E2:=Hi E2;go_wp2_with fail;go_meet;exact ⟨n3,E2,by omega⟩
    case rest=>
     obtain ⟨n3,E3,hn3⟩:=hcut;have hJ2:=hJ.out.keep ov2.out E3.out E3.out.le;have E4:=Hi (hE.out.trans E3.out);have hJ2:=Hi hJ2;clear hJ E3 ek;go_wp2_with fail
     go_roundw
     case rel=>exact ⟨i+1,n3,k0+k1,m1,js,by first|rfl|go_num,hlt,E4,hJ2,by omega,by omega,hr,by omega⟩
     case measure=>simp [intOf];omega
   ·have dl:((i:Int) == (us.length:Int)-1)=false:=by rw [beq_eq_false_iff_ne];omega
    go_upto_region 9 with (at_builtin;refine wpList_append_lies _ rfl (.tmp 28) (.tmp 32) _ rfl B 274 i0 _ 4 32 Tryz.underlying269 hi0.out hz0.out hz1.out hz2.out rfl (by decide) (.slice A2 n2 c2) n2 xs2 rfl (World.ownsRow.alloc ov2.out _) ⟨wq.heap.size,0,none⟩ 1 1 [.nilFunc,.int .i64 ((n2:Int)+1),.int .i64 0,.bool false] rfl rfl (World.news_of_block (heap_alloc_new wq _)) (oc _ rfl) (by decide) (by unfold maxLen;omega) (by omega) (by simp;omega) (wq.heap.size+1) (by simp) ?_;intro g5 cap5 w4 hown4 hg4 hat4 hlt4;have hown5:=Hi hown4;have hg5:=Hi hg4;have hat5:=Hi hat4;clear hown4 hg4 hat4)
    have E2:=EmTo.push hg5.out hown5.out hat5.out;have s4:=E2.grown.size;have hF4:∀ b,F b→w4.heap[b]?=wq.heap[b]?:=fun b hb=>E2.block ov2.out (Nat.lt_of_lt_of_le (hFB.out b hb) hBq) (hFB.out b hb)
    have hF4:=Hi hF4;have hB4:=Nat.le_trans hBq s4;have E2:=Hi E2;clear hg5 hat5
    go_cut [1] (fun y wx=>∃ n3,Hid (EmTo wq wx B (.slice A2 n2 c2) y n2 n3)∧n2+1≤n3∧n3+2≤n2+1+4*k1)
    case first=>
     have hK:=hK.out;clear ek
     cases hK with
     | leaf t a b d=>
       have cc:=Hi (show Calls Tryz.prog 270 #[.agg #[.string t,.bool a,.bool b,.bool d],.slice (some ⟨g5,0,none⟩) (n2+1) cap5] w4 fun e w'=>EmPost w4 B (.slice (some ⟨g5,0,none⟩) (n2+1) cap5) (n2+1) (t.size+2) e w' from t_emit_leaf t a b d hown5.out hB4 (by omega))
       clear hFw hF4;go_wp2_with fail;refine cc.out.mono ?_;rintro e w2 ⟨v2,n3,rfl,E3,hn3⟩;have le3:=E3.le;have E3:=Hi (E2.out.trans E3);go_wp2_with fail;go_meet;exact ⟨n3,E3,le3,by omega⟩
     | suf u2 d k hd hv2=>
       have cc:=Hi (show Calls Tryz.prog 267 #[.agg #[u2,.int .u8 d.toNat],.slice (some ⟨g5,0,none⟩) (n2+1) cap5] w4 fun e w'=>EmPost w4 B (.slice (some ⟨g5,0,none⟩) (n2+1) cap5) (n2+1) (k+1) e w' from ih.out.suf hFB.out hB4 (by omega) hd (hv2.up (fun _ h=>h) (fun b hb=>(hF4.out b hb).trans (hFw.out b hb))) hown5.out (by omega))
       clear hFw hF4;go_wp2_with fail;refine cc.out.mono ?_;rintro e w2 ⟨v2,n3,rfl,E3,hn3⟩;have le3:=E3.le;have E3:=Hi (E2.out.trans E3);go_wp2_with fail;go_meet;exact ⟨n3,E3,le3,by omega⟩
     | seq u2 us k hv2 hu2=>
       have cc:=Hi (show Calls Tryz.prog 274 #[u2,.slice (some ⟨g5,0,none⟩) (n2+1) cap5] w4 fun e w'=>EmPost w4 B (.slice (some ⟨g5,0,none⟩) (n2+1) cap5) (n2+1) (k+1) e w' from ih.out.seq hFB.out hB4 (by omega) (hv2.up (fun _ h=>h) (fun b hb=>(hF4.out b hb).trans (hFw.out b hb))) (hu2.up (fun _ h=>h) (fun b hb=>(hF4.out b hb).trans (hFw.out b hb))) hown5.out (by omega))
       clear hFw hF4;go_wp2_with fail;refine cc.out.mono ?_;rintro e w2 ⟨v2,n3,rfl,E3,hn3⟩;have le3:=E3.le;have E3:=Hi (E2.out.trans E3);go_wp2_with fail;go_meet;exact ⟨n3,E3,le3,by omega⟩
     | cho u2 us k hv2 hu2=>
       have cc:=Hi (show Calls Tryz.prog 284 #[u2,.slice (some ⟨g5,0,none⟩) (n2+1) cap5] w4 fun e w'=>EmPost w4 B (.slice (some ⟨g5,0,none⟩) (n2+1) cap5) (n2+1) (k+1) e w' from ih.out.cho hFB.out hB4 (by omega) (hv2.up (fun _ h=>h) (fun b hb=>(hF4.out b hb).trans (hFw.out b hb))) (hu2.up (fun _ h=>h) (fun b hb=>(hF4.out b hb).trans (hFw.out b hb))) hown5.out (by omega))
       clear hFw hF4;go_wp2_with fail;refine cc.out.mono ?_;rintro e w2 ⟨v2,n3,rfl,E3,hn3⟩;have le3:=E3.le;have E3:=Hi (E2.out.trans E3);go_wp2_with fail;go_meet;exact ⟨n3,E3,le3,by omega⟩
    case rest=>
     obtain ⟨n3,E3,hn23,hn3⟩:=hcut;have hJ2:=hJ.out.keep ov2.out E3.out E3.out.le;have E4:=Hi (hE.out.trans E3.out);have hs3:=E4.out.grown.size;obtain ⟨xs3,o3⟩:=E4.out.own;obtain ⟨g3,c3,rfl⟩:=Go.Joins.ownsRow_form o3 (by omega)
     have hjw:∀ b,u5.ownBlock=some b→w.heap.size≤b∧(Value.slice (some ⟨g3,0,none⟩) n3 c3).ownBlock≠some b:=fun b hb=>⟨(hJ2.own.lt b hb).1,row_ne hJ2.own o3 (by decide) b hb⟩
     have hjw:=Hi hjw;have ov3:=Hi o3;have hJ3:=Hi hJ2;have bw3:=wS n3 (by omega)
     clear hJ E3 E2 ek hF4 hown5 o3 hJ2;go_upto_region 12 with (at_builtin;refine wpList_append_lies _ rfl (.tmp 39) (.tmp 42) _ rfl w.heap.size 3 j0 _ 1 8 Tryz.underlying49 hj0.out hy0.out hy1.out hy2.out rfl (by decide) u5 js.length (intsV js) rfl (World.ownsRow.alloc hJ3.out.own _) ⟨wc.heap.size,0,none⟩ 1 1 [.int .i64 n3] rfl rfl (World.news_of_block (heap_alloc_new wc _)) (by intro u hu;simp only [List.mem_cons,List.not_mem_nil,or_false] at hu;subst hu;rfl) (by decide) (by unfold maxLen;omega) (by omega) (by simp;omega) (wc.heap.size+1) (by simp) ?_;intro g7 cap7 w5 hown4 hg4 hat4 hlt4;have hown7:=Hi hown4;have hg7:=Hi hg4;have hat7:=Hi hat4;clear hown4 hg4 hat4)
     have E5:=E4.out.other hg7.out hjw.out;have hJ4:=hJ3.out.put hown7.out (Nat.lt_succ_self n3);obtain ⟨xs5,o5⟩:=E5.own;have s5:=E5.grown.size;have ov5:=Hi o5;have hJ4:=Hi hJ4;have E5:=Hi E5;clear hg7 hown7 hat7 o5 E4 hJ3 hjw;go_upto_region 13 with (at_builtin;refine wpList_append_lies _ rfl (.tmp 44) (.tmp 46) _ rfl B 274 i0 _ 4 32 Tryz.underlying269 hi0.out hz0.out hz1.out hz2.out rfl (by decide) (.slice (some ⟨g3,0,none⟩) n3 c3) n3 xs5 rfl (World.ownsRow.alloc ov5.out _) ⟨w5.heap.size,0,none⟩ 1 1 [.nilFunc,.int .i64 0,.int .i64 0,.bool false] rfl rfl (World.news_of_block (heap_alloc_new w5 _)) (oc _ rfl) (by decide) (by unfold maxLen;omega) (by omega) (by simp;omega) (w5.heap.size+1) (by simp) ?_;intro g8 cap8 w6 hown4 hg4 hat4 hlt4;have hown8:=Hi hown4;have hg8:=Hi hg4;have hat8:=Hi hat4;clear hown4 hg4 hat4)
     have E6:=EmTo.push hg8.out hown8.out hat8.out;have hJ5:=hJ4.out.keep ov5.out E6 (Nat.le_refl _);have E7:=Hi (E5.out.trans E6);have hJ5:=Hi hJ5;obtain ⟨q,hq⟩:=code_cell hown8.out (show n2*4+2<(n3+1)*4 by omega)
     have hfz:=hown8.out.frozenAt (n2*4+2);have b3:(n2:Int)<(n3:Int)+1:=by omega
     have b4:(0:Int)≤(n2:Int):=by omega
     clear hg8 hat8 E5 hJ4 E6;go_wp2_with fail
     go_roundw
     case rel=>exact ⟨i+1,n3+1,k0+k1,m1,js++[n3],by first|rfl|go_num,hlt,Hi (E7.out.trans (EmTo.store hown8.out)),Hi (hJ5.out.keep hown8.out (EmTo.store hown8.out) (Nat.le_refl _)),by simp;omega,by omega,hr,by omega⟩
     case measure=>simp [intOf];omega
  ·obtain rfl:i=us.length:=by omega
   have b1:¬ ((us.length:Int)<(us.length:Int)):=by omega
   have hjo:=hJ.out.own;obtain ⟨A5,c5,rfl⟩:=own_shape hjo;have hjo:=Hi hjo;go_wp2_with fail
   go_loopw [57] (fun b wr=>∃ (p:Nat),b=.int .i64 p∧p≤js.length∧Hid (EmTo w wr B v (.slice A2 n2 c2) N n2)∧Hid (Jmp w wr (.slice A5 js.length c5) js n2)) (fun b _=>js.length-(intOf b).toNat)
   case atStart=>exact ⟨0,rfl,Nat.zero_le _,hE,hJ⟩
   case round=>
    obtain ⟨p,rfl,hp,hE2,hJ2⟩:=hrel;obtain ⟨wp,rfl⟩:∃ wp,wp=wr:=⟨_,rfl⟩
    by_cases hpl:p<js.length
    ·have c1:(p:Int)<(js.length:Int):=by omega
     have c0:(0:Int)≤(p:Int):=by omega
     have hxm:=hJ2.out.lt js[p] (List.getElem_mem hpl);have hxp:js[p]?=some js[p]:=List.getElem?_eq_getElem hpl;generalize js[p]=x at hxm hxp;obtain ⟨gj,cj,hje⟩:=Go.Joins.ownsRow_form hJ2.out.own (by omega)
     cases hje
     obtain ⟨xs3,o3⟩:=hE2.out.own;obtain ⟨g3,c3,hce⟩:=Go.Joins.ownsRow_form o3 (by omega)
     cases hce
     have ejp:wp.cell? ⟨gj,p,none⟩=some (.int .i64 x):=by
      rw [hJ2.out.own.cellAt _ (by omega)]
      unfold intsV;rw [List.getElem?_map,hxp];rfl
     obtain ⟨q,hq⟩:=code_cell o3 (show x*4+1<n2*4 by omega)
     have hfz:=o3.frozenAt (x*4+1);have d1:(x:Int)<(n2:Int):=by omega
     have d0:(0:Int)≤(x:Int):=by omega
     have bwp:=wS p (by omega)
     have o3:=Hi o3;clear hxp hxm;go_wp2_with fail
     go_roundw
     case rel=>exact ⟨p+1,by first|rfl|go_num,hpl,Hi (hE2.out.trans (EmTo.store o3.out)),Hi (hJ2.out.keep o3.out (EmTo.store o3.out) (Nat.le_refl _))⟩
     case measure=>simp [intOf];omega
    ·obtain rfl:p=js.length:=by omega
     have c1:¬ ((js.length:Int)<(js.length:Int)):=by omega
     go_wp2_with fail;go_ret;exact ⟨_,n2,rfl,hE2.out,by omega⟩
theorem em_all:∀ n,EmIH n
 | 0=>⟨fun _ _ h=>by omega,fun _ _ h=>by omega,fun _ _ h=>by omega⟩
 | n+1=>by
   have ih:=em_all n;exact ⟨fun hF hB hm hc hu hv hN=>t_emit_suf ih hF hB (by omega) hu hv hN,fun hF hB hm hr hu hv hN=>t_emit_seq ih hF hB (by omega) hr hu hv hN,fun hF hB hm hr hu hv hN=>t_emit_cho ih hF hB (by omega) hr hu hv hN⟩
theorem codeP_M (s:ByteArray):codeP s=if 256<s.size then 2 else if patM (bs s)=true then 0 else 140:=by
 unfold codeP;rw [pats_same]
theorem TrAt.fresh (w:World)(s:ByteArray):TrAt (w.alloc (.cells #[.string s,.int .i64 0,.int .i64 0,.slice none 0 0,.slice none 0 0,.slice none 0 0] 264 (0,0))) w.heap.size (w.heap.size+1) (fun _=>False) s 0 0 (.slice none 0 0) [] ⟨.slice none 0 0,.slice none 0 0,[],[],0⟩:=by
 refine ⟨heap_alloc_new w _,Nat.lt_succ_self _,by simp,⟨by simp [flatL],.inl ⟨rfl,rfl⟩⟩,fun l hl=>?_,by simp [ownsL,Lvl.blocks,Value.ownBlock],fun b hb=>hb.elim⟩
 rw [List.mem_singleton] at hl;subst hl;exact ⟨⟨by simp,.inl ⟨rfl,rfl⟩⟩,⟨by simp,.inl ⟨rfl,rfl⟩⟩,fun _=>rfl,fun _=>rfl,0,0,by simp,.nil,.nil⟩
theorem t_Compile (s:ByteArray)(w:World) :
  Calls Tryz.prog 184 #[.string s] w fun e w'=>Below w.heap.size w w'∧∃ (p:Value) (b:Int),e=.returned (.tuple #[p,.int .i64 (codeP s),.int .i64 b]):=by
 have hc:=codeP_M s
 by_cases h256:256<s.size
 ·rw [if_pos h256] at hc;have b256:(s.size:Int)>256:=by omega
  have hc:=Hi hc;clear h256;go_enter Tryz.func184,Tryz.ntmps184;go_wp2_with fail
  go_ret3
  rw [hc.out];exact ⟨Below.refl _ _,_,_,rfl⟩
 rw [if_neg h256] at hc;have b256:¬ (s.size:Int)>256:=by omega
 have P0:=TrAt.fresh w s;have hb0:Below w.heap.size w (w.alloc (.cells #[.string s,.int .i64 0,.int .i64 0,.slice none 0 0,.slice none 0 0,.slice none 0 0] 264 (0,0))):=(Below.refl w.heap.size w).alloc (Nat.le_refl _) _;have cr:=Hi (t_run P0 rfl rfl (by omega))
 have hb0:=Hi hb0;obtain ⟨R,hR⟩:∃ R,patM (bs s)=R:=⟨_,rfl⟩
 rw [hR] at hc cr;have hc:=Hi hc;clear P0 h256 hR
 cases R with
 | false=>
   go_enter Tryz.func184,Tryz.ntmps184;go_wp2_with fail;refine cr.out.mono ?_;rintro e w1 hx;unfold TrPost at hx;obtain ⟨rfl,hb1,⟨n1,c1⟩,_⟩:=hx;have hb1:=Hi (hb0.out.trans hb1);clear cr;go_wp2_with fail;go_quiet (fail);go_wp2_with fail
   go_ret3
   rw [hc.out];exact ⟨hb1.out.trans ((Qt.self _ _).below _),_,_,rfl⟩
 | true=>
   go_enter Tryz.func184,Tryz.ntmps184;go_wp2_with fail;refine cr.out.mono ?_;rintro e w1 hx;unfold TrPost at hx;obtain ⟨rfl,hb1,_,hx⟩:=hx;obtain ⟨F,a,i,vo,t,P1,hwt,ha⟩:=hx rfl;have hb1:=Hi (hb0.out.trans hb1);have cw:=Hi (P1.whole (by omega))
   have q4:=P1.c4;have q5:=P1.c5;have hMl:=P1.lt;have hFl:=P1.flt;clear P1 cr hb0 hx;go_wp2_with fail;refine cw.out.mono ?_;rintro e w2 ⟨x,k,rfl,hk,hf,hb2⟩;have hsz:w.heap.size≤w1.heap.size:=by omega
   have hF2:∀ b,Since F w1 w2 b→b<w2.heap.size:=fun b hb=>by
    have:=hb2.size;rcases hb with h|h
    ·have:=hFl b h;omega
    ·exact h.2
   have hs12:=hb2.size;have hb2:=Hi (hb1.out.trans (hb2.mono (by omega)))
   have hF2:=Hi hF2;have hK:=hf.kind;clear cw q4 q5 hb1 hf hFl;have hk9:k≤3000:=by omega
   have ihw:=Hi (wr_all k (by omega))
   obtain ⟨i0,hi0,hz0,hz1,hz2⟩:=info_parts step_info;have hi0:=Hi hi0;have hz0:=Hi hz0;have hz1:=Hi hz1;have hz2:=Hi hz2;have hK2:=Hi hK
   cases hK with
   | leaf t a b d=>
     have cc:=Hi (show Calls Tryz.prog 271 #[.agg #[.string t,.bool a,.bool b,.bool d]] w2 fun e w'=>WrPost w2 (t.size+2) e w' from t_write_leaf w2 t a b d (by omega))
     go_wp2_with fail;refine cc.out.mono ?_;rintro e w3 ⟨r,rfl,hr5,hb3⟩;obtain ⟨w4,hw4⟩:∃ w4,w3.alloc (.cells #[.string r,.slice none 0 0] 271 (0,0))=w4:=⟨_,rfl⟩
     have hb4:Below w3.heap.size w3 w4:=by rw [← hw4];exact (Below.refl _ w3).alloc (Nat.le_refl _) _
     have hz4:w4.heap[w3.heap.size]?=some (.cells #[.string r,.slice none 0 0] 271 (0,0)):=by rw [← hw4];exact heap_alloc_new w3 _
     have hl4:=(Array.getElem?_eq_some_iff.1 hz4).1;have hb24:Below w2.heap.size w2 w4:=hb3.trans (hb4.mono hb3.size);have hW:∀ b,Since F w1 w2 b→w4.heap[b]?=w2.heap[b]?:=fun b hb=>hb24.block b (hF2.out b hb)
     have hFB:∀ b,Since F w1 w2 b→b<w4.heap.size:=fun b hb=>Nat.lt_of_lt_of_le (hF2.out b hb) hb24.size
     have hN0:w4.ownsRow w4.heap.size 274 4 (.slice none 0 0) 0 []:=⟨by simp,.inl ⟨rfl,rfl⟩⟩
     have ce:=Hi (show Calls Tryz.prog 270 #[.agg #[.string t,.bool a,.bool b,.bool d],.slice none 0 0] w4 fun e w'=>EmPost w4 w4.heap.size (.slice none 0 0) 0 (t.size+2) e w' from t_emit_leaf t a b d hN0 (Nat.le_refl _) (by omega))
     have hs3:=hb3.size;have hz4:=Hi hz4;have hb2':=Hi (hb2.out.trans (hb24.mono (Nat.le_trans hsz hs12)));clear cc hb4 hb24 hW hFB hN0 hb3;go_wp2_with fail;refine ce.out.mono ?_;rintro e w5 ⟨v5,n5,rfl,E5,hn5⟩;obtain ⟨xs5,o5⟩:=E5.own;obtain ⟨A5,c5,rfl⟩:=own_shape o5;have hs5:=E5.grown.size;have ov5:=Hi o5;have E5:=Hi E5;clear o5 ce;have hE4:w5.heap[w3.heap.size]?=some (.cells #[.string r,.slice none 0 0] 271 (0,0)):=(E5.out.keep hl4 (by simp [Value.ownBlock])).trans hz4.out
     have p1:w5.cell? ⟨w3.heap.size,1,none⟩=some (.slice none 0 0):=by have:=cell_of_row w5 w3.heap.size 1 _ _ _ hE4;simpa using this
     have p2:w5.frozen? ⟨w3.heap.size,1,none⟩=false:=by simp [World.frozen?,hE4]
     have hl5:=(Array.getElem?_eq_some_iff.1 hE4).1;have hne:=Hi (show (Value.slice A5 n5 c5).ownBlock≠some w3.heap.size from fun e=>by have:=(ov5.out.lt _ e).1;omega)
     have hb5:Below w.heap.size w w5:=hb2'.out.trans (by
      have:=E5.out.grown;exact ⟨this.os,this.tape,this.output,this.size,fun b hb=>this.block b (by omega) (by simp [Value.ownBlock])⟩)
     have hb5:=Hi hb5;clear hE4 E5 hz4;go_upto_region 9 with (at_builtin;refine wpList_append_lies _ rfl (.tmp 26) (.tmp 28) _ rfl w4.heap.size 274 i0 _ 4 32 Tryz.underlying269 hi0.out hz0.out hz1.out hz2.out rfl (by decide) (.slice A5 n5 c5) n5 xs5 rfl (World.ownsRow.alloc ov5.out _) ⟨w5.heap.size,0,none⟩ 1 1 [.nilFunc,.int .i64 0,.int .i64 0,.bool true] rfl rfl (World.news_of_block (heap_alloc_new w5 _)) (oc _ rfl) (by decide) (by unfold maxLen;omega) (by omega) (by simp;omega) (w5.heap.size+1) (by simp) ?_;intro g7 cap7 w6 hown4 hg4 hat4 hlt4;have hown7:=Hi hown4;have hg7:=Hi hg4;have hat7:=Hi hat4;clear hown4 hg4 hat4;have p16:=hg7.out.cell (((Below.refl _ w5).alloc (Nat.le_refl _) (.cells #[.nilFunc,.int .i64 0,.int .i64 0,.bool true] 274)).cell (p:=⟨w3.heap.size,1,none⟩) hl5 |>.trans p1) (fun e=>hne.out e.symm);have p26:=(hg7.out.frozen_far (a:=⟨w3.heap.size,1,none⟩) (by simp;omega) (fun e=>hne.out e.symm)).trans ((((Below.refl _ w5).alloc (Nat.le_refl _) (.cells #[.nilFunc,.int .i64 0,.int .i64 0,.bool true] 274)).frozen (p:=⟨w3.heap.size,1,none⟩) hl5).trans p2))
     have hb6:Below w.heap.size w w6:=(hb5.out.alloc (by omega) _).grown hg7.out (by simp;omega) (fun q hq=>by have:=(ov5.out.lt q hq).1;omega)
     have hb6:=Hi (hb6.setCell (p:=⟨w3.heap.size,1,none⟩) (by show _≤w3.heap.size;omega) (.slice (some ⟨g7,0,none⟩) (n5+1) cap7))
     clear hg7 hown7 hat7 hb5;go_wp2_with fail
     go_ret3
     rw [hc.out];exact ⟨hb6.out,_,_,rfl⟩
   | suf u2 d k hd hv2=>
     have cc:=Hi (show Calls Tryz.prog 268 #[.agg #[u2,.int .u8 d.toNat]] w2 fun e w'=>WrPost w2 (k+1) e w' from ihw.out.suf hF2.out (Nat.le_refl _) hd hv2)
     go_wp2_with fail;refine cc.out.mono ?_;rintro e w3 ⟨r,rfl,hr5,hb3⟩;obtain ⟨w4,hw4⟩:∃ w4,w3.alloc (.cells #[.string r,.slice none 0 0] 271 (0,0))=w4:=⟨_,rfl⟩
     have hb4:Below w3.heap.size w3 w4:=by rw [← hw4];exact (Below.refl _ w3).alloc (Nat.le_refl _) _
     have hz4:w4.heap[w3.heap.size]?=some (.cells #[.string r,.slice none 0 0] 271 (0,0)):=by rw [← hw4];exact heap_alloc_new w3 _
     have hl4:=(Array.getElem?_eq_some_iff.1 hz4).1;have hb24:Below w2.heap.size w2 w4:=hb3.trans (hb4.mono hb3.size);have hW:∀ b,Since F w1 w2 b→w4.heap[b]?=w2.heap[b]?:=fun b hb=>hb24.block b (hF2.out b hb)
     have hFB:∀ b,Since F w1 w2 b→b<w4.heap.size:=fun b hb=>Nat.lt_of_lt_of_le (hF2.out b hb) hb24.size
     have hN0:w4.ownsRow w4.heap.size 274 4 (.slice none 0 0) 0 []:=⟨by simp,.inl ⟨rfl,rfl⟩⟩
     have ce:=Hi (show Calls Tryz.prog 267 #[.agg #[u2,.int .u8 d.toNat],.slice none 0 0] w4 fun e w'=>EmPost w4 w4.heap.size (.slice none 0 0) 0 (k+1) e w' from (em_all _).suf hFB (Nat.le_refl _) (Nat.le_refl _) hd (hv2.up (fun _ h=>h) hW) hN0 (by omega))
     have hs3:=hb3.size;have hz4:=Hi hz4;have hb2':=Hi (hb2.out.trans (hb24.mono (Nat.le_trans hsz hs12)));clear cc hb4 hb24 hW hFB hN0 hb3;go_wp2_with fail;refine ce.out.mono ?_;rintro e w5 ⟨v5,n5,rfl,E5,hn5⟩;obtain ⟨xs5,o5⟩:=E5.own;obtain ⟨A5,c5,rfl⟩:=own_shape o5;have hs5:=E5.grown.size;have ov5:=Hi o5;have E5:=Hi E5;clear o5 ce;have hE4:w5.heap[w3.heap.size]?=some (.cells #[.string r,.slice none 0 0] 271 (0,0)):=(E5.out.keep hl4 (by simp [Value.ownBlock])).trans hz4.out
     have p1:w5.cell? ⟨w3.heap.size,1,none⟩=some (.slice none 0 0):=by have:=cell_of_row w5 w3.heap.size 1 _ _ _ hE4;simpa using this
     have p2:w5.frozen? ⟨w3.heap.size,1,none⟩=false:=by simp [World.frozen?,hE4]
     have hl5:=(Array.getElem?_eq_some_iff.1 hE4).1;have hne:=Hi (show (Value.slice A5 n5 c5).ownBlock≠some w3.heap.size from fun e=>by have:=(ov5.out.lt _ e).1;omega)
     have hb5:Below w.heap.size w w5:=hb2'.out.trans (by
      have:=E5.out.grown;exact ⟨this.os,this.tape,this.output,this.size,fun b hb=>this.block b (by omega) (by simp [Value.ownBlock])⟩)
     have hb5:=Hi hb5;clear hE4 E5 hz4;go_upto_region 9 with (at_builtin;refine wpList_append_lies _ rfl (.tmp 26) (.tmp 28) _ rfl w4.heap.size 274 i0 _ 4 32 Tryz.underlying269 hi0.out hz0.out hz1.out hz2.out rfl (by decide) (.slice A5 n5 c5) n5 xs5 rfl (World.ownsRow.alloc ov5.out _) ⟨w5.heap.size,0,none⟩ 1 1 [.nilFunc,.int .i64 0,.int .i64 0,.bool true] rfl rfl (World.news_of_block (heap_alloc_new w5 _)) (oc _ rfl) (by decide) (by unfold maxLen;omega) (by omega) (by simp;omega) (w5.heap.size+1) (by simp) ?_;intro g7 cap7 w6 hown4 hg4 hat4 hlt4;have hown7:=Hi hown4;have hg7:=Hi hg4;have hat7:=Hi hat4;clear hown4 hg4 hat4;have p16:=hg7.out.cell (((Below.refl _ w5).alloc (Nat.le_refl _) (.cells #[.nilFunc,.int .i64 0,.int .i64 0,.bool true] 274)).cell (p:=⟨w3.heap.size,1,none⟩) hl5 |>.trans p1) (fun e=>hne.out e.symm);have p26:=(hg7.out.frozen_far (a:=⟨w3.heap.size,1,none⟩) (by simp;omega) (fun e=>hne.out e.symm)).trans ((((Below.refl _ w5).alloc (Nat.le_refl _) (.cells #[.nilFunc,.int .i64 0,.int .i64 0,.bool true] 274)).frozen (p:=⟨w3.heap.size,1,none⟩) hl5).trans p2))
     have hb6:Below w.heap.size w w6:=(hb5.out.alloc (by omega) _).grown hg7.out (by simp;omega) (fun q hq=>by have:=(ov5.out.lt q hq).1;omega)
     have hb6:=Hi (hb6.setCell (p:=⟨w3.heap.size,1,none⟩) (by show _≤w3.heap.size;omega) (.slice (some ⟨g7,0,none⟩) (n5+1) cap7))
     clear hg7 hown7 hat7 hb5;go_wp2_with fail
     go_ret3
     rw [hc.out];exact ⟨hb6.out,_,_,rfl⟩
   | seq u2 us k hv2 hu2=>
     have cc:=Hi (show Calls Tryz.prog 275 #[u2] w2 fun e w'=>WrPost w2 (k+1) e w' from ihw.out.seq hF2.out (Nat.le_refl _) hv2 hu2)
     go_wp2_with fail;refine cc.out.mono ?_;rintro e w3 ⟨r,rfl,hr5,hb3⟩;obtain ⟨w4,hw4⟩:∃ w4,w3.alloc (.cells #[.string r,.slice none 0 0] 271 (0,0))=w4:=⟨_,rfl⟩
     have hb4:Below w3.heap.size w3 w4:=by rw [← hw4];exact (Below.refl _ w3).alloc (Nat.le_refl _) _
     have hz4:w4.heap[w3.heap.size]?=some (.cells #[.string r,.slice none 0 0] 271 (0,0)):=by rw [← hw4];exact heap_alloc_new w3 _
     have hl4:=(Array.getElem?_eq_some_iff.1 hz4).1;have hb24:Below w2.heap.size w2 w4:=hb3.trans (hb4.mono hb3.size);have hW:∀ b,Since F w1 w2 b→w4.heap[b]?=w2.heap[b]?:=fun b hb=>hb24.block b (hF2.out b hb)
     have hFB:∀ b,Since F w1 w2 b→b<w4.heap.size:=fun b hb=>Nat.lt_of_lt_of_le (hF2.out b hb) hb24.size
     have hN0:w4.ownsRow w4.heap.size 274 4 (.slice none 0 0) 0 []:=⟨by simp,.inl ⟨rfl,rfl⟩⟩
     have ce:=Hi (show Calls Tryz.prog 274 #[u2,.slice none 0 0] w4 fun e w'=>EmPost w4 w4.heap.size (.slice none 0 0) 0 (k+1) e w' from (em_all _).seq hFB (Nat.le_refl _) (Nat.le_refl _) (hv2.up (fun _ h=>h) hW) (hu2.up (fun _ h=>h) hW) hN0 (by omega))
     have hs3:=hb3.size;have hz4:=Hi hz4;have hb2':=Hi (hb2.out.trans (hb24.mono (Nat.le_trans hsz hs12)));clear cc hb4 hb24 hW hFB hN0 hb3;go_wp2_with fail;refine ce.out.mono ?_;rintro e w5 ⟨v5,n5,rfl,E5,hn5⟩;obtain ⟨xs5,o5⟩:=E5.own;obtain ⟨A5,c5,rfl⟩:=own_shape o5;have hs5:=E5.grown.size;have ov5:=Hi o5;have E5:=Hi E5;clear o5 ce;have hE4:w5.heap[w3.heap.size]?=some (.cells #[.string r,.slice none 0 0] 271 (0,0)):=(E5.out.keep hl4 (by simp [Value.ownBlock])).trans hz4.out
     have p1:w5.cell? ⟨w3.heap.size,1,none⟩=some (.slice none 0 0):=by have:=cell_of_row w5 w3.heap.size 1 _ _ _ hE4;simpa using this
     have p2:w5.frozen? ⟨w3.heap.size,1,none⟩=false:=by simp [World.frozen?,hE4]
     have hl5:=(Array.getElem?_eq_some_iff.1 hE4).1;have hne:=Hi (show (Value.slice A5 n5 c5).ownBlock≠some w3.heap.size from fun e=>by have:=(ov5.out.lt _ e).1;omega)
     have hb5:Below w.heap.size w w5:=hb2'.out.trans (by
      have:=E5.out.grown;exact ⟨this.os,this.tape,this.output,this.size,fun b hb=>this.block b (by omega) (by simp [Value.ownBlock])⟩)
     have hb5:=Hi hb5;clear hE4 E5 hz4;go_upto_region 9 with (at_builtin;refine wpList_append_lies _ rfl (.tmp 26) (.tmp 28) _ rfl w4.heap.size 274 i0 _ 4 32 Tryz.underlying269 hi0.out hz0.out hz1.out hz2.out rfl (by decide) (.slice A5 n5 c5) n5 xs5 rfl (World.ownsRow.alloc ov5.out _) ⟨w5.heap.size,0,none⟩ 1 1 [.nilFunc,.int .i64 0,.int .i64 0,.bool true] rfl rfl (World.news_of_block (heap_alloc_new w5 _)) (oc _ rfl) (by decide) (by unfold maxLen;omega) (by omega) (by simp;omega) (w5.heap.size+1) (by simp) ?_;intro g7 cap7 w6 hown4 hg4 hat4 hlt4;have hown7:=Hi hown4;have hg7:=Hi hg4;have hat7:=Hi hat4;clear hown4 hg4 hat4;have p16:=hg7.out.cell (((Below.refl _ w5).alloc (Nat.le_refl _) (.cells #[.nilFunc,.int .i64 0,.int .i64 0,.bool true] 274)).cell (p:=⟨w3.heap.size,1,none⟩) hl5 |>.trans p1) (fun e=>hne.out e.symm);have p26:=(hg7.out.frozen_far (a:=⟨w3.heap.size,1,none⟩) (by simp;omega) (fun e=>hne.out e.symm)).trans ((((Below.refl _ w5).alloc (Nat.le_refl _) (.cells #[.nilFunc,.int .i64 0,.int .i64 0,.bool true] 274)).frozen (p:=⟨w3.heap.size,1,none⟩) hl5).trans p2))
     have hb6:Below w.heap.size w w6:=(hb5.out.alloc (by omega) _).grown hg7.out (by simp;omega) (fun q hq=>by have:=(ov5.out.lt q hq).1;omega)
     have hb6:=Hi (hb6.setCell (p:=⟨w3.heap.size,1,none⟩) (by show _≤w3.heap.size;omega) (.slice (some ⟨g7,0,none⟩) (n5+1) cap7))
     clear hg7 hown7 hat7 hb5;go_wp2_with fail
     go_ret3
     rw [hc.out];exact ⟨hb6.out,_,_,rfl⟩
   | cho u2 us k hv2 hu2=>
     have cc:=Hi (show Calls Tryz.prog 285 #[u2] w2 fun e w'=>WrPost w2 (k+1) e w' from ihw.out.cho hF2.out (Nat.le_refl _) hv2 hu2)
     go_wp2_with fail;refine cc.out.mono ?_;rintro e w3 ⟨r,rfl,hr5,hb3⟩;obtain ⟨w4,hw4⟩:∃ w4,w3.alloc (.cells #[.string r,.slice none 0 0] 271 (0,0))=w4:=⟨_,rfl⟩
     have hb4:Below w3.heap.size w3 w4:=by rw [← hw4];exact (Below.refl _ w3).alloc (Nat.le_refl _) _
     have hz4:w4.heap[w3.heap.size]?=some (.cells #[.string r,.slice none 0 0] 271 (0,0)):=by rw [← hw4];exact heap_alloc_new w3 _
     have hl4:=(Array.getElem?_eq_some_iff.1 hz4).1;have hb24:Below w2.heap.size w2 w4:=hb3.trans (hb4.mono hb3.size);have hW:∀ b,Since F w1 w2 b→w4.heap[b]?=w2.heap[b]?:=fun b hb=>hb24.block b (hF2.out b hb)
     have hFB:∀ b,Since F w1 w2 b→b<w4.heap.size:=fun b hb=>Nat.lt_of_lt_of_le (hF2.out b hb) hb24.size
     have hN0:w4.ownsRow w4.heap.size 274 4 (.slice none 0 0) 0 []:=⟨by simp,.inl ⟨rfl,rfl⟩⟩
     have ce:=Hi (show Calls Tryz.prog 284 #[u2,.slice none 0 0] w4 fun e w'=>EmPost w4 w4.heap.size (.slice none 0 0) 0 (k+1) e w' from (em_all _).cho hFB (Nat.le_refl _) (Nat.le_refl _) (hv2.up (fun _ h=>h) hW) (hu2.up (fun _ h=>h) hW) hN0 (by omega))
     have hs3:=hb3.size;have hz4:=Hi hz4;have hb2':=Hi (hb2.out.trans (hb24.mono (Nat.le_trans hsz hs12)));clear cc hb4 hb24 hW hFB hN0 hb3;go_wp2_with fail;refine ce.out.mono ?_;rintro e w5 ⟨v5,n5,rfl,E5,hn5⟩;obtain ⟨xs5,o5⟩:=E5.own;obtain ⟨A5,c5,rfl⟩:=own_shape o5;have hs5:=E5.grown.size;have ov5:=Hi o5;have E5:=Hi E5;clear o5 ce;have hE4:w5.heap[w3.heap.size]?=some (.cells #[.string r,.slice none 0 0] 271 (0,0)):=(E5.out.keep hl4 (by simp [Value.ownBlock])).trans hz4.out
     have p1:w5.cell? ⟨w3.heap.size,1,none⟩=some (.slice none 0 0):=by have:=cell_of_row w5 w3.heap.size 1 _ _ _ hE4;simpa using this
     have p2:w5.frozen? ⟨w3.heap.size,1,none⟩=false:=by simp [World.frozen?,hE4]
     have hl5:=(Array.getElem?_eq_some_iff.1 hE4).1;have hne:=Hi (show (Value.slice A5 n5 c5).ownBlock≠some w3.heap.size from fun e=>by have:=(ov5.out.lt _ e).1;omega)
     have hb5:Below w.heap.size w w5:=hb2'.out.trans (by
      have:=E5.out.grown;exact ⟨this.os,this.tape,this.output,this.size,fun b hb=>this.block b (by omega) (by simp [Value.ownBlock])⟩)
     have hb5:=Hi hb5;clear hE4 E5 hz4;go_upto_region 9 with (at_builtin;refine wpList_append_lies _ rfl (.tmp 26) (.tmp 28) _ rfl w4.heap.size 274 i0 _ 4 32 Tryz.underlying269 hi0.out hz0.out hz1.out hz2.out rfl (by decide) (.slice A5 n5 c5) n5 xs5 rfl (World.ownsRow.alloc ov5.out _) ⟨w5.heap.size,0,none⟩ 1 1 [.nilFunc,.int .i64 0,.int .i64 0,.bool true] rfl rfl (World.news_of_block (heap_alloc_new w5 _)) (oc _ rfl) (by decide) (by unfold maxLen;omega) (by omega) (by simp;omega) (w5.heap.size+1) (by simp) ?_;intro g7 cap7 w6 hown4 hg4 hat4 hlt4;have hown7:=Hi hown4;have hg7:=Hi hg4;have hat7:=Hi hat4;clear hown4 hg4 hat4;have p16:=hg7.out.cell (((Below.refl _ w5).alloc (Nat.le_refl _) (.cells #[.nilFunc,.int .i64 0,.int .i64 0,.bool true] 274)).cell (p:=⟨w3.heap.size,1,none⟩) hl5 |>.trans p1) (fun e=>hne.out e.symm);have p26:=(hg7.out.frozen_far (a:=⟨w3.heap.size,1,none⟩) (by simp;omega) (fun e=>hne.out e.symm)).trans ((((Below.refl _ w5).alloc (Nat.le_refl _) (.cells #[.nilFunc,.int .i64 0,.int .i64 0,.bool true] 274)).frozen (p:=⟨w3.heap.size,1,none⟩) hl5).trans p2))
     have hb6:Below w.heap.size w w6:=(hb5.out.alloc (by omega) _).grown hg7.out (by simp;omega) (fun q hq=>by have:=(ov5.out.lt q hq).1;omega)
     have hb6:=Hi (hb6.setCell (p:=⟨w3.heap.size,1,none⟩) (by show _≤w3.heap.size;omega) (.slice (some ⟨g7,0,none⟩) (n5+1) cap7))
     clear hg7 hown7 hat7 hb5;go_wp2_with fail
     go_ret3
     rw [hc.out];exact ⟨hb6.out,_,_,rfl⟩
end Go.Proofs.YtjokciofeicdkaaGreatDoor
