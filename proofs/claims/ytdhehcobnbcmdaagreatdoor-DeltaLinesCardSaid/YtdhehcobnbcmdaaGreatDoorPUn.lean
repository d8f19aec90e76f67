/- A part of the proof of DeltaLines: Uno. -/
import Derived.RangeFuncBox
import Derived.RangeFuncLeaves
import Derived.OwnWalkIn
import Derived.TacticsInMore
import Derived.LoopNIn
import Derived.LoopIn
import Derived.Maps.AppendAt
import Derived.Sort.OwnSorted
import Derived.Test.YtdhehcobnbcmdaaGreatDoorPG1
import Derived.Test.YtdhehcobnbcmdaaGreatDoorSortg
set_option linter.all false
namespace Go.Proofs.YtdhehcobnbcmdaaGreatDoor
open Go.RowKit Go.Sort
attribute [local go_sem] Oper.semAt_some
theorem infoStr:(Tryz.prog.info? 9).map (fun i=>(i.zero,i.size,i.bytes))=some (some (.string ⟨#[]⟩),1,16):=by kernel_rfl
set_option maxRecDepth 100000 in
set_option maxHeartbeats 2000000 in
theorem u_vals1 (n : Nat) (hn : 1 ≤ n) (l Bs n₀ cap : Nat) (A : Option Addr) (zs : List ByteArray) (hl : zs.length ≤ 100000) (J Jx : List ByteArray → World → Prop)
    (hY:∀ pre x W,J pre W→pre.length<zs.length→YieldAt Fence.wide (n-1) Tryz.prog l #[.string x] W fun e W'=>(e=.returned (.bool true)∧J (pre++[x]) W'∧Below n₀ W W')∨(e=.returned (.bool false)∧Jx (pre++[x]) W'))
    (W:World) (hBs:W.cell? ⟨Bs,0,none⟩=some (.slice A zs.length cap)) (hT:Texts W n₀ (.slice A zs.length cap) zs) (h0:J [] W) :
    CallsIn Fence.wide n Tryz.prog 137 #[.func (.yield l) #[] #[], .pointer (some ⟨Bs,0,none⟩)] W fun e W'=>(∃ v,e=.returned v)∧((∃ ys,ys=zs∧J ys W')∨(∃ pre,pre <+: zs∧Jx pre W')):=by
  refine callsIn_of_wp Tryz.func137 rfl trivial ?_ rfl
  simp only [Tryz.ntmps137,List.size_toArray,List.length_cons,List.length_nil,Nat.reduceAdd,Nat.reduceSub,Array.replicate_succ,Array.replicate_zero,List.push_toArray,List.append_toArray,List.nil_append,List.cons_append]
  gi_wp2
  gi_loopw [7] (fun i wr=>∃ k:Nat,k≤zs.length∧i=.int .i64 k∧J (zs.take k) wr∧Below n₀ W wr) (fun i _=>zs.length-(intOf i).toNat)
  case atStart=>exact ⟨0,Nat.zero_le _,rfl,by simpa using h0,Below.refl _ _⟩
  case round=>
    obtain ⟨k,hk,rfl,hJs,hnx⟩:=hrel
    by_cases hlt:k<zs.length
    · have hT':=hT.below hnx (Nat.le_refl _)
      obtain ⟨b,off,rfl⟩:=SlOf.addr hT' (by omega)
      obtain ⟨hb,x,hx,hcx⟩:=texts_el hT' hlt
      obtain ⟨fn,tmps,assign,body,hy,hR⟩:=hY _ x wr hJs (by rw [List.length_take];omega)
      have hin:=hcx
      gi_wp2
      refine hR.mono ?_
      rintro e W3 (⟨rfl,hJ3,hk3⟩|⟨rfl,hJx3⟩)
      · gi_wp2
        go_roundw
        case rel=>exact ⟨k+1,by omega,by simp,by rw [List.take_add_one,hx];exact hJ3,hnx.trans hk3⟩
        case measure=>simp [intOf];omega
      · gi_wp2
        refine bodyPost_ret (results_none rfl _ _ _) rfl ?_
        exact ⟨⟨_,rfl⟩, .inr ⟨_,List.take_prefix (k+1) zs,by rw [List.take_add_one,hx];exact hJx3⟩⟩
    · obtain rfl:k=zs.length:=by omega
      gi_wp2
      go_end0
      exact ⟨⟨_,rfl⟩, .inl ⟨_,rfl,by rw [List.take_length] at hJs;exact hJs⟩⟩
theorem u_stops (n:Nat)(hn:1≤n)(Bs n₀ cap:Nat)(A:Option Addr)(zs:List ByteArray)(hl:zs.length≤100000)(w:World)(hBs:Bs<w.heap.size)(hn₀ : n₀≤w.heap.size)(hc:w.cell? ⟨Bs,0,none⟩=some (.slice A zs.length cap))(hT:Texts w n₀ (.slice A zs.length cap) zs) :
    SeqStopsK Fence.wide n Tryz.prog 137 #[.pointer (some ⟨Bs,0,none⟩)] (fun x:ByteArray=>#[Value.string x]) (Below n₀) (fun ys=>ys=zs) (fun pre=>pre <+: zs) zs.length w:=fun l J Jx W hW _ _ hY h0=>
  u_vals1 n hn l Bs n₀ cap A zs hl J Jx hY W ((hW.cell (p:=⟨Bs,0,none⟩) hBs).trans hc) (hT.below (hW.mono hn₀) (Nat.le_refl _)) h0
set_option maxHeartbeats 1000000 in
theorem u_values (n:Nat)(A:Option Addr)(len cap:Nat)(w:World) :
    CallsIn Fence.wide n Tryz.prog 105 #[.slice A len cap] w fun e w'=>e=.returned (.func (.func 137) #[] #[.pointer (some ⟨w.heap.size,0,none⟩)])∧w'=w.alloc (.cells #[.slice A len cap] 29):=by
  refine callsIn_of_wp Tryz.func105 rfl trivial ?_ rfl
  simp only [Tryz.ntmps105,List.size_toArray,List.length_cons,List.length_nil,Nat.reduceAdd,Nat.reduceSub,Array.replicate_succ,Array.replicate_zero,List.push_toArray,List.append_toArray,List.nil_append,List.cons_append]
  gi_wp2
  go_ret
  exact ⟨rfl,rfl⟩
set_option maxRecDepth 100000 in
set_option maxHeartbeats 2000000 in
theorem u_append (n:Nat)(hn:2≤n)(Bs cap:Nat)(A:Option Addr)(zs:List ByteArray)(hl:zs.length≤100000)(w:World)(hBs:Bs<w.heap.size)(hc:w.cell? ⟨Bs,0,none⟩=some (.slice A zs.length cap))(hT:Texts w w.heap.size (.slice A zs.length cap) zs) :
    CallsIn Fence.wide n Tryz.prog 167 #[.slice none 0 0, .func (.func 137) #[] #[.pointer (some ⟨Bs,0,none⟩)]] w fun e W'=>∃ v,e=.returned v∧W'.ownsRow w.heap.size 9 1 v zs.length (zs.map Value.string)∧Below w.heap.size w W':=by
  have h1:1≤n:=by omega
  obtain ⟨i0,hi,hz0,hz1,hz2⟩:=info_parts infoStr
  refine callsIn_of_wp_marks Tryz.func167 rfl trivial ?_ rfl
  simp only [Tryz.ntmps167,List.size_toArray,List.length_cons,List.length_nil,Nat.reduceAdd,Nat.reduceSub,Array.replicate_succ,Array.replicate_zero,List.push_toArray,List.append_toArray,List.nil_append,List.cons_append]
  gi_wp2
  have bO:=Boxed.new w 29 (.slice none 0 0)
  have hB0:Below w.heap.size w (w.alloc (.cells #[.slice none 0 0] 29)):=(Below.refl _ w).alloc (Nat.le_refl _) _
  refine wpIn_rangeFunc_ownG rfl h1 (gf:=137) (lb:=#[.pointer (some ⟨Bs,0,none⟩)]) rfl trivial (fun a w=>by kernel_rfl)
    (u_stops (n-1) (by omega) Bs w.heap.size cap A zs hl _ (by simp;omega) (by simp) ((hB0.cell (p:=⟨Bs,0,none⟩) hBs).trans hc) (hT.below hB0 (Nat.le_refl _))) belowK_t (belowK_b (by simp)) (Below.refl _ _) (fun _=>rfl)
    (fun (pre:List ByteArray) W=>(∃ v,Boxed W w.heap.size 29 v∧W.ownsRow w.heap.size 9 1 v pre.length (pre.map Value.string)∧True)∧Below w.heap.size w W)
    (fun _ _ _=>False)
    (OwnFrom.and (Own.from (holdsRow_own w.heap.size w.heap.size 29 9 1 (fun pre:List ByteArray=>pre.length) (fun pre=>pre.map Value.string) (fun _ _=>True)) _) (ownFrom_below (Nat.le_refl _) (by simp)))
    (fun _ _ _ _ _ hs _ _=>hs)
    ⟨⟨_,bO,World.ownsRow_nil _ _ _ _,trivial⟩,hB0⟩
    (fun x=>{ tmps:=#[.slice none 0 0, .func (.func 137) #[] #[.pointer (some ⟨Bs,0,none⟩)], .pointer (some ⟨w.heap.size,0,none⟩),undef, .slice none 0 0, .string x, .func (.func 137) #[] #[.pointer (some ⟨Bs,0,none⟩)], .string x,undef,undef,undef,undef,undef],defers:=[] }) ?assign ?body ?done ?stop
  case assign=>
    intro l x W K hK
    gi_wp2
    exact hK
  case body=>
    rintro l pre x W ⟨⟨v,hv,hrow,_⟩,hB⟩ hlt
    have hc:=hv.cell
    gi_wp2_with (gi_at_builtin;refine wpListIn_append_own _ rfl _ _ 29 rfl w.heap.size 9 i0 (.string ⟨#[]⟩) 1 16 Tryz.underlying29 hi hz0 hz1 hz2 rfl (by decide) _ _ _ rfl (hrow.alloc _) ⟨W.heap.size,0,none⟩ 1 1 [.string x] rfl rfl (cell_one_new _ _ _) (by simp [Value.oneCell']) (by unfold maxLen;omega) (by omega) (by have:=hB.size;simp;omega) ?_;intro v' w1 hown' hgrow _;obtain ⟨g',cap',rfl⟩:=ownsRow_succ hown';obtain ⟨hv1,hv2,hr2,hk2,hb2⟩:=hv.appended (by decide) hrow hB.size (Nat.le_refl _) hown' hgrow;have hc1:=hv1.cell;have hf1:=hv1.frozen)
    exact ⟨hk2.from _,hb2,⟨_,hv2,by simpa using hr2,trivial⟩,hB.trans hb2⟩
  case done=>
    rintro D ys W hD rfl ⟨⟨v,hv,hrow,_⟩,hB⟩ hK
    have hc:=hv.cell
    gi_wp2
    refine ⟨by simp, .inl ⟨_,_,rfl,run_takeDeferred hK,?_⟩⟩
    exact ⟨_,results_tmp rfl _ _ _,v,rfl,ownsRow_putObj hrow _ hK rfl,hB.trans (belowK_b (w:=w) (Nat.le_refl _) W D _ _ (by simp at hD;omega) hK rfl rfl)⟩
  case stop=>
    rintro D c pre W _ _ h _
    exact h.elim
set_option maxHeartbeats 1000000 in
theorem u_collect (n:Nat)(hn:3≤n)(Bs cap:Nat)(A:Option Addr)(zs:List ByteArray)(hl:zs.length≤100000)(w:World)(hBs:Bs<w.heap.size)(hc:w.cell? ⟨Bs,0,none⟩=some (.slice A zs.length cap))(hT:Texts w w.heap.size (.slice A zs.length cap) zs) :
    CallsIn Fence.wide n Tryz.prog 135 #[.func (.func 137) #[] #[.pointer (some ⟨Bs,0,none⟩)]] w fun e W'=>∃ v,e=.returned v∧W'.ownsRow w.heap.size 9 1 v zs.length (zs.map Value.string)∧Below w.heap.size w W':=by
  have hf:Fence.wide.fn 167:=trivial
  have h1:1≤n:=by omega
  refine callsIn_of_wp Tryz.func135 rfl trivial ?_ rfl
  simp only [Tryz.ntmps135,List.size_toArray,List.length_cons,List.length_nil,Nat.reduceAdd,Nat.reduceSub,Array.replicate_succ,Array.replicate_zero,List.push_toArray,List.append_toArray,List.nil_append,List.cons_append]
  gi_wp2_with (gi_at_call 167;refine (u_append (n-1) (by omega) Bs cap A zs hl w hBs hc hT).mono ?_;rintro e w' ⟨v,rfl,hrow,hb⟩)
  go_ret
  exact ⟨v,rfl,hrow,hb⟩
def srtB (l:List ByteArray):List (List UInt8):=(l.map fun s=>s.data.toList).mergeSort fun x y=>decide (x≤y)
def srtT (l:List ByteArray):List ByteArray:=(srtB l).map fun d=>⟨d.toArray⟩
theorem encB (l:List ByteArray):l.map Value.string=(l.map fun s=>s.data.toList).map encStr:=by
  rw [List.map_map]
  exact List.map_congr_left fun s _=>rfl
theorem srtT_len (l:List ByteArray):(srtT l).length=l.length:=by
  unfold srtT srtB
  rw [List.length_map,List.length_mergeSort,List.length_map]
theorem srtT_sm (l:List ByteArray)(h:∀ x∈l,Sm x):∀ x∈srtT l,Sm x:=fun x hx=>by
  unfold srtT srtB at hx
  obtain ⟨d,hd,rfl⟩:=List.mem_map.1 hx
  obtain ⟨s,hs,rfl⟩:=List.mem_map.1 (List.mem_mergeSort.1 hd)
  exact h s hs
set_option maxRecDepth 100000 in
set_option maxHeartbeats 2000000 in
theorem u_sorted (n:Nat)(hn:4≤n)(Bs cap:Nat)(A:Option Addr)(zs:List ByteArray)(hl:zs.length≤100000)(w:World)(hBs:Bs<w.heap.size)(hc:w.cell? ⟨Bs,0,none⟩=some (.slice A zs.length cap))(hT:Texts w w.heap.size (.slice A zs.length cap) zs) :
    CallsIn Fence.wide n Tryz.prog 104 #[.func (.func 137) #[] #[.pointer (some ⟨Bs,0,none⟩)]] w fun e W'=>∃ v,e=.returned v∧W'.ownsRow w.heap.size 9 1 v zs.length ((srtT zs).map Value.string)∧Below w.heap.size w W':=by
  have hf1:Fence.wide.fn 135:=trivial
  have hf2:Fence.wide.fn 136:=trivial
  have h1:1≤n:=by omega
  have hS:(srtT zs).map Value.string=((zs.map fun s=>s.data.toList).mergeSort fun x y=>decide (x≤y)).map encStr:=by
    unfold srtT srtB
    rw [List.map_map]
    exact List.map_congr_left fun s _=>rfl
  refine callsIn_of_wp Tryz.func104 rfl trivial ?_ rfl
  simp only [Tryz.ntmps104,List.size_toArray,List.length_cons,List.length_nil,Nat.reduceAdd,Nat.reduceSub,Array.replicate_succ,Array.replicate_zero,List.push_toArray,List.append_toArray,List.nil_append,List.cons_append]
  gi_wp2_with (gi_at_call 135;refine (u_collect (n-1) (by omega) Bs cap A zs hl w hBs hc hT).mono ?_;rintro e W ⟨v,rfl,hrow,hb⟩)
  rw [encB] at hrow
  rcases hrow.2 with ⟨rfl,hz⟩|⟨gb,cap',cur,rfl,hbase,hgb,r1,r2,r3,r4⟩
  · have hss:zs=[]:=List.eq_nil_of_length_eq_zero hz
    subst hss
    gi_wp2_with (gi_at_call 136;refine (callsIn_wide.2 (AnyM.slices_Sort_string_none Tryz.sort136 none 0 W)).mono ?_;rintro e w' ⟨rfl,rfl⟩)
    go_ret
    have h0:srtT []=[]:=by simp [srtT,srtB]
    rw [h0]
    exact ⟨.slice none 0 0,rfl,World.ownsRow_nil _ _ _ _,hb⟩
  · have hH:Holds encStr W gb 0 (zs.map fun s=>s.data.toList).toArray:=holds_of_block hgb (by simpa using r4)
    have hgl:gb<W.heap.size:=(Array.getElem?_eq_some_iff.1 hgb).1
    have cS:=AnyM.slices_Sort_string Tryz.sort136 gb 0 cap' (zs.map fun s=>s.data.toList) W hH hgl (by rw [List.length_map];omega)
    rw [List.length_map] at cS
    gi_wp2_with (gi_at_call 136;refine (callsIn_wide.2 cS).mono ?_;rintro e w' ⟨rfl,nn,os,rfl⟩)
    go_ret
    have hlz:((zs.map fun s=>s.data.toList).mergeSort fun x y=>decide (x≤y)).length=(zs.map fun s=>s.data.toList).length:=List.length_mergeSort ..
    have h9:=ownsRow_sorted (os:=os) (n:=nn) hlz hbase hgb (by rw [List.length_map];exact r1) r2 r3
    rw [List.length_map] at h9
    exact ⟨_,rfl,by rw [hS];exact h9,hb.grown (grownBy_sorted _) hb.size (fun j hj=>by cases hj;exact hbase)⟩
theorem texts_sm {w:World}{B:Nat}{v:Value}{l:List ByteArray}(h:Texts w B v l):∀ x∈l,Sm x:=by
  obtain ⟨cs,h1,_,_,h4⟩:=h
  intro x hx
  obtain ⟨i,hi⟩:=List.getElem?_of_mem hx
  have hlt:=(List.getElem?_eq_some_iff.1 hi).1
  exact (h4 i (cs[i]'(by omega)) x (List.getElem?_eq_getElem (by omega)) hi).2
def unS (l m:List ByteArray):Bool:=eqL eqText (srtT l) (srtT m)
set_option maxRecDepth 100000 in
set_option maxHeartbeats 4000000 in
theorem unord:UnordP unS:=by
  intro l m v u B w hl hm tl tm hB
  obtain ⟨A1,c1,rfl,_,_⟩:=SlOf.form tl
  obtain ⟨A2,c2,rfl,_,_⟩:=SlOf.form tm
  have s1:∀ x∈srtT l,Sm x:=srtT_sm l (texts_sm tl)
  have s2:∀ x∈srtT m,Sm x:=srtT_sm m (texts_sm tm)
  have v1:Hid (∀ W,Calls Tryz.prog 105 #[.slice A1 l.length c1] W fun e w'=>e=.returned (.func (.func 137) #[] #[.pointer (some ⟨W.heap.size,0,none⟩)])∧w'=W.alloc (.cells #[.slice A1 l.length c1] 29)):=Lib.hid fun W=>callsIn_wide.1 (u_values 5 A1 l.length c1 W)
  have v2:Hid (∀ W,Calls Tryz.prog 105 #[.slice A2 m.length c2] W fun e w'=>e=.returned (.func (.func 137) #[] #[.pointer (some ⟨W.heap.size,0,none⟩)])∧w'=W.alloc (.cells #[.slice A2 m.length c2] 29)):=Lib.hid fun W=>callsIn_wide.1 (u_values 5 A2 m.length c2 W)
  have q:∀ (zs:List ByteArray) (A:Option Addr) (c:Nat),zs.length≤100000→Texts w B (.slice A zs.length c) zs→∀ W,Below w.heap.size w W→Calls Tryz.prog 104 #[.func (.func 137) #[] #[.pointer (some ⟨W.heap.size,0,none⟩)]] (W.alloc (.cells #[.slice A zs.length c] 29)) fun e W'=>∃ v,e=.returned v∧TextsR W' (W.heap.size+1) v (srtT zs)∧Below W.heap.size W W':=fun zs A c hz hT W hW=>by
    have hb:Below W.heap.size W (W.alloc (.cells #[.slice A zs.length c] 29)):=(Below.refl _ _).alloc (Nat.le_refl _) _
    have hsz:=hW.size
    refine (callsIn_wide.1 (u_sorted 5 (by omega) W.heap.size c A zs hz (W.alloc (.cells #[.slice A zs.length c] 29)) (by simp) ?_ ((hT.below hW hB).keep (by simp;omega) (keepB hb (by omega))))).mono ?_
    · rw [cell_of_row _ W.heap.size 0 _ _ (0,0) (heap_alloc_new W _)];rfl
    · rintro e W' ⟨v,rfl,h1,h2⟩
      rw [World.size_alloc] at h1
      refine ⟨v,rfl,?_,hb.trans (h2.mono (by simp))⟩
      unfold TextsR
      rw [srtT_len]
      exact h1
  have q1:=Lib.hid (q l A1 c1 hl tl)
  have q2:=Lib.hid (q m A2 c2 hm tm)
  have n1:=srtT_len l
  have n2:=srtT_len m
  have cE:Hid (∀ W W' x1 x2 b1 b2,W.heap.size≤W'.heap.size→Below W.heap.size W W'→TextsR W b1 x1 (srtT l)→TextsR W' b2 x2 (srtT m)→Calls Tryz.prog 51 #[x1,x2] W' (BoolW (unS l m) W')):=Lib.hid fun W W' x1 x2 b1 b2 hs hb r1 r2=>
    q_Text _ _ _ _ _ W' (texts_of_row (row_below r1 hb (Nat.le_refl _)) s1 (by omega)) (texts_of_row r2 s2 (by omega)) (Nat.le_refl _)
  have hb0:=Lib.hid (Below.refl w.heap.size w)
  clear tl tm q s1 s2 n1 n2 hl hm
  go_enter Tryz.func70,Tryz.ntmps70
  go_wp2_with (first
    | (go_at_call 51;(with_reducible refine (cE.out _ _ _ _ _ _ hbB.out.size hbB.out ht1.out ht2.out).mono ?_);rintro e wz ⟨rfl,hbE⟩;have hbF:=Lib.hid ((hbA.out.trans (hbB.out.mono hbA.out.size)).trans (hbE.mono (hbA.out.trans (hbB.out.mono hbA.out.size)).size));clear hbE)
    | (go_at_call 104;(with_reducible refine (q2.out _ hbA.out).mono ?_);rintro e wb ⟨x2,rfl,hx2,hb2⟩;have ht2:=Lib.hid hx2;have hbB:=Lib.hid hb2;clear hx2 hb2)
    | (go_at_call 104;(with_reducible refine (q1.out _ hb0.out).mono ?_);rintro e wa ⟨x1,rfl,hx1,hb1⟩;have ht1:=Lib.hid hx1;have hbA:=Lib.hid hb1;clear hx1 hb1)
    | (go_at_call 105;(with_reducible refine (v2.out _).mono ?_);rintro e wv ⟨rfl,rfl⟩)
    | (go_at_call 105;(with_reducible refine (v1.out _).mono ?_);rintro e wv ⟨rfl,rfl⟩))
  go_ret
  exact ⟨rfl,hbF.out⟩
end Go.Proofs.YtdhehcobnbcmdaaGreatDoor
