/- A part of the proof of DeltaLines: LwE. -/
import Derived.Test.YtdhehcobnbcmdaaGreatDoorPLC
import Derived.Test.YtdhehcobnbcmdaaGreatDoorPLA
set_option linter.all false
namespace Go.Proofs.YtdhehcobnbcmdaaGreatDoor
open Go.RowKit
theorem elSl:ElT 33 29 24:=ElT.mk' Tryz.underlying33 (z:=.slice none 0 0) (by kernel_rfl) rfl
section
variable {T e:TypeId} {bytes:Nat} {w:World}
theorem wp_cat (E:ElT T e bytes){ops:Array Oper}{rest:List Oper}{o:Oper}{a:Act}{Q:Exit→Act→World→Prop}(hgd:o.guard=none)(s x:Operand)
    (ho:o.op=.call { callee:=.builtin .append,args:=#[s,x],argTypes:=#[T,T] }) (base n:Nat) (v:Value) (xs:List Value) (hs:a.eval s=v) (hown:w.ownsRow base e 1 v n xs) (base2 m:Nat) (v2:Value) (ys:List Value) (hx:a.eval x=v2)
    (hown2:w.ownsRow base2 e 1 v2 m ys) (hu:∀ u∈ys,u.oneCell'=true) (hn:(n+m)*bytes≤140737488355328) (hn2:n+m≤maxLen) (hbase:base≤w.heap.size)
    (h:∀ v' w',w'.ownsRow base e 1 v' (n+m) (xs++ys)→Below base w w'→wpList Tryz.prog ops Q rest (a.put o.dst v') w'):wpList Tryz.prog ops Q (o::rest) a w:=by
  refine wpList_plain hgd fun K hK=>?_
  obtain ⟨v',w',hr,h2,h3⟩:=run_cat E o.type base n v xs hown base2 m v2 ys hown2 hu hn hn2 hbase
  unfold Oper.wp execOp
  simp only [ho,resolve,invoke,builtin,Sem.run_bind,Sem.run_pure,Result.andThen_ok,List.map_toArray,List.map_cons,List.map_nil,hs,hx,hr]
  exact hK _ _ (h v' w' h2 h3)
end
theorem tmod2 (k q:Nat)(h:k % 2=q):(k:Int).tmod 2=(q:Int):=by
  rw [Int.tmod_eq_emod_of_nonneg (by omega)]
  omega
theorem row_addr {w:World}{base n c:Nat}{e:TypeId}{A:Option Addr}{xs:List Value}(h:w.ownsRow base e 1 (.slice A n c) n xs)(hn:0<n):∃ g,A=some ⟨g,0,none⟩∧base≤g∧g<w.heap.size:=by
  rcases h.2 with ⟨e1,h0⟩|⟨g,cap,cur,e1,hb,hg,_⟩
  · omega
  · exact ⟨g,(Value.slice.inj e1).1,hb,(Array.getElem?_eq_some_iff.1 hg).1⟩
theorem was_cells {w:World}{gw:Nat}{u1 u2:Value}{T:TypeId}(h:w.heap[gw]?=some (.cells #[u1,u2] T (0,0))):w.cell? ⟨gw,0,none⟩=some u1∧w.cell? ⟨gw,1,none⟩=some u2:=
  ⟨cell_of_row w gw 0 _ T (0,0) h,cell_of_row w gw 1 _ T (0,0) h⟩
theorem row_free {w:World}{base n c g:Nat}{e:TypeId}{xs:List Value}(h:w.ownsRow base e 1 (.slice (some ⟨g,0,none⟩) n c) n xs)(k:Nat):w.frozen? ⟨g,k,none⟩=false:=by
  rcases h.2 with ⟨e1,_⟩|⟨g',cap,cur,e1,hb,hg,_⟩
  · cases e1
  · have e2:g=g':=by simpa using (Value.slice.inj e1).1
    subst e2
    simp [World.frozen?,hg]
theorem text_cell {w:World}{base n c g:Nat}{l:List ByteArray}(h:TextsR w base (.slice (some ⟨g,0,none⟩) l.length c) l){k:Nat}(hk:k<l.length):w.cell? ⟨g,k,none⟩=some (.string l[k]):=row_cell h (by rw [List.getElem?_map,List.getElem?_eq_getElem hk];rfl)
theorem setc_far {w:World}{g b k j:Nat}{u:Value}(h:b≠g):(w.setCell ⟨g,k,none⟩ u).cell? ⟨b,j,none⟩=w.cell? ⟨b,j,none⟩:=World.cell?_of_block (a:=⟨b,j,none⟩) (Below.heap_setCell w ⟨g,k,none⟩ u b h)
theorem one_str (L:List ByteArray):∀ u∈L.map Value.string,u.oneCell'=true:=fun u hu=>by
  obtain ⟨s,_,rfl⟩:=List.mem_map.1 hu
  rfl
theorem empty_row (w:World):(w.alloc (.cells #[] 9 (0,0))).ownsRow w.heap.size 9 1 (.slice (some ⟨w.heap.size,0,none⟩) 0 0) 0 []:=
  ⟨rfl, .inr ⟨w.heap.size,0,#[],rfl,Nat.le_refl _,heap_alloc_new w _,Nat.le_refl _,Nat.zero_le _,rfl,rfl⟩⟩
theorem lawL_even (L1 L2:List ByteArray)(k:Nat):lawL L1 L2 (2*k)=L1:=by unfold lawL;rw [if_pos (by omega)]
theorem lawL_odd (L1 L2:List ByteArray)(k:Nat):lawL L1 L2 (2*k+1)=L2:=by unfold lawL;rw [if_neg (by omega)]
theorem law_range (L1 L2:List ByteArray)(k:Nat):(List.range (2*(k+1))).map (lawL L1 L2)=(List.range (2*k)).map (lawL L1 L2)++[L1,L2]:=by
  rw [show 2*(k+1)=2*k+1+1 by omega,List.range_succ,List.range_succ,List.map_append,List.map_append,List.append_assoc]
  simp [lawL_even,lawL_odd]
theorem PhA.begin {w1 W:World}{u1 u2 v1 v2:Value}{L1 L2:List ByteArray}{n1 n2 n3 n4:Nat}(hb:Below w1.heap.size w1 W)(t1:TextsR W n1 v1 L1)(t2:TextsR W n2 v2 L2)(s1:TextsR W n3 u1 L1)(s2:TextsR W n4 u2 L2)
    (hn1:w1.heap.size≤n1) (hn2:n1≤n2) (hn3:n2≤n3) (hn4:n3≤n4) (f1:∀ b,v1.ownBlock=some b→b<n2) (f2:∀ b,v2.ownBlock=some b→b<n3) (f3:∀ b,u1.ownBlock=some b→b<n4) :
    PhA w1 W.heap.size u1 u2 L1 L2 (.slice (some ⟨W.heap.size+1,0,none⟩) 2 2) [v1,v2] ((List.range (2*1)).map (lawL L1 L2)) ((W.alloc (.cells #[u1,u2] 29 (0,0))).alloc (.cells #[v1,v2] 29 (0,0))):=by
  have hb1:Below W.heap.size W ((W.alloc (.cells #[u1,u2] 29 (0,0))).alloc (.cells #[v1,v2] 29 (0,0))):=((Below.refl _ _).alloc (Nat.le_refl _) _).alloc (by simp) _
  have e:(List.range (2*1)).map (lawL L1 L2)=[L1,L2]:=rfl
  have ho:((W.alloc (.cells #[u1,u2] 29 (0,0))).alloc (.cells #[v1,v2] 29 (0,0))).ownsRow w1.heap.size 29 1 (.slice (some ⟨W.heap.size+1,0,none⟩) 2 2) 2 [v1,v2]:=by
    refine ⟨rfl, .inr ⟨W.heap.size+1,2,#[v1,v2],rfl,by have:=hb.size;omega,?_,Nat.le_refl _,by decide,rfl,rfl⟩⟩
    have:=heap_alloc_new (W.alloc (.cells #[u1,u2] 29 (0,0))) (.cells #[v1,v2] 29 (0,0))
    rw [World.size_alloc] at this
    exact this
  rw [e]
  refine ⟨hb.trans (hb1.mono hb.size),(heap_alloc_old _ _ (by simp)).trans (heap_alloc_new W _),hb.size,row_base_le (row_below s1 hb1 (Nat.le_refl _)) (by omega),row_base_le (row_below s2 hb1 (Nat.le_refl _)) (by omega),ho,by simp [Value.ownBlock],rfl,fun j v l hv hl=>?_,?_⟩
  · match j,hv,hl with
    | 0, hv, hl =>
      injection hv with hv;injection hl with hl;subst hv hl
      exact row_base_le (row_below t1 hb1 (Nat.le_refl _)) hn1
    | 1, hv, hl =>
      injection hv with hv;injection hl with hl;subst hv hl
      exact row_base_le (row_below t2 hb1 (Nat.le_refl _)) (by omega)
    | j+2,hv,_=>simp at hv
  · have g1:=fun b (h:v1.ownBlock=some b)=>(t1.lt b h).1
    have g2:=fun b (h:v2.ownBlock=some b)=>(t2.lt b h).1
    have g3:=fun b (h:u1.ownBlock=some b)=>(s1.lt b h).1
    have g4:=fun b (h:u2.ownBlock=some b)=>(s2.lt b h).1
    have p0:Apart []:=fun i j v u g _ hi=>by simp at hi
    have p1:Apart [u1]:=p0.push fun u hu=>(List.not_mem_nil hu).elim
    have p2:Apart [u1,u2]:=p1.push fun u hu g h1 h2=>by
      rw [List.mem_singleton.1 hu] at h2
      have:=f3 g h2;have:=g4 g h1;omega
    have p3:Apart [u1,u2,v1]:=p2.push fun u hu g h1 h2=>by
      have:=f1 g h1
      simp only [List.mem_cons,List.not_mem_nil,or_false] at hu
      rcases hu with rfl|rfl
      · have:=g3 g h2;omega
      · have:=g4 g h2;omega
    exact p3.push fun u hu g h1 h2=>by
      have:=f2 g h1
      have:=g2 g h1
      simp only [List.mem_cons,List.not_mem_nil,or_false] at hu
      rcases hu with rfl|rfl|rfl
      · have:=g3 g h2;omega
      · have:=g4 g h2;omega
      · have:=f1 g h2;omega
def lsAt (L1 L2:List ByteArray)(n i k:Nat):List (List ByteArray):=(List.range n).map fun j=>if j<i then mkS L1 L2 j else if j=i then partS L1 L2 i k else lawL L1 L2 j
theorem lsAt_zero (L1 L2:List ByteArray)(n:Nat):lsAt L1 L2 n 0 0=(List.range n).map (lawL L1 L2):=by
  unfold lsAt
  refine List.map_congr_left fun j _=>?_
  rw [if_neg (Nat.not_lt_zero _)]
  split
  · rename_i h;rw [partS_zero,h]
  · rfl
theorem lsAt_next (L1 L2:List ByteArray)(n i:Nat):lsAt L1 L2 n i (lawL L1 L2 i).length=lsAt L1 L2 n (i+1) 0:=by
  unfold lsAt
  refine List.map_congr_left fun j _=>?_
  rw [partS_all,partS_zero]
  by_cases h1:j<i
  · rw [if_pos h1,if_pos (by omega)]
  · rw [if_neg h1]
    by_cases h2:j=i
    · rw [if_pos h2,if_pos (by omega),h2]
    · rw [if_neg h2,if_neg (by omega)]
      split
      · rename_i h;rw [h]
      · rfl
theorem lsAt_all (L1 L2:List ByteArray)(n:Nat):lsAt L1 L2 n n 0=(List.range n).map (mkS L1 L2):=by
  unfold lsAt
  refine List.map_congr_left fun j hj=>?_
  rw [if_pos (List.mem_range.1 hj)]
theorem lsAt_at {L1 L2:List ByteArray}{n i k:Nat}(h:i<n):(lsAt L1 L2 n i k)[i]?=some (partS L1 L2 i k):=by
  unfold lsAt
  rw [List.getElem?_map,List.getElem?_range h]
  show some (if i<i then _ else if i=i then _ else _)=_
  rw [if_neg (Nat.lt_irrefl _),if_pos rfl]
theorem lsAt_set {L1 L2:List ByteArray}{n i k:Nat}(h:i<n)(hk:k<(lawL L1 L2 i).length):(lsAt L1 L2 n i k).set i ((partS L1 L2 i k).set k (markT (ba [97]) i k))=lsAt L1 L2 n i (k+1):=by
  rw [partS_set hk]
  apply List.ext_getElem?
  intro j
  have hl:(lsAt L1 L2 n i k).length=n:=by unfold lsAt;rw [List.length_map,List.length_range]
  rw [List.getElem?_set]
  by_cases e:i=j
  · subst e
    rw [if_pos rfl,if_pos (by omega),lsAt_at h]
  · rw [if_neg e]
    unfold lsAt
    rw [List.getElem?_map,List.getElem?_map]
    by_cases hj:j<n
    · rw [List.getElem?_range hj]
      show some _=some _
      congr 1
      show (if j<i then _ else if j=i then _ else _)=(if j<i then _ else if j=i then _ else _)
      have e2:¬ j=i:=fun h=>e h.symm
      simp only [e2,if_false]
    · rw [List.getElem?_eq_none (by rw [List.length_range];omega)]
      rfl
theorem changes_len (a b:ConfS):(changesS a b).length≤100000:=by
  unfold changesS
  split
  case isFalse=>exact Nat.zero_le _
  rename_i hok
  have h:checkS a=true∧checkS b=true:=by
    unfold okCh at hok
    simp only [Bool.and_eq_true] at hok
    exact ⟨hok.1,hok.2.1⟩
  have wa:=check_wr h.1
  have wb:=check_wr h.2
  generalize headK a.boxes b.boxes=k
  have e1:=wa.box.1;have e2:=wb.box.1;have e3:=wa.lnk.1;have e4:=wb.lnk.1;have e5:=wa.slc.1;have e6:=wb.slc.1
  have h1:((a.boxes.zip b.boxes).take k).length≤16:=by rw [List.length_take,List.length_zip];omega
  have h2:=flat_len pairS 800 ((a.boxes.zip b.boxes).take k) fun p hp=>by
    have hp:=List.mem_of_mem_take hp
    exact boxS_len (wa.box.2 _ (List.of_mem_zip hp).1) (wb.box.2 _ (List.of_mem_zip hp).2)
  have h3:=flat_len newS 801 (b.boxes.drop k) fun x hx=>by
    have hm:=List.mem_of_mem_drop hx
    have:=boxS_len (bare_wr (wb.box.2 x hm)) (wb.box.2 x hm)
    unfold newS
    rw [List.length_append,List.length_singleton]
    omega
  have h4:=turnS_len eqLink noLink adLink a.links b.links
  have h5:=turnS_len eqSlice noSlice adSlice a.slices b.slices
  have h6:(b.boxes.drop k).length≤16:=by rw [List.length_drop];omega
  have h7:(a.boxes.drop k).length≤16:=by rw [List.length_drop];omega
  unfold changesK
  rw [List.length_append,List.length_append,List.length_append,List.length_append,List.length_map]
  omega
end Go.Proofs.YtdhehcobnbcmdaaGreatDoor
