/- A part of the proof of DeltaLines: ChgP. -/
import Derived.Test.YtdhehcobnbcmdaaGreatDoorPBx
import Derived.Test.YtdhehcobnbcmdaaGreatDoorPUn
import Derived.Test.YtdhehcobnbcmdaaGreatDoorPWr
import Derived.Test.YtdhehcobnbcmdaaGreatDoorPMo14
set_option linter.all false
namespace Go.Proofs.YtdhehcobnbcmdaaGreatDoor
open Go.RowKit
def okCh (a b:ConfS):Bool:=checkS a && (checkS b && ((a.title.toList == b.title.toList) && ((a.routing.toList == b.routing.toList) && ((a.slim == b.slim) && eqL eqField a.fields b.fields))))
def noBox (x:BoxS):ByteArray:=ba [110,111,32,98,111,120,32]++x.name
def adBox (x:BoxS):ByteArray:=ba [98,111,120,32]++x.name
def bare (x:BoxS):BoxS:=⟨x.name,[],[],[],[],[],[]⟩
def newS (x:BoxS):List ByteArray:=[adBox x]++boxS unS (bare x) x
def goK (a b:List BoxS):Bool:=match a[0]?,b[0]? with
  | some x,some y=>x.name.toList == y.name.toList
  | _,_=>false
def headK:List BoxS→List BoxS→Nat
  | x::r,y::s=>if x.name.toList == y.name.toList then headK r s+1 else 0
  | _,_=>0
def pairS (p:BoxS×BoxS):List ByteArray:=boxS unS p.1 p.2
def noLink (x:LinkS):ByteArray:=ba [110,111,32,108,105,110,107,32]++x.frm
def adLink (x:LinkS):ByteArray:=lineTx (allL [] [x] []) 0
def noSlice (x:SliceS):ByteArray:=ba [110,111,32,115,108,105,99,101,32]++x.name
def adSlice (x:SliceS):ByteArray:=lineTx (allL [] [] [x]) 0
def changesK (a b:ConfS)(k:Nat):List ByteArray:=
  (((a.boxes.drop k).map noBox++((a.boxes.zip b.boxes).take k).flatMap pairS)++(b.boxes.drop k).flatMap newS)++(turnS eqLink noLink adLink a.links b.links++turnS eqSlice noSlice adSlice a.slices b.slices)
def changesS (a b:ConfS):List ByteArray:=if okCh a b=true then changesK a b (headK a.boxes b.boxes) else []
theorem headK_drop (a b:List BoxS)(k:Nat):headK (a.drop k) (b.drop k)=if goK (a.drop k) (b.drop k)=true then headK (a.drop (k+1)) (b.drop (k+1))+1 else 0:=by
  have h1:∀ (l:List BoxS) (k:Nat),l.drop (k+1)=(l.drop k).drop 1:=fun l k=>by rw [List.drop_drop]
  rw [h1 a,h1 b]
  generalize a.drop k=l
  generalize b.drop k=m
  cases l with
  | nil=>rfl
  | cons x r =>
    cases m with
    | nil=>rfl
    | cons y s=>rfl
theorem goK_at {a b:List BoxS}{k:Nat}{x y:BoxS}(hx:a[k]?=some x)(hy:b[k]?=some y):goK (a.drop k) (b.drop k)=(x.name.toList == y.name.toList):=by
  unfold goK
  rw [List.getElem?_drop,List.getElem?_drop,Nat.add_zero,hx,hy]
theorem goK_out {a b:List BoxS}{k:Nat}(h:a.length≤k∨b.length≤k):goK (a.drop k) (b.drop k)=false:=by
  unfold goK
  rw [List.getElem?_drop,List.getElem?_drop,Nat.add_zero]
  rcases h with h|h
  · rw [List.getElem?_eq_none h]
  · rw [List.getElem?_eq_none h]
    split<;>first|rfl|(rename_i h2;cases h2)
theorem goK_lt {a b:List BoxS}{k:Nat}(h:goK (a.drop k) (b.drop k)=true):k<a.length∧k<b.length:=by
  refine ⟨?_,?_⟩<;>refine Nat.lt_of_not_le fun hk=>?_
  · rw [goK_out (.inl hk)] at h;cases h
  · rw [goK_out (.inr hk)] at h;cases h
theorem boxS_len {x y:BoxS}(hx:WrX x)(hy:WrX y):(boxS unS x y).length≤800:=by
  have h1:=portsS_len x y
  have h2:=guardsS_len x y
  have h3:=turnS_len (eqRule unS) (noRule x) (adRule x) x.rules y.rules
  have h4:=turnS_len eqPref (noOwn x) (adOwn x) x.owns y.owns
  have h5:=turnS_len eqPref (noRoute x) (adRoute x) x.routes y.routes
  have e1:=hx.ins.2;have e2:=hx.outs.2;have e3:=hx.grd.1;have e4:=hy.grd.1;have e5:=hx.rul.1;have e6:=hy.rul.1;have e7:=hx.own.1;have e8:=hy.own.1;have e9:=hx.rou.1;have e10:=hy.rou.1
  unfold boxS
  rw [List.length_append,List.length_append,List.length_append,List.length_append]
  omega
theorem bare_wr {x:BoxS}(h:WrX x):WrX (bare x):=
  ⟨h.nm,⟨fun s h=>(List.not_mem_nil h).elim,Nat.zero_le _⟩,⟨fun s h=>(List.not_mem_nil h).elim,Nat.zero_le _⟩,⟨Nat.zero_le _,fun s h=>(List.not_mem_nil h).elim⟩,⟨Nat.zero_le _,fun s h=>(List.not_mem_nil h).elim⟩,⟨Nat.zero_le _,fun s h=>(List.not_mem_nil h).elim⟩,⟨Nat.zero_le _,fun s h=>(List.not_mem_nil h).elim⟩⟩
theorem flat_len {α : Type}(f : α→List ByteArray)(n:Nat):∀ (l:List α),(∀ x∈l,(f x).length≤n)→(l.flatMap f).length≤n*l.length
  | [],_=>Nat.zero_le _
  | x :: r, h => by
    have h1:=flat_len f n r fun y hy=>h y (List.mem_cons_of_mem _ hy)
    have h2:=h x List.mem_cons_self
    rw [List.flatMap_cons,List.length_append,List.length_cons,Nat.mul_succ]
    omega
theorem flatS_snoc {α : Type}{f : α→List ByteArray}{l:List α}{k:Nat}{x : α}(h:l[k]?=some x):(l.take (k+1)).flatMap f=(l.take k).flatMap f++f x:=by
  rw [List.take_add_one,h]
  simp
theorem map_snoc {α β : Type}{f : α→β}{l:List α}{k:Nat}{x : α}(h:l[k]?=some x):(l.take (k+1)).map f=(l.take k).map f++[f x]:=by
  rw [List.take_add_one,h]
  simp
theorem zip_at {a b:List BoxS}{k:Nat}{x y:BoxS}(hx:a[k]?=some x)(hy:b[k]?=some y):(a.zip b)[k]?=some (x,y):=by
  rw [List.getElem?_zip_eq_some]
  exact ⟨hx,hy⟩
theorem flatten_len (size:Nat):∀ (cs:List (List Value)),(∀ c∈cs,c.length=size)→cs.flatten.length=cs.length*size
  | [],_=>by simp
  | d :: cs, h => by
    rw [List.flatten_cons,List.length_append,flatten_len size cs fun c hc=>h c (List.mem_cons_of_mem _ hc),h d List.mem_cons_self,List.length_cons,Nat.add_mul]
    omega
theorem SlOf.tail {α : Type}{size:Nat}{R:World→Nat→List Value→α→Prop}{w:World}{B c:Nat}{A:Option Addr}{l:List α}(h:SlOf size R w B (.slice A l.length c) l){k:Nat}(hk:k≤l.length) :
    SlOf size R w B (.slice (A.map fun x=>x.add (k*size)) (l.drop k).length (c-k)) (l.drop k):=by
  obtain ⟨cs,hl,hs,⟨A',c',hv,h1,h2,h3,h4⟩,hR⟩:=h
  injection hv with e1 e2 e3
  subst e1 e3
  have hs1:∀ d∈cs.take k,d.length=size:=fun d hd=>hs d (List.mem_of_mem_take hd)
  have hs2:∀ d∈cs.drop k,d.length=size:=fun d hd=>hs d (List.mem_of_mem_drop hd)
  have e4:=flatten_len size _ hs1
  have e5:=flatten_len size _ hs2
  rw [List.length_take] at e4
  rw [List.length_drop] at e5
  have e6:cs.flatten=(cs.take k).flatten++(cs.drop k).flatten:=by rw [← List.flatten_append,List.take_append_drop]
  refine ⟨cs.drop k,by rw [List.length_drop,List.length_drop];omega,hs2,⟨_,_,rfl,by rw [List.length_drop];omega,⟨by omega,by rw [List.length_drop];omega⟩,by rw [e5,List.length_drop,hl],fun hn=>?_⟩,fun i d x hd hx=>?_⟩
  · rw [List.length_drop] at hn
    obtain ⟨b,off,rfl,hb,hj⟩:=h4 (by omega)
    refine ⟨b,off+k*size,by simp [Addr.add],hb,fun j u hu=>?_⟩
    rw [Nat.add_assoc]
    refine hj _ u ?_
    rw [e6,List.getElem?_append_right (by rw [e4,Nat.min_eq_left (by omega)];omega),e4,Nat.min_eq_left (by omega),Nat.add_sub_cancel_left]
    exact hu
  · rw [List.getElem?_drop] at hd hx
    exact hR _ d x hd hx
theorem slOf_none {α : Type}{size:Nat}{R:World→Nat→List Value→α→Prop}{w:World}{B c:Nat}{A:Option Addr}{l:List α}(hl:l.length=0)(hc:c≤9223372036854775807):SlOf size R w B (.slice A l.length c) l:=by
  obtain rfl:=List.eq_nil_of_length_eq_zero hl
  exact ⟨[],rfl,fun d hd=>by simp at hd,⟨A,c,rfl,Nat.zero_le _,⟨hc,Nat.zero_le _⟩,by simp,fun h=>absurd h (Nat.lt_irrefl 0)⟩,fun i d x hd _=>by simp at hd⟩
theorem boxes_run (A:Option Addr)(n c k:Nat)(hk:k≤n)(w:World):(Instr.sliceAt 23 (.slice A n c) (some (.int .i64 (k:Int))) none none).run Tryz.prog w=.ok (.slice (if c=k then A else A.map fun x=>x.add (k*7)) (n-k) (c-k)) w:=by
  have h:Tryz.prog.underlying 23=some (.slice (Tryz.prog.elem 23)):=by kernel_rfl
  have hs:∀ w,(sizeOf (Tryz.prog.elem 23)).run Tryz.prog w=.ok 7 w:=fun w=>by kernel_rfl
  rw [run_sliceAt_slice (h:=h),run_slice_l (ht:=h) (h0:=by omega) (h1:=by omega),hs]
  simp [sliced,Result.andThen]
theorem boxes_tail {w:World}{B c:Nat}{A:Option Addr}{l:List BoxS}(h:SlOf 7 BoxC w B (.slice A l.length c) l){k:Nat}(hk:k≤l.length) :
    ∃ A' c',Hid (SlOf 7 BoxC w B (.slice A' (l.drop k).length c') (l.drop k))∧∀ w,(Instr.sliceAt 23 (.slice A l.length c) (some (.int .i64 (k:Int))) none none).run Tryz.prog w=.ok (.slice A' (l.drop k).length c') w:=by
  refine ⟨if c=k then A else A.map fun x=>x.add (k*7),c-k,Lib.hid ?_,fun w=>by rw [boxes_run A _ c k hk,List.length_drop]⟩
  by_cases e:c=k
  · rw [if_pos e]
    obtain ⟨_,_,he,h1,h2,_⟩:=SlOf.form h
    injection he with _ _ he
    subst he
    exact slOf_none (by rw [List.length_drop];omega) (by omega)
  · rw [if_neg e]
    exact SlOf.tail h hk
theorem row_base_le {w:World}{base base':Nat}{v:Value}{l:List ByteArray}(h:TextsR w base v l)(hb:base'≤base):TextsR w base' v l:=by
  refine ⟨h.1,?_⟩
  rcases h.2 with hn|⟨g,cap,cur,hv,hbg,rest⟩
  · exact .inl hn
  · exact .inr ⟨g,cap,cur,hv,Nat.le_trans hb hbg,rest⟩
theorem same_link (B:Nat):SameLink 13 #[] eqLink B:=fun W x y c d hx hy _=>s_Link x y c d hx hy
theorem same_slice (B:Nat):SameSlice 18 #[] eqSlice B:=fun W x y c d hx hy hb=>s_Slice x y c d hx hy hb
theorem mine_steady (Sb g:Nat)(o:Obj):Steady Sb (Mine Sb g o):=fun _ _ h k=>h.keep k
theorem turn_links (a b:List LinkS)(va vb:Value)(B:Nat)(w0 w:World)(L:List ByteArray)(ha:SlOf 3 LinkC w B va a)(hb:SlOf 3 LinkC w B vb b)(hB:B≤w0.heap.size)(E:Env w0)(hw:∀ x∈b,WrL x)(h:ScA w0 w0.heap.size L w)(k:Mine w0.heap.size (w0.heap.size+1) (.cells #[.pointer (some ⟨w0.heap.size,0,none⟩)] 56 (0,0)) w)(hL:L.length+(a.length+b.length)≤1000000) :
    Calls Tryz.prog 12 #[va,vb, .func (.func 13) #[] #[], .func (.func 14) #[] #[.pointer (some ⟨w0.heap.size+1,0,none⟩)], .func (.func 15) #[] #[.pointer (some ⟨w0.heap.size+1,0,none⟩)]] w (SayPost w0 w0.heap.size (L++turnS eqLink noLink adLink a b) w):=
  tn_Link a b va vb _ _ _ #[] _ _ _ eqLink noLink adLink B w0 w w0.heap.size L (fun a w=>by kernel_rfl) (fun a w=>by kernel_rfl) (fun a w=>by kernel_rfl) (same_link B) ha hb hB h k (mine_steady _ _ _) (a_noLink _ _ B w0 _ a) (a_adLink _ _ B w0 _ b E (Nat.le_refl _) hB hw) hL
theorem turn_slices (a b:List SliceS)(va vb:Value)(B:Nat)(w0 w:World)(L:List ByteArray)(ha:SlOf 3 SliceC w B va a)(hb:SlOf 3 SliceC w B vb b)(hB:B≤w0.heap.size)(E:Env w0)(hw:∀ x∈b,WrS x)(h:ScA w0 w0.heap.size L w)(k:Mine w0.heap.size (w0.heap.size+1) (.cells #[.pointer (some ⟨w0.heap.size,0,none⟩)] 56 (0,0)) w)(hL:L.length+(a.length+b.length)≤1000000) :
    Calls Tryz.prog 17 #[va,vb, .func (.func 18) #[] #[], .func (.func 19) #[] #[.pointer (some ⟨w0.heap.size+1,0,none⟩)], .func (.func 20) #[] #[.pointer (some ⟨w0.heap.size+1,0,none⟩)]] w (SayPost w0 w0.heap.size (L++turnS eqSlice noSlice adSlice a b) w):=
  tn_Slice a b va vb _ _ _ #[] _ _ _ eqSlice noSlice adSlice B w0 w w0.heap.size L (fun a w=>by kernel_rfl) (fun a w=>by kernel_rfl) (fun a w=>by kernel_rfl) (same_slice B) ha hb hB h k (mine_steady _ _ _) (a_noSlice _ _ B w0 _ a) (a_adSlice _ _ B w0 _ b E (Nat.le_refl _) hB hw) hL
theorem two_box {x y:BoxS}{cx cy:List Value}{B:Nat}{w0 w:World}{L:List ByteArray}(hx:BoxC w B cx x)(hy:BoxC w B cy y)(hB:B≤w0.heap.size)(h:ScA w0 w0.heap.size L w)(E:Env w0)(wx:WrX x)(wy:WrX y)(hL:L.length≤80000) :
    Calls Tryz.prog 11 #[.pointer (some ⟨w0.heap.size,0,none⟩), .agg cx.toArray, .agg cy.toArray] w (SayPost w0 w0.heap.size (L++boxS unS x y) w):=by
  have e1:=wx.ins.2;have e2:=wx.outs.2;have e3:=wx.grd.1;have e4:=wy.grd.1;have e5:=wx.rul.1;have e6:=wy.rul.1;have e7:=wx.own.1;have e8:=wy.own.1;have e9:=wx.rou.1;have e10:=wy.rou.1
  exact s_box unS unord x y cx cy B w0 w w0.heap.size L hx hy hB h E (Nat.le_refl _) wx.nm wy.grd.2 ⟨wy.ins.1,Nat.le_trans wy.ins.2 (by decide)⟩ ⟨wy.outs.1,Nat.le_trans wy.outs.2 (by decide)⟩ wx.rul.2 wy.rul.2 wx.own.2 wy.own.2 wx.rou.2 wy.rou.2 (by omega)
structure CgAt (w0:World)(L:List ByteArray)(W:World):Prop where
  s:ScA w0 w0.heap.size L W
  m:Mine w0.heap.size (w0.heap.size+1) (.cells #[.pointer (some ⟨w0.heap.size,0,none⟩)] 56 (0,0)) W
section
variable {w0 W W':World} {L L':List ByteArray}
theorem CgAt.moved (h:CgAt w0 L W)(hs:ScA w0 w0.heap.size L' W')(hx:KeepX w0.heap.size W W'):CgAt w0 L' W':=⟨hs,h.m.keep hx⟩
theorem CgAt.below (h:CgAt w0 L W)(hb:Below W.heap.size W W'):CgAt w0 L W':=h.moved (h.s.below hb) (KeepX.of_below h.s.lt hb)
theorem CgAt.ptr (h:CgAt w0 L W):W.cell? ⟨w0.heap.size+1,0,none⟩=some (.pointer (some ⟨w0.heap.size,0,none⟩)):=cell_of_one h.m.1
theorem CgAt.start (w0:World):CgAt w0 [] ((w0.alloc (.cells #[.slice none 0 0] 58 (0,0))).alloc (.cells #[.pointer (some ⟨w0.heap.size,0,none⟩)] 56 (0,0))):=by
  have b0:Below w0.heap.size w0 (w0.alloc (.cells #[.slice none 0 0] 58 (0,0))):=(Below.refl _ _).alloc (Nat.le_refl _) _
  have hs:ScA w0 w0.heap.size [] (w0.alloc (.cells #[.slice none 0 0] 58 (0,0))):=⟨⟨_,heap_alloc_new w0 _,World.ownsRow_nil _ _ _ _⟩,b0⟩
  have b1:Below (w0.alloc (.cells #[.slice none 0 0] 58 (0,0))).heap.size (w0.alloc (.cells #[.slice none 0 0] 58 (0,0))) ((w0.alloc (.cells #[.slice none 0 0] 58 (0,0))).alloc (.cells #[.pointer (some ⟨w0.heap.size,0,none⟩)] 56 (0,0))):=(Below.refl _ _).alloc (Nat.le_refl _) _
  refine ⟨hs.below b1,?_⟩
  have:=hs.mine (o:=(.cells #[.pointer (some ⟨w0.heap.size,0,none⟩)] 56 (0,0))) (Below.refl _ _)
  rw [World.size_alloc] at this
  exact this
end
end Go.Proofs.YtdhehcobnbcmdaaGreatDoor
