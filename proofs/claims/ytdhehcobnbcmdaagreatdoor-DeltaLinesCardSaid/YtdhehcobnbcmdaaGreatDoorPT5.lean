/- A part of the proof of DeltaLines: Trn5. -/
import Derived.Test.YtdhehcobnbcmdaaGreatDoorPT3
set_option linter.all false
namespace Go.Proofs.YtdhehcobnbcmdaaGreatDoor
open Go.RowKit
def Steady (Sb:Nat)(K:World→Prop):Prop:=∀ W W',K W→KeepX Sb W W'→K W'
structure TnAt (w0 w:World)(Sb n0:Nat)(o:Obj)(K:World→Prop)(L:List ByteArray)(W:World):Prop where
  s:ScA w0 Sb L W
  k:K W
  x:KeepX Sb w W
  m:Mine Sb n0 o W
  z:w.heap.size≤W.heap.size
section
variable {w0 w W W':World} {Sb n0:Nat} {o:Obj} {K:World→Prop} {L L':List ByteArray}
theorem TnAt.moved (h:TnAt w0 w Sb n0 o K L W)(hK:Steady Sb K)(hs:ScA w0 Sb L' W')(hx:KeepX Sb W W')(hz:W.heap.size≤W'.heap.size):TnAt w0 w Sb n0 o K L' W':=
  ⟨hs,hK _ _ h.k hx,h.x.trans hx,h.m.keep hx,Nat.le_trans h.z hz⟩
theorem TnAt.below (h:TnAt w0 w Sb n0 o K L W)(hK:Steady Sb K)(hb:Below W.heap.size W W'):TnAt w0 w Sb n0 o K L W':=
  h.moved hK (h.s.below hb) (KeepX.of_below h.s.lt hb) hb.size
theorem TnAt.keeps (h:TnAt w0 w Sb n0 o K L W){l:List ByteArray}(hw:ScA w0 Sb l w){B:Nat}(hB:B≤Sb):∀ b off,b<B→W.cell? ⟨b,off,none⟩=w.cell? ⟨b,off,none⟩:=
  fun b off hb=>(keepB h.s.b hB b off hb).trans (keepB hw.b hB b off hb).symm
end
def turnS {α : Type}(same : α→α→Bool)(aw ad : α→ByteArray)(a b:List α):List ByteArray:=
  (a.filter fun x=>!(b.any fun y=>same x y)).map aw++(b.filter fun y=>!(a.any fun x=>same x y)).map ad
theorem filt_in {α : Type}{p : α→Bool}{f : α→ByteArray}{l:List α}{k:Nat}{x : α}(hx:l[k]?=some x)(hp:p x=true):((l.take (k+1)).filter p).map f=((l.take k).filter p).map f++[f x]:=by
  rw [List.take_add_one,hx];simp [hp]
theorem filt_out {α : Type}{p : α→Bool}{f : α→ByteArray}{l:List α}{k:Nat}{x : α}(hx:l[k]?=some x)(hp:p x=false):((l.take (k+1)).filter p).map f=((l.take k).filter p).map f:=by
  rw [List.take_add_one,hx];simp [hp]
theorem filt_le {α : Type}{p : α→Bool}{f : α→ByteArray}{l:List α}(k:Nat):(((l.take k).filter p).map f).length≤l.length:=by
  rw [List.length_map]
  exact Nat.le_trans (List.length_filter_le _ _) (by rw [List.length_take];omega)
def ActLink (w0:World)(Sb B:Nat)(K:World→Prop)(fa:Nat)(ua:Array Value)(aw:LinkS→ByteArray)(a:List LinkS):Prop:=∀ W l x c,x∈a→LinkC W B c x→ScA w0 Sb l W→K W→l.length≤1000000→Calls Tryz.prog fa (#[.agg c.toArray]++ua) W (SayPost w0 Sb (l++[aw x]) W)
set_option maxHeartbeats 8000000 in
set_option maxRecDepth 100000 in
theorem tn_Link (a b : List LinkS) (va vb : Value) (fs fa fd : Nat) (us ua ud : Array Value) (K : World → Prop) (same : LinkS → LinkS → Bool) (aw ad : LinkS → ByteArray) (B : Nat) (w0 w : World) (Sb : Nat) (l : List ByteArray)
    (es:Ent fs) (ea:Ent fa) (ed:Ent fd) (hS:SameLink fs us same B) (ha:SlOf 3 LinkC w B va a) (hb:SlOf 3 LinkC w B vb b) (hB:B≤Sb) (h:ScA w0 Sb l w) (k:K w) (hK:Steady Sb K)
    (hA:ActLink w0 Sb B K fa ua aw a) (hD:ActLink w0 Sb B K fd ud ad b) (hll:l.length+(a.length+b.length)≤1000000) :
    Calls Tryz.prog 12 #[va,vb, .func (.func fs) #[] us, .func (.func fa) #[] ua, .func (.func fd) #[] ud] w (SayPost w0 Sb (l++turnS same aw ad a b) w):=by
  obtain ⟨Aa,ca,rfl,ha1,ha2⟩:=SlOf.form ha
  obtain ⟨Ab,cb,rfl,hb1,hb2'⟩:=SlOf.form hb
  obtain ⟨W1,hW1⟩:∃ W1,w.alloc (.cells #[.func (.func fs) #[] us] 64 (0,0))=W1:=⟨_,rfl⟩
  obtain ⟨O7,hO7⟩:∃ O7:Obj,(.cells #[.func (.func fs) #[] us] 64 (0,0))=O7:=⟨_,rfl⟩
  have hT1:Hid (TnAt w0 w Sb w.heap.size O7 K l W1):=Lib.hid (by
    have hbw:Below w.heap.size w W1:=by rw [← hW1];exact (Below.refl _ _).alloc (Nat.le_refl _) _
    rw [hO7] at hW1
    exact ⟨h.below hbw,hK _ _ k (KeepX.of_below h.lt hbw),KeepX.of_below h.lt hbw,by have:=h.mine (o:=O7) (W':=W1) (by rw [hW1];exact Below.refl _ _);exact this,hbw.size⟩)
  have hll:=Lib.hid hll
  replace h:=Lib.hid h
  replace ha:=Lib.hid ha
  replace hb:=Lib.hid hb
  have ea':∀ a w,(callFunc fa a).run Tryz.prog w=.ok (.enter fa a) w:=ea
  have ed':∀ a w,(callFunc fd a).run Tryz.prog w=.ok (.enter fd a) w:=ed
  clear ea ed k
  have hO:Hid (O7=(.cells #[.func (.func fs) #[] us] 64 (0,0))):=Lib.hid hO7.symm
  clear hO7
  replace hO:=hO.out
  have hF:Hid (l++turnS same aw ad a b=(l++(a.filter fun x=>!(b.any fun y=>same x y)).map aw)++(b.filter fun y=>!(a.any fun x=>same x y)).map ad):=Lib.hid (by rw [List.append_assoc];rfl)
  generalize l++turnS same aw ad a b=RR at *
  have hl1:Hid ((l++(a.filter fun x=>!(b.any fun y=>same x y)).map aw).length+b.length≤1000000):=Lib.hid (by
    have:=hll.out
    have:=List.length_filter_le (fun x=>!(b.any fun y=>same x y)) a
    rw [List.length_append,List.length_map];omega)
  subst hO
  go_enter Tryz.func12,Tryz.ntmps12
  go_wp2_with fail
  go_loopw [16] (fun i wr=>∃ k:Nat,k≤a.length∧i=.int .i64 k∧Hid (TnAt w0 w Sb w.heap.size (.cells #[.func (.func fs) #[] us] 64 (0,0)) K (l++((a.take k).filter (fun x=>!(b.any fun y=>same x y))).map aw) wr)) (fun i _=>a.length-(intOf i).toNat)
  case atStart=>exact ⟨0,Nat.zero_le _,rfl,Lib.hid (by rw [List.take_zero,List.filter_nil,List.map_nil,List.append_nil];exact hT1.out)⟩
  case round=>
    obtain ⟨k,hk,rfl,HT⟩:=hrel
    obtain ⟨wo,rfl⟩:∃ wo,wo=wr:=⟨_,rfl⟩
    clear hT1
    by_cases hlt:k<a.length
    · have hkw:=HT.out.keeps h.out hB
      have hka:=ha.out.keep (w':=wo) (Nat.le_refl _) hkw fun _ _ h=>h
      have hkm:=hb.out.keep (w':=wo) (Nat.le_refl _) hkw fun _ _ h=>h
      have hSz:=HT.out.s.lt
      obtain ⟨b_,off,rfl⟩:=SlOf.addr hka (by omega)
      obtain ⟨_,c,x,hx,hc,hj⟩:=SlOf.el hka hlt
      have hxm:=List.mem_of_getElem? hx
      obtain ⟨W2,hW2⟩:∃ W2,wo.alloc (.cells c.toArray 63 (0,0))=W2:=⟨_,rfl⟩
      have hb2:Below wo.heap.size wo W2:=by rw [← hW2];exact (Below.refl _ _).alloc (Nat.le_refl _) _
      have hz2:W2.heap.size=wo.heap.size+1:=by rw [← hW2];simp
      have hbo:∀ W,Below W2.heap.size W2 W→Below wo.heap.size wo W:=fun W hb=>hb2.trans (hb.mono (by omega))
      have hm7:∀ W,Below W2.heap.size W2 W→W.heap[w.heap.size]?=some (.cells #[.func (.func fs) #[] us] 64 (0,0)):=fun W hb=>(HT.out.m.keep (KeepX.of_below hSz (hbo W hb))).1
      have hn11:∀ W,Below W2.heap.size W2 W→W.heap[wo.heap.size]?=some (.cells c.toArray 63 (0,0)):=fun W hb=>(hb.block _ (by omega)).trans (by rw [← hW2];exact heap_alloc_new wo _)
      have hcW:∀ W,Below W2.heap.size W2 W→LinkC W B c x:=fun W hb=>hc
      have hsW:∀ W,Below W2.heap.size W2 W→B≤W.heap.size:=fun W hb=>by have:=hb.size;omega
      have cF:=Lib.hid (cf_Link b _ 43 #[.pointer (some ⟨w.heap.size,0,none⟩), .pointer (some ⟨wo.heap.size,0,none⟩)] (fun y=>same x y) B W2 (hkm.keep (w':=W2) (Nat.le_refl _) (keepB hb2 (by omega)) (fun _ _ h=>h)) (hsW W2 (Below.refl _ _)) (fun a w=>by kernel_rfl) (fun W d y hbel hy=>tc1_Link fs us same B es hS x y c d W w.heap.size wo.heap.size _ (hm7 W hbel) (hn11 W hbel) (hcW W hbel) hy (hsW W hbel)))
      have hTW:Hid (∀ W,Below W2.heap.size W2 W→TnAt w0 w Sb w.heap.size (.cells #[.func (.func fs) #[] us] 64 (0,0)) K (l++((a.take k).filter (fun x=>!(b.any fun y=>same x y))).map aw) W):=Lib.hid fun W hb=>HT.out.below hK (hbo W hb)
      have hlen:=filt_le (p:=fun x=>!(b.any fun y=>same x y)) (f:=aw) (l:=a) k
      have cA:=Lib.hid fun W hb=>hA W _ x c hxm (hcW W hb) (hTW.out W hb).s (hTW.out W hb).k (by rw [List.length_append];have:=hlen;have:=hll.out;omega)
      have hcx:=Lib.hid fun W hb=>hn11 W hb
      obtain rfl:=hc.1
      have e0:wo.cell? ⟨b_,off+k*3,none⟩=some (.string x.frm):=hj 0 _ rfl
      have e1:wo.cell? ⟨b_,off+k*3+1,none⟩=some (.string x.dst):=hj 1 _ rfl
      have e2:wo.cell? ⟨b_,off+k*3+2,none⟩=some (I6 x.cost):=hj 2 _ rfl
      replace cA:Hid (∀ W,Below W2.heap.size W2 W→Calls Tryz.prog fa (#[.agg #[.string x.frm, .string x.dst,I6 x.cost]]++ua) W (SayPost w0 Sb ((l++((a.take k).filter (fun x=>!(b.any fun y=>same x y))).map aw)++[aw x]) W)):=cA
      replace hcx:=Lib.hid fun W hb=>cellsAt3 (hcx.out W hb)
      have hxo:=Lib.hid (filt_out (p:=fun x=>!(b.any fun y=>same x y)) (f:=aw) hx)
      have hxi:=Lib.hid (filt_in (p:=fun x=>!(b.any fun y=>same x y)) (f:=aw) hx)
      clear hx hj hka hkm hkw hxm hm7 hn11 hcW hlen HT hz2 hb2
      replace hbo:=Lib.hid hbo
      cases hA':b.any (fun y=>same x y)
      · rw [hA'] at cF
        replace hxi:=Lib.hid (hxi.out (by simp only [hA'];rfl))
        clear hxo hA'
        go_wp2_with (first
          | (go_at_call 42;(with_reducible refine (cF.out).mono ?_);rintro e wy ⟨rfl,hbB⟩;obtain ⟨e0,e1,e2⟩:=hcx.out _ hbB)
          | ((with_reducible refine (cA.out _ hbB).mono ?_);rintro e wz ⟨⟨vz,rfl⟩,hSc,hKx,hsz⟩;have hTz:=Lib.hid ((hTW.out _ hbB).moved hK hSc hKx hsz);clear hSc hKx hsz))
        go_roundw
        case rel=>exact ⟨k+1,by omega,by go_num,Lib.hid (by rw [hxi.out,← List.append_assoc];exact hTz.out)⟩
        case measure=>simp [intOf];omega
      · rw [hA'] at cF
        replace hxo:=Lib.hid (hxo.out (by simp only [hA'];rfl))
        clear hxi hA' cA
        go_wp2_with (go_at_call 42;(with_reducible refine (cF.out).mono ?_);rintro e wy ⟨rfl,hbB⟩)
        go_roundw
        case rel=>exact ⟨k+1,by omega,by go_num,Lib.hid (by rw [hxo.out];exact hTW.out _ hbB)⟩
        case measure=>simp [intOf];omega
    · have hT2:Hid (TnAt w0 w Sb w.heap.size (.cells #[.func (.func fs) #[] us] 64 (0,0)) K (l++(a.filter fun x=>!(b.any fun y=>same x y)).map aw) wo):=Lib.hid (by rw [List.take_of_length_le (by omega)] at HT;exact HT.out)
      generalize l++(a.filter fun x=>!(b.any fun y=>same x y)).map aw=L1 at *
      clear HT
      go_wp2_with fail
      go_loopw [30] (fun i wr=>∃ k:Nat,k≤b.length∧i=.int .i64 k∧Hid (TnAt w0 w Sb w.heap.size (.cells #[.func (.func fs) #[] us] 64 (0,0)) K (L1++((b.take k).filter (fun y=>!(a.any fun x=>same x y))).map ad) wr)) (fun i _=>b.length-(intOf i).toNat)
      case atStart=>exact ⟨0,Nat.zero_le _,rfl,Lib.hid (by rw [List.take_zero,List.filter_nil,List.map_nil,List.append_nil];exact hT2.out)⟩
      case round=>
        obtain ⟨k,hk,rfl,HT⟩:=hrel
        obtain ⟨wo,rfl⟩:∃ wo,wo=wr:=⟨_,rfl⟩
        clear hT2
        by_cases hlt:k<b.length
        · have hkw:=HT.out.keeps h.out hB
          have hka:=hb.out.keep (w':=wo) (Nat.le_refl _) hkw fun _ _ h=>h
          have hkm:=ha.out.keep (w':=wo) (Nat.le_refl _) hkw fun _ _ h=>h
          have hSz:=HT.out.s.lt
          obtain ⟨b_,off,rfl⟩:=SlOf.addr hka (by omega)
          obtain ⟨_,c,x,hx,hc,hj⟩:=SlOf.el hka hlt
          have hxm:=List.mem_of_getElem? hx
          obtain ⟨W2,hW2⟩:∃ W2,wo.alloc (.cells c.toArray 63 (0,0))=W2:=⟨_,rfl⟩
          have hb2:Below wo.heap.size wo W2:=by rw [← hW2];exact (Below.refl _ _).alloc (Nat.le_refl _) _
          have hz2:W2.heap.size=wo.heap.size+1:=by rw [← hW2];simp
          have hbo:∀ W,Below W2.heap.size W2 W→Below wo.heap.size wo W:=fun W hb=>hb2.trans (hb.mono (by omega))
          have hm7:∀ W,Below W2.heap.size W2 W→W.heap[w.heap.size]?=some (.cells #[.func (.func fs) #[] us] 64 (0,0)):=fun W hb=>(HT.out.m.keep (KeepX.of_below hSz (hbo W hb))).1
          have hn11:∀ W,Below W2.heap.size W2 W→W.heap[wo.heap.size]?=some (.cells c.toArray 63 (0,0)):=fun W hb=>(hb.block _ (by omega)).trans (by rw [← hW2];exact heap_alloc_new wo _)
          have hcW:∀ W,Below W2.heap.size W2 W→LinkC W B c x:=fun W hb=>hc
          have hsW:∀ W,Below W2.heap.size W2 W→B≤W.heap.size:=fun W hb=>by have:=hb.size;omega
          have cF:=Lib.hid (cf_Link a _ 44 #[.pointer (some ⟨w.heap.size,0,none⟩), .pointer (some ⟨wo.heap.size,0,none⟩)] (fun y=>same y x) B W2 (hkm.keep (w':=W2) (Nat.le_refl _) (keepB hb2 (by omega)) (fun _ _ h=>h)) (hsW W2 (Below.refl _ _)) (fun a w=>by kernel_rfl) (fun W d y hbel hy=>tc2_Link fs us same B es hS y x d c W w.heap.size wo.heap.size _ (hm7 W hbel) (hn11 W hbel) hy (hcW W hbel) (hsW W hbel)))
          have hTW:Hid (∀ W,Below W2.heap.size W2 W→TnAt w0 w Sb w.heap.size (.cells #[.func (.func fs) #[] us] 64 (0,0)) K (L1++((b.take k).filter (fun y=>!(a.any fun x=>same x y))).map ad) W):=Lib.hid fun W hb=>HT.out.below hK (hbo W hb)
          have hlen:=filt_le (p:=fun y=>!(a.any fun x=>same x y)) (f:=ad) (l:=b) k
          have cA:=Lib.hid fun W hb=>hD W _ x c hxm (hcW W hb) (hTW.out W hb).s (hTW.out W hb).k (by rw [List.length_append];have:=hlen;have:=hl1.out;omega)
          have hcx:=Lib.hid fun W hb=>hn11 W hb
          obtain rfl:=hc.1
          have e0:wo.cell? ⟨b_,off+k*3,none⟩=some (.string x.frm):=hj 0 _ rfl
          have e1:wo.cell? ⟨b_,off+k*3+1,none⟩=some (.string x.dst):=hj 1 _ rfl
          have e2:wo.cell? ⟨b_,off+k*3+2,none⟩=some (I6 x.cost):=hj 2 _ rfl
          replace cA:Hid (∀ W,Below W2.heap.size W2 W→Calls Tryz.prog fd (#[.agg #[.string x.frm, .string x.dst,I6 x.cost]]++ud) W (SayPost w0 Sb ((L1++((b.take k).filter (fun y=>!(a.any fun x=>same x y))).map ad)++[ad x]) W)):=cA
          replace hcx:=Lib.hid fun W hb=>cellsAt3 (hcx.out W hb)
          have hxo:=Lib.hid (filt_out (p:=fun y=>!(a.any fun x=>same x y)) (f:=ad) hx)
          have hxi:=Lib.hid (filt_in (p:=fun y=>!(a.any fun x=>same x y)) (f:=ad) hx)
          clear hx hj hka hkm hkw hxm hm7 hn11 hcW hlen HT hz2 hb2
          replace hbo:=Lib.hid hbo
          cases hA':a.any (fun y=>same y x)
          · rw [hA'] at cF
            replace hxi:=Lib.hid (hxi.out (by simp only [hA'];rfl))
            clear hxo hA'
            go_wp2_with (first
              | (go_at_call 42;(with_reducible refine (cF.out).mono ?_);rintro e wy ⟨rfl,hbB⟩;obtain ⟨e0,e1,e2⟩:=hcx.out _ hbB)
              | ((with_reducible refine (cA.out _ hbB).mono ?_);rintro e wz ⟨⟨vz,rfl⟩,hSc,hKx,hsz⟩;have hTz:=Lib.hid ((hTW.out _ hbB).moved hK hSc hKx hsz);clear hSc hKx hsz))
            go_roundw
            case rel=>exact ⟨k+1,by omega,by go_num,Lib.hid (by rw [hxi.out,← List.append_assoc];exact hTz.out)⟩
            case measure=>simp [intOf];omega
          · rw [hA'] at cF
            replace hxo:=Lib.hid (hxo.out (by simp only [hA'];rfl))
            clear hxi hA' cA
            go_wp2_with (go_at_call 42;(with_reducible refine (cF.out).mono ?_);rintro e wy ⟨rfl,hbB⟩)
            go_roundw
            case rel=>exact ⟨k+1,by omega,by go_num,Lib.hid (by rw [hxo.out];exact hTW.out _ hbB)⟩
            case measure=>simp [intOf];omega
        · replace HT:Hid (TnAt w0 w Sb w.heap.size (.cells #[.func (.func fs) #[] us] 64 (0,0)) K RR wo):=Lib.hid (by rw [List.take_of_length_le (by omega),← hF.out] at HT;exact HT.out)
          go_wp2_with fail
          go_end0
          exact ⟨⟨_,rfl⟩,HT.out.s,HT.out.x,HT.out.z⟩
def ActPref (w0:World)(Sb B:Nat)(K:World→Prop)(fa:Nat)(ua:Array Value)(aw:PrefS→ByteArray)(a:List PrefS):Prop:=∀ W l x c,x∈a→PrefC W B c x→ScA w0 Sb l W→K W→l.length≤1000000→Calls Tryz.prog fa (#[.agg c.toArray]++ua) W (SayPost w0 Sb (l++[aw x]) W)
set_option maxHeartbeats 8000000 in
set_option maxRecDepth 100000 in
theorem tn_Pref (a b : List PrefS) (va vb : Value) (fs fa fd : Nat) (us ua ud : Array Value) (K : World → Prop) (same : PrefS → PrefS → Bool) (aw ad : PrefS → ByteArray) (B : Nat) (w0 w : World) (Sb : Nat) (l : List ByteArray)
    (es:Ent fs) (ea:Ent fa) (ed:Ent fd) (hS:SamePref fs us same B) (ha:SlOf 3 PrefC w B va a) (hb:SlOf 3 PrefC w B vb b) (hB:B≤Sb) (h:ScA w0 Sb l w) (k:K w) (hK:Steady Sb K)
    (hA:ActPref w0 Sb B K fa ua aw a) (hD:ActPref w0 Sb B K fd ud ad b) (hll:l.length+(a.length+b.length)≤1000000) :
    Calls Tryz.prog 37 #[va,vb, .func (.func fs) #[] us, .func (.func fa) #[] ua, .func (.func fd) #[] ud] w (SayPost w0 Sb (l++turnS same aw ad a b) w):=by
  obtain ⟨Aa,ca,rfl,ha1,ha2⟩:=SlOf.form ha
  obtain ⟨Ab,cb,rfl,hb1,hb2'⟩:=SlOf.form hb
  obtain ⟨W1,hW1⟩:∃ W1,w.alloc (.cells #[.func (.func fs) #[] us] 80 (0,0))=W1:=⟨_,rfl⟩
  obtain ⟨O7,hO7⟩:∃ O7:Obj,(.cells #[.func (.func fs) #[] us] 80 (0,0))=O7:=⟨_,rfl⟩
  have hT1:Hid (TnAt w0 w Sb w.heap.size O7 K l W1):=Lib.hid (by
    have hbw:Below w.heap.size w W1:=by rw [← hW1];exact (Below.refl _ _).alloc (Nat.le_refl _) _
    rw [hO7] at hW1
    exact ⟨h.below hbw,hK _ _ k (KeepX.of_below h.lt hbw),KeepX.of_below h.lt hbw,by have:=h.mine (o:=O7) (W':=W1) (by rw [hW1];exact Below.refl _ _);exact this,hbw.size⟩)
  have hll:=Lib.hid hll
  replace h:=Lib.hid h
  replace ha:=Lib.hid ha
  replace hb:=Lib.hid hb
  have ea':∀ a w,(callFunc fa a).run Tryz.prog w=.ok (.enter fa a) w:=ea
  have ed':∀ a w,(callFunc fd a).run Tryz.prog w=.ok (.enter fd a) w:=ed
  clear ea ed k
  have hO:Hid (O7=(.cells #[.func (.func fs) #[] us] 80 (0,0))):=Lib.hid hO7.symm
  clear hO7
  replace hO:=hO.out
  have hF:Hid (l++turnS same aw ad a b=(l++(a.filter fun x=>!(b.any fun y=>same x y)).map aw)++(b.filter fun y=>!(a.any fun x=>same x y)).map ad):=Lib.hid (by rw [List.append_assoc];rfl)
  generalize l++turnS same aw ad a b=RR at *
  have hl1:Hid ((l++(a.filter fun x=>!(b.any fun y=>same x y)).map aw).length+b.length≤1000000):=Lib.hid (by
    have:=hll.out
    have:=List.length_filter_le (fun x=>!(b.any fun y=>same x y)) a
    rw [List.length_append,List.length_map];omega)
  subst hO
  go_enter Tryz.func37,Tryz.ntmps37
  go_wp2_with fail
  go_loopw [16] (fun i wr=>∃ k:Nat,k≤a.length∧i=.int .i64 k∧Hid (TnAt w0 w Sb w.heap.size (.cells #[.func (.func fs) #[] us] 80 (0,0)) K (l++((a.take k).filter (fun x=>!(b.any fun y=>same x y))).map aw) wr)) (fun i _=>a.length-(intOf i).toNat)
  case atStart=>exact ⟨0,Nat.zero_le _,rfl,Lib.hid (by rw [List.take_zero,List.filter_nil,List.map_nil,List.append_nil];exact hT1.out)⟩
  case round=>
    obtain ⟨k,hk,rfl,HT⟩:=hrel
    obtain ⟨wo,rfl⟩:∃ wo,wo=wr:=⟨_,rfl⟩
    clear hT1
    by_cases hlt:k<a.length
    · have hkw:=HT.out.keeps h.out hB
      have hka:=ha.out.keep (w':=wo) (Nat.le_refl _) hkw fun _ _ h=>h
      have hkm:=hb.out.keep (w':=wo) (Nat.le_refl _) hkw fun _ _ h=>h
      have hSz:=HT.out.s.lt
      obtain ⟨b_,off,rfl⟩:=SlOf.addr hka (by omega)
      obtain ⟨_,c,x,hx,hc,hj⟩:=SlOf.el hka hlt
      have hxm:=List.mem_of_getElem? hx
      obtain ⟨W2,hW2⟩:∃ W2,wo.alloc (.cells c.toArray 79 (0,0))=W2:=⟨_,rfl⟩
      have hb2:Below wo.heap.size wo W2:=by rw [← hW2];exact (Below.refl _ _).alloc (Nat.le_refl _) _
      have hz2:W2.heap.size=wo.heap.size+1:=by rw [← hW2];simp
      have hbo:∀ W,Below W2.heap.size W2 W→Below wo.heap.size wo W:=fun W hb=>hb2.trans (hb.mono (by omega))
      have hm7:∀ W,Below W2.heap.size W2 W→W.heap[w.heap.size]?=some (.cells #[.func (.func fs) #[] us] 80 (0,0)):=fun W hb=>(HT.out.m.keep (KeepX.of_below hSz (hbo W hb))).1
      have hn11:∀ W,Below W2.heap.size W2 W→W.heap[wo.heap.size]?=some (.cells c.toArray 79 (0,0)):=fun W hb=>(hb.block _ (by omega)).trans (by rw [← hW2];exact heap_alloc_new wo _)
      have hcW:∀ W,Below W2.heap.size W2 W→PrefC W B c x:=fun W hb=>hc
      have hsW:∀ W,Below W2.heap.size W2 W→B≤W.heap.size:=fun W hb=>by have:=hb.size;omega
      have cF:=Lib.hid (cf_Pref b _ 73 #[.pointer (some ⟨w.heap.size,0,none⟩), .pointer (some ⟨wo.heap.size,0,none⟩)] (fun y=>same x y) B W2 (hkm.keep (w':=W2) (Nat.le_refl _) (keepB hb2 (by omega)) (fun _ _ h=>h)) (hsW W2 (Below.refl _ _)) (fun a w=>by kernel_rfl) (fun W d y hbel hy=>tc1_Pref fs us same B es hS x y c d W w.heap.size wo.heap.size _ (hm7 W hbel) (hn11 W hbel) (hcW W hbel) hy (hsW W hbel)))
      have hTW:Hid (∀ W,Below W2.heap.size W2 W→TnAt w0 w Sb w.heap.size (.cells #[.func (.func fs) #[] us] 80 (0,0)) K (l++((a.take k).filter (fun x=>!(b.any fun y=>same x y))).map aw) W):=Lib.hid fun W hb=>HT.out.below hK (hbo W hb)
      have hlen:=filt_le (p:=fun x=>!(b.any fun y=>same x y)) (f:=aw) (l:=a) k
      have cA:=Lib.hid fun W hb=>hA W _ x c hxm (hcW W hb) (hTW.out W hb).s (hTW.out W hb).k (by rw [List.length_append];have:=hlen;have:=hll.out;omega)
      have hcx:=Lib.hid fun W hb=>hn11 W hb
      obtain rfl:=hc.1
      have e0:wo.cell? ⟨b_,off+k*3,none⟩=some (I6 x.value):=hj 0 _ rfl
      have e1:wo.cell? ⟨b_,off+k*3+1,none⟩=some (I6 x.len):=hj 1 _ rfl
      have e2:wo.cell? ⟨b_,off+k*3+2,none⟩=some (.string x.dst):=hj 2 _ rfl
      replace cA:Hid (∀ W,Below W2.heap.size W2 W→Calls Tryz.prog fa (#[.agg #[I6 x.value,I6 x.len, .string x.dst]]++ua) W (SayPost w0 Sb ((l++((a.take k).filter (fun x=>!(b.any fun y=>same x y))).map aw)++[aw x]) W)):=cA
      replace hcx:=Lib.hid fun W hb=>cellsAt3 (hcx.out W hb)
      have hxo:=Lib.hid (filt_out (p:=fun x=>!(b.any fun y=>same x y)) (f:=aw) hx)
      have hxi:=Lib.hid (filt_in (p:=fun x=>!(b.any fun y=>same x y)) (f:=aw) hx)
      clear hx hj hka hkm hkw hxm hm7 hn11 hcW hlen HT hz2 hb2
      replace hbo:=Lib.hid hbo
      cases hA':b.any (fun y=>same x y)
      · rw [hA'] at cF
        replace hxi:=Lib.hid (hxi.out (by simp only [hA'];rfl))
        clear hxo hA'
        go_wp2_with (first
          | (go_at_call 72;(with_reducible refine (cF.out).mono ?_);rintro e wy ⟨rfl,hbB⟩;obtain ⟨e0,e1,e2⟩:=hcx.out _ hbB)
          | ((with_reducible refine (cA.out _ hbB).mono ?_);rintro e wz ⟨⟨vz,rfl⟩,hSc,hKx,hsz⟩;have hTz:=Lib.hid ((hTW.out _ hbB).moved hK hSc hKx hsz);clear hSc hKx hsz))
        go_roundw
        case rel=>exact ⟨k+1,by omega,by go_num,Lib.hid (by rw [hxi.out,← List.append_assoc];exact hTz.out)⟩
        case measure=>simp [intOf];omega
      · rw [hA'] at cF
        replace hxo:=Lib.hid (hxo.out (by simp only [hA'];rfl))
        clear hxi hA' cA
        go_wp2_with (go_at_call 72;(with_reducible refine (cF.out).mono ?_);rintro e wy ⟨rfl,hbB⟩)
        go_roundw
        case rel=>exact ⟨k+1,by omega,by go_num,Lib.hid (by rw [hxo.out];exact hTW.out _ hbB)⟩
        case measure=>simp [intOf];omega
    · have hT2:Hid (TnAt w0 w Sb w.heap.size (.cells #[.func (.func fs) #[] us] 80 (0,0)) K (l++(a.filter fun x=>!(b.any fun y=>same x y)).map aw) wo):=Lib.hid (by rw [List.take_of_length_le (by omega)] at HT;exact HT.out)
      generalize l++(a.filter fun x=>!(b.any fun y=>same x y)).map aw=L1 at *
      clear HT
      go_wp2_with fail
      go_loopw [30] (fun i wr=>∃ k:Nat,k≤b.length∧i=.int .i64 k∧Hid (TnAt w0 w Sb w.heap.size (.cells #[.func (.func fs) #[] us] 80 (0,0)) K (L1++((b.take k).filter (fun y=>!(a.any fun x=>same x y))).map ad) wr)) (fun i _=>b.length-(intOf i).toNat)
      case atStart=>exact ⟨0,Nat.zero_le _,rfl,Lib.hid (by rw [List.take_zero,List.filter_nil,List.map_nil,List.append_nil];exact hT2.out)⟩
      case round=>
        obtain ⟨k,hk,rfl,HT⟩:=hrel
        obtain ⟨wo,rfl⟩:∃ wo,wo=wr:=⟨_,rfl⟩
        clear hT2
        by_cases hlt:k<b.length
        · have hkw:=HT.out.keeps h.out hB
          have hka:=hb.out.keep (w':=wo) (Nat.le_refl _) hkw fun _ _ h=>h
          have hkm:=ha.out.keep (w':=wo) (Nat.le_refl _) hkw fun _ _ h=>h
          have hSz:=HT.out.s.lt
          obtain ⟨b_,off,rfl⟩:=SlOf.addr hka (by omega)
          obtain ⟨_,c,x,hx,hc,hj⟩:=SlOf.el hka hlt
          have hxm:=List.mem_of_getElem? hx
          obtain ⟨W2,hW2⟩:∃ W2,wo.alloc (.cells c.toArray 79 (0,0))=W2:=⟨_,rfl⟩
          have hb2:Below wo.heap.size wo W2:=by rw [← hW2];exact (Below.refl _ _).alloc (Nat.le_refl _) _
          have hz2:W2.heap.size=wo.heap.size+1:=by rw [← hW2];simp
          have hbo:∀ W,Below W2.heap.size W2 W→Below wo.heap.size wo W:=fun W hb=>hb2.trans (hb.mono (by omega))
          have hm7:∀ W,Below W2.heap.size W2 W→W.heap[w.heap.size]?=some (.cells #[.func (.func fs) #[] us] 80 (0,0)):=fun W hb=>(HT.out.m.keep (KeepX.of_below hSz (hbo W hb))).1
          have hn11:∀ W,Below W2.heap.size W2 W→W.heap[wo.heap.size]?=some (.cells c.toArray 79 (0,0)):=fun W hb=>(hb.block _ (by omega)).trans (by rw [← hW2];exact heap_alloc_new wo _)
          have hcW:∀ W,Below W2.heap.size W2 W→PrefC W B c x:=fun W hb=>hc
          have hsW:∀ W,Below W2.heap.size W2 W→B≤W.heap.size:=fun W hb=>by have:=hb.size;omega
          have cF:=Lib.hid (cf_Pref a _ 74 #[.pointer (some ⟨w.heap.size,0,none⟩), .pointer (some ⟨wo.heap.size,0,none⟩)] (fun y=>same y x) B W2 (hkm.keep (w':=W2) (Nat.le_refl _) (keepB hb2 (by omega)) (fun _ _ h=>h)) (hsW W2 (Below.refl _ _)) (fun a w=>by kernel_rfl) (fun W d y hbel hy=>tc2_Pref fs us same B es hS y x d c W w.heap.size wo.heap.size _ (hm7 W hbel) (hn11 W hbel) hy (hcW W hbel) (hsW W hbel)))
          have hTW:Hid (∀ W,Below W2.heap.size W2 W→TnAt w0 w Sb w.heap.size (.cells #[.func (.func fs) #[] us] 80 (0,0)) K (L1++((b.take k).filter (fun y=>!(a.any fun x=>same x y))).map ad) W):=Lib.hid fun W hb=>HT.out.below hK (hbo W hb)
          have hlen:=filt_le (p:=fun y=>!(a.any fun x=>same x y)) (f:=ad) (l:=b) k
          have cA:=Lib.hid fun W hb=>hD W _ x c hxm (hcW W hb) (hTW.out W hb).s (hTW.out W hb).k (by rw [List.length_append];have:=hlen;have:=hl1.out;omega)
          have hcx:=Lib.hid fun W hb=>hn11 W hb
          obtain rfl:=hc.1
          have e0:wo.cell? ⟨b_,off+k*3,none⟩=some (I6 x.value):=hj 0 _ rfl
          have e1:wo.cell? ⟨b_,off+k*3+1,none⟩=some (I6 x.len):=hj 1 _ rfl
          have e2:wo.cell? ⟨b_,off+k*3+2,none⟩=some (.string x.dst):=hj 2 _ rfl
          replace cA:Hid (∀ W,Below W2.heap.size W2 W→Calls Tryz.prog fd (#[.agg #[I6 x.value,I6 x.len, .string x.dst]]++ud) W (SayPost w0 Sb ((L1++((b.take k).filter (fun y=>!(a.any fun x=>same x y))).map ad)++[ad x]) W)):=cA
          replace hcx:=Lib.hid fun W hb=>cellsAt3 (hcx.out W hb)
          have hxo:=Lib.hid (filt_out (p:=fun y=>!(a.any fun x=>same x y)) (f:=ad) hx)
          have hxi:=Lib.hid (filt_in (p:=fun y=>!(a.any fun x=>same x y)) (f:=ad) hx)
          clear hx hj hka hkm hkw hxm hm7 hn11 hcW hlen HT hz2 hb2
          replace hbo:=Lib.hid hbo
          cases hA':a.any (fun y=>same y x)
          · rw [hA'] at cF
            replace hxi:=Lib.hid (hxi.out (by simp only [hA'];rfl))
            clear hxo hA'
            go_wp2_with (first
              | (go_at_call 72;(with_reducible refine (cF.out).mono ?_);rintro e wy ⟨rfl,hbB⟩;obtain ⟨e0,e1,e2⟩:=hcx.out _ hbB)
              | ((with_reducible refine (cA.out _ hbB).mono ?_);rintro e wz ⟨⟨vz,rfl⟩,hSc,hKx,hsz⟩;have hTz:=Lib.hid ((hTW.out _ hbB).moved hK hSc hKx hsz);clear hSc hKx hsz))
            go_roundw
            case rel=>exact ⟨k+1,by omega,by go_num,Lib.hid (by rw [hxi.out,← List.append_assoc];exact hTz.out)⟩
            case measure=>simp [intOf];omega
          · rw [hA'] at cF
            replace hxo:=Lib.hid (hxo.out (by simp only [hA'];rfl))
            clear hxi hA' cA
            go_wp2_with (go_at_call 72;(with_reducible refine (cF.out).mono ?_);rintro e wy ⟨rfl,hbB⟩)
            go_roundw
            case rel=>exact ⟨k+1,by omega,by go_num,Lib.hid (by rw [hxo.out];exact hTW.out _ hbB)⟩
            case measure=>simp [intOf];omega
        · replace HT:Hid (TnAt w0 w Sb w.heap.size (.cells #[.func (.func fs) #[] us] 80 (0,0)) K RR wo):=Lib.hid (by rw [List.take_of_length_le (by omega),← hF.out] at HT;exact HT.out)
          go_wp2_with fail
          go_end0
          exact ⟨⟨_,rfl⟩,HT.out.s,HT.out.x,HT.out.z⟩
def ActSlice (w0:World)(Sb B:Nat)(K:World→Prop)(fa:Nat)(ua:Array Value)(aw:SliceS→ByteArray)(a:List SliceS):Prop:=∀ W l x c,x∈a→SliceC W B c x→ScA w0 Sb l W→K W→l.length≤1000000→Calls Tryz.prog fa (#[.agg c.toArray]++ua) W (SayPost w0 Sb (l++[aw x]) W)
set_option maxHeartbeats 8000000 in
set_option maxRecDepth 100000 in
theorem tn_Slice (a b : List SliceS) (va vb : Value) (fs fa fd : Nat) (us ua ud : Array Value) (K : World → Prop) (same : SliceS → SliceS → Bool) (aw ad : SliceS → ByteArray) (B : Nat) (w0 w : World) (Sb : Nat) (l : List ByteArray)
    (es:Ent fs) (ea:Ent fa) (ed:Ent fd) (hS:SameSlice fs us same B) (ha:SlOf 3 SliceC w B va a) (hb:SlOf 3 SliceC w B vb b) (hB:B≤Sb) (h:ScA w0 Sb l w) (k:K w) (hK:Steady Sb K)
    (hA:ActSlice w0 Sb B K fa ua aw a) (hD:ActSlice w0 Sb B K fd ud ad b) (hll:l.length+(a.length+b.length)≤1000000) :
    Calls Tryz.prog 17 #[va,vb, .func (.func fs) #[] us, .func (.func fa) #[] ua, .func (.func fd) #[] ud] w (SayPost w0 Sb (l++turnS same aw ad a b) w):=by
  obtain ⟨Aa,ca,rfl,ha1,ha2⟩:=SlOf.form ha
  obtain ⟨Ab,cb,rfl,hb1,hb2'⟩:=SlOf.form hb
  obtain ⟨W1,hW1⟩:∃ W1,w.alloc (.cells #[.func (.func fs) #[] us] 70 (0,0))=W1:=⟨_,rfl⟩
  obtain ⟨O7,hO7⟩:∃ O7:Obj,(.cells #[.func (.func fs) #[] us] 70 (0,0))=O7:=⟨_,rfl⟩
  have hT1:Hid (TnAt w0 w Sb w.heap.size O7 K l W1):=Lib.hid (by
    have hbw:Below w.heap.size w W1:=by rw [← hW1];exact (Below.refl _ _).alloc (Nat.le_refl _) _
    rw [hO7] at hW1
    exact ⟨h.below hbw,hK _ _ k (KeepX.of_below h.lt hbw),KeepX.of_below h.lt hbw,by have:=h.mine (o:=O7) (W':=W1) (by rw [hW1];exact Below.refl _ _);exact this,hbw.size⟩)
  have hll:=Lib.hid hll
  replace h:=Lib.hid h
  replace ha:=Lib.hid ha
  replace hb:=Lib.hid hb
  have ea':∀ a w,(callFunc fa a).run Tryz.prog w=.ok (.enter fa a) w:=ea
  have ed':∀ a w,(callFunc fd a).run Tryz.prog w=.ok (.enter fd a) w:=ed
  clear ea ed k
  have hO:Hid (O7=(.cells #[.func (.func fs) #[] us] 70 (0,0))):=Lib.hid hO7.symm
  clear hO7
  replace hO:=hO.out
  have hF:Hid (l++turnS same aw ad a b=(l++(a.filter fun x=>!(b.any fun y=>same x y)).map aw)++(b.filter fun y=>!(a.any fun x=>same x y)).map ad):=Lib.hid (by rw [List.append_assoc];rfl)
  generalize l++turnS same aw ad a b=RR at *
  have hl1:Hid ((l++(a.filter fun x=>!(b.any fun y=>same x y)).map aw).length+b.length≤1000000):=Lib.hid (by
    have:=hll.out
    have:=List.length_filter_le (fun x=>!(b.any fun y=>same x y)) a
    rw [List.length_append,List.length_map];omega)
  subst hO
  go_enter Tryz.func17,Tryz.ntmps17
  go_wp2_with fail
  go_loopw [16] (fun i wr=>∃ k:Nat,k≤a.length∧i=.int .i64 k∧Hid (TnAt w0 w Sb w.heap.size (.cells #[.func (.func fs) #[] us] 70 (0,0)) K (l++((a.take k).filter (fun x=>!(b.any fun y=>same x y))).map aw) wr)) (fun i _=>a.length-(intOf i).toNat)
  case atStart=>exact ⟨0,Nat.zero_le _,rfl,Lib.hid (by rw [List.take_zero,List.filter_nil,List.map_nil,List.append_nil];exact hT1.out)⟩
  case round=>
    obtain ⟨k,hk,rfl,HT⟩:=hrel
    obtain ⟨wo,rfl⟩:∃ wo,wo=wr:=⟨_,rfl⟩
    clear hT1
    by_cases hlt:k<a.length
    · have hkw:=HT.out.keeps h.out hB
      have hka:=ha.out.keep (w':=wo) (Nat.le_refl _) hkw fun _ _ h=>h.keep (Nat.le_refl _) (hkw)
      have hkm:=hb.out.keep (w':=wo) (Nat.le_refl _) hkw fun _ _ h=>h.keep (Nat.le_refl _) (hkw)
      have hSz:=HT.out.s.lt
      obtain ⟨b_,off,rfl⟩:=SlOf.addr hka (by omega)
      obtain ⟨_,c,x,hx,hc,hj⟩:=SlOf.el hka hlt
      have hxm:=List.mem_of_getElem? hx
      obtain ⟨W2,hW2⟩:∃ W2,wo.alloc (.cells c.toArray 69 (0,0))=W2:=⟨_,rfl⟩
      have hb2:Below wo.heap.size wo W2:=by rw [← hW2];exact (Below.refl _ _).alloc (Nat.le_refl _) _
      have hz2:W2.heap.size=wo.heap.size+1:=by rw [← hW2];simp
      have hbo:∀ W,Below W2.heap.size W2 W→Below wo.heap.size wo W:=fun W hb=>hb2.trans (hb.mono (by omega))
      have hm7:∀ W,Below W2.heap.size W2 W→W.heap[w.heap.size]?=some (.cells #[.func (.func fs) #[] us] 70 (0,0)):=fun W hb=>(HT.out.m.keep (KeepX.of_below hSz (hbo W hb))).1
      have hn11:∀ W,Below W2.heap.size W2 W→W.heap[wo.heap.size]?=some (.cells c.toArray 69 (0,0)):=fun W hb=>(hb.block _ (by omega)).trans (by rw [← hW2];exact heap_alloc_new wo _)
      have hcW:∀ W,Below W2.heap.size W2 W→SliceC W B c x:=fun W hb=>hc.keep (Nat.le_refl _) (keepB (hbo W hb) (by omega))
      have hsW:∀ W,Below W2.heap.size W2 W→B≤W.heap.size:=fun W hb=>by have:=hb.size;omega
      have cF:=Lib.hid (cf_Slice b _ 49 #[.pointer (some ⟨w.heap.size,0,none⟩), .pointer (some ⟨wo.heap.size,0,none⟩)] (fun y=>same x y) B W2 (hkm.keep (w':=W2) (Nat.le_refl _) (keepB hb2 (by omega)) (fun _ _ h=>h.keep (Nat.le_refl _) (keepB hb2 (by omega)))) (hsW W2 (Below.refl _ _)) (fun a w=>by kernel_rfl) (fun W d y hbel hy=>tc1_Slice fs us same B es hS x y c d W w.heap.size wo.heap.size _ (hm7 W hbel) (hn11 W hbel) (hcW W hbel) hy (hsW W hbel)))
      have hTW:Hid (∀ W,Below W2.heap.size W2 W→TnAt w0 w Sb w.heap.size (.cells #[.func (.func fs) #[] us] 70 (0,0)) K (l++((a.take k).filter (fun x=>!(b.any fun y=>same x y))).map aw) W):=Lib.hid fun W hb=>HT.out.below hK (hbo W hb)
      have hlen:=filt_le (p:=fun x=>!(b.any fun y=>same x y)) (f:=aw) (l:=a) k
      have cA:=Lib.hid fun W hb=>hA W _ x c hxm (hcW W hb) (hTW.out W hb).s (hTW.out W hb).k (by rw [List.length_append];have:=hlen;have:=hll.out;omega)
      have hcx:=Lib.hid fun W hb=>hn11 W hb
      obtain ⟨Ap,cp,Aw,cw,rfl,_⟩:=slice_form hc
      have e0:wo.cell? ⟨b_,off+k*3,none⟩=some (.string x.name):=hj 0 _ rfl
      have e1:wo.cell? ⟨b_,off+k*3+1,none⟩=some (.slice Ap x.ports.length cp):=hj 1 _ rfl
      have e2:wo.cell? ⟨b_,off+k*3+2,none⟩=some (.slice Aw x.whr.length cw):=hj 2 _ rfl
      replace cA:Hid (∀ W,Below W2.heap.size W2 W→Calls Tryz.prog fa (#[.agg #[.string x.name, .slice Ap x.ports.length cp, .slice Aw x.whr.length cw]]++ua) W (SayPost w0 Sb ((l++((a.take k).filter (fun x=>!(b.any fun y=>same x y))).map aw)++[aw x]) W)):=cA
      replace hcx:=Lib.hid fun W hb=>cellsAt3 (hcx.out W hb)
      have hxo:=Lib.hid (filt_out (p:=fun x=>!(b.any fun y=>same x y)) (f:=aw) hx)
      have hxi:=Lib.hid (filt_in (p:=fun x=>!(b.any fun y=>same x y)) (f:=aw) hx)
      clear hx hj hka hkm hkw hxm hm7 hn11 hcW hlen HT hz2 hb2
      replace hbo:=Lib.hid hbo
      cases hA':b.any (fun y=>same x y)
      · rw [hA'] at cF
        replace hxi:=Lib.hid (hxi.out (by simp only [hA'];rfl))
        clear hxo hA'
        go_wp2_with (first
          | (go_at_call 48;(with_reducible refine (cF.out).mono ?_);rintro e wy ⟨rfl,hbB⟩;obtain ⟨e0,e1,e2⟩:=hcx.out _ hbB)
          | ((with_reducible refine (cA.out _ hbB).mono ?_);rintro e wz ⟨⟨vz,rfl⟩,hSc,hKx,hsz⟩;have hTz:=Lib.hid ((hTW.out _ hbB).moved hK hSc hKx hsz);clear hSc hKx hsz))
        go_roundw
        case rel=>exact ⟨k+1,by omega,by go_num,Lib.hid (by rw [hxi.out,← List.append_assoc];exact hTz.out)⟩
        case measure=>simp [intOf];omega
      · rw [hA'] at cF
        replace hxo:=Lib.hid (hxo.out (by simp only [hA'];rfl))
        clear hxi hA' cA
        go_wp2_with (go_at_call 48;(with_reducible refine (cF.out).mono ?_);rintro e wy ⟨rfl,hbB⟩)
        go_roundw
        case rel=>exact ⟨k+1,by omega,by go_num,Lib.hid (by rw [hxo.out];exact hTW.out _ hbB)⟩
        case measure=>simp [intOf];omega
    · have hT2:Hid (TnAt w0 w Sb w.heap.size (.cells #[.func (.func fs) #[] us] 70 (0,0)) K (l++(a.filter fun x=>!(b.any fun y=>same x y)).map aw) wo):=Lib.hid (by rw [List.take_of_length_le (by omega)] at HT;exact HT.out)
      generalize l++(a.filter fun x=>!(b.any fun y=>same x y)).map aw=L1 at *
      clear HT
      go_wp2_with fail
      go_loopw [30] (fun i wr=>∃ k:Nat,k≤b.length∧i=.int .i64 k∧Hid (TnAt w0 w Sb w.heap.size (.cells #[.func (.func fs) #[] us] 70 (0,0)) K (L1++((b.take k).filter (fun y=>!(a.any fun x=>same x y))).map ad) wr)) (fun i _=>b.length-(intOf i).toNat)
      case atStart=>exact ⟨0,Nat.zero_le _,rfl,Lib.hid (by rw [List.take_zero,List.filter_nil,List.map_nil,List.append_nil];exact hT2.out)⟩
      case round=>
        obtain ⟨k,hk,rfl,HT⟩:=hrel
        obtain ⟨wo,rfl⟩:∃ wo,wo=wr:=⟨_,rfl⟩
        clear hT2
        by_cases hlt:k<b.length
        · have hkw:=HT.out.keeps h.out hB
          have hka:=hb.out.keep (w':=wo) (Nat.le_refl _) hkw fun _ _ h=>h.keep (Nat.le_refl _) (hkw)
          have hkm:=ha.out.keep (w':=wo) (Nat.le_refl _) hkw fun _ _ h=>h.keep (Nat.le_refl _) (hkw)
          have hSz:=HT.out.s.lt
          obtain ⟨b_,off,rfl⟩:=SlOf.addr hka (by omega)
          obtain ⟨_,c,x,hx,hc,hj⟩:=SlOf.el hka hlt
          have hxm:=List.mem_of_getElem? hx
          obtain ⟨W2,hW2⟩:∃ W2,wo.alloc (.cells c.toArray 69 (0,0))=W2:=⟨_,rfl⟩
          have hb2:Below wo.heap.size wo W2:=by rw [← hW2];exact (Below.refl _ _).alloc (Nat.le_refl _) _
          have hz2:W2.heap.size=wo.heap.size+1:=by rw [← hW2];simp
          have hbo:∀ W,Below W2.heap.size W2 W→Below wo.heap.size wo W:=fun W hb=>hb2.trans (hb.mono (by omega))
          have hm7:∀ W,Below W2.heap.size W2 W→W.heap[w.heap.size]?=some (.cells #[.func (.func fs) #[] us] 70 (0,0)):=fun W hb=>(HT.out.m.keep (KeepX.of_below hSz (hbo W hb))).1
          have hn11:∀ W,Below W2.heap.size W2 W→W.heap[wo.heap.size]?=some (.cells c.toArray 69 (0,0)):=fun W hb=>(hb.block _ (by omega)).trans (by rw [← hW2];exact heap_alloc_new wo _)
          have hcW:∀ W,Below W2.heap.size W2 W→SliceC W B c x:=fun W hb=>hc.keep (Nat.le_refl _) (keepB (hbo W hb) (by omega))
          have hsW:∀ W,Below W2.heap.size W2 W→B≤W.heap.size:=fun W hb=>by have:=hb.size;omega
          have cF:=Lib.hid (cf_Slice a _ 50 #[.pointer (some ⟨w.heap.size,0,none⟩), .pointer (some ⟨wo.heap.size,0,none⟩)] (fun y=>same y x) B W2 (hkm.keep (w':=W2) (Nat.le_refl _) (keepB hb2 (by omega)) (fun _ _ h=>h.keep (Nat.le_refl _) (keepB hb2 (by omega)))) (hsW W2 (Below.refl _ _)) (fun a w=>by kernel_rfl) (fun W d y hbel hy=>tc2_Slice fs us same B es hS y x d c W w.heap.size wo.heap.size _ (hm7 W hbel) (hn11 W hbel) hy (hcW W hbel) (hsW W hbel)))
          have hTW:Hid (∀ W,Below W2.heap.size W2 W→TnAt w0 w Sb w.heap.size (.cells #[.func (.func fs) #[] us] 70 (0,0)) K (L1++((b.take k).filter (fun y=>!(a.any fun x=>same x y))).map ad) W):=Lib.hid fun W hb=>HT.out.below hK (hbo W hb)
          have hlen:=filt_le (p:=fun y=>!(a.any fun x=>same x y)) (f:=ad) (l:=b) k
          have cA:=Lib.hid fun W hb=>hD W _ x c hxm (hcW W hb) (hTW.out W hb).s (hTW.out W hb).k (by rw [List.length_append];have:=hlen;have:=hl1.out;omega)
          have hcx:=Lib.hid fun W hb=>hn11 W hb
          obtain ⟨Ap,cp,Aw,cw,rfl,_⟩:=slice_form hc
          have e0:wo.cell? ⟨b_,off+k*3,none⟩=some (.string x.name):=hj 0 _ rfl
          have e1:wo.cell? ⟨b_,off+k*3+1,none⟩=some (.slice Ap x.ports.length cp):=hj 1 _ rfl
          have e2:wo.cell? ⟨b_,off+k*3+2,none⟩=some (.slice Aw x.whr.length cw):=hj 2 _ rfl
          replace cA:Hid (∀ W,Below W2.heap.size W2 W→Calls Tryz.prog fd (#[.agg #[.string x.name, .slice Ap x.ports.length cp, .slice Aw x.whr.length cw]]++ud) W (SayPost w0 Sb ((L1++((b.take k).filter (fun y=>!(a.any fun x=>same x y))).map ad)++[ad x]) W)):=cA
          replace hcx:=Lib.hid fun W hb=>cellsAt3 (hcx.out W hb)
          have hxo:=Lib.hid (filt_out (p:=fun y=>!(a.any fun x=>same x y)) (f:=ad) hx)
          have hxi:=Lib.hid (filt_in (p:=fun y=>!(a.any fun x=>same x y)) (f:=ad) hx)
          clear hx hj hka hkm hkw hxm hm7 hn11 hcW hlen HT hz2 hb2
          replace hbo:=Lib.hid hbo
          cases hA':a.any (fun y=>same y x)
          · rw [hA'] at cF
            replace hxi:=Lib.hid (hxi.out (by simp only [hA'];rfl))
            clear hxo hA'
            go_wp2_with (first
              | (go_at_call 48;(with_reducible refine (cF.out).mono ?_);rintro e wy ⟨rfl,hbB⟩;obtain ⟨e0,e1,e2⟩:=hcx.out _ hbB)
              | ((with_reducible refine (cA.out _ hbB).mono ?_);rintro e wz ⟨⟨vz,rfl⟩,hSc,hKx,hsz⟩;have hTz:=Lib.hid ((hTW.out _ hbB).moved hK hSc hKx hsz);clear hSc hKx hsz))
            go_roundw
            case rel=>exact ⟨k+1,by omega,by go_num,Lib.hid (by rw [hxi.out,← List.append_assoc];exact hTz.out)⟩
            case measure=>simp [intOf];omega
          · rw [hA'] at cF
            replace hxo:=Lib.hid (hxo.out (by simp only [hA'];rfl))
            clear hxi hA' cA
            go_wp2_with (go_at_call 48;(with_reducible refine (cF.out).mono ?_);rintro e wy ⟨rfl,hbB⟩)
            go_roundw
            case rel=>exact ⟨k+1,by omega,by go_num,Lib.hid (by rw [hxo.out];exact hTW.out _ hbB)⟩
            case measure=>simp [intOf];omega
        · replace HT:Hid (TnAt w0 w Sb w.heap.size (.cells #[.func (.func fs) #[] us] 70 (0,0)) K RR wo):=Lib.hid (by rw [List.take_of_length_le (by omega),← hF.out] at HT;exact HT.out)
          go_wp2_with fail
          go_end0
          exact ⟨⟨_,rfl⟩,HT.out.s,HT.out.x,HT.out.z⟩
def ActRule (w0:World)(Sb B:Nat)(K:World→Prop)(fa:Nat)(ua:Array Value)(aw:RuleS→ByteArray)(a:List RuleS):Prop:=∀ W l x c,x∈a→RuleC W B c x→ScA w0 Sb l W→K W→l.length≤1000000→Calls Tryz.prog fa (#[.agg c.toArray]++ua) W (SayPost w0 Sb (l++[aw x]) W)
set_option maxHeartbeats 8000000 in
set_option maxRecDepth 100000 in
theorem tn_Rule (a b : List RuleS) (va vb : Value) (fs fa fd : Nat) (us ua ud : Array Value) (K : World → Prop) (same : RuleS → RuleS → Bool) (aw ad : RuleS → ByteArray) (B : Nat) (w0 w : World) (Sb : Nat) (l : List ByteArray)
    (es:Ent fs) (ea:Ent fa) (ed:Ent fd) (hS:SameRule fs us same B) (ha:SlOf 5 RuleD w B va a) (hb:SlOf 5 RuleD w B vb b) (hB:B≤Sb) (h:ScA w0 Sb l w) (k:K w) (hK:Steady Sb K)
    (hA:ActRule w0 Sb B K fa ua aw a) (hD:ActRule w0 Sb B K fd ud ad b) (hll:l.length+(a.length+b.length)≤1000000) :
    Calls Tryz.prog 30 #[va,vb, .func (.func fs) #[] us, .func (.func fa) #[] ua, .func (.func fd) #[] ud] w (SayPost w0 Sb (l++turnS same aw ad a b) w):=by
  obtain ⟨Aa,ca,rfl,ha1,ha2⟩:=SlOf.form ha
  obtain ⟨Ab,cb,rfl,hb1,hb2'⟩:=SlOf.form hb
  obtain ⟨W1,hW1⟩:∃ W1,w.alloc (.cells #[.func (.func fs) #[] us] 75 (0,0))=W1:=⟨_,rfl⟩
  obtain ⟨O7,hO7⟩:∃ O7:Obj,(.cells #[.func (.func fs) #[] us] 75 (0,0))=O7:=⟨_,rfl⟩
  have hT1:Hid (TnAt w0 w Sb w.heap.size O7 K l W1):=Lib.hid (by
    have hbw:Below w.heap.size w W1:=by rw [← hW1];exact (Below.refl _ _).alloc (Nat.le_refl _) _
    rw [hO7] at hW1
    exact ⟨h.below hbw,hK _ _ k (KeepX.of_below h.lt hbw),KeepX.of_below h.lt hbw,by have:=h.mine (o:=O7) (W':=W1) (by rw [hW1];exact Below.refl _ _);exact this,hbw.size⟩)
  have hll:=Lib.hid hll
  replace h:=Lib.hid h
  replace ha:=Lib.hid ha
  replace hb:=Lib.hid hb
  have ea':∀ a w,(callFunc fa a).run Tryz.prog w=.ok (.enter fa a) w:=ea
  have ed':∀ a w,(callFunc fd a).run Tryz.prog w=.ok (.enter fd a) w:=ed
  clear ea ed k
  have hO:Hid (O7=(.cells #[.func (.func fs) #[] us] 75 (0,0))):=Lib.hid hO7.symm
  clear hO7
  replace hO:=hO.out
  have hF:Hid (l++turnS same aw ad a b=(l++(a.filter fun x=>!(b.any fun y=>same x y)).map aw)++(b.filter fun y=>!(a.any fun x=>same x y)).map ad):=Lib.hid (by rw [List.append_assoc];rfl)
  generalize l++turnS same aw ad a b=RR at *
  have hl1:Hid ((l++(a.filter fun x=>!(b.any fun y=>same x y)).map aw).length+b.length≤1000000):=Lib.hid (by
    have:=hll.out
    have:=List.length_filter_le (fun x=>!(b.any fun y=>same x y)) a
    rw [List.length_append,List.length_map];omega)
  subst hO
  go_enter Tryz.func30,Tryz.ntmps30
  go_wp2_with fail
  go_loopw [16] (fun i wr=>∃ k:Nat,k≤a.length∧i=.int .i64 k∧Hid (TnAt w0 w Sb w.heap.size (.cells #[.func (.func fs) #[] us] 75 (0,0)) K (l++((a.take k).filter (fun x=>!(b.any fun y=>same x y))).map aw) wr)) (fun i _=>a.length-(intOf i).toNat)
  case atStart=>exact ⟨0,Nat.zero_le _,rfl,Lib.hid (by rw [List.take_zero,List.filter_nil,List.map_nil,List.append_nil];exact hT1.out)⟩
  case round=>
    obtain ⟨k,hk,rfl,HT⟩:=hrel
    obtain ⟨wo,rfl⟩:∃ wo,wo=wr:=⟨_,rfl⟩
    clear hT1
    by_cases hlt:k<a.length
    · have hkw:=HT.out.keeps h.out hB
      have hka:=ha.out.keep (w':=wo) (Nat.le_refl _) hkw fun _ _ h=>h.keep (Nat.le_refl _) (hkw)
      have hkm:=hb.out.keep (w':=wo) (Nat.le_refl _) hkw fun _ _ h=>h.keep (Nat.le_refl _) (hkw)
      have hSz:=HT.out.s.lt
      obtain ⟨b_,off,rfl⟩:=SlOf.addr hka (by omega)
      obtain ⟨_,c,x,hx,hc,hj⟩:=SlOf.el hka hlt
      have hxm:=List.mem_of_getElem? hx
      obtain ⟨W2,hW2⟩:∃ W2,wo.alloc (.cells c.toArray 51 (0,0))=W2:=⟨_,rfl⟩
      have hb2:Below wo.heap.size wo W2:=by rw [← hW2];exact (Below.refl _ _).alloc (Nat.le_refl _) _
      have hz2:W2.heap.size=wo.heap.size+1:=by rw [← hW2];simp
      have hbo:∀ W,Below W2.heap.size W2 W→Below wo.heap.size wo W:=fun W hb=>hb2.trans (hb.mono (by omega))
      have hm7:∀ W,Below W2.heap.size W2 W→W.heap[w.heap.size]?=some (.cells #[.func (.func fs) #[] us] 75 (0,0)):=fun W hb=>(HT.out.m.keep (KeepX.of_below hSz (hbo W hb))).1
      have hn11:∀ W,Below W2.heap.size W2 W→W.heap[wo.heap.size]?=some (.cells c.toArray 51 (0,0)):=fun W hb=>(hb.block _ (by omega)).trans (by rw [← hW2];exact heap_alloc_new wo _)
      have hcW:∀ W,Below W2.heap.size W2 W→RuleD W B c x:=fun W hb=>hc.keep (Nat.le_refl _) (keepB (hbo W hb) (by omega))
      have hsW:∀ W,Below W2.heap.size W2 W→B≤W.heap.size:=fun W hb=>by have:=hb.size;omega
      have cF:=Lib.hid (cf_Rule b _ 68 #[.pointer (some ⟨w.heap.size,0,none⟩), .pointer (some ⟨wo.heap.size,0,none⟩)] (fun y=>same x y) B W2 (hkm.keep (w':=W2) (Nat.le_refl _) (keepB hb2 (by omega)) (fun _ _ h=>h.keep (Nat.le_refl _) (keepB hb2 (by omega)))) (hsW W2 (Below.refl _ _)) (fun a w=>by kernel_rfl) (fun W d y hbel hy=>tc1_Rule fs us same B es hS x y c d W w.heap.size wo.heap.size _ (hm7 W hbel) (hn11 W hbel) (hcW W hbel) hy (hsW W hbel)))
      have hTW:Hid (∀ W,Below W2.heap.size W2 W→TnAt w0 w Sb w.heap.size (.cells #[.func (.func fs) #[] us] 75 (0,0)) K (l++((a.take k).filter (fun x=>!(b.any fun y=>same x y))).map aw) W):=Lib.hid fun W hb=>HT.out.below hK (hbo W hb)
      have hlen:=filt_le (p:=fun x=>!(b.any fun y=>same x y)) (f:=aw) (l:=a) k
      have cA:=Lib.hid fun W hb=>hA W _ x c hxm ((hcW W hb).1) (hTW.out W hb).s (hTW.out W hb).k (by rw [List.length_append];have:=hlen;have:=hll.out;omega)
      have hcx:=Lib.hid fun W hb=>hn11 W hb
      obtain ⟨Af,cf,Am,cm,As,cq,At,ct,rfl,_⟩:=rule_form hc.1
      have e0:wo.cell? ⟨b_,off+k*5,none⟩=some (I6 x.prio):=hj 0 _ rfl
      have e1:wo.cell? ⟨b_,off+k*5+1,none⟩=some (.slice Af x.frm.length cf):=hj 1 _ rfl
      have e2:wo.cell? ⟨b_,off+k*5+2,none⟩=some (.slice Am x.mat.length cm):=hj 2 _ rfl
      have e3:wo.cell? ⟨b_,off+k*5+3,none⟩=some (.slice As x.sets.length cq):=hj 3 _ rfl
      have e4:wo.cell? ⟨b_,off+k*5+4,none⟩=some (.slice At x.dst.length ct):=hj 4 _ rfl
      replace cA:Hid (∀ W,Below W2.heap.size W2 W→Calls Tryz.prog fa (#[.agg #[I6 x.prio, .slice Af x.frm.length cf, .slice Am x.mat.length cm, .slice As x.sets.length cq, .slice At x.dst.length ct]]++ua) W (SayPost w0 Sb ((l++((a.take k).filter (fun x=>!(b.any fun y=>same x y))).map aw)++[aw x]) W)):=cA
      replace hcx:=Lib.hid fun W hb=>cells5 (hcx.out W hb)
      have hxo:=Lib.hid (filt_out (p:=fun x=>!(b.any fun y=>same x y)) (f:=aw) hx)
      have hxi:=Lib.hid (filt_in (p:=fun x=>!(b.any fun y=>same x y)) (f:=aw) hx)
      clear hx hj hka hkm hkw hxm hm7 hn11 hcW hlen HT hz2 hb2
      replace hbo:=Lib.hid hbo
      cases hA':b.any (fun y=>same x y)
      · rw [hA'] at cF
        replace hxi:=Lib.hid (hxi.out (by simp only [hA'];rfl))
        clear hxo hA'
        go_wp2_with (first
          | (go_at_call 67;(with_reducible refine (cF.out).mono ?_);rintro e wy ⟨rfl,hbB⟩;obtain ⟨e0,e1,e2,e3,e4⟩:=hcx.out _ hbB)
          | ((with_reducible refine (cA.out _ hbB).mono ?_);rintro e wz ⟨⟨vz,rfl⟩,hSc,hKx,hsz⟩;have hTz:=Lib.hid ((hTW.out _ hbB).moved hK hSc hKx hsz);clear hSc hKx hsz))
        go_roundw
        case rel=>exact ⟨k+1,by omega,by go_num,Lib.hid (by rw [hxi.out,← List.append_assoc];exact hTz.out)⟩
        case measure=>simp [intOf];omega
      · rw [hA'] at cF
        replace hxo:=Lib.hid (hxo.out (by simp only [hA'];rfl))
        clear hxi hA' cA
        go_wp2_with (go_at_call 67;(with_reducible refine (cF.out).mono ?_);rintro e wy ⟨rfl,hbB⟩)
        go_roundw
        case rel=>exact ⟨k+1,by omega,by go_num,Lib.hid (by rw [hxo.out];exact hTW.out _ hbB)⟩
        case measure=>simp [intOf];omega
    · have hT2:Hid (TnAt w0 w Sb w.heap.size (.cells #[.func (.func fs) #[] us] 75 (0,0)) K (l++(a.filter fun x=>!(b.any fun y=>same x y)).map aw) wo):=Lib.hid (by rw [List.take_of_length_le (by omega)] at HT;exact HT.out)
      generalize l++(a.filter fun x=>!(b.any fun y=>same x y)).map aw=L1 at *
      clear HT
      go_wp2_with fail
      go_loopw [30] (fun i wr=>∃ k:Nat,k≤b.length∧i=.int .i64 k∧Hid (TnAt w0 w Sb w.heap.size (.cells #[.func (.func fs) #[] us] 75 (0,0)) K (L1++((b.take k).filter (fun y=>!(a.any fun x=>same x y))).map ad) wr)) (fun i _=>b.length-(intOf i).toNat)
      case atStart=>exact ⟨0,Nat.zero_le _,rfl,Lib.hid (by rw [List.take_zero,List.filter_nil,List.map_nil,List.append_nil];exact hT2.out)⟩
      case round=>
        obtain ⟨k,hk,rfl,HT⟩:=hrel
        obtain ⟨wo,rfl⟩:∃ wo,wo=wr:=⟨_,rfl⟩
        clear hT2
        by_cases hlt:k<b.length
        · have hkw:=HT.out.keeps h.out hB
          have hka:=hb.out.keep (w':=wo) (Nat.le_refl _) hkw fun _ _ h=>h.keep (Nat.le_refl _) (hkw)
          have hkm:=ha.out.keep (w':=wo) (Nat.le_refl _) hkw fun _ _ h=>h.keep (Nat.le_refl _) (hkw)
          have hSz:=HT.out.s.lt
          obtain ⟨b_,off,rfl⟩:=SlOf.addr hka (by omega)
          obtain ⟨_,c,x,hx,hc,hj⟩:=SlOf.el hka hlt
          have hxm:=List.mem_of_getElem? hx
          obtain ⟨W2,hW2⟩:∃ W2,wo.alloc (.cells c.toArray 51 (0,0))=W2:=⟨_,rfl⟩
          have hb2:Below wo.heap.size wo W2:=by rw [← hW2];exact (Below.refl _ _).alloc (Nat.le_refl _) _
          have hz2:W2.heap.size=wo.heap.size+1:=by rw [← hW2];simp
          have hbo:∀ W,Below W2.heap.size W2 W→Below wo.heap.size wo W:=fun W hb=>hb2.trans (hb.mono (by omega))
          have hm7:∀ W,Below W2.heap.size W2 W→W.heap[w.heap.size]?=some (.cells #[.func (.func fs) #[] us] 75 (0,0)):=fun W hb=>(HT.out.m.keep (KeepX.of_below hSz (hbo W hb))).1
          have hn11:∀ W,Below W2.heap.size W2 W→W.heap[wo.heap.size]?=some (.cells c.toArray 51 (0,0)):=fun W hb=>(hb.block _ (by omega)).trans (by rw [← hW2];exact heap_alloc_new wo _)
          have hcW:∀ W,Below W2.heap.size W2 W→RuleD W B c x:=fun W hb=>hc.keep (Nat.le_refl _) (keepB (hbo W hb) (by omega))
          have hsW:∀ W,Below W2.heap.size W2 W→B≤W.heap.size:=fun W hb=>by have:=hb.size;omega
          have cF:=Lib.hid (cf_Rule a _ 69 #[.pointer (some ⟨w.heap.size,0,none⟩), .pointer (some ⟨wo.heap.size,0,none⟩)] (fun y=>same y x) B W2 (hkm.keep (w':=W2) (Nat.le_refl _) (keepB hb2 (by omega)) (fun _ _ h=>h.keep (Nat.le_refl _) (keepB hb2 (by omega)))) (hsW W2 (Below.refl _ _)) (fun a w=>by kernel_rfl) (fun W d y hbel hy=>tc2_Rule fs us same B es hS y x d c W w.heap.size wo.heap.size _ (hm7 W hbel) (hn11 W hbel) hy (hcW W hbel) (hsW W hbel)))
          have hTW:Hid (∀ W,Below W2.heap.size W2 W→TnAt w0 w Sb w.heap.size (.cells #[.func (.func fs) #[] us] 75 (0,0)) K (L1++((b.take k).filter (fun y=>!(a.any fun x=>same x y))).map ad) W):=Lib.hid fun W hb=>HT.out.below hK (hbo W hb)
          have hlen:=filt_le (p:=fun y=>!(a.any fun x=>same x y)) (f:=ad) (l:=b) k
          have cA:=Lib.hid fun W hb=>hD W _ x c hxm ((hcW W hb).1) (hTW.out W hb).s (hTW.out W hb).k (by rw [List.length_append];have:=hlen;have:=hl1.out;omega)
          have hcx:=Lib.hid fun W hb=>hn11 W hb
          obtain ⟨Af,cf,Am,cm,As,cq,At,ct,rfl,_⟩:=rule_form hc.1
          have e0:wo.cell? ⟨b_,off+k*5,none⟩=some (I6 x.prio):=hj 0 _ rfl
          have e1:wo.cell? ⟨b_,off+k*5+1,none⟩=some (.slice Af x.frm.length cf):=hj 1 _ rfl
          have e2:wo.cell? ⟨b_,off+k*5+2,none⟩=some (.slice Am x.mat.length cm):=hj 2 _ rfl
          have e3:wo.cell? ⟨b_,off+k*5+3,none⟩=some (.slice As x.sets.length cq):=hj 3 _ rfl
          have e4:wo.cell? ⟨b_,off+k*5+4,none⟩=some (.slice At x.dst.length ct):=hj 4 _ rfl
          replace cA:Hid (∀ W,Below W2.heap.size W2 W→Calls Tryz.prog fd (#[.agg #[I6 x.prio, .slice Af x.frm.length cf, .slice Am x.mat.length cm, .slice As x.sets.length cq, .slice At x.dst.length ct]]++ud) W (SayPost w0 Sb ((L1++((b.take k).filter (fun y=>!(a.any fun x=>same x y))).map ad)++[ad x]) W)):=cA
          replace hcx:=Lib.hid fun W hb=>cells5 (hcx.out W hb)
          have hxo:=Lib.hid (filt_out (p:=fun y=>!(a.any fun x=>same x y)) (f:=ad) hx)
          have hxi:=Lib.hid (filt_in (p:=fun y=>!(a.any fun x=>same x y)) (f:=ad) hx)
          clear hx hj hka hkm hkw hxm hm7 hn11 hcW hlen HT hz2 hb2
          replace hbo:=Lib.hid hbo
          cases hA':a.any (fun y=>same y x)
          · rw [hA'] at cF
            replace hxi:=Lib.hid (hxi.out (by simp only [hA'];rfl))
            clear hxo hA'
            go_wp2_with (first
              | (go_at_call 67;(with_reducible refine (cF.out).mono ?_);rintro e wy ⟨rfl,hbB⟩;obtain ⟨e0,e1,e2,e3,e4⟩:=hcx.out _ hbB)
              | ((with_reducible refine (cA.out _ hbB).mono ?_);rintro e wz ⟨⟨vz,rfl⟩,hSc,hKx,hsz⟩;have hTz:=Lib.hid ((hTW.out _ hbB).moved hK hSc hKx hsz);clear hSc hKx hsz))
            go_roundw
            case rel=>exact ⟨k+1,by omega,by go_num,Lib.hid (by rw [hxi.out,← List.append_assoc];exact hTz.out)⟩
            case measure=>simp [intOf];omega
          · rw [hA'] at cF
            replace hxo:=Lib.hid (hxo.out (by simp only [hA'];rfl))
            clear hxi hA' cA
            go_wp2_with (go_at_call 67;(with_reducible refine (cF.out).mono ?_);rintro e wy ⟨rfl,hbB⟩)
            go_roundw
            case rel=>exact ⟨k+1,by omega,by go_num,Lib.hid (by rw [hxo.out];exact hTW.out _ hbB)⟩
            case measure=>simp [intOf];omega
        · replace HT:Hid (TnAt w0 w Sb w.heap.size (.cells #[.func (.func fs) #[] us] 75 (0,0)) K RR wo):=Lib.hid (by rw [List.take_of_length_le (by omega),← hF.out] at HT;exact HT.out)
          go_wp2_with fail
          go_end0
          exact ⟨⟨_,rfl⟩,HT.out.s,HT.out.x,HT.out.z⟩
end Go.Proofs.YtdhehcobnbcmdaaGreatDoor
