/- A part of the proof of DeltaLines: OpnL. -/
import Derived.Test.YtdhehcobnbcmdaaGreatDoorPMo9
import Derived.Deep.Slices
import Derived.Deep.Fields
import Derived.ChangeSame
import Derived.Lib.SmallJoins
import Derived.SizedLaws
set_option linter.all false
namespace Go.Proofs.YtdhehcobnbcmdaaGreatDoor
open Go.Joins Go.ChangeShapes Go.WideShapes Go.RowKit Go.Deep
theorem pick_list {α : Type} {Q : Nat → α → Prop} : ∀ (n : Nat), (∀ i, i < n → ∃ y, Q i y) → ∃ l : List α, l.length = n ∧ ∀ i y, l[i]? = some y → Q i y
  | 0,_=>⟨[],rfl,fun i y h=>by simp at h⟩
  | n + 1, h => by
    obtain ⟨l,hl,hq⟩:=pick_list n fun i hi=>h i (by omega)
    obtain ⟨y,hy⟩:=h n (by omega)
    refine ⟨l++[y],by simp [hl],fun i z hz=>?_⟩
    by_cases hi:i<n
    · exact hq i z (by rwa [List.getElem?_append_left (by omega)] at hz)
    · rw [List.getElem?_append_right (by omega)] at hz
      have hi0:i-l.length=0:=by
        have:=(List.getElem?_eq_some_iff.1 hz).1
        simp at this;omega
      have hin:i=n:=by
        have:=(List.getElem?_eq_some_iff.1 hz).1
        simp at this;omega
      rw [hi0] at hz
      simp at hz
      subst hz hin
      exact hy
theorem flatten_split (size:Nat):∀ (cs:List (List Value)),(∀ c∈cs,c.length=size)→∀ (j:Nat) (u:Value),cs.flatten[j]?=some u→∃ i r c,j=i*size+r∧r<size∧cs[i]?=some c∧c[r]?=some u
  | [],_,j,u,h=>by simp at h
  | d :: cs, hs, j, u, h => by
    have hd:d.length=size:=hs d (by simp)
    rw [List.flatten_cons] at h
    by_cases hj:j<d.length
    · rw [List.getElem?_append_left hj] at h
      exact ⟨0,j,d,by simp,by omega,rfl,h⟩
    · rw [List.getElem?_append_right (by omega)] at h
      obtain ⟨i,r,c,h1,h2,h3,h4⟩:=flatten_split size cs (fun c hc=>hs c (by simp [hc])) _ u h
      exact ⟨i+1,r,c,by rw [Nat.succ_mul];omega,h2,by simpa using h3,h4⟩
section
variable {H:Type} {enc:TypeId×Value→H} {P:Program} {w:World} {base:Nat} {spare:Nat→Bool} {held:Bool}
theorem weightsAll_mem {e:TypeId}{k:Nat}:∀ {l:List (DataW H)} {d:DataW H},d∈l→k∈d.weights P e→k∈DataW.weightsAll P e l
  | [],_,h,_=>by simp at h
  | d0 :: l, d, h, hk => by
    simp only [DataW.weightsAll,List.mem_append]
    rcases List.mem_cons.1 h with rfl|h
    · exact Or.inl hk
    · exact Or.inr (weightsAll_mem h hk)
theorem open_slOf {α : Type} {size : Nat} {R : World → Nat → List Value → α → Prop} {Pr : α → Prop} {t e : TypeId} {fuel : Nat} {cs : List Value} {x : DataW H × List MemPlace}
    (ht:P.underlying t=some (.slice e)) (hC:P.cellsOf e=size) (hs0:0<size) (hby:0<P.bytesOf e) (h:DataW.trod enc P w base spare held fuel t cs=some x) (hw:∀ k∈x.1.weights P t,k≤reachBytes)
    (el:∀ (cs':List Value) (y:DataW H×List MemPlace) (n:Nat),DataW.trod enc P w base spare held n e cs'=some y→(∀ k∈y.1.weights P e,k≤reachBytes)→cs'.length=size→∃ a : α,R w w.heap.size cs' a∧Pr a) :
    ∃ (v:Value) (l:List α),cs=[v]∧SlOf size R w w.heap.size v l∧l.length*P.bytesOf e≤reachBytes∧∀ a∈l,Pr a:=by
  rcases open_slice ht h with ⟨rfl,rfl⟩|⟨a,len,cap,m,n,D,Pl,rfl,hb,hl,hm,hmm,rfl,hi⟩
  · refine ⟨_,[],rfl,⟨[],rfl,by simp,⟨none,0,rfl,Nat.le_refl _,⟨by omega,by simp⟩,by simp,fun h=>absurd h (by simp)⟩,fun i c x h=>by simp at h⟩,by simp,by simp⟩
  · have hlm:len≤m:=by rw [hmm];split<;>omega
    have hwt:len*P.bytesOf e≤reachBytes:=by
      have:=hw (((List.range len).map D).length*P.bytesOf e+(((List.range (m-len)).map fun j=>D (len+j)).length)*P.bytesOf e) (by simp [DataW.weights,ht,Nat.add_mul])
      simp at this
      omega
    have hlen47:len≤140737488355328:=by
      have h1:len*1≤len*P.bytesOf e:=Nat.mul_le_mul_left _ hby
      have h2:reachBytes=140737488351232:=rfl
      omega
    obtain ⟨ys,hyl,hys⟩:=pick_list (α:=List Value×α) (Q:=fun i y=>y.1.length=size∧(∀ j,j<size→w.cell? ((a.add (i*size)).add j)=y.1[j]?)∧R w w.heap.size y.1 y.2∧Pr y.2) len fun i hil=>by
      obtain ⟨cs',hc,htr⟩:=hi i (by omega)
      rw [hC] at hc
      obtain ⟨_,hcl,hat⟩:=World.cells?_some hc
      obtain ⟨x,hx1,hx2⟩:=el cs' (D i,Pl i) n htr (fun k hk=>hw k (by
        simp only [DataW.weights,ht,List.mem_cons,List.mem_append]
        exact Or.inr (Or.inl (weightsAll_mem (d:=D i) (by simp;exact ⟨i,hil,rfl⟩) hk)))) hcl
      exact ⟨(cs',x),hcl,hat,hx1,hx2⟩
    have hmem:∀ y∈ys,∃ i,ys[i]?=some y:=fun y hy=>List.mem_iff_getElem?.1 hy
    have hsz:∀ c∈ys.map (·.1),c.length=size:=by
      intro c hc
      obtain ⟨y,hy,rfl⟩:=List.mem_map.1 hc
      obtain ⟨i,hi'⟩:=hmem y hy
      exact (hys i y hi').1
    refine ⟨_,ys.map (·.2),rfl,⟨ys.map (·.1),by simp,hsz,?_,?_⟩,by simpa [hyl] using hwt,?_⟩
    · refine ⟨some a,cap,by simp [hyl],by simpa [hyl] using hl,by simpa [hyl] using ⟨hm,hlen47⟩,?_,fun hpos=>?_⟩
      · rw [List.length_flatten,List.map_map]
        have:∀ l:List (List Value×α),(∀ y∈l,y.1.length=size)→(l.map (List.length ∘ (·.1))).sum=l.length*size:=by
          intro l
          induction l with
          | nil=>simp
          | cons y l ih =>
            intro hh
            have h1:=ih fun z hz=>hh z (by simp [hz])
            have h2:=hh y (by simp)
            simp only [List.map_cons,List.sum_cons,List.length_cons,Function.comp,Nat.succ_mul] at h1 ⊢
            rw [h1,h2];omega
        rw [this ys fun y hy=>by obtain ⟨i,hi'⟩:=hmem y hy;exact (hys i y hi').1]
        simp
      · simp only [List.length_map] at hpos
        obtain ⟨y0,hy0⟩:∃ y0,ys[0]?=some y0:=⟨_,List.getElem?_eq_getElem hpos⟩
        obtain ⟨b,off,spot⟩:=a
        have hc0:=(hys 0 y0 hy0).2.1 0 hs0
        have h00:∃ u,y0.1[0]?=some u:=⟨_,List.getElem?_eq_getElem (by rw [(hys 0 y0 hy0).1];exact hs0)⟩
        obtain ⟨u0,hu0⟩:=h00
        rw [hu0] at hc0
        have hc0:w.cell? ⟨b,off,spot⟩=some u0:=by
          have e0:((⟨b,off,spot⟩:Addr).add (0*size)).add 0=⟨b,off,spot⟩:=by simp [Addr.add]
          rw [e0] at hc0;exact hc0
        have hspot:spot=none:=by
          unfold World.cell? at hc0
          split at hc0
          · cases spot with
            | none=>rfl
            | some s=>simp at hc0
          · cases hc0
        have hblk:b<w.heap.size:=by
          unfold World.cell? at hc0
          split at hc0
          · rename_i hh
            exact (Array.getElem?_eq_some_iff.1 hh).1
          · cases hc0
        subst hspot
        refine ⟨b,off,rfl,hblk,fun j u hj=>?_⟩
        obtain ⟨i,r,c,rfl,hr,hci,hcr⟩:=flatten_split size _ hsz j u hj
        rw [List.getElem?_map] at hci
        obtain ⟨y,hyi,rfl⟩:=Option.map_eq_some_iff.1 hci
        have:=(hys i y hyi).2.1 r hr
        rw [hcr] at this
        rw [show (((⟨b,off,none⟩:Addr).add (i*size)).add r)=⟨b,off+i*size+r,none⟩ by simp only [Addr.add];split<;>split<;>simp_all] at this
        rw [← Nat.add_assoc]
        exact this
    · intro i c x hc hx
      rw [List.getElem?_map] at hc hx
      obtain ⟨y,hyi,rfl⟩:=Option.map_eq_some_iff.1 hc
      rw [hyi] at hx
      simp at hx
      subst hx
      exact (hys i y hyi).2.2.1
    · intro x hx
      obtain ⟨y,hy,rfl⟩:=List.mem_map.1 hx
      obtain ⟨i,hi'⟩:=hmem y hy
      exact (hys i y hi').2.2.2
theorem open_struct {e:TypeId}{fs:Array Field}(he:P.underlying e=some (.struct fs))(hone:oneCellFields P fs=true){n:Nat}{cs:List Value}{y:DataW H×List MemPlace}(h:DataW.trod enc P w base spare held n e cs=some y)
    (hw:∀ k∈y.1.weights P e,k≤reachBytes) (hcl:cs.length=fs.size):∀ (j:Nat) (f:Field),fs[j]?=some f→∃ (v:Value) (m:Nat) (z:DataW H×List MemPlace),cs[j]?=some v∧DataW.trod enc P w base spare held m f.type [v]=some z∧∀ k∈z.1.weights P f.type,k≤reachBytes:=by
  obtain ⟨ys,n',_,hy,_,hyl,hf⟩:=DataW.trod_struct he h
  intro j f hj
  obtain ⟨ho,hk⟩:=hone_of hone j f hj
  have hjl:j<fs.size:=(Array.getElem?_eq_some_iff.1 hj).1
  have h1:=hf j f hj
  rw [ho,hk] at h1
  have hone':(cs.drop j).take 1=[cs[j]'(by omega)]:=by
    rw [List.drop_eq_getElem_cons (by omega)]
    rfl
  rw [hone'] at h1
  have hys:ys[j]?=some (ys[j]'(by omega)):=List.getElem?_eq_getElem (by omega)
  refine ⟨_,n',_,List.getElem?_eq_getElem (by omega),h1.trans hys,fun k hk=>hw k ?_⟩
  rw [show y.1=.agg (ys.map (·.1)) from by rw [hy]]
  simp only [DataW.weights,he]
  exact DataW.weights_mem_each (j:=j) (t:=f.type) (by simp [hj]) (by rw [List.getElem?_map,hys];rfl) k hk
theorem open_str {t:TypeId}(ht:P.underlying t=some .string){n:Nat}{v:Value}{z:DataW H×List MemPlace}(h:DataW.trod enc P w base spare held n t [v]=some z)(hw:∀ k∈z.1.weights P t,k≤reachBytes) :
    ∃ s:ByteArray,v=.string s∧s.size≤140737488355328:=by
  obtain ⟨s,h1,h2,_⟩:=DataW.trod_string ht h
  refine ⟨s,by simpa using h1,?_⟩
  have:=hw s.data.toList.length (by rw [h2];simp [DataW.weights])
  have h3:reachBytes=140737488351232:=rfl
  have h4:s.data.toList.length=s.size:=by simp
  omega
theorem open_bool' {t:TypeId}(ht:P.underlying t=some .bool){n:Nat}{v:Value}{z:DataW H×List MemPlace}(h:DataW.trod enc P w base spare held n t [v]=some z):∃ b:Bool,v=.bool b:=by
  obtain ⟨s,h1,_⟩:=DataW.trod_bool ht h
  exact ⟨s,by simpa using h1⟩
end
section
variable {H:Type} {enc:TypeId×Value→H} {w:World} {base:Nat} {spare:Nat→Bool} {held:Bool}
theorem open_i64 {t:TypeId}(ht:Tryz.prog.underlying t=some (.int .i64)){n:Nat}{v:Value}{z:DataW H×List MemPlace}(h:DataW.trod enc Tryz.prog w base spare held n t [v]=some z):∃ i:Int,v=.int .i64 i∧I64 i:=by
  obtain ⟨s,h1,_,h3⟩:=DataW.trod_int ht h
  refine ⟨s,by simpa using h1,?_⟩
  simp [Lit.wf,IntKind.min,IntKind.max,IntKind.signed,IntKind.bits] at h3
  exact ⟨by omega,by omega⟩
theorem texts_open {n:Nat}{v:Value}{z:DataW H×List MemPlace}(h:DataW.trod enc Tryz.prog w base spare held n 29 [v]=some z)(hw:∀ k∈z.1.weights Tryz.prog 29,k≤reachBytes):∃ l:List ByteArray,Texts w w.heap.size v l:=by
  obtain ⟨v',l,hv,hs,hl,_⟩:=open_slOf (R:=StrC) (Pr:=fun _=>True) (size:=1) Tryz.underlying29 (by kernel_rfl) (by omega) (of_decide_eq_true (by kernel_rfl)) h hw (fun cs' y n h hw hcl=>by
    match cs',hcl with
    | [c], _ =>
      obtain ⟨i,rfl,hi⟩:=open_str Tryz.underlying9 h hw
      exact ⟨i,⟨rfl,hi⟩,trivial⟩)
  obtain rfl:=(List.cons.inj hv).1
  exact ⟨l,hs⟩
theorem cells_2 {cs:List Value}{a b:Value}(hcl:cs.length=2)(h0:cs[0]?=some a)(h1:cs[1]?=some b):cs=[a,b]:=by
  match cs,hcl with
  | [_,_],_=>simp at h0 h1;subst h0 h1;rfl
theorem cells_3 {cs:List Value}{a b c:Value}(hcl:cs.length=3)(h0:cs[0]?=some a)(h1:cs[1]?=some b)(h2:cs[2]?=some c):cs=[a,b,c]:=by
  match cs,hcl with
  | [_,_,_],_=>simp at h0 h1 h2;subst h0 h1 h2;rfl
theorem cells_5 {cs:List Value}{a b c d e:Value}(hcl:cs.length=5)(h0:cs[0]?=some a)(h1:cs[1]?=some b)(h2:cs[2]?=some c)(h3:cs[3]?=some d)(h4:cs[4]?=some e):cs=[a,b,c,d,e]:=by
  match cs,hcl with
  | [_,_,_,_,_],_=>simp at h0 h1 h2 h3 h4;subst h0 h1 h2 h3 h4;rfl
theorem cells_7 {cs:List Value}{a b c d e f g:Value}(hcl:cs.length=7)(h0:cs[0]?=some a)(h1:cs[1]?=some b)(h2:cs[2]?=some c)(h3:cs[3]?=some d)(h4:cs[4]?=some e)(h5:cs[5]?=some f)(h6:cs[6]?=some g):cs=[a,b,c,d,e,f,g]:=by
  match cs,hcl with
  | [_,_,_,_,_,_,_],_=>simp at h0 h1 h2 h3 h4 h5 h6;subst h0 h1 h2 h3 h4 h5 h6;rfl
theorem field_open {n:Nat}{cs:List Value}{y:DataW H×List MemPlace}(h:DataW.trod enc Tryz.prog w base spare held n 38 cs=some y)(hw:∀ k∈y.1.weights Tryz.prog 38,k≤reachBytes)(hcl:cs.length=2) :
    ∃ x:FieldS,FieldC w w.heap.size cs x∧True:=by
  have F:=open_struct Tryz.underlying38 (by kernel_rfl) h hw hcl
  obtain ⟨v0,m0,z0,c0,t0,w0⟩:=F 0 _ rfl
  obtain ⟨v1,m1,z1,c1,t1,w1⟩:=F 1 _ rfl
  obtain ⟨s0,rfl,hs0⟩:=open_str Tryz.underlying9 t0 w0
  obtain ⟨s1,rfl,hi1⟩:=open_i64 Tryz.underlying3 t1
  have hcs:=cells_2 hcl c0 c1
  exact ⟨⟨s0,s1⟩,⟨hcs,hs0⟩,trivial⟩
theorem set_open {n:Nat}{cs:List Value}{y:DataW H×List MemPlace}(h:DataW.trod enc Tryz.prog w base spare held n 123 cs=some y)(hw:∀ k∈y.1.weights Tryz.prog 123,k≤reachBytes)(hcl:cs.length=2) :
    ∃ x:SetS,SetC w w.heap.size cs x∧True:=by
  have F:=open_struct Tryz.underlying123 (by kernel_rfl) h hw hcl
  obtain ⟨v0,m0,z0,c0,t0,w0⟩:=F 0 _ rfl
  obtain ⟨v1,m1,z1,c1,t1,w1⟩:=F 1 _ rfl
  obtain ⟨s0,rfl,hs0⟩:=open_str Tryz.underlying9 t0 w0
  obtain ⟨s1,rfl,hi1⟩:=open_i64 Tryz.underlying3 t1
  have hcs:=cells_2 hcl c0 c1
  exact ⟨⟨s0,s1⟩,⟨hcs,hs0⟩,trivial⟩
theorem pref_open {n:Nat}{cs:List Value}{y:DataW H×List MemPlace}(h:DataW.trod enc Tryz.prog w base spare held n 79 cs=some y)(hw:∀ k∈y.1.weights Tryz.prog 79,k≤reachBytes)(hcl:cs.length=3) :
    ∃ x:PrefS,PrefC w w.heap.size cs x∧True:=by
  have F:=open_struct Tryz.underlying79 (by kernel_rfl) h hw hcl
  obtain ⟨v0,m0,z0,c0,t0,w0⟩:=F 0 _ rfl
  obtain ⟨v1,m1,z1,c1,t1,w1⟩:=F 1 _ rfl
  obtain ⟨v2,m2,z2,c2,t2,w2⟩:=F 2 _ rfl
  obtain ⟨s0,rfl,hi0⟩:=open_i64 Tryz.underlying3 t0
  obtain ⟨s1,rfl,hi1⟩:=open_i64 Tryz.underlying3 t1
  obtain ⟨s2,rfl,hs2⟩:=open_str Tryz.underlying9 t2 w2
  have hcs:=cells_3 hcl c0 c1 c2
  exact ⟨⟨s0,s1,s2⟩,⟨hcs,hs2⟩,trivial⟩
theorem link_open {n:Nat}{cs:List Value}{y:DataW H×List MemPlace}(h:DataW.trod enc Tryz.prog w base spare held n 63 cs=some y)(hw:∀ k∈y.1.weights Tryz.prog 63,k≤reachBytes)(hcl:cs.length=3) :
    ∃ x:LinkS,LinkC w w.heap.size cs x∧True:=by
  have F:=open_struct Tryz.underlying63 (by kernel_rfl) h hw hcl
  obtain ⟨v0,m0,z0,c0,t0,w0⟩:=F 0 _ rfl
  obtain ⟨v1,m1,z1,c1,t1,w1⟩:=F 1 _ rfl
  obtain ⟨v2,m2,z2,c2,t2,w2⟩:=F 2 _ rfl
  obtain ⟨s0,rfl,hs0⟩:=open_str Tryz.underlying9 t0 w0
  obtain ⟨s1,rfl,hs1⟩:=open_str Tryz.underlying9 t1 w1
  obtain ⟨s2,rfl,hi2⟩:=open_i64 Tryz.underlying3 t2
  have hcs:=cells_3 hcl c0 c1 c2
  exact ⟨⟨s0,s1,s2⟩,⟨hcs,hs0,hs1⟩,trivial⟩
theorem test_open {n:Nat}{cs:List Value}{y:DataW H×List MemPlace}(h:DataW.trod enc Tryz.prog w base spare held n 45 cs=some y)(hw:∀ k∈y.1.weights Tryz.prog 45,k≤reachBytes)(hcl:cs.length=7) :
    ∃ x:TestS,cs=testV x∧Sm x.field∧Sm x.pat:=by
  have F:=open_struct Tryz.underlying45 (by kernel_rfl) h hw hcl
  obtain ⟨v0,m0,z0,c0,t0,w0⟩:=F 0 _ rfl
  obtain ⟨v1,m1,z1,c1,t1,w1⟩:=F 1 _ rfl
  obtain ⟨v2,m2,z2,c2,t2,w2⟩:=F 2 _ rfl
  obtain ⟨v3,m3,z3,c3,t3,w3⟩:=F 3 _ rfl
  obtain ⟨v4,m4,z4,c4,t4,w4⟩:=F 4 _ rfl
  obtain ⟨v5,m5,z5,c5,t5,w5⟩:=F 5 _ rfl
  obtain ⟨v6,m6,z6,c6,t6,w6⟩:=F 6 _ rfl
  obtain ⟨s0,rfl,hs0⟩:=open_str Tryz.underlying9 t0 w0
  obtain ⟨s1,rfl,hi1⟩:=open_i64 Tryz.underlying3 t1
  obtain ⟨s2,rfl,hi2⟩:=open_i64 Tryz.underlying3 t2
  obtain ⟨s3,rfl,hi3⟩:=open_i64 Tryz.underlying3 t3
  obtain ⟨s4,rfl,hi4⟩:=open_i64 Tryz.underlying3 t4
  obtain ⟨s5,rfl,hi5⟩:=open_i64 Tryz.underlying3 t5
  obtain ⟨s6,rfl,hs6⟩:=open_str Tryz.underlying9 t6 w6
  exact ⟨⟨s0,s1,s2,s3,s4,s5,s6⟩,cells_7 hcl c0 c1 c2 c3 c4 c5 c6,hs0,hs6⟩
set_option maxRecDepth 100000 in
theorem node_open {n:Nat}{cs:List Value}{y:DataW H×List MemPlace}(h:DataW.trod enc Tryz.prog w base spare held n 47 cs=some y)(hw:∀ k∈y.1.weights Tryz.prog 47,k≤reachBytes)(hcl:cs.length=8) :
    ∃ x:NodeS,NodeC w w.heap.size cs x∧True:=by
  obtain ⟨ys,n',_,hy,_,hyl,hf⟩:=DataW.trod_struct Tryz.underlying47 h
  have hyl:ys.length=2:=hyl
  have hwt:∀ k∈(ys[1]'(by omega)).1.weights Tryz.prog 45,k≤reachBytes:=fun k hk=>hw k (by
    rw [show y.1=.agg (ys.map (·.1)) from by rw [hy]]
    simp only [DataW.weights,Tryz.underlying47]
    exact DataW.weights_mem_each (j:=1) (t:=45) (by simp) (by rw [List.getElem?_map,List.getElem?_eq_getElem (by omega)];rfl) k hk)
  have h0:=hf 0 _ rfl
  have h1:=hf 1 _ rfl
  rw [List.getElem?_eq_getElem (by omega)] at h0 h1
  obtain ⟨c0,r,rfl⟩:∃ c0 r,cs=c0::r:=by
    cases cs with
    | nil=>simp at hcl
    | cons a b=>exact ⟨a,b,rfl⟩
  have hr:r.length=7:=by simpa using hcl
  have k1:Tryz.prog.cellsOf 3=1:=by kernel_rfl
  have k7:Tryz.prog.cellsOf 45=7:=by kernel_rfl
  have h0:DataW.trod enc Tryz.prog w base spare held n' 3 (((c0::r).drop 0).take (Tryz.prog.cellsOf 3))=_:=h0
  have h1:DataW.trod enc Tryz.prog w base spare held n' 45 (((c0::r).drop 1).take (Tryz.prog.cellsOf 45))=_:=h1
  rw [k1] at h0
  rw [k7,show (c0::r).drop 1=r from rfl,List.take_of_length_le (by omega)] at h1
  obtain ⟨i0,rfl,_⟩:=open_i64 Tryz.underlying3 (show DataW.trod enc Tryz.prog w base spare held n' 3 [c0]=_ from h0)
  obtain ⟨x,hx,s1,s2⟩:=test_open h1 hwt hr
  exact ⟨⟨i0,x⟩,⟨by rw [hx],s1,s2⟩,trivial⟩
set_option maxRecDepth 100000 in
theorem line_open {n:Nat}{cs:List Value}{y:DataW H×List MemPlace}(h:DataW.trod enc Tryz.prog w base spare held n 116 cs=some y)(hw:∀ k∈y.1.weights Tryz.prog 116,k≤reachBytes)(hcl:cs.length=3) :
    ∃ x:LineS,LineC w w.heap.size cs x∧True:=by
  have F:=open_struct Tryz.underlying116 (by kernel_rfl) h hw hcl
  obtain ⟨v0,m0,z0,c0,t0,w0⟩:=F 0 _ rfl
  obtain ⟨v1,m1,z1,c1,t1,w1⟩:=F 1 _ rfl
  obtain ⟨v2,m2,z2,c2,t2,w2⟩:=F 2 _ rfl
  obtain ⟨s0,rfl,hs0⟩:=open_str Tryz.underlying9 t0 w0
  obtain ⟨s1,rfl⟩:=open_bool' Tryz.underlying4 t1
  obtain ⟨u2,s2,e2,h2,_,p2⟩:=open_slOf (R:=NodeC) (Pr:=fun _=>True) (size:=8) Tryz.underlying48 (by kernel_rfl) (by omega) (of_decide_eq_true (by kernel_rfl)) t2 w2 fun cs' y n h hw hcl=>node_open h hw hcl
  obtain rfl:=(List.cons.inj e2).1
  have hcs:=cells_3 hcl c0 c1 c2
  exact ⟨⟨s0,s1,s2⟩,⟨_,hcs,hs0,h2⟩,trivial⟩
set_option maxRecDepth 100000 in
theorem slice_open {n:Nat}{cs:List Value}{y:DataW H×List MemPlace}(h:DataW.trod enc Tryz.prog w base spare held n 69 cs=some y)(hw:∀ k∈y.1.weights Tryz.prog 69,k≤reachBytes)(hcl:cs.length=3) :
    ∃ x:SliceS,SliceC w w.heap.size cs x∧True:=by
  have F:=open_struct Tryz.underlying69 (by kernel_rfl) h hw hcl
  obtain ⟨v0,m0,z0,c0,t0,w0⟩:=F 0 _ rfl
  obtain ⟨v1,m1,z1,c1,t1,w1⟩:=F 1 _ rfl
  obtain ⟨v2,m2,z2,c2,t2,w2⟩:=F 2 _ rfl
  obtain ⟨s0,rfl,hs0⟩:=open_str Tryz.underlying9 t0 w0
  obtain ⟨s1,h1⟩:=texts_open t1 w1
  obtain ⟨u2,s2,e2,h2,_,p2⟩:=open_slOf (R:=NodeC) (Pr:=fun _=>True) (size:=8) Tryz.underlying48 (by kernel_rfl) (by omega) (of_decide_eq_true (by kernel_rfl)) t2 w2 fun cs' y n h hw hcl=>node_open h hw hcl
  obtain rfl:=(List.cons.inj e2).1
  have hcs:=cells_3 hcl c0 c1 c2
  exact ⟨⟨s0,s1,s2⟩,⟨_,_,hcs,hs0,h1,h2⟩,trivial⟩
set_option maxRecDepth 100000 in
theorem rule_open {n:Nat}{cs:List Value}{y:DataW H×List MemPlace}(h:DataW.trod enc Tryz.prog w base spare held n 51 cs=some y)(hw:∀ k∈y.1.weights Tryz.prog 51,k≤reachBytes)(hcl:cs.length=5) :
    ∃ x:RuleS,RuleC w w.heap.size cs x∧I64 x.prio:=by
  have F:=open_struct Tryz.underlying51 (by kernel_rfl) h hw hcl
  obtain ⟨v0,m0,z0,c0,t0,w0⟩:=F 0 _ rfl
  obtain ⟨v1,m1,z1,c1,t1,w1⟩:=F 1 _ rfl
  obtain ⟨v2,m2,z2,c2,t2,w2⟩:=F 2 _ rfl
  obtain ⟨v3,m3,z3,c3,t3,w3⟩:=F 3 _ rfl
  obtain ⟨v4,m4,z4,c4,t4,w4⟩:=F 4 _ rfl
  obtain ⟨s0,rfl,hi0⟩:=open_i64 Tryz.underlying3 t0
  obtain ⟨s1,h1⟩:=texts_open t1 w1
  obtain ⟨u2,s2,e2,h2,_,p2⟩:=open_slOf (R:=NodeC) (Pr:=fun _=>True) (size:=8) Tryz.underlying48 (by kernel_rfl) (by omega) (of_decide_eq_true (by kernel_rfl)) t2 w2 fun cs' y n h hw hcl=>node_open h hw hcl
  obtain rfl:=(List.cons.inj e2).1
  obtain ⟨u3,s3,e3,h3,_,p3⟩:=open_slOf (R:=SetC) (Pr:=fun _=>True) (size:=2) Tryz.underlying49 (by kernel_rfl) (by omega) (of_decide_eq_true (by kernel_rfl)) t3 w3 fun cs' y n h hw hcl=>set_open h hw hcl
  obtain rfl:=(List.cons.inj e3).1
  obtain ⟨s4,h4⟩:=texts_open t4 w4
  have hcs:=cells_5 hcl c0 c1 c2 c3 c4
  exact ⟨⟨s0,s1,s2,s3,s4⟩,⟨_,_,_,_,hcs,h1,h2,h3,h4⟩,hi0⟩
set_option maxRecDepth 100000 in
theorem box_open {n:Nat}{cs:List Value}{y:DataW H×List MemPlace}(h:DataW.trod enc Tryz.prog w base spare held n 43 cs=some y)(hw:∀ k∈y.1.weights Tryz.prog 43,k≤reachBytes)(hcl:cs.length=7) :
    ∃ x:BoxS,BoxC w w.heap.size cs x∧WfB x:=by
  have F:=open_struct Tryz.underlying43 (by kernel_rfl) h hw hcl
  obtain ⟨v0,m0,z0,c0,t0,w0⟩:=F 0 _ rfl
  obtain ⟨v1,m1,z1,c1,t1,w1⟩:=F 1 _ rfl
  obtain ⟨v2,m2,z2,c2,t2,w2⟩:=F 2 _ rfl
  obtain ⟨v3,m3,z3,c3,t3,w3⟩:=F 3 _ rfl
  obtain ⟨v4,m4,z4,c4,t4,w4⟩:=F 4 _ rfl
  obtain ⟨v5,m5,z5,c5,t5,w5⟩:=F 5 _ rfl
  obtain ⟨v6,m6,z6,c6,t6,w6⟩:=F 6 _ rfl
  obtain ⟨s0,rfl,hs0⟩:=open_str Tryz.underlying9 t0 w0
  obtain ⟨s1,h1⟩:=texts_open t1 w1
  obtain ⟨s2,h2⟩:=texts_open t2 w2
  obtain ⟨u3,s3,e3,h3,_,p3⟩:=open_slOf (R:=LineC) (Pr:=fun _=>True) (size:=3) Tryz.underlying39 (by kernel_rfl) (by omega) (of_decide_eq_true (by kernel_rfl)) t3 w3 fun cs' y n h hw hcl=>line_open h hw hcl
  obtain rfl:=(List.cons.inj e3).1
  obtain ⟨u4,s4,e4,h4,_,p4⟩:=open_slOf (R:=RuleC) (Pr:=fun r:RuleS=>I64 r.prio) (size:=5) Tryz.underlying40 (by kernel_rfl) (by omega) (of_decide_eq_true (by kernel_rfl)) t4 w4 fun cs' y n h hw hcl=>rule_open h hw hcl
  obtain rfl:=(List.cons.inj e4).1
  obtain ⟨u5,s5,e5,h5,_,p5⟩:=open_slOf (R:=PrefC) (Pr:=fun _=>True) (size:=3) Tryz.underlying41 (by kernel_rfl) (by omega) (of_decide_eq_true (by kernel_rfl)) t5 w5 fun cs' y n h hw hcl=>pref_open h hw hcl
  obtain rfl:=(List.cons.inj e5).1
  obtain ⟨u6,s6,e6,h6,_,p6⟩:=open_slOf (R:=PrefC) (Pr:=fun _=>True) (size:=3) Tryz.underlying41 (by kernel_rfl) (by omega) (of_decide_eq_true (by kernel_rfl)) t6 w6 fun cs' y n h hw hcl=>pref_open h hw hcl
  obtain rfl:=(List.cons.inj e6).1
  have hcs:=cells_7 hcl c0 c1 c2 c3 c4 c5 c6
  exact ⟨⟨s0,s1,s2,s3,s4,s5,s6⟩,⟨_,_,_,_,_,_,hcs,hs0,h1,h2,h3,h4,h5,h6⟩,p4⟩
set_option maxRecDepth 100000 in
theorem conf_open {r:Reach}{b0:Nat}{v:Value}{d:DataW H}{p:List MemPlace}(hv:Value.okWide Tryz.prog w r b0 27 v)(h:DataW.Trod enc Tryz.prog w base spare held 27 v d p)
    (hw:∀ k∈d.weights Tryz.prog 27,k≤reachBytes):∃ c vf vb vl vs,v=.agg (confV c vf vb vl vs)∧ConfC w w.heap.size c vf vb vl vs∧WfC c:=by
  obtain ⟨cs,rfl,hsz⟩:=okWide_struct Tryz.underlying27 hv
  obtain ⟨fuel,hf⟩:=h
  have hcl:cs.toList.length=7:=by
    have h7:Tryz.prog.cellsOf 27=7:=by kernel_rfl
    rw [Array.length_toList,hsz,h7]
  have F:=open_struct Tryz.underlying27 (by kernel_rfl) (show DataW.trod enc Tryz.prog w base spare held fuel 27 cs.toList=some (d,p) from hf) hw hcl
  obtain ⟨v0,m0,z0,c0,t0,w0⟩:=F 0 _ rfl
  obtain ⟨v1,m1,z1,c1,t1,w1⟩:=F 1 _ rfl
  obtain ⟨v2,m2,z2,c2,t2,w2⟩:=F 2 _ rfl
  obtain ⟨v3,m3,z3,c3,t3,w3⟩:=F 3 _ rfl
  obtain ⟨v4,m4,z4,c4,t4,w4⟩:=F 4 _ rfl
  obtain ⟨v5,m5,z5,c5,t5,w5⟩:=F 5 _ rfl
  obtain ⟨v6,m6,z6,c6,t6,w6⟩:=F 6 _ rfl
  obtain ⟨s0,rfl,hs0⟩:=open_str Tryz.underlying9 t0 w0
  obtain ⟨u1,s1,e1,h1,_,p1⟩:=open_slOf (R:=FieldC) (Pr:=fun _=>True) (size:=2) Tryz.underlying22 (by kernel_rfl) (by omega) (of_decide_eq_true (by kernel_rfl)) t1 w1 fun cs' y n h hw hcl=>field_open h hw hcl
  obtain rfl:=(List.cons.inj e1).1
  obtain ⟨s2,rfl,hs2⟩:=open_str Tryz.underlying9 t2 w2
  obtain ⟨s3,rfl⟩:=open_bool' Tryz.underlying4 t3
  obtain ⟨u4,s4,e4,h4,_,p4⟩:=open_slOf (R:=BoxC) (Pr:=WfB) (size:=7) Tryz.underlying23 (by kernel_rfl) (by omega) (of_decide_eq_true (by kernel_rfl)) t4 w4 fun cs' y n h hw hcl=>box_open h hw hcl
  obtain rfl:=(List.cons.inj e4).1
  obtain ⟨u5,s5,e5,h5,_,p5⟩:=open_slOf (R:=LinkC) (Pr:=fun _=>True) (size:=3) Tryz.underlying24 (by kernel_rfl) (by omega) (of_decide_eq_true (by kernel_rfl)) t5 w5 fun cs' y n h hw hcl=>link_open h hw hcl
  obtain rfl:=(List.cons.inj e5).1
  obtain ⟨u6,s6,e6,h6,_,p6⟩:=open_slOf (R:=SliceC) (Pr:=fun _=>True) (size:=3) Tryz.underlying25 (by kernel_rfl) (by omega) (of_decide_eq_true (by kernel_rfl)) t6 w6 fun cs' y n h hw hcl=>slice_open h hw hcl
  obtain rfl:=(List.cons.inj e6).1
  have hcs:=cells_7 hcl c0 c1 c2 c3 c4 c5 c6
  refine ⟨⟨s0,s1,s2,s3,s4,s5,s6⟩,v1,v4,v5,v6,?_,⟨h1,h4,h5,h6,hs0,hs2⟩,p4⟩
  cases cs
  simp only at hcs
  subst hcs
  rfl
end
end Go.Proofs.YtdhehcobnbcmdaaGreatDoor
