/- A part of the proof of DeltaLines: Mod3 Mod4 Mod5. -/
import Derived.Test.YtdhehcobnbcmdaaGreatDoorPWr
set_option linter.all false
namespace Go.Proofs.YtdhehcobnbcmdaaGreatDoor
open Go.RowKit
abbrev confO (c:ConfS)(vf vb vl vs:Value):Obj:=.cells (confV c vf vb vl vs) 27 (0,0)
theorem conf_cells {w:World}{g:Nat}{c:ConfS}{vf vb vl vs:Value}(h:w.heap[g]?=some (confO c vf vb vl vs)) :
    w.cell? ⟨g,0,none⟩=some (.string c.title)∧w.cell? ⟨g,1,none⟩=some vf∧w.cell? ⟨g,2,none⟩=some (.string c.routing)∧w.cell? ⟨g,3,none⟩=some (.bool c.slim)∧w.cell? ⟨g,4,none⟩=some vb∧w.cell? ⟨g,5,none⟩=some vl∧w.cell? ⟨g,6,none⟩=some vs:=cells7 h
theorem all_drop {α : Type}{p : α→Bool}{l:List α}{k:Nat}{x : α}(h:l[k]?=some x):(l.drop k).all p=(p x && (l.drop (k+1)).all p):=by rw [drop_at h];rfl
set_option maxHeartbeats 4000000 in
set_option maxRecDepth 100000 in
theorem m_head (c : ConfS) (vf vb vl vs : Value) (B : Nat) (w : World) (h : ConfC w B c vf vb vl vs) (hB : B ≤ w.heap.size) :
    Calls Tryz.prog 22 #[.agg (confV c vf vb vl vs)] w (EPost (headB c) w):=by
  obtain ⟨Af,capf,rfl,hcf,hcapf⟩:=SlOf.form h.f
  obtain ⟨W0,hW0⟩:∃ W0,w.alloc (confO c (.slice Af c.fields.length capf) vb vl vs)=W0:=⟨_,rfl⟩
  have hb0:=Lib.hid (show Below w.heap.size w W0 by rw [← hW0];exact (Below.refl _ _).alloc (Nat.le_refl _) _)
  have hX:W0.heap[w.heap.size]?=some (confO c (.slice Af c.fields.length capf) vb vl vs):=by rw [← hW0];exact heap_alloc_new w _
  have hlt0:w.heap.size<W0.heap.size:=by rw [← hW0];simp
  obtain ⟨x0,x1,x2,x3,_,_,_⟩:=conf_cells hX
  have hF:=Lib.hid fun W (hb:Below w.heap.size w W)=>Fields.below h.f hb hB
  have hcx:=Lib.hid fun W (hb:Below W0.heap.size W0 W)=>conf_cells ((hb.block _ hlt0).trans hX)
  have hbz:=Lib.hid fun W (hb:Below W0.heap.size W0 W)=>hb0.out.trans (hb.mono (Nat.le_of_lt hlt0))
  have cF:=Lib.hid (f_Check c.fields _ w.heap.size W0 (hF.out _ hb0.out) hb0.out.size)
  have hR:Hid (headB c=(decide (c.title.size≤256) && okF c.fields && (c.fields.all fun f=>!resB f.name) &&
    !((!decide (c.routing=ByteArray.empty) && decide (findF c.fields c.routing<0)) || (decide (c.routing=ByteArray.empty) && c.slim)))):=Lib.hid rfl
  generalize headB c=R at *
  have ht:=h.ht
  unfold Sm at ht
  by_cases h1:256<c.title.size
  · have HF:=Lib.hid (show R=false by rw [hR.out,decide_eq_false (by omega)];rfl)
    have b1:((c.title.size:Int)>256):=by omega
    clear hR h
    go_enter Tryz.func22,Tryz.ntmps22
    go_wp2_with fail
    go_ret2
    exact e_bad HF.out (by decide) hb0.out
  have b1:¬ ((c.title.size:Int)>256):=by omega
  replace hR:Hid (R=(okF c.fields && (c.fields.all fun f=>!resB f.name) &&
    !((!decide (c.routing=ByteArray.empty) && decide (findF c.fields c.routing<0)) || (decide (c.routing=ByteArray.empty) && c.slim)))):=Lib.hid (by rw [hR.out,decide_eq_true (by omega),Bool.true_and])
  cases hof:okF c.fields
  · have HF:=Lib.hid (show R=false by rw [hR.out,hof];rfl)
    clear hR h
    go_enter Tryz.func22,Tryz.ntmps22
    go_upto_region 4 with (go_at_call 54;refine cF.out.mono ?_;rintro e w2 ⟨⟨k,a,rfl,hk⟩,hb2⟩;rw [hof,if_neg (by simp)] at hk;obtain ⟨hk,hka⟩:=hk;obtain ⟨y0,y1,y2,y3,_,_,_⟩:=hcx.out _ hb2;have hk1:(k != 0)=true:=(by simp [hk]);have hb3:=Lib.hid (hbz.out _ hb2);have hF2:=hF.out _ (hbz.out _ hb2);replace hk:=Lib.hid hk;clear hb2)
    by_cases hz:k=2∨c.fields.length=0
    · have hz':(k == 2)=true∧k=2∨(k == 2)=false∧¬ k=2∧(c.fields.length:Int)=0:=by
        rcases hz with h|h
        · exact Or.inl ⟨by simp [h],h⟩
        · by_cases h2:k=2
          · exact Or.inl ⟨by simp [h2],h2⟩
          · exact Or.inr ⟨by simp [h2],h2,by omega⟩
      clear hka hF2
      rcases hz' with ⟨hz',hz3⟩|⟨hz',hz3,hz2⟩
      · go_wp2_with fail
        go_ret2
        exact e_bad HF.out (by decide) hb3.out
      · go_wp2_with fail
        go_ret2
        exact e_bad HF.out (by decide) hb3.out
    · have h2:(k == 2)=false:=by simp;omega
      have h3:¬ (c.fields.length:Int)=0:=by omega
      obtain ⟨j,rfl⟩:∃ j:Nat,a=j:=⟨a.toNat,by omega⟩
      have hj:j<c.fields.length:=by omega
      obtain ⟨b,off,rfl⟩:=SlOf.addr hF2 (by omega)
      obtain ⟨_,cc,x,hx,⟨hc,_⟩,hjc⟩:=SlOf.el hF2 hj
      subst hc
      have e0:w2.cell? ⟨b,off+j*2,none⟩=some (.string x.name):=hjc 0 _ rfl
      have hbd:=Lib.hid fun n=>below_drewN hb3.out n
      clear hjc hF2 hka hz
      go_upto_region 7 with fail
      go_quiet (fail)
      go_wp2_with fail
      go_ret2
      exact e_bad HF.out (by decide) (hbd.out _)
  replace hR:Hid (R=((c.fields.all fun f=>!resB f.name) &&
    !((!decide (c.routing=ByteArray.empty) && decide (findF c.fields c.routing<0)) || (decide (c.routing=ByteArray.empty) && c.slim)))):=Lib.hid (by rw [hR.out,hof,Bool.true_and])
  have hR0:Hid (R=(((c.fields.drop 0).all fun f=>!resB f.name) &&
    !((!decide (c.routing=ByteArray.empty) && decide (findF c.fields c.routing<0)) || (decide (c.routing=ByteArray.empty) && c.slim)))):=Lib.hid hR.out
  clear hR
  have hr:=h.hr
  clear h
  go_enter Tryz.func22,Tryz.ntmps22
  go_wp2_with (go_at_call 54;refine cF.out.mono ?_;rintro e w2 ⟨⟨k,a,rfl,hk⟩,hb2⟩;rw [hof,if_pos rfl] at hk;subst hk;obtain ⟨y0,y1,y2,y3,_,_,_⟩:=hcx.out _ hb2;have hb3:=Lib.hid hb2;clear hb2)
  go_loopw [37] (fun i wr=>∃ k:Nat,k≤c.fields.length∧i=.int .i64 k∧Hid (R=(((c.fields.drop k).all fun f=>!resB f.name) &&
    !((!decide (c.routing=ByteArray.empty) && decide (findF c.fields c.routing<0)) || (decide (c.routing=ByteArray.empty) && c.slim))))∧Hid (Below W0.heap.size W0 wr)) (fun i _=>c.fields.length-(intOf i).toNat)
  case atStart=>exact ⟨0,Nat.zero_le _,rfl,hR0,hb3⟩
  case round=>
    obtain ⟨k,hk,rfl,HR,hbw⟩:=hrel
    obtain ⟨wo,rfl⟩:∃ wo,wo=wr:=⟨_,rfl⟩
    clear hR0 hb3 y0 y1 y2 y3
    obtain ⟨y0,y1,y2,y3,_,_,_⟩:=hcx.out _ hbw.out
    have hFw:=hF.out _ (hbz.out _ hbw.out)
    by_cases hlt:k<c.fields.length
    · obtain ⟨b,off,rfl⟩:=SlOf.addr hFw (by omega)
      obtain ⟨_,cc,x,hx,⟨hc,_⟩,hjc⟩:=SlOf.el hFw hlt
      subst hc
      have e0:wo.cell? ⟨b,off+k*2,none⟩=some (.string x.name):=hjc 0 _ rfl
      have e1:wo.cell? ⟨b,off+k*2+1,none⟩=some (.int .i64 x.bits):=hjc 1 _ rfl
      have HS:=Lib.hid (show R=((!resB x.name && ((c.fields.drop (k+1)).all fun f=>!resB f.name)) && _) from HR.out.trans (by rw [all_drop hx]))
      have cr:=Lib.hid fun W=>m_isReserved x.name W
      have hbA:=Lib.hid fun o=>hbw.out.alloc hbw.out.size o
      clear HR hjc hFw
      cases hres:resB x.name
      · have HF:=Lib.hid (show R=(((c.fields.drop (k+1)).all fun f=>!resB f.name) && _) from HS.out.trans (by rw [hres];rfl))
        rw [hres] at cr
        clear HS hres
        go_wp2_with (go_at_call 55;refine (cr.out _).mono ?_;rintro e w5 ⟨rfl,rfl⟩)
        go_roundw
        case rel=>exact ⟨k+1,by omega,by go_num,HF,hbA.out _⟩
        case measure=>simp [intOf];omega
      · have HF:=Lib.hid (show R=false from HS.out.trans (by rw [hres];rfl))
        rw [hres] at cr
        have hbD:=Lib.hid fun o n=>hbz.out _ (below_drewN (hbA.out o) n)
        clear HS hres
        go_upto_region 12 with (go_at_call 55;refine (cr.out _).mono ?_;rintro e w5 ⟨rfl,rfl⟩)
        go_quiet (fail)
        go_wp2_with fail
        go_ret2
        exact e_bad HF.out (by decide) (hbD.out _ _)
    · have HS:=Lib.hid (show R = !((!decide (c.routing=ByteArray.empty) && decide (findF c.fields c.routing<0)) || (decide (c.routing=ByteArray.empty) && c.slim)) from HR.out.trans (by rw [drop_end hlt];rfl))
      have cf:=Lib.hid (m_find c.fields c.routing _ w.heap.size wo hFw (hbz.out _ hbw.out).size)
      have hbF:=Lib.hid (hbz.out _ hbw.out)
      clear HR hFw
      generalize findF c.fields c.routing=fd at *
      by_cases he:c.routing=ByteArray.empty
      · have hbe:c.routing.toList.isEmpty=true:=emp_true _ (by rw [he];rfl)
        cases hsl:c.slim
        · have HF:=Lib.hid (show R=true by rw [HS.out,decide_eq_true he,hsl];rfl)
          rw [hsl] at y3
          clear HS he
          go_wp2_with fail
          go_ret2
          exact e_ok HF.out hbF.out
        · have HF:=Lib.hid (show R=false by rw [HS.out,decide_eq_true he,hsl];simp)
          rw [hsl] at y3
          have hbD:=Lib.hid fun n=>below_drewN hbF.out n
          clear HS he
          go_upto_region 15 with fail
          go_quiet (fail)
          go_wp2_with fail
          go_ret2
          exact e_bad HF.out (by decide) (hbD.out _)
      · have hbe:c.routing.toList.isEmpty=false:=emp_false _ fun h0=>he (by
          apply ByteArray.ext
          exact Array.eq_empty_of_size_eq_zero h0)
        by_cases h0:fd<0
        · have HF:=Lib.hid (show R=false by rw [HS.out,decide_eq_false he,decide_eq_true h0];rfl)
          have hbD:=Lib.hid fun W (hb:Below wo.heap.size wo W) n=>below_drewN (hbF.out.trans (hb.mono hbF.out.size)) n
          clear HS he
          go_upto_region 15 with (go_at_call 56;refine cf.out.mono ?_;rintro e w5 ⟨rfl,hb5⟩;obtain ⟨z0,z1,z2,z3,_,_,_⟩:=hcx.out _ (hbw.out.trans (hb5.mono hbw.out.size));have hbD5:=Lib.hid (hbD.out _ hb5);clear hb5)
          go_quiet (fail)
          go_wp2_with fail
          go_ret2
          exact e_bad HF.out (by decide) (hbD5.out _)
        · have HF:=Lib.hid (show R=true by rw [HS.out,decide_eq_false he,decide_eq_false h0];rfl)
          have hbD:=Lib.hid fun W (hb:Below wo.heap.size wo W)=>hbF.out.trans (hb.mono hbF.out.size)
          clear HS he
          go_wp2_with (go_at_call 56;refine cf.out.mono ?_;rintro e w5 ⟨rfl,hb5⟩;obtain ⟨z0,z1,z2,z3,_,_,_⟩:=hcx.out _ (hbw.out.trans (hb5.mono hbw.out.size));have hbD5:=Lib.hid (hbD.out _ hb5);clear hb5)
          go_ret2
          exact e_ok HF.out hbD5.out
theorem wadd {p S S' x:Int}(h:p=wrap64 S)(hs:S'=S+x):wrap64 (p+x)=wrap64 S':=by
  subst h hs
  simp only [wrap64]
  omega
theorem sumB_take {g:BoxS→Int}{l:List BoxS}{k:Nat}{b:BoxS}(h:l[k]?=some b):sumB g (l.take (k+1))=sumB g (l.take k)+g b:=by rw [take_snoc h,sumB_snoc]
theorem sumB_le {g:BoxS→Int}{M:Int}:∀ {l:List BoxS},(∀ b∈l,0≤g b∧g b≤M)→0≤sumB g l∧sumB g l≤M*l.length
  | [],_=>by simp [sumB]
  | b :: r, h => by
    have h1:=h b (by simp)
    have h2:=sumB_le (l:=r) fun x hx=>h x (by simp [hx])
    unfold sumB
    rw [List.length_cons,Int.natCast_add,Int.mul_add]
    simp only [Int.natCast_one,Int.mul_one]
    omega
def Small (b:BoxS):Prop:=b.ins.length≤140737488355328∧b.outs.length≤140737488355328∧b.guards.length≤140737488355328∧b.rules.length≤140737488355328∧b.owns.length≤140737488355328∧b.routes.length≤140737488355328
theorem box_form {w:World}{B:Nat}{c:List Value}{x:BoxS}(h:BoxC w B c x):∃ Ai ci Ao co Ag cg Ar cr Aw cw Au cu,c=[.string x.name, .slice Ai x.ins.length ci, .slice Ao x.outs.length co, .slice Ag x.guards.length cg, .slice Ar x.rules.length cr, .slice Aw x.owns.length cw, .slice Au x.routes.length cu] ∧
    Small x∧Sm x.name∧Texts w B (.slice Ai x.ins.length ci) x.ins∧Texts w B (.slice Ao x.outs.length co) x.outs∧SlOf 3 LineC w B (.slice Ag x.guards.length cg) x.guards∧SlOf 5 RuleC w B (.slice Ar x.rules.length cr) x.rules∧Prefs w B (.slice Aw x.owns.length cw) x.owns∧Prefs w B (.slice Au x.routes.length cu) x.routes:=by
  obtain ⟨vi,vo,vg,vr,va,vb,h1,h2,h3,h4,h5,h6,h7,h8⟩:=h
  obtain ⟨Ai,ci,rfl,i1,i2⟩:=SlOf.form h3
  obtain ⟨Ao,co,rfl,o1,o2⟩:=SlOf.form h4
  obtain ⟨Ag,cg,rfl,g1,g2⟩:=SlOf.form h5
  obtain ⟨Ar,cr,rfl,r1,r2⟩:=SlOf.form h6
  obtain ⟨Aw,cw,rfl,w1,w2⟩:=SlOf.form h7
  obtain ⟨Au,cu,rfl,u1,u2⟩:=SlOf.form h8
  exact ⟨Ai,ci,Ao,co,Ag,cg,Ar,cr,Aw,cw,Au,cu,h1,⟨by omega,by omega,by omega,by omega,by omega,by omega⟩,h2,h3,h4,h5,h6,h7,h8⟩
theorem boxes_small {w:World}{B:Nat}{v:Value}{l:List BoxS}(h:SlOf 7 BoxC w B v l):∀ b∈l,Small b:=by
  intro b hb
  obtain ⟨k,hk,rfl⟩:=List.getElem_of_mem hb
  obtain ⟨A,cap,rfl,_,_⟩:=SlOf.form h
  obtain ⟨bb,off,rfl⟩:=SlOf.addr h (by omega)
  obtain ⟨_,c,x,hx,hc,_⟩:=SlOf.el h hk
  obtain ⟨_,_,_,_,_,_,_,_,_,_,_,_,_,hs,_⟩:=box_form hc
  rw [List.getElem?_eq_getElem hk] at hx
  injection hx with hx
  rw [hx]
  exact hs
def limsL (c:ConfS):List (Int×Int):=[((c.boxes.length:Int),16),(sumB nPorts c.boxes,48),(sumB nLines c.boxes,64),(sumB nRules c.boxes,64),(sumB nRoutes c.boxes,64),((c.links.length:Int),48),((c.slices.length:Int),8)]
theorem counts_is (c:ConfS):countsB c=(limsL c).all fun x=>decide (x.1≤x.2):=by
  unfold countsB limsL
  rw [Bool.eq_iff_iff]
  simp only [decide_eq_true_eq,List.all_cons,List.all_nil,Bool.and_eq_true,and_true]
  omega
def limsV (n1 n2 n3 n4 n5 n6 n7:Int)(s1 s2 s3 s4 s5 s6 s7:ByteArray):Array Value:=
  #[I6 n1, I6 16, .string s1, I6 n2, I6 48, .string s2, I6 n3, I6 64, .string s3, I6 n4, I6 64, .string s4, I6 n5, I6 64, .string s5, I6 n6, I6 48, .string s6, I6 n7, I6 8, .string s7]
theorem lims_cell {w:World}{g:Nat}{n1 n2 n3 n4 n5 n6 n7:Int}{s1 s2 s3 s4 s5 s6 s7:ByteArray}{t:TypeId}{fr:Nat×Nat}(h:w.heap[g]?=some (.cells (limsV n1 n2 n3 n4 n5 n6 n7 s1 s2 s3 s4 s5 s6 s7) t fr))(k:Nat)(hk:k<7) :
    ∃ n m s,[(n1,(16:Int)),(n2,48),(n3,64),(n4,64),(n5,64),(n6,48),(n7,8)][k]?=some (n,m)∧w.cell? ⟨g,k*3,none⟩=some (.int .i64 n)∧w.cell? ⟨g,k*3+1,none⟩=some (.int .i64 m)∧w.cell? ⟨g,k*3+2,none⟩=some (.string s):=by
  rcases (show k=0∨k=1∨k=2∨k=3∨k=4∨k=5∨k=6 by omega) with rfl|rfl|rfl|rfl|rfl|rfl|rfl
  · exact ⟨_,_,s1,rfl,by rw [cell_of_row w g _ _ t fr h];rfl,by rw [cell_of_row w g _ _ t fr h];rfl,by rw [cell_of_row w g _ _ t fr h];rfl⟩
  · exact ⟨_,_,s2,rfl,by rw [cell_of_row w g _ _ t fr h];rfl,by rw [cell_of_row w g _ _ t fr h];rfl,by rw [cell_of_row w g _ _ t fr h];rfl⟩
  · exact ⟨_,_,s3,rfl,by rw [cell_of_row w g _ _ t fr h];rfl,by rw [cell_of_row w g _ _ t fr h];rfl,by rw [cell_of_row w g _ _ t fr h];rfl⟩
  · exact ⟨_,_,s4,rfl,by rw [cell_of_row w g _ _ t fr h];rfl,by rw [cell_of_row w g _ _ t fr h];rfl,by rw [cell_of_row w g _ _ t fr h];rfl⟩
  · exact ⟨_,_,s5,rfl,by rw [cell_of_row w g _ _ t fr h];rfl,by rw [cell_of_row w g _ _ t fr h];rfl,by rw [cell_of_row w g _ _ t fr h];rfl⟩
  · exact ⟨_,_,s6,rfl,by rw [cell_of_row w g _ _ t fr h];rfl,by rw [cell_of_row w g _ _ t fr h];rfl,by rw [cell_of_row w g _ _ t fr h];rfl⟩
  · exact ⟨_,_,s7,rfl,by rw [cell_of_row w g _ _ t fr h];rfl,by rw [cell_of_row w g _ _ t fr h];rfl,by rw [cell_of_row w g _ _ t fr h];rfl⟩
set_option maxHeartbeats 8000000 in
set_option maxRecDepth 100000 in
theorem m_counts (c : ConfS) (vf vb vl vs : Value) (B : Nat) (w : World) (h : ConfC w B c vf vb vl vs) (hB : B ≤ w.heap.size) :
    Calls Tryz.prog 23 #[.agg (confV c vf vb vl vs)] w (EPost (countsB c) w):=by
  obtain ⟨Ab,capb,rfl,hcb,hcapb⟩:=SlOf.form h.b
  obtain ⟨Al,capl,rfl,hcl,hcapl⟩:=SlOf.form h.l
  obtain ⟨As,caps,rfl,hcs,hcaps⟩:=SlOf.form h.s
  obtain ⟨W0,hW0⟩:∃ W0,w.alloc (confO c vf (.slice Ab c.boxes.length capb) (.slice Al c.links.length capl) (.slice As c.slices.length caps))=W0:=⟨_,rfl⟩
  have hb0:=Lib.hid (show Below w.heap.size w W0 by rw [← hW0];exact (Below.refl _ _).alloc (Nat.le_refl _) _)
  have hX:W0.heap[w.heap.size]?=some (confO c vf (.slice Ab c.boxes.length capb) (.slice Al c.links.length capl) (.slice As c.slices.length caps)):=by rw [← hW0];exact heap_alloc_new w _
  have hlt0:w.heap.size<W0.heap.size:=by rw [← hW0];simp
  obtain ⟨_,_,_,_,x4,x5,x6⟩:=conf_cells hX
  have hcx:=Lib.hid fun W (hb:Below W0.heap.size W0 W)=>conf_cells ((hb.block _ hlt0).trans hX)
  have hbz:=Lib.hid fun W (hb:Below W0.heap.size W0 W)=>hb0.out.trans (hb.mono (Nat.le_of_lt hlt0))
  have hBx:=Lib.hid fun W (hb:Below w.heap.size w W)=>h.b.keep (w':=W) hB (keepB hb hB) fun _ _ h=>h.keep hB (keepB hb hB)
  have hsm:=Lib.hid (boxes_small h.b)
  have hR:=Lib.hid (counts_is c)
  have hb1:=Lib.hid (Below.refl W0.heap.size W0)
  generalize countsB c=R at *
  clear h hX
  go_enter Tryz.func23,Tryz.ntmps23
  go_wp2_with fail
  go_loopw [4,5,6,7,15] (fun a1 a2 a3 a4 i wr=>∃ (k:Nat) (p1 p2 p3 p4:Int),k≤c.boxes.length∧i=.int .i64 k∧a1=.int .i64 p1∧a2=.int .i64 p2∧a3=.int .i64 p3∧a4=.int .i64 p4 ∧
    Hid (p1=wrap64 (sumB nPorts (c.boxes.take k))∧p2=wrap64 (sumB nLines (c.boxes.take k))∧p3=wrap64 (sumB nRules (c.boxes.take k))∧p4=wrap64 (sumB nRoutes (c.boxes.take k)))∧Hid (Below W0.heap.size W0 wr)) (fun _ _ _ _ i _=>c.boxes.length-(intOf i).toNat)
  case atStart=>exact ⟨0,0,0,0,0,Nat.zero_le _,rfl,rfl,rfl,rfl,rfl,Lib.hid ⟨by simp [sumB,wrap64],by simp [sumB,wrap64],by simp [sumB,wrap64],by simp [sumB,wrap64]⟩,hb1⟩
  case round=>
    obtain ⟨k,p1,p2,p3,p4,hk,rfl,rfl,rfl,rfl,rfl,hp,hbw⟩:=hrel
    obtain ⟨wo,rfl⟩:∃ wo,wo=wr:=⟨_,rfl⟩
    clear hb1 x4 x5 x6
    obtain ⟨_,_,_,_,x4,x5,x6⟩:=hcx.out _ hbw.out
    by_cases hlt:k<c.boxes.length
    · have hBw:=hBx.out _ (hbz.out _ hbw.out)
      obtain ⟨b,off,rfl⟩:=SlOf.addr hBw (by omega)
      obtain ⟨_,cc,x,hx,hc,hj⟩:=SlOf.el hBw hlt
      obtain ⟨Ai,ci,Ao,co,Ag,cg,Ar,cr,Aw,cw,Au,cu,rfl,⟨s1,s2,s3,s4,s5,s6⟩,_,_⟩:=box_form hc
      have e0:wo.cell? ⟨b,off+k*7,none⟩=_:=hj 0 _ rfl
      have e1:=hj 1 _ rfl
      have e2:=hj 2 _ rfl
      have e3:=hj 3 _ rfl
      have e4:=hj 4 _ rfl
      have e5:=hj 5 _ rfl
      have e6:=hj 6 _ rfl
      have hbA:=Lib.hid fun o=>hbw.out.alloc hbw.out.size o
      have hx':=Lib.hid hx
      clear hj hBw hc hx hR
      go_wp2_with fail
      go_roundw
      case rel=>
        refine ⟨k+1,_,_,_,_,by omega,by go_num,rfl,rfl,rfl,rfl,Lib.hid ?_,hbA.out _⟩
        obtain ⟨h1,h2,h3,h4⟩:=hp.out
        exact ⟨wadd h1 (sumB_take hx'.out),wadd h2 (sumB_take hx'.out),wadd h3 (sumB_take hx'.out),wadd h4 (sumB_take hx'.out)⟩
      case measure=>simp [intOf];omega
    · have hkl:c.boxes.take k=c.boxes:=List.take_of_length_le (by omega)
      rw [hkl] at hp
      go_upto_region 10 with fail
      go_cut [68,69,70] (fun a l i wx=>∃ s1 s2 s3 s4 s5 s6 s7,a=.slice (some ⟨wo.heap.size,0,none⟩) 7 7∧l=.int .i64 7∧i=.int .i64 0∧Hid (wx.heap[wo.heap.size]?=some (.cells (limsV c.boxes.length p1 p2 p3 p4 c.links.length c.slices.length s1 s2 s3 s4 s5 s6 s7) 97 (0,0)))∧Hid (Below W0.heap.size W0 wx))
      case first=>
        have hbA:=Lib.hid fun o=>hbw.out.alloc hbw.out.size o
        go_wp2_with fail
        go_meet
        exact ⟨_,_,_,_,_,_,_,rfl,rfl,rfl,Lib.hid (heap_alloc_new wo _),hbA.out _⟩
      case rest=>
      obtain ⟨s1,s2,s3,s4,s5,s6,s7,rfl,rfl,rfl,hL,hbc⟩:=hcut
      obtain ⟨wd,rfl⟩:∃ wd,wd=wc:=⟨_,rfl⟩
      go_wp2_with fail
      have hbig:¬ c.boxes.length≤16→R=false:=fun h=>by
        rw [hR.out];unfold limsL
        rw [List.all_cons,decide_eq_false (by omega)];rfl
      have hsum:c.boxes.length≤16→p1=sumB nPorts c.boxes∧p2=sumB nLines c.boxes∧p3=sumB nRules c.boxes∧p4=sumB nRoutes c.boxes:=fun h=>by
        have hM:∀ g:BoxS→Int,(∀ b,Small b→0≤g b∧g b≤281474976710656)→wrap64 (sumB g c.boxes)=sumB g c.boxes:=fun g hg=>by
          have:=sumB_le (g:=g) (M:=281474976710656) (l:=c.boxes) fun b hb=>hg b (hsm.out b hb)
          refine w64 ?_
          have h2:(281474976710656:Int)*c.boxes.length≤281474976710656*16:=Int.mul_le_mul_of_nonneg_left (by omega) (by omega)
          omega
        obtain ⟨e1,e2,e3,e4⟩:=hp.out
        refine ⟨e1.trans (hM _ ?_),e2.trans (hM _ ?_),e3.trans (hM _ ?_),e4.trans (hM _ ?_)⟩
        all_goals (rintro b ⟨s1,s2,s3,s4,s5,s6⟩;simp only [nPorts,nLines,nRules,nRoutes];omega)
      by_cases hb16:c.boxes.length≤16
      case neg=>
        have HF:=hbig hb16
        have hbF:=Lib.hid fun o=>hbz.out _ (hbc.out.alloc hbc.out.size o)
        obtain ⟨n,m,s,hnm,k0,k1,k2⟩:=lims_cell hL.out 0 (by omega)
        injection hnm with hnm
        injection hnm with hn hm
        have hlt:n>m:=by omega
        clear hbig hsum hR
        refine wp_loop_rounds 1 ?_
        rw [rounds_succ]
        go_upto_region 14 with fail
        go_quiet (fail)
        go_wp2_with fail
        go_ret2
        exact e_bad HF (by decide) (below_drewN (hbF.out _) _)
      obtain ⟨rfl,rfl,rfl,rfl⟩:=hsum hb16
      have hR0:Hid (R=((limsL c).drop 0).all fun x=>decide (x.1≤x.2)):=Lib.hid hR.out
      have hgl:wo.heap.size<wd.heap.size:=(Array.getElem?_eq_some_iff.1 hL.out).1
      have hbd:=Lib.hid (Below.refl wd.heap.size wd)
      clear hbig hsum hR hp
      go_loopw [70] (fun i wr=>∃ k:Nat,k≤7∧i=.int .i64 k∧Hid (R=((limsL c).drop k).all fun x=>decide (x.1≤x.2))∧Hid (Below wd.heap.size wd wr)) (fun i _=>7-(intOf i).toNat)
      case atStart=>exact ⟨0,Nat.zero_le _,rfl,hR0,hbd⟩
      case round=>
        obtain ⟨k,hk,rfl,HR,hbw7⟩:=hrel
        clear hR0 hbd
        by_cases hlt:k<7
        · obtain ⟨n,m,s,hnm,k0,k1,k2⟩:=lims_cell ((hbw7.out.block _ hgl).trans hL.out) k hlt
          have HS:=Lib.hid (HR.out.trans (all_drop (p:=fun x:Int×Int=>decide (x.1≤x.2)) hnm))
          have hbA:=Lib.hid fun o=>hbw7.out.alloc hbw7.out.size o
          clear HR hnm
          by_cases hle:n≤m
          · have HF:=Lib.hid (show R=((limsL c).drop (k+1)).all fun x=>decide (x.1≤x.2) from HS.out.trans (by simp only [decide_eq_true hle,Bool.true_and]))
            have hle':¬ (n>m):=by omega
            clear HS hle
            go_wp2_with fail
            go_roundw
            case rel=>exact ⟨k+1,by omega,by go_num,HF,hbA.out _⟩
            case measure=>simp [intOf];omega
          · have HF:=Lib.hid (show R=false from HS.out.trans (by simp only [decide_eq_false hle,Bool.false_and]))
            have hle':n>m:=by omega
            have hbF:=Lib.hid fun o=>hbz.out _ (hbc.out.trans ((hbA.out o).mono hbc.out.size))
            clear HS hle
            go_upto_region 14 with fail
            go_quiet (fail)
            go_wp2_with fail
            go_ret2
            exact e_bad HF.out (by decide) (below_drewN (hbF.out _) _)
        · have HF:=Lib.hid (show R=true by rw [HR.out,show k=7 by omega];rfl)
          have hbF:=Lib.hid (hbz.out _ (hbc.out.trans (hbw7.out.mono hbc.out.size)))
          clear HR
          go_wp2_with fail
          go_ret2
          exact e_ok HF.out hbF.out
theorem m_good (s:ByteArray)(w:World)(hs:Sm s):Calls Tryz.prog 57 #[.string s] w fun e w'=>e=.returned (.bool (goodN s))∧w=w':=m_isName s w (by unfold Sm at hs;omega)
theorem map_take_snoc {α β : Type}{f : α→β}{l:List α}{k:Nat}{x : α}(h:l[k]?=some x):(l.take (k+1)).map f=(l.take k).map f++[f x]:=by rw [take_snoc h,List.map_append];rfl
abbrev boxO (n vi vo vg vr va vb:Value):Obj:=.cells #[n,vi,vo,vg,vr,va,vb] 43 (0,0)
set_option maxHeartbeats 8000000 in
set_option maxRecDepth 100000 in
theorem m_names (c : ConfS) (vf vb vl vs : Value) (B : Nat) (w : World) (h : ConfC w B c vf vb vl vs) (hB : B ≤ w.heap.size) :
    Calls Tryz.prog 24 #[.agg (confV c vf vb vl vs)] w (EPost (namesB c) w):=by
  obtain ⟨Ab,capb,rfl,hcb,hcapb⟩:=SlOf.form h.b
  obtain ⟨W0,hW0⟩:∃ W0,w.alloc (confO c vf (.slice Ab c.boxes.length capb) vl vs)=W0:=⟨_,rfl⟩
  have hz:Hid (W0.heap.size=w.heap.size+1):=Lib.hid (by rw [← hW0];simp)
  have hb0:=Lib.hid (show Below w.heap.size w W0 by rw [← hW0];exact (Below.refl _ _).alloc (Nat.le_refl _) _)
  have hX:W0.heap[w.heap.size]?=some (confO c vf (.slice Ab c.boxes.length capb) vl vs):=by rw [← hW0];exact heap_alloc_new w _
  obtain ⟨_,_,_,_,x4,_,_⟩:=conf_cells (((Below.refl W0.heap.size W0).alloc (Nat.le_refl _) (.map #[] 0)).block w.heap.size (by have:=hz.out;omega)▸hX:(W0.alloc (.map #[] 0)).heap[w.heap.size]?=_)
  have hcx:=Lib.hid fun W (hb:Below (w.heap.size+1) W0 W)=>conf_cells ((hb.block _ (Nat.lt_succ_self _)).trans hX)
  have hbz:=Lib.hid fun W (hb:Below (w.heap.size+1) W0 W)=>hb0.out.trans (hb.mono (Nat.le_succ _))
  have hBx:=Lib.hid fun W (hb:Below w.heap.size w W)=>h.b.keep (w':=W) hB (keepB hb hB) fun _ _ h=>h.keep hB (keepB hb hB)
  have hS0:Hid (SetIs (W0.alloc (.map #[] 0)) (w.heap.size+1) 0 ((c.boxes.take 0).map BoxS.name)):=Lib.hid (by have:=SetIs.new W0;rw [hz.out] at this;exact this)
  have hb1:Hid (Below (w.heap.size+1) W0 (W0.alloc (.map #[] 0))):=Lib.hid ((Below.refl _ _).alloc (by rw [hz.out];exact Nat.le_refl _) _)
  have hz':=hz.out
  have hmm:=@run_makeMap Tryz.prog
  have HR0:Hid (namesB c=namesFrom ((c.boxes.take 0).map BoxS.name) (c.boxes.drop 0)):=Lib.hid rfl
  generalize namesB c=R at *
  clear h hX
  go_enter Tryz.func24,Tryz.ntmps24
  go_wp2_with fail
  clear hW0 hz' x4
  go_loopw [18] (fun i wr=>∃ k:Nat,k≤c.boxes.length∧i=.int .i64 k∧Hid (R=namesFrom ((c.boxes.take k).map BoxS.name) (c.boxes.drop k))∧Hid (SetIs wr (w.heap.size+1) k ((c.boxes.take k).map BoxS.name))∧Hid (Below (w.heap.size+1) W0 wr)) (fun i _=>c.boxes.length-(intOf i).toNat)
  case atStart=>exact ⟨0,Nat.zero_le _,rfl,HR0,hS0,hb1⟩
  case round=>
    obtain ⟨k,hk,rfl,HR,hS,hbw⟩:=hrel
    obtain ⟨wo,rfl⟩:∃ wo,wo=wr:=⟨_,rfl⟩
    clear HR0 hS0 hb1
    by_cases hlt:k<c.boxes.length
    · have hBw:=hBx.out _ (hbz.out _ hbw.out)
      obtain ⟨b,off,rfl⟩:=SlOf.addr hBw (by omega)
      obtain ⟨_,cc,x,hx,hc,hj⟩:=SlOf.el hBw hlt
      obtain ⟨Ai,ci,Ao,co,Ag,cg,Ar,cr,Aw,cw,Au,cu,rfl,⟨s1,s2,_,_,_,_⟩,hxn,hti,hto,_⟩:=box_form hc
      have e0:wo.cell? ⟨b,off+k*7,none⟩=_:=hj 0 _ rfl
      have e1:=hj 1 _ rfl
      have e2:=hj 2 _ rfl
      have e3:=hj 3 _ rfl
      have e4:=hj 4 _ rfl
      have e5:=hj 5 _ rfl
      have e6:=hj 6 _ rfl
      have HS:Hid (R=(goodN x.name && !(((c.boxes.take k).map BoxS.name).any fun q=>decide (q=x.name)) && freshB [] (x.ins++x.outs) && namesFrom ((c.boxes.take (k+1)).map BoxS.name) (c.boxes.drop (k+1)))):=Lib.hid (by rw [HR.out,drop_at hx,map_take_snoc hx];rfl)
      have cn:=Lib.hid fun W=>m_good x.name W hxn
      have hlw:Hid (w.heap.size+1<wo.heap.size):=Lib.hid hS.out.lt
      have hxs:x.name.size≤1000000000000000:=by unfold Sm at hxn;omega
      clear hj hBw hc HR
      have hti':=Lib.hid hti
      have hkw:=Lib.hid (keepB (hbz.out _ hbw.out) (Nat.le_refl _))
      have hto':=Lib.hid hto
      clear hti hto
      cases h1:goodN x.name
      · have HF:=Lib.hid (show R=false by rw [HS.out,h1];rfl)
        rw [h1] at cn
        have hbF:=Lib.hid fun o n=>below_drewN (hbz.out _ (hbw.out.alloc (Nat.le_of_lt hlw.out) o)) n
        clear HS hS
        go_upto_region 6 with (go_at_call 57;refine (cn.out _).mono ?_;rintro e w5 ⟨rfl,rfl⟩)
        go_quiet (fail)
        go_wp2_with fail
        go_ret2
        exact e_bad HF.out (by decide) (hbF.out _ _)
      cases h2:((c.boxes.take k).map BoxS.name).any fun q=>decide (q=x.name)
      case true=>
        have HF:=Lib.hid (show R=false by rw [HS.out,h1,h2];rfl)
        rw [h1] at cn
        replace h2:=Lib.hid h2
        have hbF:=Lib.hid fun o n=>below_drewN (hbz.out _ (hbw.out.alloc (Nat.le_of_lt hlw.out) o)) n
        have hSA:=Lib.hid fun o=>hS.out.below ((Below.refl wo.heap.size wo).alloc (Nat.le_refl _) o) (Nat.lt_trans (Nat.lt_succ_self _) (Nat.lt_of_lt_of_le hlw.out (Nat.le_refl _)) |> fun _=>hlw.out)
        clear HS
        go_upto_region 9 with (first
          | (go_at_call 57;refine (cn.out _).mono ?_;rintro e w5 ⟨rfl,rfl⟩)
          | (at_lookup;refine set_look (hSA.out _) rfl _ _ rfl rfl x.name rfl hxs ?_;intro c9;rw [h2.out]))
        go_quiet (fail)
        go_wp2_with fail
        go_ret2
        exact e_bad HF.out (by decide) (hbF.out _ _)
      obtain ⟨l,hl⟩:∃ l,x.ins++x.outs=l:=⟨_,rfl⟩
      have hll:l.length=x.ins.length+x.outs.length:=by rw [← hl,List.length_append]
      obtain ⟨Rest,hRest⟩:∃ Rest,namesFrom ((c.boxes.take (k+1)).map BoxS.name) (c.boxes.drop (k+1))=Rest:=⟨_,rfl⟩
      replace HS:Hid (R=(freshB (l.take 0) (l.drop 0) && Rest)):=Lib.hid (by rw [HS.out,h1,h2,hl,hRest];rfl)
      rw [h1] at cn
      have ht:=Lib.hid (map_take_snoc (f:=BoxS.name) hx)
      replace h2:=Lib.hid h2
      replace hRest:=Lib.hid hRest
      replace hl:=Lib.hid hl
      have hkb:k≤1000000000000000:=by omega
      have hSA:=Lib.hid fun o=>hS.out.below ((Below.refl wo.heap.size wo).alloc (Nat.le_refl _) o) hlw.out
      have hnp:∀ n,wrap64 ((x.ins.length:Int)+(x.outs.length:Int))=n↔((x.ins.length:Int)+(x.outs.length:Int))=n:=fun n=>by rw [w64 (by omega)]
      clear hx hS
      obtain ⟨bx,hbx⟩:∃ bx,boxO (.string x.name) (.slice Ai x.ins.length ci) (.slice Ao x.outs.length co) (.slice Ag x.guards.length cg) (.slice Ar x.rules.length cr) (.slice Aw x.owns.length cw) (.slice Au x.routes.length cu)=bx:=⟨_,rfl⟩
      have hXb:=Lib.hid (heap_alloc_new wo bx)
      have hbW:=Lib.hid (hbw.out.alloc (Nat.le_of_lt hlw.out) bx)
      have hzb:=Lib.hid (show (wo.alloc bx).heap.size=wo.heap.size+1 by simp)
      replace hSA:=Lib.hid (hSA.out bx)
      subst hbx
      go_upto_region 12 with (first
        | (go_at_call 57;refine (cn.out _).mono ?_;rintro e w5 ⟨rfl,rfl⟩)
        | (at_lookup;refine set_look hSA.out rfl _ _ rfl rfl x.name rfl hxs ?_;intro c9;rw [h2.out])
        | (at_mapUpdate;(refine set_put hSA.out rfl _ _ _ rfl rfl x.name rfl hxs hkb _ rfl (by omega) ?_;intro w3 hS3 hg3;rw [← ht.out] at hS3;have hS3':=Lib.hid hS3;have hbw3:=Lib.hid (hbW.out.trans (below_grow (w.heap.size+1) hg3 (Nat.le_trans (Nat.le_of_lt hlw.out) (by simp))));have hX3:=Lib.hid ((hg3.block wo.heap.size (by simp) (by intro e;injection e with e;have:=hlw.out;omega)).trans hXb.out);clear hS3 hg3 hSA)))
      have hwl:Hid (wo.heap.size<w3.heap.size):=Lib.hid (Array.getElem?_eq_some_iff.1 hX3.out).1
      obtain ⟨W3,hW3⟩:∃ W3,w3.alloc (.map #[] 0)=W3:=⟨_,rfl⟩
      have hz3:=Lib.hid (show W3.heap.size=w3.heap.size+1 by rw [← hW3];simp)
      have hbm:=Lib.hid (show Below w3.heap.size w3 W3 by rw [← hW3];exact (Below.refl _ _).alloc (Nat.le_refl _) _)
      have hSm0:Hid (SetIs W3 w3.heap.size 0 (l.take 0)):=Lib.hid (by rw [← hW3];exact SetIs.new w3)
      have hcb:=Lib.hid fun W (hb:Below w3.heap.size w3 W)=>cells7 ((hb.block _ hwl.out).trans hX3.out)
      obtain ⟨y0,y1,y2,y3,y4,y5,y6⟩:=hcb.out _ hbm.out
      rw [hW3]
      clear hW3
      go_wp2_with fail
      go_loopw [51] (fun i wr=>∃ j:Nat,j≤l.length∧i=.int .i64 j∧Hid (R=(freshB (l.take j) (l.drop j) && Rest))∧Hid (SetIs wr w3.heap.size j (l.take j))∧Hid (Below w3.heap.size w3 wr)) (fun i _=>l.length-(intOf i).toNat)
      case atStart=>exact ⟨0,Nat.zero_le _,rfl,HS,hSm0,hbm⟩
      case round=>
        obtain ⟨j,hj,rfl,HRj,hSj,hbj⟩:=hrel
        obtain ⟨wi,rfl⟩:∃ wi,wi=wr:=⟨_,rfl⟩
        clear HS hSm0 hbm y0 y1 y2 y3 y4 y5 y6 hz3
        obtain ⟨y0,y1,y2,y3,y4,y5,y6⟩:=hcb.out _ hbj.out
        by_cases hjl:j<l.length
        · have hbo:=Lib.hid (hbz.out _ (hbw3.out.trans (hbj.out.mono (by have:=hlw.out;have:=hwl.out;omega))))
          have cp:=Lib.hid (m_port x.ins x.outs j (.string x.name) _ _ (.slice Ag x.guards.length cg) (.slice Ar x.rules.length cr) (.slice Aw x.owns.length cw) (.slice Au x.routes.length cu) w.heap.size wi (hti'.out.keep (Nat.le_refl _) fun b o hb=>(keepB hbo.out (Nat.le_refl _) b o hb).trans (hkw.out b o hb).symm) (hto'.out.keep (Nat.le_refl _) fun b o hb=>(keepB hbo.out (Nat.le_refl _) b o hb).trans (hkw.out b o hb).symm) hbo.out.size (by omega))
          rw [hl.out] at cp
          obtain ⟨p,hp⟩:∃ p,l[j]?=some p:=⟨_,List.getElem?_eq_getElem hjl⟩
          have HSj:Hid (R=(goodN p && !((l.take j).any fun q=>decide (q=p)) && freshB (l.take (j+1)) (l.drop (j+1)) && Rest)):=Lib.hid (by rw [HRj.out,drop_at hp,take_snoc hp];rfl)
          clear HRj
          have ht:=Lib.hid (take_snoc hp)
          have hjb:j≤1000000000000000:=by omega
          have hbJ:=Lib.hid fun W (hb:Below wi.heap.size wi W)=>hbj.out.trans (hb.mono hbj.out.size)
          replace hp:=Lib.hid hp
          have hbO:=Lib.hid fun W (hb:Below w3.heap.size w3 W) n=>below_drewN (hbz.out _ (hbw3.out.trans (hb.mono (by have:=hlw.out;have:=hwl.out;omega)))) n
          cases g1:goodN p
          · have HF:=Lib.hid (show R=false by rw [HSj.out,g1];rfl)
            replace g1:=Lib.hid g1
            clear HSj hSj
            go_upto_region 17 with (first
              | (go_at_call 58;refine cp.out.mono ?_;rintro e w5 ⟨p5,rfl,hp5,hs5,hb5⟩;obtain rfl:p=p5:=Option.some.inj (hp.out.symm.trans hp5);have cg5:=Lib.hid (m_good p w5 hs5);rw [g1.out] at cg5;have hb6:=Lib.hid (hbJ.out _ hb5);obtain ⟨z0,_,_,_,_,_,_⟩:=hcb.out _ (hbJ.out _ hb5);have hs6:¬ 9223372036854775807<x.name.size+(1+p.size):=(by unfold Sm at hxn;omega);clear hp5 hb5)
              | (go_at_call 57;refine cg5.out.mono ?_;rintro e w6 ⟨rfl,rfl⟩))
            go_quiet (fail)
            go_wp2_with fail
            go_ret2
            exact e_bad HF.out (by decide) (hbO.out _ hb6.out _)
          cases g2:(l.take j).any fun q=>decide (q=p)
          case true=>
            have HF:=Lib.hid (show R=false by rw [HSj.out,g1,g2];rfl)
            replace g1:=Lib.hid g1
            replace g2:=Lib.hid g2
            clear HSj
            go_upto_region 20 with (first
              | (go_at_call 58;refine cp.out.mono ?_;rintro e w5 ⟨p5,rfl,hp5,hs5,hb5⟩;obtain rfl:p=p5:=Option.some.inj (hp.out.symm.trans hp5);have cg5:=Lib.hid (m_good p w5 hs5);rw [g1.out] at cg5;have hb6:=Lib.hid (hbJ.out _ hb5);have hS5:=Lib.hid (hSj.out.below hb5 hSj.out.lt);obtain ⟨z0,_,_,_,_,_,_⟩:=hcb.out _ (hbJ.out _ hb5);have hs6:p.size≤1000000000000000:=Nat.le_trans hs5 (by decide);clear hp5 hb5 hs5)
              | (go_at_call 57;refine cg5.out.mono ?_;rintro e w6 ⟨rfl,rfl⟩)
              | (at_lookup;refine set_look hS5.out rfl _ _ rfl rfl p rfl hs6 ?_;intro c9;rw [g2.out]))
            go_quiet (fail)
            go_wp2_with fail
            go_ret2
            exact e_bad HF.out (by decide) (hbO.out _ hb6.out _)
          have HF:=Lib.hid (show R=(freshB (l.take (j+1)) (l.drop (j+1)) && Rest) by rw [HSj.out,g1,g2];rfl)
          replace g1:=Lib.hid g1
          replace g2:=Lib.hid g2
          clear HSj
          go_wp2_with (first
            | (go_at_call 58;refine cp.out.mono ?_;rintro e w5 ⟨p5,rfl,hp5,hs5,hb5⟩;obtain rfl:p=p5:=Option.some.inj (hp.out.symm.trans hp5);have cg5:=Lib.hid (m_good p w5 hs5);rw [g1.out] at cg5;have hb6:=Lib.hid (hbJ.out _ hb5);have hS5:=Lib.hid (hSj.out.below hb5 hSj.out.lt);have hs6:p.size≤1000000000000000:=Nat.le_trans hs5 (by decide);clear hp5 hb5 hs5)
            | (go_at_call 57;refine cg5.out.mono ?_;rintro e w6 ⟨rfl,rfl⟩)
            | (at_lookup;refine set_look hS5.out rfl _ _ rfl rfl p rfl hs6 ?_;intro c9;rw [g2.out])
            | (at_mapUpdate;(refine set_put hS5.out rfl _ _ _ rfl rfl p rfl hs6 hjb _ rfl (by omega) ?_;intro w7 hS7 hg7;rw [← ht.out] at hS7;have hS8:=Lib.hid hS7;have hb8:=Lib.hid (hb6.out.trans (below_grow w3.heap.size hg7 hb6.out.size));clear hS7 hg7 hS5)))
          go_roundw
          case rel=>exact ⟨j+1,by omega,by go_num,HF,hS8,hb8⟩
          case measure=>simp [intOf];omega
        · have HF:=Lib.hid (show R=Rest by rw [HRj.out,drop_end hjl];rfl)
          clear HRj hSj
          have hS9:=Lib.hid (hS3'.out.below hbj.out (by have:=hlw.out;have:=hwl.out;omega))
          have hb9:=Lib.hid (hbw3.out.trans (hbj.out.mono (by have:=hlw.out;have:=hwl.out;omega)))
          go_wp2_with fail
          go_roundw
          case rel=>exact ⟨k+1,by omega,by go_num,Lib.hid (by rw [HF.out,hRest.out]),hS9,hb9⟩
          case measure=>simp [intOf];omega
    · have HF:Hid (R=true):=Lib.hid (by rw [HR.out,drop_end hlt];rfl)
      have hbF:=Lib.hid (hbz.out _ hbw.out)
      clear HR
      go_wp2_with fail
      go_ret2
      exact e_ok HF.out hbF.out
end Go.Proofs.YtdhehcobnbcmdaaGreatDoor
