/- A part of the proof of DeltaLines: Chg. -/
import Derived.Test.YtdhehcobnbcmdaaGreatDoorPCp
set_option linter.all false
namespace Go.Proofs.YtdhehcobnbcmdaaGreatDoor
open Go.RowKit
theorem likeS_parts (a b:ConfS):okCh a b=(checkS a && (checkS b && ((a.title.toList == b.title.toList) && ((a.routing.toList == b.routing.toList) && ((a.slim == b.slim) && eqL eqField a.fields b.fields))))):=rfl
theorem cells14 {w:World}{g:Nat}{x0 x1 x2 x3 x4 x5 x6 y0 y1 y2 y3 y4 y5 y6:Value}{t:TypeId}{fr:Nat×Nat}(h:w.heap[g]?=some (.cells #[x0,x1,x2,x3,x4,x5,x6,y0,y1,y2,y3,y4,y5,y6] t fr)) :
    (w.cell? ⟨g,0,none⟩=some x0∧w.cell? ⟨g,1,none⟩=some x1∧w.cell? ⟨g,2,none⟩=some x2∧w.cell? ⟨g,3,none⟩=some x3∧w.cell? ⟨g,4,none⟩=some x4∧w.cell? ⟨g,5,none⟩=some x5∧w.cell? ⟨g,6,none⟩=some x6) ∧
    (w.cell? ⟨g,7,none⟩=some y0∧w.cell? ⟨g,8,none⟩=some y1∧w.cell? ⟨g,9,none⟩=some y2∧w.cell? ⟨g,10,none⟩=some y3∧w.cell? ⟨g,11,none⟩=some y4∧w.cell? ⟨g,12,none⟩=some y5∧w.cell? ⟨g,13,none⟩=some y6):=by
  refine ⟨⟨?_,?_,?_,?_,?_,?_,?_⟩,?_,?_,?_,?_,?_,?_,?_⟩<;>rw [cell_of_row w g _ _ t fr h]<;>rfl
def ChPost (a b:ConfS)(w:World)(e:Ending)(w':World):Prop:=(∃ (v:Value) (k:Int),e=.returned (.tuple #[v, .int .i64 k])∧(k=0↔okCh a b=true)∧TextsR w' w.heap.size v (changesS a b))∧Below w.heap.size w w'
theorem ch_bad {a b:ConfS}{w w':World}{k:Int}(h:okCh a b=false)(hk:k≠0)(hb:Below w.heap.size w w'):ChPost a b w (.returned (.tuple #[.slice none 0 0, .int .i64 k])) w':=by
  refine ⟨⟨_,k,rfl,by rw [h];simp [hk],?_⟩,hb⟩
  unfold changesS
  rw [h]
  exact World.ownsRow_nil _ _ _ _
set_option maxHeartbeats 16000000 in
set_option maxRecDepth 100000 in
theorem d_Changes (a b : ConfS) (va1 va4 va5 va6 vb1 vb4 vb5 vb6 : Value) (w : World) (ha : ConfC w w.heap.size a va1 va4 va5 va6) (hb : ConfC w w.heap.size b vb1 vb4 vb5 vb6) (E : Env w) (wfa : WfC a) (wfb : WfC b) :
    Calls Tryz.prog 5 #[.agg (confV a va1 va4 va5 va6), .agg (confV b vb1 vb4 vb5 vb6)] w (ChPost a b w):=by
  obtain ⟨Af,Ag,Ab,Ah,Al,Am,As,At,rfl,rfl,rfl,rfl⟩:=conf_form ha
  obtain ⟨Df,Dg,Db,Dh,Dl,Dm,Ds,Dt,rfl,rfl,rfl,rfl⟩:=conf_form hb
  obtain ⟨W0,hW0⟩:∃ W,w.alloc (.cells #[.string a.title, .slice Af a.fields.length Ag, .string a.routing, .bool a.slim, .slice Ab a.boxes.length Ah, .slice Al a.links.length Am, .slice As a.slices.length At] 27 (0,0))=W:=⟨_,rfl⟩
  obtain ⟨W1,hW1⟩:∃ W,W0.alloc (.cells #[.string b.title, .slice Df b.fields.length Dg, .string b.routing, .bool b.slim, .slice Db b.boxes.length Dh, .slice Dl b.links.length Dm, .slice Ds b.slices.length Dt] 27 (0,0))=W:=⟨_,rfl⟩
  obtain ⟨W2,hW2⟩:∃ W,W1.alloc (.cells #[.string a.title, .slice Af a.fields.length Ag, .string a.routing, .bool a.slim, .slice Ab a.boxes.length Ah, .slice Al a.links.length Am, .slice As a.slices.length At, .string b.title, .slice Df b.fields.length Dg, .string b.routing, .bool b.slim, .slice Db b.boxes.length Dh, .slice Dl b.links.length Dm, .slice Ds b.slices.length Dt] 27 (0,0))=W:=⟨_,rfl⟩
  have hz0:W0.heap.size=w.heap.size+1:=by rw [← hW0];simp
  have hz1:W1.heap.size=w.heap.size+2:=by rw [← hW1];simp [hz0]
  have hz2:W2.heap.size=w.heap.size+3:=by rw [← hW2];simp [hz1]
  have b0:Below w.heap.size w W0:=by rw [← hW0];exact (Below.refl _ _).alloc (Nat.le_refl _) _
  have b1:Below W0.heap.size W0 W1:=by rw [← hW1];exact (Below.refl _ _).alloc (Nat.le_refl _) _
  have b2:Below W1.heap.size W1 W2:=by rw [← hW2];exact (Below.refl _ _).alloc (Nat.le_refl _) _
  have b12:Below W0.heap.size W0 W2:=b1.trans (b2.mono (by omega))
  have b02:Below w.heap.size w W2:=b0.trans (b12.mono (by omega))
  have hXa:W2.heap[w.heap.size]?=some (.cells #[.string a.title, .slice Af a.fields.length Ag, .string a.routing, .bool a.slim, .slice Ab a.boxes.length Ah, .slice Al a.links.length Am, .slice As a.slices.length At] 27 (0,0)):=(b12.block _ (by omega)).trans (by rw [← hW0];exact heap_alloc_new w _)
  have hXb:W2.heap[w.heap.size+1]?=some (.cells #[.string b.title, .slice Df b.fields.length Dg, .string b.routing, .bool b.slim, .slice Db b.boxes.length Dh, .slice Dl b.links.length Dm, .slice Ds b.slices.length Dt] 27 (0,0)):=(b2.block _ (by omega)).trans (by rw [← hz0,← hW1];exact heap_alloc_new W0 _)
  have hXr:W2.heap[w.heap.size+2]?=some (.cells #[.string a.title, .slice Af a.fields.length Ag, .string a.routing, .bool a.slim, .slice Ab a.boxes.length Ah, .slice Al a.links.length Am, .slice As a.slices.length At, .string b.title, .slice Df b.fields.length Dg, .string b.routing, .bool b.slim, .slice Db b.boxes.length Dh, .slice Dl b.links.length Dm, .slice Ds b.slices.length Dt] 27 (0,0)):=by rw [← hz1,← hW2];exact heap_alloc_new W1 _
  have hcx:Hid (∀ V,Below W2.heap.size W2 V→V.cell? ⟨w.heap.size,0,none⟩=some (.string a.title)∧V.cell? ⟨w.heap.size,1,none⟩=some (.slice Af a.fields.length Ag)∧V.cell? ⟨w.heap.size,2,none⟩=some (.string a.routing)∧V.cell? ⟨w.heap.size,3,none⟩=some (.bool a.slim)∧V.cell? ⟨w.heap.size,4,none⟩=some (.slice Ab a.boxes.length Ah)∧V.cell? ⟨w.heap.size,5,none⟩=some (.slice Al a.links.length Am)∧V.cell? ⟨w.heap.size,6,none⟩=some (.slice As a.slices.length At)):=Lib.hid fun V hb=>cells7 ((hb.block _ (by omega)).trans hXa)
  have hcy:Hid (∀ V,Below W2.heap.size W2 V→V.cell? ⟨w.heap.size+1,0,none⟩=some (.string b.title)∧V.cell? ⟨w.heap.size+1,1,none⟩=some (.slice Df b.fields.length Dg)∧V.cell? ⟨w.heap.size+1,2,none⟩=some (.string b.routing)∧V.cell? ⟨w.heap.size+1,3,none⟩=some (.bool b.slim)∧V.cell? ⟨w.heap.size+1,4,none⟩=some (.slice Db b.boxes.length Dh)∧V.cell? ⟨w.heap.size+1,5,none⟩=some (.slice Dl b.links.length Dm)∧V.cell? ⟨w.heap.size+1,6,none⟩=some (.slice Ds b.slices.length Dt)):=Lib.hid fun V hb=>cells7 ((hb.block _ (by omega)).trans hXb)
  have hcr:=Lib.hid fun V (hb:Below W2.heap.size W2 V)=>cells14 ((hb.block _ (by omega)).trans hXr)
  have hbz:=Lib.hid fun V (hb:Below W2.heap.size W2 V)=>b02.trans (hb.mono (by omega))
  have hCa:=Lib.hid fun V (hb:Below W2.heap.size W2 V)=>m_Check a _ _ _ _ w.heap.size V (ha.below (hbz.out V hb) (Nat.le_refl _)) (hbz.out V hb).size (E.below (hbz.out V hb)) wfa
  have hCb:=Lib.hid fun V (hb':Below W2.heap.size W2 V)=>m_Check b _ _ _ _ w.heap.size V (hb.below (hbz.out V hb') (Nat.le_refl _)) (hbz.out V hb').size (E.below (hbz.out V hb')) wfb
  have hQ:=Lib.hid fun V (hb':Below W2.heap.size W2 V)=>q_Field a.fields b.fields _ _ w.heap.size V (ha.f.below (hbz.out V hb') (Nat.le_refl _)) (hb.f.below (hbz.out V hb') (Nat.le_refl _)) (hbz.out V hb').size
  have hup:=Lib.hid fun (V:World) (o:Obj) (hb:Below W2.heap.size W2 V)=>hb.trans (((Below.refl V.heap.size V).alloc (Nat.le_refl _) o).mono hb.size)
  have h20:=Lib.hid (Below.refl W2.heap.size W2)
  obtain ⟨k0,k1,k2,k3,k4,k5,k6⟩:=cells7 ((b1.block w.heap.size (by omega)).trans (by rw [← hW0];exact heap_alloc_new w _:W0.heap[w.heap.size]?=some (.cells #[.string a.title, .slice Af a.fields.length Ag, .string a.routing, .bool a.slim, .slice Ab a.boxes.length Ah, .slice Al a.links.length Am, .slice As a.slices.length At] 27 (0,0))))
  obtain ⟨l0,l1,l2,l3,l4,l5,l6⟩:=cells7 (show W1.heap[w.heap.size+1]?=some (.cells #[.string b.title, .slice Df b.fields.length Dg, .string b.routing, .bool b.slim, .slice Db b.boxes.length Dh, .slice Dl b.links.length Dm, .slice Ds b.slices.length Dt] 27 (0,0)) by rw [← hz0,← hW1];exact heap_alloc_new W0 _)
  obtain ⟨x0,x1,x2,x3,x4,x5,x6⟩:=hcx.out _ h20.out
  obtain ⟨y0,y1,y2,y3,y4,y5,y6⟩:=hcy.out _ h20.out
  obtain ⟨⟨r0,r1,r2,r3,r4,r5,r6⟩,r7,r8,r9,r10,r11,r12,r13⟩:=hcr.out _ h20.out
  have a0:Hid (W0.heap.size=w.heap.size+1):=Lib.hid hz0
  have a1:Hid (W1.heap.size=w.heap.size+2):=Lib.hid hz1
  obtain ⟨P,hP⟩:∃ P,ChPost a b w=P:=⟨_,rfl⟩
  have hbad:Hid (∀ (k:Int) W,okCh a b=false→k≠0→Below W2.heap.size W2 W→P (.returned (.tuple #[.slice none 0 0, .int .i64 k])) W):=Lib.hid fun k W h hk hb=>by rw [← hP];exact ch_bad h hk (hbz.out W hb)
  rw [hP]
  replace hP:=Lib.hid hP
  replace ha:=Lib.hid ha
  replace hb:=Lib.hid hb
  replace E:=Lib.hid E
  replace b02:=Lib.hid b02
  have hOk:=Lib.hid (likeS_parts a b)
  replace hXa:=Lib.hid hXa
  replace hXb:=Lib.hid hXb
  clear b0 b1 b2 b12 hXr wfa wfb
  show Calls Tryz.prog 5 #[.agg #[.string a.title, .slice Af a.fields.length Ag, .string a.routing, .bool a.slim, .slice Ab a.boxes.length Ah, .slice Al a.links.length Am, .slice As a.slices.length At], .agg #[.string b.title, .slice Df b.fields.length Dg, .string b.routing, .bool b.slim, .slice Db b.boxes.length Dh, .slice Dl b.links.length Dm, .slice Ds b.slices.length Dt]] w P
  go_enter Tryz.func5,Tryz.ntmps5
  go_wp2_with fail
  refine wp_loop_rounds 3 ?_
  clear hz0 hz1 hz2 hW0 hW1 hW2 k0 k1 k2 k3 k4 k5 k6 l0 l1 l2 l3 l4 l5 l6
  obtain ⟨W2b,hW2b⟩:∃ V,W2.alloc (.cells #[.string a.title, .slice Af a.fields.length Ag, .string a.routing, .bool a.slim, .slice Ab a.boxes.length Ah, .slice Al a.links.length Am, .slice As a.slices.length At] 27 (0,0))=V:=⟨_,rfl⟩
  have hb2b:=Lib.hid (show Below W2.heap.size W2 W2b by rw [← hW2b];exact hup.out _ _ h20.out)
  obtain ⟨m0,m1,m2,m3,m4,m5,m6⟩:=cells7 (show W2b.heap[W2.heap.size]?=some (.cells #[.string a.title, .slice Af a.fields.length Ag, .string a.routing, .bool a.slim, .slice Ab a.boxes.length Ah, .slice Al a.links.length Am, .slice As a.slices.length At] 27 (0,0)) by rw [← hW2b];exact heap_alloc_new W2 _)
  have cK:=Lib.hid (hCa.out W2b hb2b.out)
  rw [rounds_succ]
  cases g0:checkS a
  · have HF:=Lib.hid (show okCh a b=false by rw [hOk.out,g0];rfl)
    rw [g0] at cK
    go_wp2_with (go_at_call 8;refine cK.out.mono ?_;intro e w4 hp;obtain ⟨k,s,rfl,hk0,hk1,hb9⟩:=e_no hp;have hb8:=Lib.hid (hb2b.out.trans (hb9.mono hb2b.out.size));replace hk0:=Lib.hid hk0;clear hb9 hp)
    exact hbad.out _ _ HF.out hk0.out hb8.out
  rw [g0] at cK
  go_wp2_with (go_at_call 8;refine cK.out.mono ?_;intro e W3 hp;obtain ⟨s0,rfl,hb9⟩:=e_yes hp;have h30:=Lib.hid (hb2b.out.trans (hb9.mono hb2b.out.size));clear hb9 hp cK m0 m1 m2 m3 m4 m5 m6 hW2b)
  clear x0 x1 x2 x3 x4 x5 x6 y0 y1 y2 y3 y4 y5 y6 r0 r1 r2 r3 r4 r5 r6 r7 r8 r9 r10 r11 r12 r13
  obtain ⟨x0,x1,x2,x3,x4,x5,x6⟩:=hcx.out _ h30.out
  obtain ⟨y0,y1,y2,y3,y4,y5,y6⟩:=hcy.out _ h30.out
  obtain ⟨⟨r0,r1,r2,r3,r4,r5,r6⟩,r7,r8,r9,r10,r11,r12,r13⟩:=hcr.out _ h30.out
  obtain ⟨W3b,hW3b⟩:∃ V,W3.alloc (.cells #[.string b.title, .slice Df b.fields.length Dg, .string b.routing, .bool b.slim, .slice Db b.boxes.length Dh, .slice Dl b.links.length Dm, .slice Ds b.slices.length Dt] 27 (0,0))=V:=⟨_,rfl⟩
  have hb3b:=Lib.hid (show Below W2.heap.size W2 W3b by rw [← hW3b];exact hup.out _ _ h30.out)
  obtain ⟨m0,m1,m2,m3,m4,m5,m6⟩:=cells7 (show W3b.heap[W3.heap.size]?=some (.cells #[.string b.title, .slice Df b.fields.length Dg, .string b.routing, .bool b.slim, .slice Db b.boxes.length Dh, .slice Dl b.links.length Dm, .slice Ds b.slices.length Dt] 27 (0,0)) by rw [← hW3b];exact heap_alloc_new W3 _)
  have cK:=Lib.hid (hCb.out W3b hb3b.out)
  rw [rounds_succ]
  cases g1:checkS b
  · have HF:=Lib.hid (show okCh a b=false by rw [hOk.out,g0,g1];rfl)
    rw [g1] at cK
    go_wp2_with (go_at_call 8;refine cK.out.mono ?_;intro e w4 hp;obtain ⟨k,s,rfl,hk0,hk1,hb9⟩:=e_no hp;have hb8:=Lib.hid (hb3b.out.trans (hb9.mono hb3b.out.size));replace hk0:=Lib.hid hk0;clear hb9 hp)
    exact hbad.out _ _ HF.out hk0.out hb8.out
  rw [g1] at cK
  go_wp2_with (go_at_call 8;refine cK.out.mono ?_;intro e W4 hp;obtain ⟨s1,rfl,hb9⟩:=e_yes hp;have h40:=Lib.hid (hb3b.out.trans (hb9.mono hb3b.out.size));clear hb9 hp cK m0 m1 m2 m3 m4 m5 m6 hW3b)
  clear x0 x1 x2 x3 x4 x5 x6 y0 y1 y2 y3 y4 y5 y6 r0 r1 r2 r3 r4 r5 r6 r7 r8 r9 r10 r11 r12 r13
  obtain ⟨x0,x1,x2,x3,x4,x5,x6⟩:=hcx.out _ h40.out
  obtain ⟨y0,y1,y2,y3,y4,y5,y6⟩:=hcy.out _ h40.out
  rw [rounds_succ]
  rw [g0,g1,Bool.true_and,Bool.true_and] at hOk
  clear hCa hCb hcr
  have cQ:=Lib.hid (hQ.out W4 h40.out)
  cases q0:(a.title.toList == b.title.toList)
  · rw [q0] at hOk
    have HF:=Lib.hid (show okCh a b=false from hOk.out)
    go_wp2_with fail
    exact hbad.out 160 _ HF.out (by decide) h40.out
  rw [q0,Bool.true_and] at hOk
  cases q1:(a.routing.toList == b.routing.toList)
  · rw [q1] at hOk
    have HF:=Lib.hid (show okCh a b=false from hOk.out)
    go_wp2_with fail
    exact hbad.out 160 _ HF.out (by decide) h40.out
  rw [q1,Bool.true_and] at hOk
  cases q2:(a.slim == b.slim)
  · rw [q2] at hOk
    have HF:=Lib.hid (show okCh a b=false from hOk.out)
    go_wp2_with fail
    exact hbad.out 160 _ HF.out (by decide) h40.out
  rw [q2,Bool.true_and] at hOk
  cases q3:eqL eqField a.fields b.fields
  · rw [q3] at hOk cQ
    have HF:=Lib.hid (show okCh a b=false from hOk.out)
    go_wp2_with (go_at_call 9;(with_reducible refine (cQ.out).mono ?_);rintro e w5 ⟨rfl,hb9⟩;have h50:=Lib.hid (h40.out.trans (hb9.mono h40.out.size));clear hb9)
    exact hbad.out 160 _ HF.out (by decide) h50.out
  rw [q3] at hOk cQ
  go_upto_region 10 with (go_at_call 9;(with_reducible refine (cQ.out).mono ?_);rintro e W5 ⟨rfl,hb9⟩;have h50:=Lib.hid (h40.out.trans (hb9.mono h40.out.size));clear hb9 cQ)
  clear x0 x1 x2 x3 x4 x5 x6 y0 y1 y2 y3 y4 y5 y6
  obtain ⟨x0,x1,x2,x3,x4,x5,x6⟩:=hcx.out _ h50.out
  obtain ⟨y0,y1,y2,y3,y4,y5,y6⟩:=hcy.out _ h50.out
  clear hQ q0 q1 q2 q3
  have wra:=Lib.hid (check_wr g0)
  have wrb:=Lib.hid (check_wr g1)
  have hla:=wra.out.box.1
  have hlb:=wrb.out.box.1
  clear g0 g1
  go_wp2_with fail
  go_loopw [10] (fun i wr=>∃ k:Nat,k≤a.boxes.length∧k≤b.boxes.length∧i=.int .i64 k∧Hid (headK a.boxes b.boxes=k+headK (a.boxes.drop k) (b.boxes.drop k))∧Hid (Below W2.heap.size W2 wr)) (fun i _=>a.boxes.length-(intOf i).toNat)
  case atStart=>exact ⟨0,Nat.zero_le _,Nat.zero_le _,rfl,Lib.hid (by simp),h50⟩
  case round=>
    obtain ⟨k,hk1,hk2,rfl,HK,hB⟩:=hrel
    obtain ⟨wo,rfl⟩:∃ wo,wo=wr:=⟨_,rfl⟩
    clear x0 x1 x2 x3 x4 x5 x6 y0 y1 y2 y3 y4 y5 y6
    have hst:=Lib.hid (headK_drop a.boxes b.boxes k)
    obtain ⟨x0,x1,x2,x3,x4,x5,x6⟩:=hcx.out _ hB.out
    obtain ⟨y0,y1,y2,y3,y4,y5,y6⟩:=hcy.out _ hB.out
    have hba:=hbz.out _ hB.out
    have ta:=ha.out.b.keep (w':=wo) (Nat.le_refl _) (keepB hba (Nat.le_refl _)) fun _ _ h=>h.keep (Nat.le_refl _) (keepB hba (Nat.le_refl _))
    have tb:=hb.out.b.keep (w':=wo) (Nat.le_refl _) (keepB hba (Nat.le_refl _)) fun _ _ h=>h.keep (Nat.le_refl _) (keepB hba (Nat.le_refl _))
    have hdr:=Lib.hid fun n=>below_drewN hB.out n
    clear hba
    go_upto_region 11 with fail
    go_cut [87] (fun v wx=>v=.bool (goK (a.boxes.drop k) (b.boxes.drop k))∧Hid (Below W2.heap.size W2 wx))
    case first=>
      by_cases h1:k<a.boxes.length
      · by_cases h2:k<b.boxes.length
        · obtain ⟨b1,o1,rfl⟩:=SlOf.addr ta (by omega)
          obtain ⟨_,c1,x,hx,hc1,hj1⟩:=SlOf.el ta h1
          obtain ⟨b2,o2,rfl⟩:=SlOf.addr tb (by omega)
          obtain ⟨_,c2,y,hy,hc2,hj2⟩:=SlOf.el tb h2
          obtain ⟨_,_,_,_,_,_,rfl,_⟩:=hc1
          obtain ⟨_,_,_,_,_,_,rfl,_⟩:=hc2
          have e1:wo.cell? ⟨b1,o1+k*7,none⟩=some (.string x.name):=hj1 0 _ rfl
          have e2:wo.cell? ⟨b2,o2+k*7,none⟩=some (.string y.name):=hj2 0 _ rfl
          have HG:=Lib.hid (goK_at hx hy)
          have d1:decide (k<a.boxes.length)=true:=decide_eq_true h1
          have d2:decide (k<b.boxes.length)=true:=decide_eq_true h2
          have i1:(k:Int)<(a.boxes.length:Int):=by omega
          have i2:(k:Int)<(b.boxes.length:Int):=by omega
          clear ta tb hj1 hj2 hx hy hst
          go_quiet (fail)
          go_wp2_with fail
          go_meet
          exact ⟨by rw [HG.out],Lib.hid (hdr.out _)⟩
        · have HG:=Lib.hid (goK_out (a:=a.boxes) (.inr (Nat.le_of_not_lt h2)))
          have d1:decide (k<a.boxes.length)=true:=decide_eq_true h1
          have d2:decide (k<b.boxes.length)=false:=decide_eq_false h2
          clear ta tb hst
          go_quiet (fail)
          go_wp2_with fail
          go_meet
          exact ⟨by rw [HG.out],Lib.hid (hdr.out _)⟩
      · have HG:=Lib.hid (goK_out (b:=b.boxes) (.inl (Nat.le_of_not_lt h1)))
        have d1:decide (k<a.boxes.length)=false:=decide_eq_false h1
        clear ta tb hst
        go_quiet (fail)
        go_wp2_with fail
        go_meet
        exact ⟨by rw [HG.out],Lib.hid (hdr.out _)⟩
    case rest=>
    obtain ⟨rfl,hB2⟩:=hcut
    replace hst:=Lib.hid (HK.out.trans (congrArg (k + ·) hst.out))
    clear HK x0 x1 x2 x3 x4 x5 x6 y0 y1 y2 y3 y4 y5 y6 ta tb hdr hB
    cases hg:goK (a.boxes.drop k) (b.boxes.drop k)
    case true=>
      obtain ⟨hk3,hk4⟩:=goK_lt hg
      rw [hg] at hst
      go_wp2_with fail
      go_roundw
      case rel=>exact ⟨k+1,by omega,by omega,by go_num,Lib.hid (by rw [hst.out,if_pos rfl];omega),hB2⟩
      case measure=>simp [intOf];omega
    case false=>
      rw [hg] at hst
      replace hst:=Lib.hid (show headK a.boxes b.boxes=k from hst.out)
      clear hg
      obtain ⟨V0,hV0⟩:∃ V,wc.alloc (.cells #[.slice none 0 0] 58 (0,0))=V:=⟨_,rfl⟩
      obtain ⟨V1,hV1⟩:∃ V,V0.alloc (.cells #[.pointer (some ⟨wc.heap.size,0,none⟩)] 56 (0,0))=V:=⟨_,rfl⟩
      have hz0:V0.heap.size=wc.heap.size+1:=by rw [← hV0];simp
      have hT1:Hid (CgAt wc [] V1):=Lib.hid (by rw [← hV1,← hV0];exact CgAt.start wc)
      have hbW:Hid (∀ L W,CgAt wc L W→Below W2.heap.size W2 W):=Lib.hid fun L W h=>hB2.out.trans (h.s.b.mono hB2.out.size)
      obtain ⟨x0,x1,x2,x3,x4,x5,x6⟩:=hcx.out _ (hbW.out _ _ hT1.out)
      obtain ⟨y0,y1,y2,y3,y4,y5,y6⟩:=hcy.out _ (hbW.out _ _ hT1.out)
      have lp:=hT1.out.ptr
      clear x0 x1 x2 x3 x4 x5 x6 y0 y1 y2 y3 y4 y5 y6
      obtain ⟨x0,x1,x2,x3,x4,x5,x6⟩:=hcx.out _ (hbW.out _ _ hT1.out)
      have tl0:=ha.out.b
      obtain ⟨A3,c3,t3,hr3⟩:=boxes_tail (k:=k) tl0 (by omega)
      obtain ⟨l3,hl3⟩:∃ l,a.boxes.drop k=l:=⟨_,rfl⟩
      rw [hl3] at t3 hr3
      have hn3:l3.length≤16:=by rw [← hl3,List.length_drop];omega
      clear tl0
      go_upto_region 15 with fail
      go_loopw [97] (fun i wr=>∃ j:Nat,j≤l3.length∧i=.int .i64 j∧Hid (CgAt wc ((l3.take j).map noBox) wr)) (fun i _=>l3.length-(intOf i).toNat)
      case atStart=>exact ⟨0,Nat.zero_le _,rfl,Lib.hid (by rw [List.take_zero];exact hT1.out)⟩
      case round=>
      obtain ⟨j,hj,rfl,HT⟩:=hrel
      obtain ⟨wo,rfl⟩:∃ wo,wo=wr:=⟨_,rfl⟩
      clear lp hT1 hV0 hV1 hz0
      have hba:=Lib.hid (hbz.out _ (hbW.out _ _ HT.out))
      by_cases hlt:j<l3.length
      · have ta:=t3.out.keep (w':=wo) (Nat.le_refl _) (keepB hba.out (Nat.le_refl _)) fun _ _ h=>h.keep (Nat.le_refl _) (keepB hba.out (Nat.le_refl _))
        obtain ⟨b1,o1,rfl⟩:=SlOf.addr ta (by omega)
        obtain ⟨_,c1,x,hx,hc1,hj1⟩:=SlOf.el ta hlt
        have hxm:x∈a.boxes:=List.mem_of_mem_drop (i:=k) (by rw [hl3];exact List.mem_of_getElem? hx)
        have hnz:=(goodN_le (wra.out.box.2 x hxm).nm).2
        obtain ⟨Pi,PI,Po,PO,Pg,PG,Pr,PR,Pw,PW,Pu,PU,rfl,_⟩:=box_form hc1
        have e0:wo.cell? ⟨b1,o1+j*7,none⟩=some (.string x.name):=hj1 0 _ rfl
        have e1:wo.cell? ⟨b1,o1+j*7+1,none⟩=some (.slice Pi x.ins.length PI):=hj1 1 _ rfl
        have e2:wo.cell? ⟨b1,o1+j*7+2,none⟩=some (.slice Po x.outs.length PO):=hj1 2 _ rfl
        have e3:wo.cell? ⟨b1,o1+j*7+3,none⟩=some (.slice Pg x.guards.length PG):=hj1 3 _ rfl
        have e4:wo.cell? ⟨b1,o1+j*7+4,none⟩=some (.slice Pr x.rules.length PR):=hj1 4 _ rfl
        have e5:wo.cell? ⟨b1,o1+j*7+5,none⟩=some (.slice Pw x.owns.length PW):=hj1 5 _ rfl
        have e6:wo.cell? ⟨b1,o1+j*7+6,none⟩=some (.slice Pu x.routes.length PU):=hj1 6 _ rfl
        obtain ⟨W7,hW7⟩:∃ V,wo.alloc (.cells #[.string x.name, .slice Pi x.ins.length PI, .slice Po x.outs.length PO, .slice Pg x.guards.length PG, .slice Pr x.rules.length PR, .slice Pw x.owns.length PW, .slice Pu x.routes.length PU] 43 (0,0))=V:=⟨_,rfl⟩
        have hb7:Below wo.heap.size wo W7:=by rw [← hW7];exact (Below.refl _ _).alloc (Nat.le_refl _) _
        have hT7:=Lib.hid (HT.out.below hb7)
        obtain ⟨q0,q1,q2,q3,q4,q5,q6⟩:=cells7 (show W7.heap[wo.heap.size]?=some (.cells #[.string x.name, .slice Pi x.ins.length PI, .slice Po x.outs.length PO, .slice Pg x.guards.length PG, .slice Pr x.rules.length PR, .slice Pw x.owns.length PW, .slice Pu x.routes.length PU] 43 (0,0)) by rw [← hW7];exact heap_alloc_new wo _)
        have lp:=hT7.out.ptr
        have hlen:((l3.take j).map noBox).length≤1000000:=by rw [List.length_map,List.length_take];omega
        have cS:=Lib.hid fun s=>d_say s hT7.out.s hlen
        have hsn:=Lib.hid (map_snoc (f:=noBox) hx)
        have g1:¬ 9223372036854775807<7+x.name.size:=by omega
        clear ta hx hc1 hj1 hxm hb7 hlen HT hba
        go_wp2_with (go_at_call 10;(with_reducible refine (cS.out _).mono ?_);rintro e wz hZ;obtain ⟨⟨vz,rfl⟩,hSc⟩:=hZ;have hT9:=Lib.hid (hT7.out.moved hSc.1 hSc.2.1);clear hSc)
        go_roundw
        case rel=>exact ⟨j+1,by omega,by go_num,Lib.hid (by rw [hsn.out];exact hT9.out)⟩
        case measure=>simp [intOf];omega
      replace HT:=Lib.hid (show CgAt wc (l3.map noBox) wo by have:=HT.out;rw [List.take_of_length_le (by omega)] at this;exact this)
      obtain ⟨L1,hL1⟩:∃ L,l3.map noBox=L:=⟨_,rfl⟩
      have hL1n:L1.length≤16:=by rw [← hL1,List.length_map];exact hn3
      rw [hL1] at HT
      have lp:=HT.out.ptr
      clear t3 hr3 hn3 hba
      go_upto_region 20 with fail
      go_loopw [108] (fun i wr=>∃ j:Nat,j≤k∧i=.int .i64 j∧Hid (CgAt wc (L1++((a.boxes.zip b.boxes).take j).flatMap pairS) wr)) (fun i _=>k-(intOf i).toNat)
      case atStart=>exact ⟨0,Nat.zero_le _,rfl,Lib.hid (by rw [List.take_zero,List.flatMap_nil,List.append_nil];exact HT.out)⟩
      case round=>
      obtain ⟨j2,hj2,rfl,HT2⟩:=hrel
      obtain ⟨wo,rfl⟩:∃ wo,wo=wr:=⟨_,rfl⟩
      clear lp HT
      have hzl:∀ p∈a.boxes.zip b.boxes,(pairS p).length≤800:=fun p hp=>boxS_len (wra.out.box.2 _ (List.of_mem_zip hp).1) (wrb.out.box.2 _ (List.of_mem_zip hp).2)
      have hzn:(((a.boxes.zip b.boxes).take j2).flatMap pairS).length≤800*k:=Nat.le_trans (flat_len pairS 800 _ fun p hp=>hzl p (List.mem_of_mem_take hp)) (by rw [List.length_take];exact Nat.mul_le_mul_left _ (by omega))
      by_cases hlt:j2<k
      · have hba:=Lib.hid (hbz.out _ (hbW.out _ _ HT2.out))
        have k0:Hid (∀ W,Below wo.heap.size wo W→CgAt wc (L1++((a.boxes.zip b.boxes).take j2).flatMap pairS) W):=Lib.hid fun W hb=>HT2.out.below hb
        have ta:=ha.out.b.keep (w':=wo) (Nat.le_refl _) (keepB hba.out (Nat.le_refl _)) fun _ _ h=>h.keep (Nat.le_refl _) (keepB hba.out (Nat.le_refl _))
        have tb:=hb.out.b.keep (w':=wo) (Nat.le_refl _) (keepB hba.out (Nat.le_refl _)) fun _ _ h=>h.keep (Nat.le_refl _) (keepB hba.out (Nat.le_refl _))
        have ha1:j2<a.boxes.length:=by omega
        have hb1:j2<b.boxes.length:=by omega
        obtain ⟨b1,o1,rfl⟩:=SlOf.addr ta (by omega)
        obtain ⟨nb1,c1,x,hx,hc1,hj1⟩:=SlOf.el ta ha1
        obtain ⟨b2,o2,rfl⟩:=SlOf.addr tb (by omega)
        obtain ⟨nb2,c2,y,hy,hc2,hjy⟩:=SlOf.el tb hb1
        have hc10:=hc1
        have hc20:=hc2
        obtain ⟨Pi,PI,Po,PO,Pg,PG,Pr,PR,Pw,PW,Pu,PU,rfl,_⟩:=box_form hc1
        obtain ⟨Qi,QI,Qo,QO,Qg,QG,Qr,QR,Qw,QW,Qu,QU,rfl,_⟩:=box_form hc2
        have wx:=wra.out.box.2 x (List.mem_of_getElem? hx)
        have wy:=wrb.out.box.2 y (List.mem_of_getElem? hy)
        have hsn:=Lib.hid (flatS_snoc (f:=pairS) (zip_at hx hy))
        have cB:Hid (∀ W,Below wo.heap.size wo W→Calls Tryz.prog 11 #[.pointer (some ⟨wc.heap.size,0,none⟩), .agg #[.string x.name, .slice Pi x.ins.length PI, .slice Po x.outs.length PO, .slice Pg x.guards.length PG, .slice Pr x.rules.length PR, .slice Pw x.owns.length PW, .slice Pu x.routes.length PU], .agg #[.string y.name, .slice Qi y.ins.length QI, .slice Qo y.outs.length QO, .slice Qg y.guards.length QG, .slice Qr y.rules.length QR, .slice Qw y.owns.length QW, .slice Qu y.routes.length QU]] W (SayPost wc wc.heap.size ((L1++((a.boxes.zip b.boxes).take j2).flatMap pairS)++boxS unS x y) W)):=Lib.hid fun W hb9=>by
          have hl9:(L1++((a.boxes.zip b.boxes).take j2).flatMap pairS).length≤80000:=by rw [List.length_append];omega
          have hk9:=keepB hb9 (by have:=hba.out.size;omega:w.heap.size≤wo.heap.size)
          exact two_box (hc10.keep (Nat.le_refl _) hk9) (hc20.keep (Nat.le_refl _) hk9) (Nat.le_trans (b02.out.size) hB2.out.size) (k0.out W hb9).s (E.out.below (b02.out.trans (hB2.out.mono b02.out.size))) wx wy hl9
        have hSA:Hid (∀ L W,CgAt wc L W→W.cell? ⟨wc.heap.size+1,0,none⟩=some (.pointer (some ⟨wc.heap.size,0,none⟩))∧W.cell? ⟨w.heap.size,4,none⟩=some (.slice (some ⟨b1,o1,none⟩) a.boxes.length Ah)∧W.cell? ⟨w.heap.size+1,4,none⟩=some (.slice (some ⟨b2,o2,none⟩) b.boxes.length Dh)∧W.cell? ⟨b1,o1+j2*7,none⟩=some (.string x.name)∧W.cell? ⟨b1,o1+j2*7+1,none⟩=some (.slice Pi x.ins.length PI)∧W.cell? ⟨b1,o1+j2*7+2,none⟩=some (.slice Po x.outs.length PO)∧W.cell? ⟨b1,o1+j2*7+3,none⟩=some (.slice Pg x.guards.length PG)∧W.cell? ⟨b1,o1+j2*7+4,none⟩=some (.slice Pr x.rules.length PR)∧W.cell? ⟨b1,o1+j2*7+5,none⟩=some (.slice Pw x.owns.length PW)∧W.cell? ⟨b1,o1+j2*7+6,none⟩=some (.slice Pu x.routes.length PU)∧W.cell? ⟨b2,o2+j2*7,none⟩=some (.string y.name)∧W.cell? ⟨b2,o2+j2*7+1,none⟩=some (.slice Qi y.ins.length QI)∧W.cell? ⟨b2,o2+j2*7+2,none⟩=some (.slice Qo y.outs.length QO)∧W.cell? ⟨b2,o2+j2*7+3,none⟩=some (.slice Qg y.guards.length QG)∧W.cell? ⟨b2,o2+j2*7+4,none⟩=some (.slice Qr y.rules.length QR)∧W.cell? ⟨b2,o2+j2*7+5,none⟩=some (.slice Qw y.owns.length QW)∧W.cell? ⟨b2,o2+j2*7+6,none⟩=some (.slice Qu y.routes.length QU)):=Lib.hid fun L W hT=>by
          have hbk:=hbz.out _ (hbW.out _ _ hT)
          have hkk:∀ p o,p<w.heap.size→W.cell? ⟨p,o,none⟩=wo.cell? ⟨p,o,none⟩:=fun p o hp=>(keepB hbk (Nat.le_refl _) p o hp).trans (keepB hba.out (Nat.le_refl _) p o hp).symm
          exact ⟨hT.ptr,(hcx.out _ (hbW.out _ _ hT)).2.2.2.2.1,(hcy.out _ (hbW.out _ _ hT)).2.2.2.2.1,(hkk _ _ nb1).trans (hj1 0 _ rfl),(hkk _ _ nb1).trans (hj1 1 _ rfl),(hkk _ _ nb1).trans (hj1 2 _ rfl),(hkk _ _ nb1).trans (hj1 3 _ rfl),(hkk _ _ nb1).trans (hj1 4 _ rfl),(hkk _ _ nb1).trans (hj1 5 _ rfl),(hkk _ _ nb1).trans (hj1 6 _ rfl),(hkk _ _ nb2).trans (hjy 0 _ rfl),(hkk _ _ nb2).trans (hjy 1 _ rfl),(hkk _ _ nb2).trans (hjy 2 _ rfl),(hkk _ _ nb2).trans (hjy 3 _ rfl),(hkk _ _ nb2).trans (hjy 4 _ rfl),(hkk _ _ nb2).trans (hjy 5 _ rfl),(hkk _ _ nb2).trans (hjy 6 _ rfl)⟩
        obtain ⟨s0,s1,s2,s3,s4,s5,s6,s7,s8,s9,s10,s11,s12,s13,s14,s15,s16⟩:=hSA.out _ _ HT2.out
        have i1:(j2:Int)<(a.boxes.length:Int):=by omega
        have i2:(j2:Int)<(b.boxes.length:Int):=by omega
        have hd:=Lib.hid (Below.refl wo.heap.size wo).drew
        have hS0:=Lib.hid (hSA.out _ _ (k0.out _ hd.out))
        clear ta tb hc1 hc2 hc10 hc20 hj1 hjy hx hy wx wy hzl hzn
        go_upto_region 22 with fail
        go_region_held3 (fun W'=>W'.cell? ⟨wc.heap.size+1,0,none⟩=some (.pointer (some ⟨wc.heap.size,0,none⟩))∧W'.cell? ⟨w.heap.size,4,none⟩=some (.slice (some ⟨b1,o1,none⟩) a.boxes.length Ah)∧W'.cell? ⟨w.heap.size+1,4,none⟩=some (.slice (some ⟨b2,o2,none⟩) b.boxes.length Dh)∧W'.cell? ⟨b1,o1+j2*7,none⟩=some (.string x.name)∧W'.cell? ⟨b1,o1+j2*7+1,none⟩=some (.slice Pi x.ins.length PI)∧W'.cell? ⟨b1,o1+j2*7+2,none⟩=some (.slice Po x.outs.length PO)∧W'.cell? ⟨b1,o1+j2*7+3,none⟩=some (.slice Pg x.guards.length PG)∧W'.cell? ⟨b1,o1+j2*7+4,none⟩=some (.slice Pr x.rules.length PR)∧W'.cell? ⟨b1,o1+j2*7+5,none⟩=some (.slice Pw x.owns.length PW)∧W'.cell? ⟨b1,o1+j2*7+6,none⟩=some (.slice Pu x.routes.length PU)∧W'.cell? ⟨b2,o2+j2*7,none⟩=some (.string y.name)∧W'.cell? ⟨b2,o2+j2*7+1,none⟩=some (.slice Qi y.ins.length QI)∧W'.cell? ⟨b2,o2+j2*7+2,none⟩=some (.slice Qo y.outs.length QO)∧W'.cell? ⟨b2,o2+j2*7+3,none⟩=some (.slice Qg y.guards.length QG)∧W'.cell? ⟨b2,o2+j2*7+4,none⟩=some (.slice Qr y.rules.length QR)∧W'.cell? ⟨b2,o2+j2*7+5,none⟩=some (.slice Qw y.owns.length QW)∧W'.cell? ⟨b2,o2+j2*7+6,none⟩=some (.slice Qu y.routes.length QU))
          (first|exact hHeld|go_keep|exact hS9|exact hS0.out)
          (first|(go_at_call 11;(with_reducible refine (cB.out _ hd.out).mono ?_);rintro e wz hZ;obtain ⟨⟨vz,rfl⟩,hSc⟩:=hZ;have hT9:=Lib.hid ((k0.out _ hd.out).moved hSc.1 hSc.2.1);have hS9:=hSA.out _ _ hT9.out;clear hSc))
        all_goals
          go_wp2_with fail
          go_roundw
          case rel=>exact ⟨j2+1,by omega,by go_num,Lib.hid (by rw [hsn.out,← List.append_assoc];exact hT9.out)⟩
          case measure=>simp [intOf];omega
      obtain rfl:k=j2:=by omega
      obtain ⟨L2,hL2⟩:∃ L,L1++((a.boxes.zip b.boxes).take k).flatMap pairS=L:=⟨_,rfl⟩
      have hL2n:L2.length≤14000:=by rw [← hL2,List.length_append];omega
      rw [hL2] at HT2
      clear hzl hzn
      have lp:=HT2.out.ptr
      obtain ⟨y0,y1,y2,y3,y4,y5,y6⟩:=hcy.out _ (hbW.out _ _ HT2.out)
      have tl0:=hb.out.b
      obtain ⟨A4,c4,t4,hr4⟩:=boxes_tail (k:=k) tl0 (by omega)
      obtain ⟨l4,hl4⟩:∃ l,b.boxes.drop k=l:=⟨_,rfl⟩
      rw [hl4] at t4 hr4
      have hn4:l4.length≤16:=by rw [← hl4,List.length_drop];omega
      clear tl0
      go_upto_region 25 with fail
      go_loopw [129] (fun i wr=>∃ j:Nat,j≤l4.length∧i=.int .i64 j∧Hid (CgAt wc (L2++(l4.take j).flatMap newS) wr)) (fun i _=>l4.length-(intOf i).toNat)
      case atStart=>exact ⟨0,Nat.zero_le _,rfl,Lib.hid (by rw [List.take_zero,List.flatMap_nil,List.append_nil];exact HT2.out)⟩
      case round=>
      obtain ⟨j3,hj3,rfl,HT3⟩:=hrel
      obtain ⟨wq,rfl⟩:∃ wq,wq=wr:=⟨_,rfl⟩
      clear lp HT2 y0 y1 y2 y3 y4 y5 y6
      have hba:=Lib.hid (hbz.out _ (hbW.out _ _ HT3.out))
      have hnl:∀ x∈l4,(newS x).length≤801:=fun x hx=>by
        have hm:x∈b.boxes:=List.mem_of_mem_drop (i:=k) (by rw [hl4];exact hx)
        have:=boxS_len (bare_wr (wrb.out.box.2 x hm)) (wrb.out.box.2 x hm)
        unfold newS
        rw [List.length_append,List.length_singleton]
        omega
      have hnn:((l4.take j3).flatMap newS).length≤12816:=Nat.le_trans (flat_len newS 801 _ fun x hx=>hnl x (List.mem_of_mem_take hx)) (by rw [List.length_take];have:801*min j3 l4.length≤801*16:=Nat.mul_le_mul_left _ (by omega);omega)
      by_cases hlt:j3<l4.length
      · have ta:=t4.out.keep (w':=wq) (Nat.le_refl _) (keepB hba.out (Nat.le_refl _)) fun _ _ h=>h.keep (Nat.le_refl _) (keepB hba.out (Nat.le_refl _))
        obtain ⟨b1,o1,rfl⟩:=SlOf.addr ta (by omega)
        obtain ⟨_,c1,x,hx,hc1,hj1⟩:=SlOf.el ta hlt
        have hxm:x∈b.boxes:=List.mem_of_mem_drop (i:=k) (by rw [hl4];exact List.mem_of_getElem? hx)
        have wx:=wrb.out.box.2 x hxm
        have hnz:=(goodN_le wx.nm).2
        have hc10:=hc1
        obtain ⟨Pi,PI,Po,PO,Pg,PG,Pr,PR,Pw,PW,Pu,PU,rfl,_⟩:=box_form hc1
        have e0:wq.cell? ⟨b1,o1+j3*7,none⟩=some (.string x.name):=hj1 0 _ rfl
        have e1:wq.cell? ⟨b1,o1+j3*7+1,none⟩=some (.slice Pi x.ins.length PI):=hj1 1 _ rfl
        have e2:wq.cell? ⟨b1,o1+j3*7+2,none⟩=some (.slice Po x.outs.length PO):=hj1 2 _ rfl
        have e3:wq.cell? ⟨b1,o1+j3*7+3,none⟩=some (.slice Pg x.guards.length PG):=hj1 3 _ rfl
        have e4:wq.cell? ⟨b1,o1+j3*7+4,none⟩=some (.slice Pr x.rules.length PR):=hj1 4 _ rfl
        have e5:wq.cell? ⟨b1,o1+j3*7+5,none⟩=some (.slice Pw x.owns.length PW):=hj1 5 _ rfl
        have e6:wq.cell? ⟨b1,o1+j3*7+6,none⟩=some (.slice Pu x.routes.length PU):=hj1 6 _ rfl
        obtain ⟨W7,hW7⟩:∃ V,wq.alloc (.cells #[.string x.name, .slice Pi x.ins.length PI, .slice Po x.outs.length PO, .slice Pg x.guards.length PG, .slice Pr x.rules.length PR, .slice Pw x.owns.length PW, .slice Pu x.routes.length PU] 43 (0,0))=V:=⟨_,rfl⟩
        have hb7:Below wq.heap.size wq W7:=by rw [← hW7];exact (Below.refl _ _).alloc (Nat.le_refl _) _
        have hT7:=Lib.hid (HT3.out.below hb7)
        have mX:Mine wc.heap.size wq.heap.size (.cells #[.string x.name, .slice Pi x.ins.length PI, .slice Po x.outs.length PO, .slice Pg x.guards.length PG, .slice Pr x.rules.length PR, .slice Pw x.owns.length PW, .slice Pu x.routes.length PU] 43 (0,0)) W7:=HT3.out.s.mine (by rw [hW7];exact Below.refl _ _)
        obtain ⟨q0,q1,q2,q3,q4,q5,q6⟩:=cells7 mX.1
        have lp:=hT7.out.ptr
        have hlen:(L2++(l4.take j3).flatMap newS).length≤1000000:=by rw [List.length_append];omega
        have cS:=Lib.hid fun s=>d_say s hT7.out.s hlen
        have hqc:=Lib.hid fun W (hk:KeepX wc.heap.size W7 W)=>cells7 (mX.keep hk).1
        have hsn:=Lib.hid (flatS_snoc (f:=newS) hx)
        have hbw:∀ L W,CgAt wc L W→Below w.heap.size w W:=fun L W hT=>hbz.out _ (hbW.out _ _ hT)
        have cB:Hid (∀ L W,CgAt wc L W→L.length≤80000→Calls Tryz.prog 11 #[.pointer (some ⟨wc.heap.size,0,none⟩), .agg #[.string x.name, .slice none 0 0, .slice none 0 0, .slice none 0 0, .slice none 0 0, .slice none 0 0, .slice none 0 0], .agg #[.string x.name, .slice Pi x.ins.length PI, .slice Po x.outs.length PO, .slice Pg x.guards.length PG, .slice Pr x.rules.length PR, .slice Pw x.owns.length PW, .slice Pu x.routes.length PU]] W (SayPost wc wc.heap.size (L++boxS unS (bare x) x) W)):=Lib.hid fun L W hT hl9=>by
          have hk9:∀ p o,p<w.heap.size→W.cell? ⟨p,o,none⟩=wq.cell? ⟨p,o,none⟩:=fun p o hp=>(keepB (hbw _ _ hT) (Nat.le_refl _) p o hp).trans (keepB hba.out (Nat.le_refl _) p o hp).symm
          exact two_box (x:=bare x) (cx:=[.string x.name, .slice none 0 0, .slice none 0 0, .slice none 0 0, .slice none 0 0, .slice none 0 0, .slice none 0 0]) ⟨_,_,_,_,_,_,rfl,by show x.name.size≤_;omega,slOf_nil,slOf_nil,slOf_nil,slOf_nil,slOf_nil,slOf_nil⟩ (hc10.keep (Nat.le_refl _) hk9) (Nat.le_trans (b02.out.size) hB2.out.size) hT.s (E.out.below (b02.out.trans (hB2.out.mono b02.out.size))) (bare_wr wx) wx hl9
        have hl8:Hid (∀ s:ByteArray,((L2++(l4.take j3).flatMap newS)++[s]).length≤80000):=Lib.hid fun s=>by rw [List.length_append,List.length_append,List.length_singleton];omega
        have g1:¬ 9223372036854775807<4+x.name.size:=by omega
        clear ta hx hc1 hc10 hj1 hxm hb7 hlen hba hnl hnn wx mX HT3 hbw
        go_wp2_with (first
          | (go_at_call 11;(with_reducible refine (cB.out _ _ hT8.out (hl8.out _)).mono ?_);rintro e wz hZ;obtain ⟨⟨vz,rfl⟩,hSc⟩:=hZ;have hT9:=Lib.hid (hT8.out.moved hSc.1 hSc.2.1);clear hSc)
          | (go_at_call 10;(with_reducible refine (cS.out _).mono ?_);rintro e wy hZ;obtain ⟨⟨vy,rfl⟩,hSc⟩:=hZ;have hT8:=Lib.hid (hT7.out.moved hSc.1 hSc.2.1);obtain ⟨q0,q1,q2,q3,q4,q5,q6⟩:=hqc.out _ hSc.2.1;have lp:=hT8.out.ptr;clear hSc))
        go_roundw
        case rel=>exact ⟨j3+1,by omega,by go_num,Lib.hid (by rw [hsn.out];have:=hT9.out;rw [List.append_assoc,List.append_assoc] at this;exact this)⟩
        case measure=>simp [intOf];omega
      replace HT3:=Lib.hid (show CgAt wc (L2++l4.flatMap newS) wq by have:=HT3.out;rw [List.take_of_length_le (by omega)] at this;exact this)
      obtain ⟨L3,hL3⟩:∃ L,L2++l4.flatMap newS=L:=⟨_,rfl⟩
      have hL3n:L3.length≤30000:=by rw [List.take_of_length_le (by omega)] at hnn;rw [← hL3,List.length_append];omega
      rw [hL3] at HT3
      clear hnl hnn hr4 t4
      have hba:=Lib.hid (hbz.out _ (hbW.out _ _ HT3.out))
      obtain ⟨x0,x1,x2,x3,x4,x5,x6⟩:=hcx.out _ (hbW.out _ _ HT3.out)
      obtain ⟨y0,y1,y2,y3,y4,y5,y6⟩:=hcy.out _ (hbW.out _ _ HT3.out)
      have lp:=HT3.out.ptr
      have hEc:=E.out.below (b02.out.trans (hB2.out.mono b02.out.size))
      have hBc:=Nat.le_trans (b02.out.size) hB2.out.size
      have hl1:=wra.out.lnk.1
      have hl2:=wrb.out.lnk.1
      have hs1:=wra.out.slc.1
      have hs2:=wrb.out.slc.1
      have hk0:=fun W L (hT:CgAt wc L W)=>keepB (hbz.out _ (hbW.out _ _ hT)) (Nat.le_refl w.heap.size)
      have c1:=Lib.hid (turn_links a.links b.links _ _ w.heap.size wc wq L3 (pureSl ha.out.l (Nat.le_refl _) (hk0 _ _ HT3.out)) (pureSl hb.out.l (Nat.le_refl _) (hk0 _ _ HT3.out)) hBc hEc wrb.out.lnk.2 HT3.out.s HT3.out.m (by omega))
      have htl:=turnS_len eqLink noLink adLink a.links b.links
      have hL4n:(L3++turnS eqLink noLink adLink a.links b.links).length+(a.slices.length+b.slices.length)≤1000000:=by rw [List.length_append];omega
      have c2:=Lib.hid fun W (hT:CgAt wc (L3++turnS eqLink noLink adLink a.links b.links) W)=>turn_slices a.slices b.slices _ _ w.heap.size wc W _ (ha.out.s.keep (Nat.le_refl _) (hk0 _ _ hT) fun _ _ h=>h.keep (Nat.le_refl _) (hk0 _ _ hT)) (hb.out.s.keep (Nat.le_refl _) (hk0 _ _ hT) fun _ _ h=>h.keep (Nat.le_refl _) (hk0 _ _ hT)) hBc hEc wrb.out.slc.2 hT.s hT.m hL4n
      have hF:Hid ((L3++turnS eqLink noLink adLink a.links b.links)++turnS eqSlice noSlice adSlice a.slices b.slices=changesS a b):=Lib.hid (by
        unfold changesS
        rw [if_pos hOk.out,hst.out]
        unfold changesK
        rw [hl3,hL1,hL2,hl4,hL3,List.append_assoc])
      clear hk0 hEc hBc htl hL4n hl1 hl2 hs1 hs2 hba
      go_upto_region 32 with (first
        | (go_at_call 17;(with_reducible refine (c2.out _ hT8.out).mono ?_);rintro e wz hZ;obtain ⟨⟨vz,rfl⟩,hSc⟩:=hZ;have hT9:=Lib.hid (hT8.out.moved hSc.1 hSc.2.1);have lp:=hT9.out.ptr;clear hSc)
        | (go_at_call 12;(with_reducible refine (c1.out).mono ?_);rintro e wy hZ;obtain ⟨⟨vy,rfl⟩,hSc⟩:=hZ;have hT8:=Lib.hid (HT3.out.moved hSc.1 hSc.2.1);obtain ⟨x0,x1,x2,x3,x4,x5,x6⟩:=hcx.out _ (hbW.out _ _ hT8.out);obtain ⟨y0,y1,y2,y3,y4,y5,y6⟩:=hcy.out _ (hbW.out _ _ hT8.out);have lp:=hT8.out.ptr;clear hSc))
      obtain ⟨vr,hvr,hrr⟩:=hT9.out.s.c
      have hcr:=cell_of_one hvr
      replace hvr:=Lib.hid hvr
      replace hrr:=Lib.hid hrr
      go_wp2_with fail
      rw [← hP.out]
      refine ⟨⟨vr,0,rfl,by rw [hOk.out];simp,?_⟩,hbz.out _ (hbW.out _ _ hT9.out)⟩
      have h9:=hrr.out
      rw [hF.out] at h9
      exact row_base_le h9 (by have:=b02.out.size;have:=hB2.out.size;omega)
end Go.Proofs.YtdhehcobnbcmdaaGreatDoor
