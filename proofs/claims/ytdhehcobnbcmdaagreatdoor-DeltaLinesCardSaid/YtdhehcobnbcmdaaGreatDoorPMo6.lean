/- A part of the proof of DeltaLines: Mod6 Mod7. -/
import Derived.Test.YtdhehcobnbcmdaaGreatDoorPMo3
import Derived.Test.YtdhehcobnbcmdaaGreatDoorPE3
import Derived.Test.YtdhehcobnbcmdaaGreatDoorPF5
set_option linter.all false
namespace Go.Proofs.YtdhehcobnbcmdaaGreatDoor
open Go.RowKit
structure Desk (w:World)(cb mb B n:Nat)(c:ConfS)(vf:Value)(f:Tab):Prop where
  c1:w.cell? ⟨cb,1,none⟩=some vf
  c2:w.cell? ⟨cb,2,none⟩=some (.string c.routing)
  fs:Fields w B vf c.fields
  rt:Sm c.routing
  env:Env w
  map:MapIs w mb n f
  hB:B≤w.heap.size
theorem Desk.lt {w:World}{cb mb B n:Nat}{c:ConfS}{vf:Value}{f:Tab}(h:Desk w cb mb B n c vf f):cb<w.heap.size:=World.block_lt_of_cell? w _ h.c1
theorem Desk.below {w w':World}{cb mb B n:Nat}{c:ConfS}{vf:Value}{f:Tab}(h:Desk w cb mb B n c vf f)(hb:Below w.heap.size w w'):Desk w' cb mb B n c vf f where
  c1:=cell_below hb h.c1
  c2:=cell_below hb h.c2
  fs:=pureSl h.fs (Nat.le_refl _) (keepB hb h.hB)
  rt:=h.rt
  env:=h.env.below hb
  map:=h.map.below hb h.map.lt
  hB:=Nat.le_trans h.hB hb.size
abbrev deskV (cb mb ni cap:Nat)(A:Option Addr)(vn vo vg vr va vb:Value):Array Value:=#[.pointer (some ⟨cb,0,none⟩),vn, .slice A ni cap,vo,vg,vr,va,vb, .map (some mb)]
theorem bool_ret {b:Bool}{w w':World}(hb:Below w.heap.size w w'):BoolW b w (.returned (.bool b)) w':=⟨rfl,hb⟩
section
variable {w:World} {cb mb B n:Nat} {c:ConfS} {vf:Value} {f:Tab} (ni cap:Nat) (A:Option Addr) (vn vo vg vr va vb:Value)
set_option maxHeartbeats 2000000 in
set_option maxRecDepth 100000 in
theorem m_right (l:List NodeS)(v:Value)(D:Desk w cb mb B n c vf f)(hl:Nodes w B v l) :
    Calls Tryz.prog 95 #[.agg (deskV cb mb ni cap A vn vo vg vr va vb),v] w (BoolW (okE c.fields l) w):=by
  obtain ⟨Al,capl,rfl,_,_⟩:=SlOf.form hl
  obtain ⟨Af,capf,hvf,_,_⟩:=SlOf.form D.fs
  subst hvf
  obtain ⟨W0,hW0⟩:∃ W0,w.alloc (.cells (deskV cb mb ni cap A vn vo vg vr va vb) 104 (0,0))=W0:=⟨_,rfl⟩
  have hb0:=Lib.hid (show Below w.heap.size w W0 by rw [← hW0];exact (Below.refl _ _).alloc (Nat.le_refl _) _)
  have hX:W0.heap[w.heap.size]?=some (.cells (deskV cb mb ni cap A vn vo vg vr va vb) 104 (0,0)):=by rw [← hW0];exact heap_alloc_new w _
  have hD:=Lib.hid (D.below hb0.out)
  have x0:W0.cell? ⟨w.heap.size,0,none⟩=some (.pointer (some ⟨cb,0,none⟩)):=by rw [cell_of_row W0 _ _ _ _ _ hX];rfl
  have q1:=hD.out.c1
  have cx:=Lib.hid (x_Check c.fields l _ _ B W0 hD.out.fs (Nodes.below hl hb0.out D.hB |> fun h=>pureSl hl (Nat.le_refl _) (keepB hb0.out D.hB)) hD.out.hB hD.out.env)
  clear hX hl D
  cases hO:okE c.fields l
  · rw [hO] at cx
    go_enter Tryz.func95,Tryz.ntmps95
    go_wp2_with (go_at_call 62;refine cx.out.mono ?_;intro e w2 hp;obtain ⟨k,rfl,hk0,hk1,hb2⟩:=code_no hp;have hk2:(k == 0)=false:=(by simp [hk0]);have hb3:=Lib.hid (hb0.out.trans (hb2.mono hb0.out.size));clear hp hb2 hk1)
    go_ret
    exact bool_ret hb3.out
  · rw [hO] at cx
    go_enter Tryz.func95,Tryz.ntmps95
    go_wp2_with (go_at_call 62;refine cx.out.mono ?_;intro e w2 hp;obtain ⟨rfl,hb2⟩:=code_yes hp;have hb3:=Lib.hid (hb0.out.trans (hb2.mono hb0.out.size));clear hp hb2)
    go_ret
    exact bool_ret hb3.out
theorem rule_form {w:World}{B:Nat}{c:List Value}{x:RuleS}(h:RuleC w B c x):∃ Af cf Am cm As cs At ct,c=[I6 x.prio, .slice Af x.frm.length cf, .slice Am x.mat.length cm, .slice As x.sets.length cs, .slice At x.dst.length ct] ∧
    Texts w B (.slice Af x.frm.length cf) x.frm∧Nodes w B (.slice Am x.mat.length cm) x.mat∧SetsL w B (.slice As x.sets.length cs) x.sets∧Texts w B (.slice At x.dst.length ct) x.dst:=by
  obtain ⟨vf,vm,vs,vt,h1,h3,h4,h5,h6⟩:=h
  obtain ⟨Af,cf,rfl,_,_⟩:=SlOf.form h3
  obtain ⟨Am,cm,rfl,_,_⟩:=SlOf.form h4
  obtain ⟨As,cs,rfl,_,_⟩:=SlOf.form h5
  obtain ⟨At,ct,rfl,_,_⟩:=SlOf.form h6
  exact ⟨Af,cf,Am,cm,As,cs,At,ct,h1,h3,h4,h5,h6⟩
theorem cells5 {w:World}{g:Nat}{x0 x1 x2 x3 x4:Value}{t:TypeId}{fr:Nat×Nat}(h:w.heap[g]?=some (.cells #[x0,x1,x2,x3,x4] t fr)) :
    w.cell? ⟨g,0,none⟩=some x0∧w.cell? ⟨g,1,none⟩=some x1∧w.cell? ⟨g,2,none⟩=some x2∧w.cell? ⟨g,3,none⟩=some x3∧w.cell? ⟨g,4,none⟩=some x4:=by
  refine ⟨?_,?_,?_,?_,?_⟩<;>rw [cell_of_row w g _ _ t fr h]<;>rfl
set_option maxHeartbeats 8000000 in
set_option maxRecDepth 100000 in
theorem m_rule (r : RuleS) (seen : List RuleS) (cc : List Value) (v : Value) (D : Desk w cb mb B n c vf f) (hr : RuleC w B cc r) (hv : SlOf 5 RuleC w B v seen) :
    Calls Tryz.prog 96 #[.agg (deskV cb mb ni cap A vn vo vg vr va vb), .agg cc.toArray,v] w (CodePost (ruleB c f ni seen r) w):=by
  obtain ⟨Av,capv,rfl,_,hvl⟩:=SlOf.form hv
  obtain ⟨Ac,capc,hvf,_,_⟩:=SlOf.form D.fs
  subst hvf
  obtain ⟨Af,cf,Am,cm,As,cs,At,ct,rfl,t1,t2,t3,t4⟩:=rule_form hr
  obtain ⟨W0,hW0⟩:∃ W0,w.alloc (.cells (deskV cb mb ni cap A vn vo vg vr va vb) 104 (0,0))=W0:=⟨_,rfl⟩
  have hz0:W0.heap.size=w.heap.size+1:=by rw [← hW0];simp
  obtain ⟨W1,hW1⟩:∃ W1,W0.alloc (.cells #[I6 r.prio, .slice Af r.frm.length cf, .slice Am r.mat.length cm, .slice As r.sets.length cs, .slice At r.dst.length ct] 51 (0,0))=W1:=⟨_,rfl⟩
  have hz1:W1.heap.size=w.heap.size+2:=by rw [← hW1];simp [hz0]
  have hb01:Below w.heap.size w W1:=by rw [← hW1,← hW0];exact ((Below.refl _ _).alloc (Nat.le_refl _) _).alloc (by simp) _
  have hX:W1.heap[w.heap.size]?=some (.cells (deskV cb mb ni cap A vn vo vg vr va vb) 104 (0,0)):=by
    rw [← hW1,← hW0]
    exact (((Below.refl (w.alloc _).heap.size (w.alloc _)).alloc (Nat.le_refl _) _).block w.heap.size (by simp)).trans (heap_alloc_new w _)
  have hY:W1.heap[w.heap.size+1]?=some (.cells #[I6 r.prio, .slice Af r.frm.length cf, .slice Am r.mat.length cm, .slice As r.sets.length cs, .slice At r.dst.length ct] 51 (0,0)):=by
    rw [← hW1,← hz0]
    exact heap_alloc_new W0 _
  have hbz:=Lib.hid fun W (hb:Below W1.heap.size W1 W)=>hb01.trans (hb.mono (by omega))
  have hcx:=Lib.hid fun W (hb:Below W1.heap.size W1 W)=>cells9 ((hb.block _ (by omega)).trans hX)
  have hcy:=Lib.hid fun W (hb:Below W1.heap.size W1 W)=>cells5 ((hb.block _ (by omega)).trans hY)
  have hD:=Lib.hid fun W (hb:Below W1.heap.size W1 W)=>D.below (hbz.out W hb)
  have hk:=Lib.hid fun W (hb:Below W1.heap.size W1 W)=>keepB (hbz.out W hb) (Nat.le_refl _)
  have hb1:=Lib.hid (Below.refl W1.heap.size W1)
  obtain ⟨y0,_,_,_,_⟩:=hcy.out _ hb1.out
  have hBw:=Lib.hid D.hB
  have hl0:=Lib.hid (show w.heap.size<W1.heap.size by omega)
  have hl1:=Lib.hid (show w.heap.size+1<W1.heap.size by omega)
  replace t1:=Lib.hid t1
  replace t2:=Lib.hid t2
  replace t3:=Lib.hid t3
  replace t4:=Lib.hid t4
  replace hv:=Lib.hid hv
  have hR:Hid (ruleB c f ni seen r=(decide (0≤r.prio∧r.prio≤65535) && !(seen.any fun s=>decide (s.prio=r.prio)) && sidesFrom f ni true [] r.frm && okE c.fields r.mat && okW c.fields r.sets && decide (r.dst.length≤4) && sidesFrom f ni false [] r.dst)):=Lib.hid rfl
  generalize ruleB c f ni seen r=R at *
  clear D hr hX hY hb01 hz1
  by_cases hp:0≤r.prio∧r.prio≤65535
  case neg=>
    have HF:=Lib.hid (show R=false by rw [hR.out,decide_eq_false hp];rfl)
    clear hR
    by_cases hp0:r.prio<0
    · have d1:decide (r.prio<0)=true:=decide_eq_true hp0
      go_enter Tryz.func96,Tryz.ntmps96
      go_wp2_with fail
      go_ret
      exact code_bad HF.out (by decide) (hbz.out _ hb1.out)
    · have d1:decide (r.prio<0)=false:=decide_eq_false hp0
      have d2:(r.prio>65535):=by omega
      go_enter Tryz.func96,Tryz.ntmps96
      go_wp2_with fail
      go_ret
      exact code_bad HF.out (by decide) (hbz.out _ hb1.out)
  have d1:decide (r.prio<0)=false:=decide_eq_false (by omega)
  have d2:¬ (r.prio>65535):=by omega
  replace hR:Hid (R=(!(seen.any fun s=>decide (s.prio=r.prio)) && sidesFrom f ni true [] r.frm && okE c.fields r.mat && okW c.fields r.sets && decide (r.dst.length≤4) && sidesFrom f ni false [] r.dst)):=Lib.hid (by rw [hR.out,decide_eq_true hp,Bool.true_and])
  go_enter Tryz.func96,Tryz.ntmps96
  go_wp2_with fail
  go_loopw [22] (fun i wr=>∃ k:Nat,k≤seen.length∧i=.int .i64 k∧Hid (∀ s∈seen.take k,¬ s.prio=r.prio)∧Hid (Below W1.heap.size W1 wr)) (fun i _=>seen.length-(intOf i).toNat)
  case atStart=>exact ⟨0,Nat.zero_le _,rfl,Lib.hid (by simp),hb1⟩
  case round=>
    obtain ⟨k,hk',rfl,hno,hbw⟩:=hrel
    obtain ⟨wo,rfl⟩:∃ wo,wo=wr:=⟨_,rfl⟩
    clear hb1 y0 hW0 hW1 hz0
    obtain ⟨y0,y1,y2,y3,y4⟩:=hcy.out _ hbw.out
    by_cases hlt:k<seen.length
    · have hvw:=hv.out.keep (w':=wo) (Nat.le_refl _) (fun b o hb=>hk.out _ hbw.out b o (Nat.lt_of_lt_of_le hb hBw.out)) fun _ _ h=>h.keep (Nat.le_refl _) (fun b o hb=>hk.out _ hbw.out b o (Nat.lt_of_lt_of_le hb hBw.out))
      obtain ⟨b,off,rfl⟩:=SlOf.addr hvw (by omega)
      obtain ⟨_,c9,s,hs,hc,hj⟩:=SlOf.el hvw hlt
      obtain ⟨Bf,bf,Bm,bm,Bs,bs,Bt,bt,rfl,_,_,_,_⟩:=rule_form hc
      have e0:wo.cell? ⟨b,off+k*5,none⟩=_:=hj 0 _ rfl
      have e1:=hj 1 _ rfl
      have e2:=hj 2 _ rfl
      have e3:=hj 3 _ rfl
      have e4:=hj 4 _ rfl
      have hbA:=Lib.hid fun o=>hbw.out.alloc hbw.out.size o
      clear hj hvw hc
      have hl1o:w.heap.size+1<wo.heap.size:=by have:=hbw.out.size;have:=hl1.out;omega
      by_cases he:s.prio=r.prio
      · have HF:=Lib.hid (show R=false by
          rw [hR.out,show (seen.any fun s=>decide (s.prio=r.prio))=true from List.any_eq_true.2 ⟨s,List.mem_of_getElem? hs,by simp [he]⟩]
          rfl)
        have he':(s.prio == r.prio)=true:=by simp [he]
        have hbF:=Lib.hid fun o=>hbz.out _ (hbA.out o)
        clear hR hs he
        go_wp2_with fail
        go_ret
        exact code_bad HF.out (by decide) (hbF.out _)
      · have he':(s.prio == r.prio)=false:=by simp [he]
        have hno2:Hid (∀ u∈seen.take (k+1),¬ u.prio=r.prio):=Lib.hid (by
          rw [take_snoc hs]
          intro u hu
          rcases List.mem_append.1 hu with h|h
          · exact hno.out u h
          · rw [List.mem_singleton] at h;rw [h];exact he)
        clear hR hs he hno
        go_wp2_with fail
        go_roundw
        case rel=>exact ⟨k+1,by omega,by go_num,hno2,hbA.out _⟩
        case measure=>simp [intOf];omega
    · have hks:seen.take k=seen:=List.take_of_length_le (by omega)
      rw [hks] at hno
      replace hR:Hid (R=(sidesFrom f ni true [] r.frm && okE c.fields r.mat && okW c.fields r.sets && decide (r.dst.length≤4) && sidesFrom f ni false [] r.dst)):=Lib.hid (by
        rw [hR.out,show (seen.any fun s=>decide (s.prio=r.prio))=false from Bool.eq_false_iff.2 fun h=>by
          obtain ⟨u,hu,he⟩:=List.any_eq_true.1 h
          exact hno.out u hu (by simpa using he)]
        rfl)
      obtain ⟨x0,x1,x2,x3,x4,x5,x6,x7,x8⟩:=hcx.out _ hbw.out
      have cS1:=Lib.hid (m_sides f n mb ni cap A (.pointer (some ⟨cb,0,none⟩)) vn vo vg vr va vb _ r.frm true w.heap.size wo (hD.out _ hbw.out).map (t1.out.keep hBw.out fun b o hb=>hk.out _ hbw.out b o (Nat.lt_of_lt_of_le hb hBw.out)) (hbz.out _ hbw.out).size)
      clear hno
      have hbS:=Lib.hid fun W (hb:Below wo.heap.size wo W)=>hbw.out.trans (hb.mono hbw.out.size)
      cases g1:sidesFrom f ni true [] r.frm
      · rw [g1] at cS1
        have HF:=Lib.hid (show R=false by rw [hR.out,g1];rfl)
        clear hR g1
        go_wp2_with (go_at_call 128;refine cS1.out.mono ?_;intro e w2 hp;obtain ⟨kk,rfl,hk0,hk1,hb2⟩:=code_no hp;have hb3:=Lib.hid (hbz.out _ (hbS.out _ hb2));replace hk0:=Lib.hid hk0;clear hb2 hp)
        go_ret
        exact code_bad HF.out hk0.out hb3.out
      rw [g1] at cS1
      replace hR:Hid (R=(okE c.fields r.mat && okW c.fields r.sets && decide (r.dst.length≤4) && sidesFrom f ni false [] r.dst)):=Lib.hid (by rw [hR.out,g1,Bool.true_and])
      clear g1
      go_upto_region 12 with (go_at_call 128;refine cS1.out.mono ?_;intro e w2 hp;obtain ⟨rfl,hb2⟩:=code_yes hp;have hb3:=Lib.hid (hbS.out _ hb2);clear hb2 hp)
      clear x0 x1 x2 x3 x4 x5 x6 x7 x8 y0 y1 y2 y3 y4 cS1 hbS hbw
      obtain ⟨x0,x1,x2,x3,x4,x5,x6,x7,x8⟩:=hcx.out _ hb3.out
      obtain ⟨y0,y1,y2,y3,y4⟩:=hcy.out _ hb3.out
      have cR:=Lib.hid (m_right ni cap A vn vo vg vr va vb r.mat _ (hD.out _ hb3.out) (pureSl t2.out (Nat.le_refl _) fun b o hb=>hk.out _ hb3.out b o (Nat.lt_of_lt_of_le hb hBw.out)))
      have hbS:=Lib.hid fun W (hb:Below w2.heap.size w2 W)=>hb3.out.trans (hb.mono hb3.out.size)
      cases g2:okE c.fields r.mat
      · rw [g2] at cR
        have HF:=Lib.hid (show R=false by rw [hR.out,g2];rfl)
        clear hR g2
        go_wp2_with (go_at_call 95;refine cR.out.mono ?_;rintro e w4 ⟨rfl,hb4⟩;have hb5:=Lib.hid (hbz.out _ (hbS.out _ hb4));clear hb4)
        go_ret
        exact code_bad HF.out (by decide) hb5.out
      rw [g2] at cR
      replace hR:Hid (R=(okW c.fields r.sets && decide (r.dst.length≤4) && sidesFrom f ni false [] r.dst)):=Lib.hid (by rw [hR.out,g2,Bool.true_and])
      clear g2
      go_upto_region 14 with (go_at_call 95;refine cR.out.mono ?_;rintro e w4 ⟨rfl,hb4⟩;have hb5:=Lib.hid (hbS.out _ hb4);clear hb4)
      clear x0 x1 x2 x3 x4 x5 x6 x7 x8 y0 y1 y2 y3 y4 cR hbS hb3
      obtain ⟨x0,_,_,_,_,_,_,_,_⟩:=hcx.out _ hb5.out
      obtain ⟨_,_,_,y3,_⟩:=hcy.out _ hb5.out
      have q1:=(hD.out _ hb5.out).c1
      have hlx:w.heap.size<w4.heap.size:=by have:=hb5.out.size;have:=hl0.out;omega
      have hly:w.heap.size+1<w4.heap.size:=by have:=hb5.out.size;have:=hl1.out;omega
      have hlc:=(hD.out _ hb5.out).lt
      have hbS:=Lib.hid fun W (hb:Below w4.heap.size w4 W)=>hb5.out.trans (hb.mono hb5.out.size)
      have cW:=Lib.hid fun W (hb:Below w4.heap.size w4 W)=>f_Word c.fields r.sets _ _ B W (hD.out _ (hbS.out _ hb)).fs (pureSl t3.out (Nat.le_refl _) fun b o h=>hk.out _ (hbS.out _ hb) b o (Nat.lt_of_lt_of_le h hBw.out)) (hD.out _ (hbS.out _ hb)).hB
      have hd:=Lib.hid (Below.refl w4.heap.size w4).drew
      cases g3:okW c.fields r.sets
      · rw [g3] at cW
        have HF:=Lib.hid (show R=false by rw [hR.out,g3];rfl)
        clear hR g3
        go_region_held3 (fun W=>W.cell? ⟨w.heap.size,0,none⟩=some (.pointer (some ⟨cb,0,none⟩))∧W.cell? ⟨cb,1,none⟩=some (.slice Ac c.fields.length capc)∧W.cell? ⟨w.heap.size+1,3,none⟩=some (.slice As r.sets.length cs))
          (first|exact hHeld|go_keep|exact ⟨(hbk.cell (p:=⟨w.heap.size,0,none⟩) hlx).trans x0,(hbk.cell (p:=⟨cb,1,none⟩) hlc).trans q1,(hbk.cell (p:=⟨w.heap.size+1,3,none⟩) hly).trans y3⟩)
          ((go_at_call 129;(with_reducible refine (cW.out _ hd.out).mono ?_);rintro e wz ⟨⟨vz,kz,rfl,hkz⟩,hbA⟩;have hbk:=hd.out.trans (hbA.mono hd.out.size);have hk1:(kz != 0)=true:=(by simp;intro h;simp [h] at hkz)))
        all_goals
          have hb6:=Lib.hid (hbz.out _ (hbS.out _ hbk))
          clear hkz
          go_wp2_with fail
          go_ret
          exact code_bad HF.out (by decide) hb6.out
      rw [g3] at cW
      replace hR:Hid (R=(decide (r.dst.length≤4) && sidesFrom f ni false [] r.dst)):=Lib.hid (by rw [hR.out,g3,Bool.true_and])
      clear g3
      go_region_held3 (fun W=>W.cell? ⟨w.heap.size,0,none⟩=some (.pointer (some ⟨cb,0,none⟩))∧W.cell? ⟨cb,1,none⟩=some (.slice Ac c.fields.length capc)∧W.cell? ⟨w.heap.size+1,3,none⟩=some (.slice As r.sets.length cs))
        (first|exact hHeld|go_keep|exact ⟨(hbk.cell (p:=⟨w.heap.size,0,none⟩) hlx).trans x0,(hbk.cell (p:=⟨cb,1,none⟩) hlc).trans q1,(hbk.cell (p:=⟨w.heap.size+1,3,none⟩) hly).trans y3⟩)
        ((go_at_call 129;(with_reducible refine (cW.out _ hd.out).mono ?_);rintro e wz ⟨⟨vz,kz,rfl,hkz⟩,hbA⟩;have hbk:=hd.out.trans (hbA.mono hd.out.size);obtain rfl:kz=0:=hkz.2 rfl;clear hkz))
      all_goals
        have hb6:=Lib.hid (hbS.out _ hbk)
        clear x0 y3 q1 hbA hbk cW
        obtain ⟨x0,x1,x2,x3,x4,x5,x6,x7,x8⟩:=hcx.out _ hb6.out
        obtain ⟨_,_,_,_,y4⟩:=hcy.out _ hb6.out
        by_cases h4:r.dst.length≤4
        · have cS2:=Lib.hid (m_sides f n mb ni cap A (.pointer (some ⟨cb,0,none⟩)) vn vo vg vr va vb _ r.dst false w.heap.size _ (hD.out _ hb6.out).map (t4.out.keep hBw.out fun b o hb=>hk.out _ hb6.out b o (Nat.lt_of_lt_of_le hb hBw.out)) (hbz.out _ hb6.out).size)
          have h4':¬ ((r.dst.length:Int)>4):=by omega
          have HF:=Lib.hid (show R=sidesFrom f ni false [] r.dst by rw [hR.out,decide_eq_true h4,Bool.true_and])
          clear hR h4
          go_wp2_with (go_at_call 128;refine cS2.out.mono ?_;rintro e w8 ⟨⟨k8,rfl,hk8⟩,hb8⟩;have hb9:=Lib.hid ((hbz.out _ hb6.out).trans (hb8.mono (hbz.out _ hb6.out).size));replace hk8:=Lib.hid hk8;clear hb8)
          go_ret
          exact ⟨⟨_,rfl,by rw [HF.out];exact hk8.out⟩,hb9.out⟩
        · have HF:=Lib.hid (show R=false by rw [hR.out,decide_eq_false h4];rfl)
          have h4':((r.dst.length:Int)>4):=by omega
          clear hR h4
          go_wp2_with fail
          go_ret
          exact code_bad HF.out (by decide) (hbz.out _ hb6.out)
end
theorem cells3' {w:World}{g:Nat}{x0 x1 x2:Value}{t:TypeId}{fr:Nat×Nat}(h:w.heap[g]?=some (.cells #[x0,x1,x2] t fr)) :
    w.cell? ⟨g,0,none⟩=some x0∧w.cell? ⟨g,1,none⟩=some x1∧w.cell? ⟨g,2,none⟩=some x2:=by
  refine ⟨?_,?_,?_⟩<;>rw [cell_of_row w g _ _ t fr h]<;>rfl
theorem emptyB_of {s:ByteArray}(h:s.size=0):s=ByteArray.empty:=by
  apply ByteArray.ext
  exact Array.eq_empty_of_size_eq_zero h
section
variable {w:World} {cb mb B n:Nat} {c:ConfS} {vf:Value} {f:Tab} (ni cap:Nat) (A:Option Addr) (vn vo vg vr va vb:Value)
set_option maxHeartbeats 8000000 in
set_option maxRecDepth 100000 in
theorem m_prefix (p : PrefS) (seen : List PrefS) (v : Value) (D : Desk w cb mb B n c vf f) (hps : Sm p.dst) (hv : Prefs w B v seen) (hof : okF c.fields = true) (hrt : ¬ c.routing = ByteArray.empty → 0 ≤ findF c.fields c.routing) :
    Calls Tryz.prog 97 #[.agg (deskV cb mb ni cap A vn vo vg vr va vb), .agg #[.int .i64 p.value, .int .i64 p.len, .string p.dst],v] w (CodePost (prefB c f ni seen p) w):=by
  obtain ⟨Av,capv,rfl,_,hvl⟩:=SlOf.form hv
  obtain ⟨Ac,capc,hvf,_,hcl⟩:=SlOf.form D.fs
  subst hvf
  obtain ⟨W0,hW0⟩:∃ W0,w.alloc (.cells (deskV cb mb ni cap A vn vo vg vr va vb) 104 (0,0))=W0:=⟨_,rfl⟩
  have hz0:W0.heap.size=w.heap.size+1:=by rw [← hW0];simp
  obtain ⟨W1,hW1⟩:∃ W1,W0.alloc (.cells #[.int .i64 p.value, .int .i64 p.len, .string p.dst] 79 (0,0))=W1:=⟨_,rfl⟩
  have hz1:W1.heap.size=w.heap.size+2:=by rw [← hW1];simp [hz0]
  have hb01:Below w.heap.size w W1:=by rw [← hW1,← hW0];exact ((Below.refl _ _).alloc (Nat.le_refl _) _).alloc (by simp) _
  have hX:W1.heap[w.heap.size]?=some (.cells (deskV cb mb ni cap A vn vo vg vr va vb) 104 (0,0)):=by
    rw [← hW1,← hW0]
    exact (((Below.refl (w.alloc _).heap.size (w.alloc _)).alloc (Nat.le_refl _) _).block w.heap.size (by simp)).trans (heap_alloc_new w _)
  have hY:W1.heap[w.heap.size+1]?=some (.cells #[.int .i64 p.value, .int .i64 p.len, .string p.dst] 79 (0,0)):=by
    rw [← hW1,← hz0]
    exact heap_alloc_new W0 _
  have hbz:=Lib.hid fun W (hb:Below W1.heap.size W1 W)=>hb01.trans (hb.mono (by omega))
  have hcx:=Lib.hid fun W (hb:Below W1.heap.size W1 W)=>cells9 ((hb.block _ (by omega)).trans hX)
  have hcy:=Lib.hid fun W (hb:Below W1.heap.size W1 W)=>cells3' ((hb.block _ (by omega)).trans hY)
  have hD:=Lib.hid fun W (hb:Below W1.heap.size W1 W)=>D.below (hbz.out W hb)
  have hk:=Lib.hid fun W (hb:Below W1.heap.size W1 W)=>keepB (hbz.out W hb) (Nat.le_refl _)
  have hb1:=Lib.hid (Below.refl W1.heap.size W1)
  obtain ⟨x0,_,_,_,_,_,_,_,_⟩:=hcx.out _ hb1.out
  have q1:=(hD.out _ hb1.out).c1
  have q2:=(hD.out _ hb1.out).c2
  have hBw:=Lib.hid D.hB
  have hl0:=Lib.hid (show w.heap.size<W1.heap.size by omega)
  have hl1:=Lib.hid (show w.heap.size+1<W1.heap.size by omega)
  replace hv:=Lib.hid hv
  have hR:Hid (prefB c f ni seen p=(!decide (c.routing=ByteArray.empty) && decide (0≤p.len∧p.len≤bitsR c∧0≤p.value∧p.value<2 ^ (bitsR c).toNat∧p.value % 2 ^ (bitsR c-p.len).toNat=0) &&
    !(seen.any fun q=>decide (q.value=p.value∧q.len=p.len)) && sideB f ni p.dst false)):=Lib.hid rfl
  generalize prefB c f ni seen p=R at *
  clear hX hY hb01 hz1
  by_cases he:c.routing=ByteArray.empty
  · have HF:=Lib.hid (show R=false by rw [hR.out,decide_eq_true he];rfl)
    have hbe:c.routing.toList.isEmpty=true:=emp_true _ (by rw [he];rfl)
    clear hR he D
    go_enter Tryz.func97,Tryz.ntmps97
    go_wp2_with fail
    go_ret
    exact code_bad HF.out (by decide) (hbz.out _ hb1.out)
  have hbe:c.routing.toList.isEmpty=false:=emp_false _ fun h0=>he (emptyB_of h0)
  have hfa:=findF_at (l:=c.fields) (nm:=c.routing) (hrt he)
  have hft:=findF_lt c.fields c.routing
  have hf0:=hrt he
  obtain ⟨j,hj⟩:∃ j:Nat,findF c.fields c.routing=j:=⟨(findF c.fields c.routing).toNat,by omega⟩
  obtain ⟨y,hy,_⟩:=hfa
  have hbr:bitsR c=y.bits:=by unfold bitsR;rw [hy]
  rw [hj] at hy hft
  simp only [Int.toNat_natCast] at hy
  have hG:=(okF_good hof).2.1 y (List.mem_of_getElem? hy)
  obtain ⟨bt,hbt⟩:∃ bt:Nat,y.bits=bt:=⟨y.bits.toNat,by have:=hG.2.2.2;omega⟩
  have hbt1:1≤bt∧bt≤32:=by have:=hG.2.2.2;omega
  rw [hbr,hbt] at hR
  simp only [Int.toNat_natCast] at hR
  have hjl:j<c.fields.length:=(List.getElem?_eq_some_iff.1 hy).1
  have hFw:=(hD.out _ hb1.out).fs
  obtain ⟨bf,of,hAc⟩:=SlOf.addr hFw (by omega)
  subst hAc
  obtain ⟨hbfB,cf9,y9,hy9,⟨hc9,_⟩,hj9⟩:=SlOf.el hFw hjl
  obtain rfl:y=y9:=by rw [hy9] at hy;injection hy with h;exact h.symm
  subst hc9
  have f1:W1.cell? ⟨bf,of+j*2+1,none⟩=some (.int .i64 y.bits):=hj9 1 _ rfl
  rw [hbt] at f1
  have cf:Hid (∀ W,Below W1.heap.size W1 W→Calls Tryz.prog 56 #[.slice (some ⟨bf,of,none⟩) c.fields.length capc, .string c.routing] W fun e w'=>e=.returned (.int .i64 j)∧Below W.heap.size W w'):=Lib.hid fun W hb=>by
    rw [← hj]
    exact m_find c.fields c.routing _ B W (hD.out _ hb).fs (hD.out _ hb).hB
  replace hR:Hid (R=(decide (0≤p.len∧p.len≤bt∧0≤p.value∧p.value<2 ^ bt∧p.value % 2 ^ ((bt:Int)-p.len).toNat=0) && !(seen.any fun q=>decide (q.value=p.value∧q.len=p.len)) && sideB f ni p.dst false)):=Lib.hid (by rw [hR.out,decide_eq_false he];rfl)
  have hlc:=(hD.out _ hb1.out).lt
  have hlf:bf<W1.heap.size:=by have:=hl0.out;have:=hBw.out;omega
  have hd:=Lib.hid (Below.refl W1.heap.size W1).drew
  replace hD:=Lib.hid hD.out
  clear hj hy hy9 hj9 hFw hG he hf0 hbr D hft hrt hof
  go_enter Tryz.func97,Tryz.ntmps97
  go_upto_region 3 with fail
  clear hz0 hW0 hW1
  go_region_held3 (fun W=>W.cell? ⟨w.heap.size,0,none⟩=some (.pointer (some ⟨cb,0,none⟩))∧W.cell? ⟨cb,1,none⟩=some (.slice (some ⟨bf,of,none⟩) c.fields.length capc)∧W.cell? ⟨cb,2,none⟩=some (.string c.routing)∧W.cell? ⟨bf,of+j*2+1,none⟩=some (.int .i64 bt))
    (first|exact hHeld|go_keep|exact ⟨(hbk.cell (p:=⟨w.heap.size,0,none⟩) hl0.out).trans x0,(hbk.cell (p:=⟨cb,1,none⟩) hlc).trans q1,(hbk.cell (p:=⟨cb,2,none⟩) hlc).trans q2,(hbk.cell (p:=⟨bf,of+j*2+1,none⟩) hlf).trans f1⟩)
    ((go_at_call 56;(with_reducible refine (cf.out _ hd.out).mono ?_);rintro e wz ⟨rfl,hbA⟩;have hbk:=hd.out.trans (hbA.mono hd.out.size)))
  all_goals
    have hb2:=Lib.hid hbk
    clear x0 q1 q2 f1 hbA hbk cf hd
    obtain ⟨x0,x1,x2,x3,x4,x5,x6,x7,x8⟩:=hcx.out _ hb2.out
    obtain ⟨y0,y1,y2⟩:=hcy.out _ hb2.out
    have hbF:=Lib.hid fun n=>below_drewN (hbz.out _ hb2.out) n
    by_cases c1:p.len<0
    · have HF:=Lib.hid (show R=false by rw [hR.out,decide_eq_false (by omega)];rfl)
      have d1:decide (p.len<0)=true:=decide_eq_true c1
      clear hR
      go_upto_region 4 with fail
      go_quiet (fail)
      go_wp2_with fail
      go_ret
      exact code_bad HF.out (by decide) (hbF.out _)
    have d1:decide (p.len<0)=false:=decide_eq_false c1
    by_cases c2:(bt:Int)<p.len
    · have HF:=Lib.hid (show R=false by rw [hR.out,decide_eq_false (by omega)];rfl)
      have d2:decide (p.len>bt)=true:=decide_eq_true c2
      clear hR
      go_upto_region 4 with fail
      go_quiet (fail)
      go_wp2_with fail
      go_ret
      exact code_bad HF.out (by decide) (hbF.out _)
    have d2:decide (p.len>bt)=false:=decide_eq_false c2
    by_cases c3:p.value<0
    · have HF:=Lib.hid (show R=false by rw [hR.out,decide_eq_false (by omega)];rfl)
      have d3:decide (p.value<0)=true:=decide_eq_true c3
      clear hR
      go_upto_region 4 with fail
      go_quiet (fail)
      go_wp2_with fail
      go_ret
      exact code_bad HF.out (by decide) (hbF.out _)
    have d3:decide (p.value<0)=false:=decide_eq_false c3
    obtain ⟨ln,hln⟩:∃ ln:Nat,p.len=ln:=⟨p.len.toNat,by omega⟩
    obtain ⟨vl,hvl9⟩:∃ vl:Nat,p.value=vl:=⟨p.value.toNat,by omega⟩
    rw [hln] at y1 hR d1 d2
    rw [hvl9] at y0 hR d3
    have hlb:ln≤bt:=by omega
    clear d2
    have d2:decide (bt<ln)=false:=decide_eq_false (by omega)
    have hpw:∀ n:Nat,n≤32→wrap64 ((2:Int) ^ n)=2 ^ n:=fun n h=>by
      have h1:=topS_lt (b:=(n:Int)) (by omega) (by omega)
      unfold topS at h1
      rw [Int.toNat_natCast] at h1
      exact w64 (by omega)
    have hw1:wrap64 ((2:Int) ^ bt)=2 ^ bt:=hpw bt (by omega)
    have hw2:wrap64 ((2:Int) ^ (bt-ln))=2 ^ (bt-ln):=hpw _ (by omega)
    have hs1:((bt:Int)-(ln:Int)).toNat=bt-ln:=by omega
    have hs2:wrap64 ((bt:Int)-(ln:Int))=(bt:Int)-(ln:Int):=w64 (by omega)
    rw [hs1] at hR
    have hp2:(0:Int)<2 ^ (bt-ln):=Int.pow_pos (by omega)
    have hmd:Int.tmod (vl:Int) (2 ^ (bt-ln))=(vl:Int) % 2 ^ (bt-ln):=Int.tmod_eq_emod_of_nonneg (by omega)
    clear hpw
    by_cases c4:(2:Int) ^ bt≤vl
    · have HF:=Lib.hid (show R=false by rw [hR.out,decide_eq_false (by omega)];rfl)
      have d4:decide ((vl:Int)≥2 ^ bt)=true:=decide_eq_true c4
      clear hR
      go_upto_region 4 with fail
      go_quiet (fail)
      go_wp2_with fail
      go_ret
      exact code_bad HF.out (by decide) (hbF.out _)
    have d4:decide ((vl:Int)≥2 ^ bt)=false:=decide_eq_false c4
    have hpz:¬ (2:Int) ^ (bt-ln)=0:=by omega
    have hmb:0≤(vl:Int) % 2 ^ (bt-ln)∧(vl:Int) % 2 ^ (bt-ln)≤vl:=⟨Int.emod_nonneg _ hpz,by have:=Int.emod_add_mul_ediv (vl:Int) (2 ^ (bt-ln));have:=Int.mul_nonneg (Int.le_of_lt hp2) (Int.ediv_nonneg (a:=(vl:Int)) (by omega) (Int.le_of_lt hp2));omega⟩
    have hv64:(vl:Int)≤9223372036854775807:=by
      have h1:=topS_lt (b:=(bt:Int)) (by omega) (by omega)
      unfold topS at h1
      rw [Int.toNat_natCast] at h1
      omega
    by_cases c5:(vl:Int) % 2 ^ (bt-ln)=0
    case neg=>
      have HF:=Lib.hid (show R=false by rw [hR.out,decide_eq_false (fun h=>c5 h.2.2.2.2)];rfl)
      have d5:((vl:Int) % 2 ^ (bt-ln) != 0)=true:=by simp [c5]
      clear hR
      have hmw:wrap64 ((vl:Int) % 2 ^ (bt-ln))=(vl:Int) % 2 ^ (bt-ln):=w64 (by omega)
      go_upto_region 4 with fail
      go_quiet (fail)
      go_wp2_with fail
      go_ret
      exact code_bad HF.out (by decide) (hbF.out _)
    replace hR:Hid (R=(!(seen.any fun q=>decide (q.value=p.value∧q.len=p.len)) && sideB f ni p.dst false)):=Lib.hid (by rw [hR.out,decide_eq_true ⟨by omega,by omega,by omega,by omega,c5⟩,Bool.true_and,hvl9,hln])
    have d5:((vl:Int) % 2 ^ (bt-ln) != 0)=false:=by simp [c5]
    go_upto_region 4 with fail
    go_quiet (fail)
    obtain ⟨W5,hW5⟩:∃ W5,W5=wz.drewN nq:=⟨_,rfl⟩
    have hb5:Hid (Below W1.heap.size W1 W5):=Lib.hid (by rw [hW5];exact below_drewN hb2.out nq)
    rw [← hW5]
    clear hW5 x0 x1 x2 x3 x4 x5 x6 x7 x8 y0 y1 y2 d1 d2 d3 d4 d5 hw1 hw2 hs1 hs2 hmd hb2 hbF hp2 hpz hmb c4 c5
    go_wp2_with fail
    go_loopw [69] (fun i wr=>∃ k:Nat,k≤seen.length∧i=.int .i64 k∧Hid (∀ s∈seen.take k,¬ (s.value=p.value∧s.len=p.len))∧Hid (Below W1.heap.size W1 wr)) (fun i _=>seen.length-(intOf i).toNat)
    case atStart=>exact ⟨0,Nat.zero_le _,rfl,Lib.hid (by simp),hb5⟩
    case round=>
      obtain ⟨k,hk',rfl,hno,hbw⟩:=hrel
      obtain ⟨wo,rfl⟩:∃ wo,wo=wr:=⟨_,rfl⟩
      clear hb5
      obtain ⟨y0,y1,y2⟩:=hcy.out _ hbw.out
      by_cases hlt:k<seen.length
      · have hvw:=pureSl (w':=wo) hv.out (Nat.le_refl _) (fun b o hb=>hk.out _ hbw.out b o (Nat.lt_of_lt_of_le hb hBw.out))
        obtain ⟨b,off,rfl⟩:=SlOf.addr hvw (by omega)
        obtain ⟨_,c9,s,hs,⟨hc,_⟩,hj⟩:=SlOf.el hvw hlt
        subst hc
        have e0:wo.cell? ⟨b,off+k*3,none⟩=some (.int .i64 s.value):=hj 0 _ rfl
        have e1:wo.cell? ⟨b,off+k*3+1,none⟩=some (.int .i64 s.len):=hj 1 _ rfl
        have e2:wo.cell? ⟨b,off+k*3+2,none⟩=some (.string s.dst):=hj 2 _ rfl
        have hbA:=Lib.hid fun o=>hbw.out.alloc hbw.out.size o
        have hl1o:w.heap.size+1<wo.heap.size:=by have:=hbw.out.size;have:=hl1.out;omega
        clear hj hvw
        by_cases he:s.value=p.value∧s.len=p.len
        · have HF:=Lib.hid (show R=false by
            rw [hR.out,show (seen.any fun q=>decide (q.value=p.value∧q.len=p.len))=true from List.any_eq_true.2 ⟨s,List.mem_of_getElem? hs,decide_eq_true he⟩]
            rfl)
          have he1:(s.value == p.value)=true:=by simp [he.1]
          have he2:(s.len == p.len)=true:=by simp [he.2]
          have hbF:=Lib.hid fun o=>hbz.out _ (hbA.out o)
          obtain ⟨he4,he5⟩:=he
          clear hR hs
          go_wp2_with fail
          go_ret
          exact code_bad HF.out (by decide) (hbF.out _)
        · have hno2:Hid (∀ u∈seen.take (k+1),¬ (u.value=p.value∧u.len=p.len)):=Lib.hid (by
            rw [take_snoc hs]
            intro u hu
            rcases List.mem_append.1 hu with h|h
            · exact hno.out u h
            · rw [List.mem_singleton] at h;rw [h];exact he)
          clear hR hs hno
          by_cases he3:s.value=p.value
          · have he1:(s.value == p.value)=true:=by simp [he3]
            have he4:¬ s.len=p.len:=fun h=>he ⟨he3,h⟩
            have he2:(s.len == p.len)=false:=by simp [he4]
            clear he
            go_wp2_with fail
            go_roundw
            case rel=>exact ⟨k+1,by omega,by go_num,hno2,hbA.out _⟩
            case measure=>simp [intOf];omega
          · have he1:(s.value == p.value)=false:=by simp [he3]
            clear he
            go_wp2_with fail
            go_roundw
            case rel=>exact ⟨k+1,by omega,by go_num,hno2,hbA.out _⟩
            case measure=>simp [intOf];omega
      · have hks:seen.take k=seen:=List.take_of_length_le (by omega)
        rw [hks] at hno
        have HF:=Lib.hid (show R=sideB f ni p.dst false by
          rw [hR.out,show (seen.any fun q=>decide (q.value=p.value∧q.len=p.len))=false from Bool.eq_false_iff.2 fun h=>by
            obtain ⟨u,hu,he⟩:=List.any_eq_true.1 h
            exact hno.out u hu (by simpa using he)]
          rfl)
        obtain ⟨x0,x1,x2,x3,x4,x5,x6,x7,x8⟩:=hcx.out _ hbw.out
        have cS:=Lib.hid (m_side f n mb ni cap A (.pointer (some ⟨cb,0,none⟩)) vn vo vg vr va vb p.dst false wo (hD.out _ hbw.out).map hps)
        have hbW:=Lib.hid (hbz.out _ hbw.out)
        clear hno hR
        go_wp2_with (go_at_call 130;refine cS.out.mono ?_;rintro e w8 ⟨⟨k8,rfl,hk8⟩,hb8⟩;have hb9:=Lib.hid (hbW.out.trans (hb8.mono hbW.out.size));replace hk8:=Lib.hid hk8;clear hb8)
        go_ret
        exact ⟨⟨_,rfl,by rw [HF.out];exact hk8.out⟩,hb9.out⟩
end
end Go.Proofs.YtdhehcobnbcmdaaGreatDoor
