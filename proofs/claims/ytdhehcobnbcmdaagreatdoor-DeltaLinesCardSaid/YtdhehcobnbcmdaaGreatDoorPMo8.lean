/- A part of the proof of DeltaLines: Mod8. -/
import Derived.Test.YtdhehcobnbcmdaaGreatDoorPMo6
import Derived.Test.YtdhehcobnbcmdaaGreatDoorPNw
set_option linter.all false
namespace Go.Proofs.YtdhehcobnbcmdaaGreatDoor
open Go.RowKit
theorem line_form {w:World}{B:Nat}{c:List Value}{x:LineS}(h:LineC w B c x):∃ Am cm,c=[.string x.port, .bool x.permit, .slice Am x.mat.length cm]∧Sm x.port∧Nodes w B (.slice Am x.mat.length cm) x.mat:=by
  obtain ⟨vm,h1,h3,h4⟩:=h
  obtain ⟨Am,cm,rfl,_,_⟩:=SlOf.form h4
  exact ⟨Am,cm,h1,h3,h4⟩
def I64 (n:Int):Prop:=-9223372036854775808≤n∧n≤9223372036854775807
theorem each_drop {α : Type}{P:List α→α→Bool}{l:List α}{k:Nat}{x : α}(h:l[k]?=some x):eachB P (l.take k) (l.drop k)=(P (l.take k) x && eachB P (l.take (k+1)) (l.drop (k+1))):=by rw [drop_at h,take_snoc h];rfl
theorem itoa_any {n:Int}(h:I64 n):(Lib.itoa n).length≤30:=by
  obtain ⟨h0,h1⟩:=h
  unfold Lib.itoa
  have h2:=nDigits_le 19 n.natAbs (by omega)
  split
  · simp only [List.length_cons,Lib.decDigits_length]
    first|omega|(rw [show (-n).toNat=n.natAbs by omega];omega)
  · simp only [Lib.decDigits_length]
    first|omega|(rw [show n.toNat=n.natAbs by omega];omega)
section
variable {w:World} {cb mb B n:Nat} {c:ConfS} {vf:Value} {f:Tab}
set_option maxHeartbeats 16000000 in
set_option maxRecDepth 100000 in
theorem m_box (x : BoxS) (Ai Ao Ag Ar Aw Au : Option Addr) (ci co cg cr cw cu : Nat) (D : Desk w cb mb B n c vf f) (hxn : Sm x.name) (hG : SlOf 3 LineC w B (.slice Ag x.guards.length cg) x.guards) (hU : SlOf 5 RuleC w B (.slice Ar x.rules.length cr) x.rules)
    (hO:Prefs w B (.slice Aw x.owns.length cw) x.owns) (hT:Prefs w B (.slice Au x.routes.length cu) x.routes) (hpr:∀ r∈x.rules,I64 r.prio) (hof:okF c.fields=true) (hrt:¬ c.routing=ByteArray.empty→0≤findF c.fields c.routing) :
    Calls Tryz.prog 59 #[.agg (deskV cb mb x.ins.length ci Ai (.string x.name) (.slice Ao x.outs.length co) (.slice Ag x.guards.length cg) (.slice Ar x.rules.length cr) (.slice Aw x.owns.length cw) (.slice Au x.routes.length cu))] w (EPost (boxB c f x) w):=by
  obtain ⟨W0,hW0⟩:∃ W0,w.alloc (.cells (deskV cb mb x.ins.length ci Ai (.string x.name) (.slice Ao x.outs.length co) (.slice Ag x.guards.length cg) (.slice Ar x.rules.length cr) (.slice Aw x.owns.length cw) (.slice Au x.routes.length cu)) 104 (0,0))=W0:=⟨_,rfl⟩
  have hz0:W0.heap.size=w.heap.size+1:=by rw [← hW0];simp
  have hb00:Below w.heap.size w W0:=by rw [← hW0];exact (Below.refl _ _).alloc (Nat.le_refl _) _
  have hX:W0.heap[w.heap.size]?=some (.cells (deskV cb mb x.ins.length ci Ai (.string x.name) (.slice Ao x.outs.length co) (.slice Ag x.guards.length cg) (.slice Ar x.rules.length cr) (.slice Aw x.owns.length cw) (.slice Au x.routes.length cu)) 104 (0,0)):=by rw [← hW0];exact heap_alloc_new w _
  have hbz:=Lib.hid fun W (hb:Below W0.heap.size W0 W)=>hb00.trans (hb.mono (by omega))
  have hcx:=Lib.hid fun W (hb:Below W0.heap.size W0 W)=>cells9 ((hb.block _ (by omega)).trans hX)
  have hD:=Lib.hid fun W (hb:Below W0.heap.size W0 W)=>D.below (hbz.out W hb)
  have hk:=Lib.hid fun W (hb:Below W0.heap.size W0 W) b o (h:b<B)=>keepB (hbz.out W hb) (Nat.le_refl _) b o (Nat.lt_of_lt_of_le h D.hB)
  have hl0:=Lib.hid (show w.heap.size<W0.heap.size by omega)
  have hb1:=Lib.hid (Below.refl W0.heap.size W0)
  obtain ⟨_,_,_,_,x4,_,_,_,_⟩:=hcx.out _ hb1.out
  have hR0:Hid (boxB c f x=((x.guards.drop 0).all (guardB c f) && (eachB (ruleB c f x.ins.length) [] x.rules && (eachB (prefB c f x.ins.length) [] x.owns && eachB (prefB c f x.ins.length) [] x.routes)))):=Lib.hid (by unfold boxB;simp only [List.drop_zero,Bool.and_assoc])
  generalize boxB c f x=R at *
  obtain ⟨Q1,hQ1⟩:∃ Q,Q=(eachB (ruleB c f x.ins.length) [] x.rules && (eachB (prefB c f x.ins.length) [] x.owns && eachB (prefB c f x.ins.length) [] x.routes)):=⟨_,rfl⟩
  rw [← hQ1] at hR0
  replace hQ1:=Lib.hid hQ1
  obtain ⟨sg1,sg2⟩:x.guards.length≤cg∧x.guards.length≤140737488355328:=by obtain ⟨_,_,h,h1,h2⟩:=SlOf.form hG;injection h with _ _ h;subst h;exact ⟨h1,h2.2⟩
  obtain ⟨su1,su2⟩:x.rules.length≤cr∧x.rules.length≤140737488355328:=by obtain ⟨_,_,h,h1,h2⟩:=SlOf.form hU;injection h with _ _ h;subst h;exact ⟨h1,h2.2⟩
  obtain ⟨so1,so2⟩:x.owns.length≤cw∧x.owns.length≤140737488355328:=by obtain ⟨_,_,h,h1,h2⟩:=SlOf.form hO;injection h with _ _ h;subst h;exact ⟨h1,h2.2⟩
  obtain ⟨st1,st2⟩:x.routes.length≤cu∧x.routes.length≤140737488355328:=by obtain ⟨_,_,h,h1,h2⟩:=SlOf.form hT;injection h with _ _ h;subst h;exact ⟨h1,h2.2⟩
  replace hG:=Lib.hid hG
  replace hU:=Lib.hid hU
  replace hO:=Lib.hid hO
  replace hT:=Lib.hid hT
  replace hpr:=Lib.hid hpr
  replace hrt:=Lib.hid hrt
  have hs63:x.name.size≤140737488355328:=hxn
  clear hX hb00 D
  go_enter Tryz.func59,Tryz.ntmps59
  go_wp2_with fail
  clear hz0 hW0 x4
  go_loopw [21] (fun i wr=>∃ k:Nat,k≤x.guards.length∧i=.int .i64 k∧Hid (R=((x.guards.drop k).all (guardB c f) && Q1))∧Hid (Below W0.heap.size W0 wr)) (fun i _=>x.guards.length-(intOf i).toNat)
  case atStart=>exact ⟨0,Nat.zero_le _,rfl,hR0,hb1⟩
  case round=>
    obtain ⟨k,hk',rfl,HR,hbw⟩:=hrel
    obtain ⟨wo,rfl⟩:∃ wo,wo=wr:=⟨_,rfl⟩
    clear hR0 hb1
    by_cases hlt:k<x.guards.length
    · have hvw:=hG.out.keep (w':=wo) (Nat.le_refl _) (fun b o hb=>hk.out _ hbw.out b o hb) fun _ _ h=>h.keep (Nat.le_refl _) (fun b o hb=>hk.out _ hbw.out b o hb)
      obtain ⟨b,off,rfl⟩:=SlOf.addr hvw (by omega)
      obtain ⟨_,c9,s,hs,hc,hj⟩:=SlOf.el hvw hlt
      obtain ⟨Am,cm,rfl,hsp,hm⟩:=line_form hc
      have e0:wo.cell? ⟨b,off+k*3,none⟩=some (.string s.port):=hj 0 _ rfl
      have e1:wo.cell? ⟨b,off+k*3+1,none⟩=some (.bool s.permit):=hj 1 _ rfl
      have e2:wo.cell? ⟨b,off+k*3+2,none⟩=some (.slice Am s.mat.length cm):=hj 2 _ rfl
      have HS:=Lib.hid (show R=((guardB c f s && (x.guards.drop (k+1)).all (guardB c f)) && Q1) from HR.out.trans (by rw [all_drop hs]))
      have hsp1:s.port.size≤1000000000000000:=by unfold Sm at hsp;omega
      have hsp2:s.port.size≤140737488355328:=hsp
      clear hj hvw hc HR
      obtain ⟨wa,hwa⟩:∃ wa,wo.alloc (.cells #[.string s.port, .bool s.permit, .slice Am s.mat.length cm] 116 (0,0))=wa:=⟨_,rfl⟩
      have hba:Below wo.heap.size wo wa:=by rw [← hwa];exact (Below.refl _ _).alloc (Nat.le_refl _) _
      have hbA:=Lib.hid (hbw.out.trans (hba.mono hbw.out.size))
      have hXa:wa.heap[wo.heap.size]?=some (.cells #[.string s.port, .bool s.permit, .slice Am s.mat.length cm] 116 (0,0)):=by rw [← hwa];exact heap_alloc_new wo _
      have hla:wo.heap.size<wa.heap.size:=by rw [← hwa];simp
      have hca:=Lib.hid fun W (hb:Below wa.heap.size wa W)=>cells3' ((hb.block _ hla).trans hXa)
      have hm':=Lib.hid (pureSl (w':=wa) hm (Nat.le_refl _) (keepB hba (by have:=hbw.out.size;have:=hl0.out;have:=(hD.out _ hbw.out).hB;omega)))
      obtain ⟨z0,z1,z2⟩:=hca.out _ (Below.refl _ _)
      obtain ⟨x0,x1,x2,x3,x4,x5,x6,x7,x8⟩:=hcx.out _ hbw.out
      obtain ⟨v0,v1,v2,v3,v4,v5,v6,v7,v8⟩:=hcx.out _ hbA.out
      have hbF:=Lib.hid fun n=>below_drewN (hbz.out _ hbA.out) n
      clear hm hXa hba
      cases hf:f s.port with
      | none =>
        have HF:=Lib.hid (show R=false by rw [HS.out];unfold guardB;rw [hf];rfl)
        have hf':=Lib.hid hf
        clear HS hf
        go_upto_region 6 with (at_lookup;refine map_look (hD.out _ hbA.out).map rfl _ _ rfl rfl s.port rfl hsp1 ?_;intro c8 _;rw [hf'.out])
        clear hwa
        go_quiet (fail)
        go_wp2_with fail
        go_ret2
        exact e_bad HF.out (by decide) (hbF.out _)
      | some kp =>
        have hf':=Lib.hid hf
        have cR:=Lib.hid (m_right x.ins.length ci Ai (.string x.name) (.slice Ao x.outs.length co) (.slice (some ⟨b,off,none⟩) x.guards.length cg) (.slice Ar x.rules.length cr) (.slice Aw x.owns.length cw) (.slice Au x.routes.length cu) s.mat _ (hD.out _ hbA.out) hm'.out)
        have hbR:=Lib.hid fun W (hb:Below wa.heap.size wa W)=>hbA.out.trans (hb.mono hbA.out.size)
        cases g2:okE c.fields s.mat
        · rw [g2] at cR
          have HF:=Lib.hid (show R=false by rw [HS.out];unfold guardB;rw [g2,hf];rfl)
          have hbF2:=Lib.hid fun W (hb:Below wa.heap.size wa W) n=>below_drewN (hbz.out _ (hbR.out W hb)) n
          clear HS hf g2
          go_upto_region 8 with (first
            | (at_lookup;refine map_look (hD.out _ hbA.out).map rfl _ _ rfl rfl s.port rfl hsp1 ?_;intro c8 _;rw [hf'.out])
            | (go_at_call 95;refine cR.out.mono ?_;rintro e w4 ⟨rfl,hb4⟩;obtain ⟨t0,t1,t2,t3,t4,t5,t6,t7,t8⟩:=hcx.out _ (hbR.out _ hb4);obtain ⟨u0,u1,u2⟩:=hca.out _ hb4;have hb5:=Lib.hid (hbF2.out _ hb4);clear hb4))
          clear hwa
          go_quiet (fail)
          go_wp2_with fail
          go_ret2
          exact e_bad HF.out (by decide) (hb5.out _)
        · rw [g2] at cR
          have HF:=Lib.hid (show R=((x.guards.drop (k+1)).all (guardB c f) && Q1) by rw [HS.out];unfold guardB;rw [g2,hf];rfl)
          clear HS hf g2
          go_wp2_with (first
            | (at_lookup;refine map_look (hD.out _ hbA.out).map rfl _ _ rfl rfl s.port rfl hsp1 ?_;intro c8 _;rw [hf'.out])
            | (go_at_call 95;refine cR.out.mono ?_;rintro e w4 ⟨rfl,hb4⟩;have hb5:=Lib.hid (hbR.out _ hb4);clear hb4))
          go_roundw
          case rel=>exact ⟨k+1,by omega,by go_num,HF,hb5⟩
          case measure=>simp [intOf];omega
    have hR0:Hid (R=(eachB (ruleB c f x.ins.length) (x.rules.take 0) (x.rules.drop 0) && (eachB (prefB c f x.ins.length) [] x.owns && eachB (prefB c f x.ins.length) [] x.routes))):=Lib.hid (by rw [HR.out,drop_end hlt,hQ1.out];rfl)
    clear HR hQ1
    obtain ⟨Q2,hQ2⟩:∃ Q,Q=(eachB (prefB c f x.ins.length) [] x.owns && eachB (prefB c f x.ins.length) [] x.routes):=⟨_,rfl⟩
    rw [← hQ2] at hR0
    replace hQ2:=Lib.hid hQ2
    obtain ⟨_,_,_,_,_,x5,_,_,_⟩:=hcx.out _ hbw.out
    go_wp2_with fail
    clear x5
    go_loopw [59] (fun i wr=>∃ k:Nat,k≤x.rules.length∧i=.int .i64 k∧Hid (R=(eachB (ruleB c f x.ins.length) (x.rules.take k) (x.rules.drop k) && Q2))∧Hid (Below W0.heap.size W0 wr)) (fun i _=>x.rules.length-(intOf i).toNat)
    case atStart=>exact ⟨0,Nat.zero_le _,rfl,hR0,hbw⟩
    case round=>
      obtain ⟨k,hk',rfl,HR,hbw⟩:=hrel
      obtain ⟨wo,rfl⟩:∃ wo,wo=wr:=⟨_,rfl⟩
      clear hR0
      by_cases hlt:k<x.rules.length
      · have hvw:=hU.out.keep (w':=wo) (Nat.le_refl _) (fun b o hb=>hk.out _ hbw.out b o hb) fun _ _ h=>h.keep (Nat.le_refl _) (fun b o hb=>hk.out _ hbw.out b o hb)
        obtain ⟨b,off,rfl⟩:=SlOf.addr hvw (by omega)
        obtain ⟨_,c9,s,hs,hc,hj⟩:=SlOf.el hvw hlt
        have hc':=hc
        obtain ⟨Bf,bf,Bm,bm,Bs,bs,Bt,bt,rfl,_,_,_,_⟩:=rule_form hc
        have e0:wo.cell? ⟨b,off+k*5,none⟩=some (.int .i64 s.prio):=hj 0 _ rfl
        have e1:=hj 1 _ rfl
        have e2:=hj 2 _ rfl
        have e3:=hj 3 _ rfl
        have e4:=hj 4 _ rfl
        have HS:=Lib.hid (show R=((ruleB c f x.ins.length (x.rules.take k) s && eachB (ruleB c f x.ins.length) (x.rules.take (k+1)) (x.rules.drop (k+1))) && Q2) from HR.out.trans (by rw [each_drop hs]))
        have hsm:s∈x.rules:=List.mem_of_getElem? hs
        clear hj HR hc
        obtain ⟨wa,hwa⟩:∃ wa,wo.alloc (.cells #[.int .i64 s.prio, .slice Bf s.frm.length bf, .slice Bm s.mat.length bm, .slice Bs s.sets.length bs, .slice Bt s.dst.length bt] 51 (0,0))=wa:=⟨_,rfl⟩
        have hba:Below wo.heap.size wo wa:=by rw [← hwa];exact (Below.refl _ _).alloc (Nat.le_refl _) _
        have hbA:=Lib.hid (hbw.out.trans (hba.mono hbw.out.size))
        have hXa:wa.heap[wo.heap.size]?=some (.cells #[.int .i64 s.prio, .slice Bf s.frm.length bf, .slice Bm s.mat.length bm, .slice Bs s.sets.length bs, .slice Bt s.dst.length bt] 51 (0,0)):=by rw [← hwa];exact heap_alloc_new wo _
        have hla:wo.heap.size<wa.heap.size:=by rw [← hwa];simp
        have hca:=Lib.hid fun W (hb:Below wa.heap.size wa W)=>cells5 ((hb.block _ hla).trans hXa)
        have hBo:B≤wo.heap.size:=by have:=hbw.out.size;have:=hl0.out;have:=(hD.out _ hbw.out).hB;omega
        have hkr:=keepB hba hBo
        have hvw':=(hvw.keep (w':=wa) (Nat.le_refl _) hkr fun _ _ h=>h.keep (Nat.le_refl _) hkr).take (k:=k) (Nat.le_of_lt hlt)
        have hca':=hc'.keep (w':=wa) (Nat.le_refl _) hkr
        have hbR:=Lib.hid fun W (hb:Below wa.heap.size wa W)=>hbA.out.trans (hb.mono hbA.out.size)
        have hd:=Lib.hid (Below.refl wa.heap.size wa).drew
        have cU:=Lib.hid fun W (hb:Below wa.heap.size wa W)=>m_rule x.ins.length ci Ai (.string x.name) (.slice Ao x.outs.length co) (.slice Ag x.guards.length cg) (.slice (some ⟨b,off,none⟩) x.rules.length cr) (.slice Aw x.owns.length cw) (.slice Au x.routes.length cu) s (x.rules.take k) _ _ (hD.out _ (hbR.out W hb)) (hca'.keep (w':=W) (Nat.le_refl _) (keepB hb (by omega))) (hvw'.keep (w':=W) (Nat.le_refl _) (keepB hb (by omega)) fun _ _ h=>h.keep (Nat.le_refl _) (keepB hb (by omega)))
        obtain ⟨z0,z1,z2,z3,z4⟩:=hca.out _ (Below.refl _ _)
        obtain ⟨x0,x1,x2,x3,x4,x5,x6,x7,x8⟩:=hcx.out _ hbA.out
        have hkc:k≤cr:=by omega
        have hbB:=Lib.hid hbA.out
        clear hvw hvw' hc' hca' hba hs hkr hXa
        go_upto_region 13 with fail
        clear hwa
        obtain ⟨P,hP⟩:∃ P,P=ruleB c f x.ins.length (x.rules.take k) s:=⟨_,rfl⟩
        rw [← hP] at HS cU
        clear hP
        go_region_held3 (fun W=>(W.cell? ⟨w.heap.size,0,none⟩=some (.pointer (some ⟨cb,0,none⟩))∧W.cell? ⟨w.heap.size,1,none⟩=some (.string x.name)∧W.cell? ⟨w.heap.size,2,none⟩=some (.slice Ai x.ins.length ci)∧W.cell? ⟨w.heap.size,3,none⟩=some (.slice Ao x.outs.length co)∧W.cell? ⟨w.heap.size,4,none⟩=some (.slice Ag x.guards.length cg)∧W.cell? ⟨w.heap.size,5,none⟩=some (.slice (some ⟨b,off,none⟩) x.rules.length cr)∧W.cell? ⟨w.heap.size,6,none⟩=some (.slice Aw x.owns.length cw)∧W.cell? ⟨w.heap.size,7,none⟩=some (.slice Au x.routes.length cu)∧W.cell? ⟨w.heap.size,8,none⟩=some (.map (some mb)))∧W.cell? ⟨wo.heap.size,0,none⟩=some (.int .i64 s.prio)∧W.cell? ⟨wo.heap.size,1,none⟩=some (.slice Bf s.frm.length bf)∧W.cell? ⟨wo.heap.size,2,none⟩=some (.slice Bm s.mat.length bm)∧W.cell? ⟨wo.heap.size,3,none⟩=some (.slice Bs s.sets.length bs)∧W.cell? ⟨wo.heap.size,4,none⟩=some (.slice Bt s.dst.length bt))
          (first|exact hHeld|go_keep|exact ⟨hcx.out _ (hbR.out _ hbk),hca.out _ hbk⟩)
          ((go_at_call 96;(with_reducible refine (cU.out _ hd.out).mono ?_);rintro e wz ⟨⟨kz,rfl,hkz⟩,hbX⟩;have hbk:=hd.out.trans (hbX.mono hd.out.size)))
        all_goals
          have hb6:=Lib.hid hbk
          clear x0 x1 x2 x3 x4 x5 x6 x7 x8 z0 z1 z2 z3 z4 e0 e1 e2 e3 e4 hbk hbX cU
          cases P
          · have hk1:(kz != 0)=true:=by simp;intro h;simp [h] at hkz
            have HF:=Lib.hid (show R=false by rw [HS.out];rfl)
            obtain ⟨_,x1,_,_,_,_,_,_,_⟩:=hcx.out _ (hbR.out _ hb6.out)
            obtain ⟨z0,_,_,_,_⟩:=hca.out _ hb6.out
            have hlz:wo.heap.size<wz.heap.size:=Nat.lt_of_lt_of_le hla hb6.out.size
            have hlx:w.heap.size<wz.heap.size:=by have:=hbw.out.size;have:=hl0.out;omega
            have cI:=Lib.hid fun W (hb:Below wz.heap.size wz W)=>Tryz.strconv_Itoa s.prio (hpr.out s hsm).1 (hpr.out s hsm).2 W ((hD.out _ (hbR.out _ hb6.out)).env.below hb).pow
            have hd2:=Lib.hid (Below.refl wz.heap.size wz).drew
            have hbI:=Lib.hid fun W (hb:Below wz.heap.size wz W)=>hbz.out _ ((hbR.out _ hb6.out).trans (hb.mono (hbR.out _ hb6.out).size))
            have hti:(Lib.itoa s.prio).length≤30:=itoa_any (hpr.out s hsm)
            have g1:¬ 9223372036854775807<x.name.size+6:=by omega
            clear HS hkz
            go_upto_region 15 with fail
            go_region_held3 (fun W=>W.cell? ⟨w.heap.size,1,none⟩=some (.string x.name)∧W.cell? ⟨wo.heap.size,0,none⟩=some (.int .i64 s.prio))
              (first|exact hHeld|go_keep|exact ⟨(hbk.cell (p:=⟨w.heap.size,1,none⟩) hlx).trans x1,(hbk.cell (p:=⟨wo.heap.size,0,none⟩) hlz).trans z0⟩)
              ((go_at_call 21;(with_reducible refine (cI.out _ hd2.out).mono ?_);rintro e w5 ⟨rfl,k5,os5,hw5⟩;have hb5:Below wz.drew.heap.size wz.drew w5:=(hw5▸below_os wz.drew k5 os5);clear hw5;have hbk:=hd2.out.trans (hb5.mono hd2.out.size);obtain ⟨T5,hT5⟩:∃ T,T=(⟨(Lib.itoa s.prio).toArray⟩:ByteArray):=⟨_,rfl⟩;have hs5:T5.size≤30:=(by rw [hT5];exact hti);rw [← hT5];clear hT5;have g2:¬ 9223372036854775807<x.name.size+6+T5.size:=(by omega)))
            all_goals
              have hb7:=Lib.hid (hbI.out _ hbk)
              go_wp2_with fail
              go_ret2
              exact e_bad HF.out (by intro h;simp [h] at hk1) hb7.out
          · obtain rfl:kz=0:=hkz.2 rfl
            have HF:=Lib.hid (show R=(eachB (ruleB c f x.ins.length) (x.rules.take (k+1)) (x.rules.drop (k+1)) && Q2) by rw [HS.out];rfl)
            have hb7:=Lib.hid (hbR.out _ hb6.out)
            clear HS hkz
            go_wp2_with fail
            go_roundw
            case rel=>exact ⟨k+1,by omega,by go_num,HF,hb7⟩
            case measure=>simp [intOf];omega
      have hR0:Hid (R=(eachB (prefB c f x.ins.length) (x.owns.take 0) (x.owns.drop 0) && eachB (prefB c f x.ins.length) [] x.routes)):=Lib.hid (by rw [HR.out,drop_end hlt,hQ2.out];rfl)
      clear HR hQ2
      obtain ⟨Q3,hQ3⟩:∃ Q,Q=eachB (prefB c f x.ins.length) [] x.routes:=⟨_,rfl⟩
      rw [← hQ3] at hR0
      replace hQ3:=Lib.hid hQ3
      obtain ⟨_,_,_,_,_,_,x6,_,_⟩:=hcx.out _ hbw.out
      go_wp2_with fail
      clear x6
      go_loopw [88] (fun i wr=>∃ k:Nat,k≤x.owns.length∧i=.int .i64 k∧Hid (R=(eachB (prefB c f x.ins.length) (x.owns.take k) (x.owns.drop k) && Q3))∧Hid (Below W0.heap.size W0 wr)) (fun i _=>x.owns.length-(intOf i).toNat)
      case atStart=>exact ⟨0,Nat.zero_le _,rfl,hR0,hbw⟩
      case round=>
        obtain ⟨k,hk',rfl,HR,hbw⟩:=hrel
        obtain ⟨wo,rfl⟩:∃ wo,wo=wr:=⟨_,rfl⟩
        clear hR0
        by_cases hlt:k<x.owns.length
        · have hvw:=pureSl (w':=wo) hO.out (Nat.le_refl _) (fun b o hb=>hk.out _ hbw.out b o hb)
          obtain ⟨b,off,rfl⟩:=SlOf.addr hvw (by omega)
          obtain ⟨_,c9,s,hs,⟨hc,hsd⟩,hj⟩:=SlOf.el hvw hlt
          subst hc
          have e0:wo.cell? ⟨b,off+k*3,none⟩=some (.int .i64 s.value):=hj 0 _ rfl
          have e1:wo.cell? ⟨b,off+k*3+1,none⟩=some (.int .i64 s.len):=hj 1 _ rfl
          have e2:wo.cell? ⟨b,off+k*3+2,none⟩=some (.string s.dst):=hj 2 _ rfl
          have HS:=Lib.hid (show R=((prefB c f x.ins.length (x.owns.take k) s && eachB (prefB c f x.ins.length) (x.owns.take (k+1)) (x.owns.drop (k+1))) && Q3) from HR.out.trans (by rw [each_drop hs]))
          clear hj HR
          obtain ⟨wa,hwa⟩:∃ wa,wo.alloc (.cells #[.int .i64 s.value, .int .i64 s.len, .string s.dst] 79 (0,0))=wa:=⟨_,rfl⟩
          have hba:Below wo.heap.size wo wa:=by rw [← hwa];exact (Below.refl _ _).alloc (Nat.le_refl _) _
          have hbA:=Lib.hid (hbw.out.trans (hba.mono hbw.out.size))
          have hXa:wa.heap[wo.heap.size]?=some (.cells #[.int .i64 s.value, .int .i64 s.len, .string s.dst] 79 (0,0)):=by rw [← hwa];exact heap_alloc_new wo _
          have hla:wo.heap.size<wa.heap.size:=by rw [← hwa];simp
          have hca:=Lib.hid fun W (hb:Below wa.heap.size wa W)=>cells3' ((hb.block _ hla).trans hXa)
          have hBo:B≤wo.heap.size:=by have:=hbw.out.size;have:=hl0.out;have:=(hD.out _ hbw.out).hB;omega
          have hkr:=keepB hba hBo
          have hvw':=SlOf.take (pureSl (w':=wa) hvw (Nat.le_refl _) hkr) (k:=k) (Nat.le_of_lt hlt)
          have hbR:=Lib.hid fun W (hb:Below wa.heap.size wa W)=>hbA.out.trans (hb.mono hbA.out.size)
          have hd:=Lib.hid (Below.refl wa.heap.size wa).drew
          have cU:=Lib.hid fun W (hb:Below wa.heap.size wa W)=>m_prefix x.ins.length ci Ai (.string x.name) (.slice Ao x.outs.length co) (.slice Ag x.guards.length cg) (.slice Ar x.rules.length cr) (.slice (some ⟨b,off,none⟩) x.owns.length cw) (.slice Au x.routes.length cu) s (x.owns.take k) _ (hD.out _ (hbR.out W hb)) hsd (pureSl (w':=W) hvw' (Nat.le_refl _) (keepB hb (by omega))) hof hrt.out
          obtain ⟨z0,z1,z2⟩:=hca.out _ (Below.refl _ _)
          obtain ⟨x0,x1,x2,x3,x4,x5,x6,x7,x8⟩:=hcx.out _ hbA.out
          have hkc:k≤cw:=by omega
          clear hvw hvw' hba hs hkr hXa
          go_upto_region 20 with fail
          clear hwa
          obtain ⟨P,hP⟩:∃ P,P=prefB c f x.ins.length (x.owns.take k) s:=⟨_,rfl⟩
          rw [← hP] at HS cU
          clear hP
          go_region_held3 (fun W=>(W.cell? ⟨w.heap.size,0,none⟩=some (.pointer (some ⟨cb,0,none⟩))∧W.cell? ⟨w.heap.size,1,none⟩=some (.string x.name)∧W.cell? ⟨w.heap.size,2,none⟩=some (.slice Ai x.ins.length ci)∧W.cell? ⟨w.heap.size,3,none⟩=some (.slice Ao x.outs.length co)∧W.cell? ⟨w.heap.size,4,none⟩=some (.slice Ag x.guards.length cg)∧W.cell? ⟨w.heap.size,5,none⟩=some (.slice Ar x.rules.length cr)∧W.cell? ⟨w.heap.size,6,none⟩=some (.slice (some ⟨b,off,none⟩) x.owns.length cw)∧W.cell? ⟨w.heap.size,7,none⟩=some (.slice Au x.routes.length cu)∧W.cell? ⟨w.heap.size,8,none⟩=some (.map (some mb)))∧W.cell? ⟨wo.heap.size,0,none⟩=some (.int .i64 s.value)∧W.cell? ⟨wo.heap.size,1,none⟩=some (.int .i64 s.len)∧W.cell? ⟨wo.heap.size,2,none⟩=some (.string s.dst))
            (first|exact hHeld|go_keep|exact ⟨hcx.out _ (hbR.out _ hbk),hca.out _ hbk⟩)
            ((go_at_call 97;(with_reducible refine (cU.out _ hd.out).mono ?_);rintro e wz ⟨⟨kz,rfl,hkz⟩,hbX⟩;have hbk:=hd.out.trans (hbX.mono hd.out.size)))
          all_goals
            have hb6:=Lib.hid hbk
            clear x0 x1 x2 x3 x4 x5 x6 x7 x8 z0 z1 z2 e0 e1 e2 hbk hbX cU
            cases P
            · have hk1:(kz != 0)=true:=by simp;intro h;simp [h] at hkz
              have HF:=Lib.hid (show R=false by rw [HS.out];rfl)
              obtain ⟨_,x1,_,_,_,_,_,_,_⟩:=hcx.out _ (hbR.out _ hb6.out)
              have hbI:=Lib.hid fun n=>below_drewN (hbz.out _ (hbR.out _ hb6.out)) n
              clear HS hkz
              go_upto_region 22 with fail
              go_quiet (fail)
              go_wp2_with fail
              go_ret2
              exact e_bad HF.out (by intro h;simp [h] at hk1) (hbI.out _)
            · obtain rfl:kz=0:=hkz.2 rfl
              have HF:=Lib.hid (show R=(eachB (prefB c f x.ins.length) (x.owns.take (k+1)) (x.owns.drop (k+1)) && Q3) by rw [HS.out];simp)
              have hb7:=Lib.hid (hbR.out _ hb6.out)
              clear HS hkz
              go_wp2_with fail
              go_roundw
              case rel=>exact ⟨k+1,by omega,by go_num,HF,hb7⟩
              case measure=>simp [intOf];omega
        have hR0:Hid (R=(eachB (prefB c f x.ins.length) (x.routes.take 0) (x.routes.drop 0) && true)):=Lib.hid (by rw [HR.out,drop_end hlt,hQ3.out,Bool.and_true];rfl)
        clear HR hQ3
        obtain ⟨_,_,_,_,_,_,_,x7,_⟩:=hcx.out _ hbw.out
        go_wp2_with fail
        clear x7
        go_loopw [113] (fun i wr=>∃ k:Nat,k≤x.routes.length∧i=.int .i64 k∧Hid (R=(eachB (prefB c f x.ins.length) (x.routes.take k) (x.routes.drop k) && true))∧Hid (Below W0.heap.size W0 wr)) (fun i _=>x.routes.length-(intOf i).toNat)
        case atStart=>exact ⟨0,Nat.zero_le _,rfl,hR0,hbw⟩
        case round=>
          obtain ⟨k,hk',rfl,HR,hbw⟩:=hrel
          obtain ⟨wo,rfl⟩:∃ wo,wo=wr:=⟨_,rfl⟩
          clear hR0
          by_cases hlt:k<x.routes.length
          · have hvw:=pureSl (w':=wo) hT.out (Nat.le_refl _) (fun b o hb=>hk.out _ hbw.out b o hb)
            obtain ⟨b,off,rfl⟩:=SlOf.addr hvw (by omega)
            obtain ⟨_,c9,s,hs,⟨hc,hsd⟩,hj⟩:=SlOf.el hvw hlt
            subst hc
            have e0:wo.cell? ⟨b,off+k*3,none⟩=some (.int .i64 s.value):=hj 0 _ rfl
            have e1:wo.cell? ⟨b,off+k*3+1,none⟩=some (.int .i64 s.len):=hj 1 _ rfl
            have e2:wo.cell? ⟨b,off+k*3+2,none⟩=some (.string s.dst):=hj 2 _ rfl
            have HS:=Lib.hid (show R=((prefB c f x.ins.length (x.routes.take k) s && eachB (prefB c f x.ins.length) (x.routes.take (k+1)) (x.routes.drop (k+1))) && true) from HR.out.trans (by rw [each_drop hs]))
            clear hj HR
            obtain ⟨wa,hwa⟩:∃ wa,wo.alloc (.cells #[.int .i64 s.value, .int .i64 s.len, .string s.dst] 79 (0,0))=wa:=⟨_,rfl⟩
            have hba:Below wo.heap.size wo wa:=by rw [← hwa];exact (Below.refl _ _).alloc (Nat.le_refl _) _
            have hbA:=Lib.hid (hbw.out.trans (hba.mono hbw.out.size))
            have hXa:wa.heap[wo.heap.size]?=some (.cells #[.int .i64 s.value, .int .i64 s.len, .string s.dst] 79 (0,0)):=by rw [← hwa];exact heap_alloc_new wo _
            have hla:wo.heap.size<wa.heap.size:=by rw [← hwa];simp
            have hca:=Lib.hid fun W (hb:Below wa.heap.size wa W)=>cells3' ((hb.block _ hla).trans hXa)
            have hBo:B≤wo.heap.size:=by have:=hbw.out.size;have:=hl0.out;have:=(hD.out _ hbw.out).hB;omega
            have hkr:=keepB hba hBo
            have hvw':=SlOf.take (pureSl (w':=wa) hvw (Nat.le_refl _) hkr) (k:=k) (Nat.le_of_lt hlt)
            have hbR:=Lib.hid fun W (hb:Below wa.heap.size wa W)=>hbA.out.trans (hb.mono hbA.out.size)
            have hd:=Lib.hid (Below.refl wa.heap.size wa).drew
            have cU:=Lib.hid fun W (hb:Below wa.heap.size wa W)=>m_prefix x.ins.length ci Ai (.string x.name) (.slice Ao x.outs.length co) (.slice Ag x.guards.length cg) (.slice Ar x.rules.length cr) (.slice Aw x.owns.length cw) (.slice (some ⟨b,off,none⟩) x.routes.length cu) s (x.routes.take k) _ (hD.out _ (hbR.out W hb)) hsd (pureSl (w':=W) hvw' (Nat.le_refl _) (keepB hb (by omega))) hof hrt.out
            obtain ⟨z0,z1,z2⟩:=hca.out _ (Below.refl _ _)
            obtain ⟨x0,x1,x2,x3,x4,x5,x6,x7,x8⟩:=hcx.out _ hbA.out
            have hkc:k≤cu:=by omega
            clear hvw hvw' hba hs hkr hXa
            go_upto_region 27 with fail
            clear hwa
            obtain ⟨P,hP⟩:∃ P,P=prefB c f x.ins.length (x.routes.take k) s:=⟨_,rfl⟩
            rw [← hP] at HS cU
            clear hP
            go_region_held3 (fun W=>(W.cell? ⟨w.heap.size,0,none⟩=some (.pointer (some ⟨cb,0,none⟩))∧W.cell? ⟨w.heap.size,1,none⟩=some (.string x.name)∧W.cell? ⟨w.heap.size,2,none⟩=some (.slice Ai x.ins.length ci)∧W.cell? ⟨w.heap.size,3,none⟩=some (.slice Ao x.outs.length co)∧W.cell? ⟨w.heap.size,4,none⟩=some (.slice Ag x.guards.length cg)∧W.cell? ⟨w.heap.size,5,none⟩=some (.slice Ar x.rules.length cr)∧W.cell? ⟨w.heap.size,6,none⟩=some (.slice Aw x.owns.length cw)∧W.cell? ⟨w.heap.size,7,none⟩=some (.slice (some ⟨b,off,none⟩) x.routes.length cu)∧W.cell? ⟨w.heap.size,8,none⟩=some (.map (some mb)))∧W.cell? ⟨wo.heap.size,0,none⟩=some (.int .i64 s.value)∧W.cell? ⟨wo.heap.size,1,none⟩=some (.int .i64 s.len)∧W.cell? ⟨wo.heap.size,2,none⟩=some (.string s.dst))
              (first|exact hHeld|go_keep|exact ⟨hcx.out _ (hbR.out _ hbk),hca.out _ hbk⟩)
              ((go_at_call 97;(with_reducible refine (cU.out _ hd.out).mono ?_);rintro e wz ⟨⟨kz,rfl,hkz⟩,hbX⟩;have hbk:=hd.out.trans (hbX.mono hd.out.size)))
            all_goals
              have hb6:=Lib.hid hbk
              clear x0 x1 x2 x3 x4 x5 x6 x7 x8 z0 z1 z2 e0 e1 e2 hbk hbX cU
              cases P
              · have hk1:(kz != 0)=true:=by simp;intro h;simp [h] at hkz
                have HF:=Lib.hid (show R=false by rw [HS.out];rfl)
                obtain ⟨_,x1,_,_,_,_,_,_,_⟩:=hcx.out _ (hbR.out _ hb6.out)
                have hbI:=Lib.hid fun n=>below_drewN (hbz.out _ (hbR.out _ hb6.out)) n
                clear HS hkz
                go_upto_region 29 with fail
                go_quiet (fail)
                go_wp2_with fail
                go_ret2
                exact e_bad HF.out (by intro h;simp [h] at hk1) (hbI.out _)
              · obtain rfl:kz=0:=hkz.2 rfl
                have HF:=Lib.hid (show R=(eachB (prefB c f x.ins.length) (x.routes.take (k+1)) (x.routes.drop (k+1)) && true) by rw [HS.out];simp)
                have hb7:=Lib.hid (hbR.out _ hb6.out)
                clear HS hkz
                go_wp2_with fail
                go_roundw
                case rel=>exact ⟨k+1,by omega,by go_num,HF,hb7⟩
                case measure=>simp [intOf];omega
          have HF:Hid (R=true):=Lib.hid (by rw [HR.out,drop_end hlt];rfl)
          have hbF:=Lib.hid (hbz.out _ hbw.out)
          clear HR
          go_wp2_with fail
          go_ret2
          exact e_ok HF.out hbF.out
end
end Go.Proofs.YtdhehcobnbcmdaaGreatDoor
