/- A part of the proof of DeltaLines: Mod9 Mod10 Mod11 Mod12. -/
import Derived.Test.YtdhehcobnbcmdaaGreatDoorPMo8
import Derived.Maps.RangeWalk
import Derived.Maps.Ext
set_option linter.all false
namespace Go.Proofs.YtdhehcobnbcmdaaGreatDoor
open Go.RowKit Go.Maps
section
variable {w:World} {b n:Nat} {f:Tab}
theorem run_put (h:MapIs w b n f)(s:ByteArray)(hs:s.size≤1000000000000000)(hn:n≤1000000000000000)(c:Int)(hc : -9223372036854775808≤c∧c≤9223372036854775807) :
    ∃ w',(Instr.mapUpdate 99 (.map (some b)) (.string s) (.int .i64 c)).run Tryz.prog w=.ok () w'∧MapIs w' b (n+1) (upd f s c)∧w.grownBy w' (some b):=by
  obtain ⟨D,h,t⟩:=h
  obtain ⟨w',hrun,r1,r2⟩:=h.update lawStr Tryz.underlying99 (by unfold maxLen;omega) (keyStr hs) (plainElem_int Tryz.underlying3 (WalkArith.wf_i64 hc))
  exact ⟨w',hrun,⟨_,r1,t.put h.isMap s c⟩,r2⟩
end
theorem lastFrom_take {l:List ByteArray}{j:Nat}{p:ByteArray}(h:l[j]?=some p):lastFrom noTab 0 (l.take (j+1))=upd (lastFrom noTab 0 (l.take j)) p j:=by
  have hl:=(List.getElem?_eq_some_iff.1 h).1
  rw [take_snoc h,lastFrom_snoc,List.length_take,Nat.min_eq_left (Nat.le_of_lt hl),Nat.zero_add]
def WfB (b:BoxS):Prop:=∀ r∈b.rules,I64 r.prio
def WfC (c:ConfS):Prop:=∀ b∈c.boxes,WfB b
abbrev deskO (cb mb ni cap:Nat)(A:Option Addr)(vn vo vg vr va vb:Value):Obj:=.cells (deskV cb mb ni cap A vn vo vg vr va vb) 104 (0,0)
set_option maxHeartbeats 8000000 in
set_option maxRecDepth 100000 in
theorem m_deeds (c : ConfS) (vf vb vl vs : Value) (B : Nat) (w : World) (h : ConfC w B c vf vb vl vs) (hB : B ≤ w.heap.size) (E : Env w) (hwf : WfC c) (hof : okF c.fields = true) (hrt : ¬ c.routing = ByteArray.empty → 0 ≤ findF c.fields c.routing) :
    Calls Tryz.prog 25 #[.agg (confV c vf vb vl vs)] w (EPost (deedsB c) w):=by
  obtain ⟨Ab,capb,rfl,hcb,hcapb⟩:=SlOf.form h.b
  obtain ⟨W0,hW0⟩:∃ W0,w.alloc (confO c vf (.slice Ab c.boxes.length capb) vl vs)=W0:=⟨_,rfl⟩
  have hb0:=Lib.hid (show Below w.heap.size w W0 by rw [← hW0];exact (Below.refl _ _).alloc (Nat.le_refl _) _)
  have hX:W0.heap[w.heap.size]?=some (confO c vf (.slice Ab c.boxes.length capb) vl vs):=by rw [← hW0];exact heap_alloc_new w _
  have hlt0:w.heap.size<W0.heap.size:=by rw [← hW0];simp
  obtain ⟨_,_,_,_,x4,_,_⟩:=conf_cells hX
  have hcx:=Lib.hid fun W (hb:Below W0.heap.size W0 W)=>conf_cells ((hb.block _ hlt0).trans hX)
  have hbz:=Lib.hid fun W (hb:Below W0.heap.size W0 W)=>hb0.out.trans (hb.mono (Nat.le_of_lt hlt0))
  have hBx:=Lib.hid fun W (hb:Below w.heap.size w W)=>h.b.keep (w':=W) hB (keepB hb hB) fun _ _ h=>h.keep hB (keepB hb hB)
  have hFx:=Lib.hid fun W (hb:Below w.heap.size w W)=>Fields.below h.f hb hB
  have hrz:=Lib.hid h.hr
  replace E:=Lib.hid E
  replace hwf:=Lib.hid hwf
  replace hof:=Lib.hid hof
  replace hrt:=Lib.hid hrt
  have hb1:=Lib.hid (Below.refl W0.heap.size W0)
  have hmm:=@run_makeMap Tryz.prog
  have HR0:Hid (deedsB c=(c.boxes.drop 0).all fun b=>boxB c (portsT b) b):=Lib.hid rfl
  generalize deedsB c=R at *
  clear h hX
  go_enter Tryz.func25,Tryz.ntmps25
  go_wp2_with fail
  clear hW0 x4
  go_loopw [13] (fun i wr=>∃ k:Nat,k≤c.boxes.length∧i=.int .i64 k∧Hid (R=(c.boxes.drop k).all fun b=>boxB c (portsT b) b)∧Hid (Below W0.heap.size W0 wr)) (fun i _=>c.boxes.length-(intOf i).toNat)
  case atStart=>exact ⟨0,Nat.zero_le _,rfl,HR0,hb1⟩
  case round=>
    obtain ⟨k,hk,rfl,HR,hbw⟩:=hrel
    obtain ⟨wo,rfl⟩:∃ wo,wo=wr:=⟨_,rfl⟩
    clear HR0 hb1
    by_cases hlt:k<c.boxes.length
    · have hBw:=hBx.out _ (hbz.out _ hbw.out)
      obtain ⟨b,off,rfl⟩:=SlOf.addr hBw (by omega)
      obtain ⟨_,cc,x,hx,hc,hj⟩:=SlOf.el hBw hlt
      obtain ⟨Ai,ci,Ao,co,Ag,cg,Ar,cr,Aw,cw,Au,cu,rfl,⟨s1,s2,_,_,_,_⟩,hxn,hti,hto,hG,hU,hO,hT⟩:=box_form hc
      have e0:wo.cell? ⟨b,off+k*7,none⟩=_:=hj 0 _ rfl
      have e1:=hj 1 _ rfl
      have e2:=hj 2 _ rfl
      have e3:=hj 3 _ rfl
      have e4:=hj 4 _ rfl
      have e5:=hj 5 _ rfl
      have e6:=hj 6 _ rfl
      have HS:=Lib.hid (show R=(boxB c (portsT x) x && (c.boxes.drop (k+1)).all fun b=>boxB c (portsT b) b) from HR.out.trans (all_drop hx))
      have hwx:=Lib.hid (hwf.out x (List.mem_of_getElem? hx))
      clear hj hBw hc HR hx
      obtain ⟨wa,hwa⟩:∃ wa,wo.alloc (boxO (.string x.name) (.slice Ai x.ins.length ci) (.slice Ao x.outs.length co) (.slice Ag x.guards.length cg) (.slice Ar x.rules.length cr) (.slice Aw x.owns.length cw) (.slice Au x.routes.length cu))=wa:=⟨_,rfl⟩
      have hza:wa.heap.size=wo.heap.size+1:=by rw [← hwa];simp
      have qa:wa.heap[wo.heap.size]?=some (boxO (.string x.name) (.slice Ai x.ins.length ci) (.slice Ao x.outs.length co) (.slice Ag x.guards.length cg) (.slice Ar x.rules.length cr) (.slice Aw x.owns.length cw) (.slice Au x.routes.length cu)):=by rw [← hwa];exact heap_alloc_new wo _
      obtain ⟨wm,hwm⟩:∃ wm,wa.alloc (.map #[] 0)=wm:=⟨_,rfl⟩
      have hzm:wm.heap.size=wo.heap.size+2:=by rw [← hwm];simp [hza]
      have hMm:MapIs wm (wo.heap.size+1) 0 noTab:=by rw [← hwm,← hza];exact MapIs.new wa
      obtain ⟨wd,hwd⟩:∃ wd,wm.alloc (deskO w.heap.size (wo.heap.size+1) x.ins.length ci Ai (.string x.name) (.slice Ao x.outs.length co) (.slice Ag x.guards.length cg) (.slice Ar x.rules.length cr) (.slice Aw x.owns.length cw) (.slice Au x.routes.length cu))=wd:=⟨_,rfl⟩
      have hbam:=Lib.hid (show Below wa.heap.size wa wm by rw [← hwm];exact (Below.refl _ _).alloc (Nat.le_refl _) _)
      have hbmd:=Lib.hid (show Below wm.heap.size wm wd by rw [← hwd];exact (Below.refl _ _).alloc (Nat.le_refl _) _)
      have hbod:Hid (Below wo.heap.size wo wd):=Lib.hid (by
        have h1:Below wo.heap.size wo wa:=by rw [← hwa];exact (Below.refl _ _).alloc (Nat.le_refl _) _
        exact (h1.trans (hbam.out.mono (by omega))).trans (hbmd.out.mono (by omega)))
      have hXb:Hid (wd.heap[wo.heap.size]?=some (boxO (.string x.name) (.slice Ai x.ins.length ci) (.slice Ao x.outs.length co) (.slice Ag x.guards.length cg) (.slice Ar x.rules.length cr) (.slice Aw x.owns.length cw) (.slice Au x.routes.length cu))):=Lib.hid ((hbmd.out.block _ (by omega)).trans ((hbam.out.block _ (by omega)).trans qa))
      have hXd:Hid (wd.heap[wo.heap.size+2]?=some (deskO w.heap.size (wo.heap.size+1) x.ins.length ci Ai (.string x.name) (.slice Ao x.outs.length co) (.slice Ag x.guards.length cg) (.slice Ar x.rules.length cr) (.slice Aw x.owns.length cw) (.slice Au x.routes.length cu))):=Lib.hid (by rw [← hzm,← hwd];exact heap_alloc_new wm _)
      have hMd:Hid (MapIs wd (wo.heap.size+1) 0 (lastFrom noTab 0 ((x.ins++x.outs).take 0))):=Lib.hid (hMm.below hbmd.out (by omega))
      obtain ⟨q0,q1,q2,q3,q4,q5,q6⟩:=cells7 qa
      obtain ⟨l,hl⟩:∃ l,x.ins++x.outs=l:=⟨_,rfl⟩
      have hll:l.length=x.ins.length+x.outs.length:=by rw [← hl,List.length_append]
      rw [hl] at hMd
      replace hl:=Lib.hid hl
      have hkw:=Lib.hid (keepB (hbz.out _ hbw.out) (Nat.le_refl _))
      replace hti:=Lib.hid hti
      replace hto:=Lib.hid hto
      replace hG:=Lib.hid hG
      replace hU:=Lib.hid hU
      replace hO:=Lib.hid hO
      replace hT:=Lib.hid hT
      have r1:wd.cell? ⟨wo.heap.size,1,none⟩=some (.slice Ai x.ins.length ci):=(cells7 hXb.out).2.1
      have r2:wd.cell? ⟨wo.heap.size,2,none⟩=some (.slice Ao x.outs.length co):=(cells7 hXb.out).2.2.1
      clear qa hMm
      go_wp2_with fail
      clear hwa hwm hwd hza hzm q0 q1 q2 q3 q4 q5 q6 e0 e1 e2 e3 e4 e5 e6 r1 r2
      go_loopw [27] (fun i wr=>∃ j:Nat,j≤l.length∧i=.int .i64 j∧Hid (MapIs wr (wo.heap.size+1) j (lastFrom noTab 0 (l.take j)))∧Hid (wr.heap[wo.heap.size]?=some (boxO (.string x.name) (.slice Ai x.ins.length ci) (.slice Ao x.outs.length co) (.slice Ag x.guards.length cg) (.slice Ar x.rules.length cr) (.slice Aw x.owns.length cw) (.slice Au x.routes.length cu))) ∧
        Hid (wr.heap[wo.heap.size+2]?=some (deskO w.heap.size (wo.heap.size+1) x.ins.length ci Ai (.string x.name) (.slice Ao x.outs.length co) (.slice Ag x.guards.length cg) (.slice Ar x.rules.length cr) (.slice Aw x.owns.length cw) (.slice Au x.routes.length cu)))∧Hid (Below wo.heap.size wo wr)) (fun i _=>l.length-(intOf i).toNat)
      case atStart=>exact ⟨0,Nat.zero_le _,rfl,hMd,hXb,hXd,hbod⟩
      case round=>
        obtain ⟨j,hj,rfl,hMj,hXb,hXd,hbo⟩:=hrel
        obtain ⟨wi,rfl⟩:∃ wi,wi=wr:=⟨_,rfl⟩
        clear hMd hbod
        by_cases hjl:j<l.length
        · have hbo2:=Lib.hid (hbz.out _ (hbw.out.trans (hbo.out.mono hbw.out.size)))
          have cp:=Lib.hid fun W (hb:Below wi.heap.size wi W)=>m_port x.ins x.outs j (.string x.name) _ _ (.slice Ag x.guards.length cg) (.slice Ar x.rules.length cr) (.slice Aw x.owns.length cw) (.slice Au x.routes.length cu) w.heap.size W (hti.out.keep (Nat.le_refl _) fun b o h=>(keepB (hbo2.out.trans (hb.mono hbo2.out.size)) (Nat.le_refl _) b o h).trans (hkw.out b o h).symm) (hto.out.keep (Nat.le_refl _) fun b o h=>(keepB (hbo2.out.trans (hb.mono hbo2.out.size)) (Nat.le_refl _) b o h).trans (hkw.out b o h).symm) (Nat.le_trans hbo2.out.size hb.size) (by omega)
          rw [hl.out] at cp
          obtain ⟨p,hp⟩:∃ p,l[j]?=some p:=⟨_,List.getElem?_eq_getElem hjl⟩
          have ht:=Lib.hid (lastFrom_take hp)
          have hjb:j≤1000000000000000:=by omega
          replace hp:=Lib.hid hp
          have hli:Hid (wo.heap.size+2<wi.heap.size):=Lib.hid (Array.getElem?_eq_some_iff.1 hXd.out).1
          have hli0:wo.heap.size<wi.heap.size:=by have:=hli.out;omega
          have hli1:wo.heap.size+1<wi.heap.size:=by have:=hli.out;omega
          have hli2:wo.heap.size+2<wi.heap.size:=hli.out
          have hd:=Lib.hid (Below.refl wi.heap.size wi).drew
          have hM5:=Lib.hid fun W (hb:Below wi.heap.size wi W)=>hMj.out.below hb hMj.out.lt
          have hcb:=Lib.hid fun (W:World) (hb:W.heap[wo.heap.size]?=wi.heap[wo.heap.size]?)=>cells7 (hb.trans hXb.out)
          have hcd:=Lib.hid fun (W:World) (hb:W.heap[wo.heap.size+2]?=wi.heap[wo.heap.size+2]?)=>cells9 (hb.trans hXd.out)
          obtain ⟨y0,y1,y2,y3,y4,y5,y6⟩:=hcb.out _ rfl
          obtain ⟨_,_,_,_,_,_,_,_,z8⟩:=hcd.out _ rfl
          have hn01:some wo.heap.size≠some (wo.heap.size+1):=by intro h;injection h;omega
          have hn21:some (wo.heap.size+2)≠some (wo.heap.size+1):=by intro h;injection h;omega
          have hbJ:=Lib.hid fun W (hb:Below wi.heap.size wi W)=>hbo.out.trans (hb.mono (Nat.le_of_lt hli0))
          replace hn01:=Lib.hid hn01
          replace hn21:=Lib.hid hn21
          go_upto_region 8 with fail
          go_region_held3 (fun W=>W.cell? ⟨wo.heap.size+2,8,none⟩=some (.map (some (wo.heap.size+1)))∧W.cell? ⟨wo.heap.size,0,none⟩=some (.string x.name)∧W.cell? ⟨wo.heap.size,1,none⟩=some (.slice Ai x.ins.length ci)∧W.cell? ⟨wo.heap.size,2,none⟩=some (.slice Ao x.outs.length co)∧W.cell? ⟨wo.heap.size,3,none⟩=some (.slice Ag x.guards.length cg)∧W.cell? ⟨wo.heap.size,4,none⟩=some (.slice Ar x.rules.length cr)∧W.cell? ⟨wo.heap.size,5,none⟩=some (.slice Aw x.owns.length cw)∧W.cell? ⟨wo.heap.size,6,none⟩=some (.slice Au x.routes.length cu))
            (first|exact hHeld|go_keep|exact ⟨(hcd.out _ hkd9).2.2.2.2.2.2.2.2,hcb.out _ hkb9⟩|exact ⟨(hcd.out _ (hbk.block _ hli2)).2.2.2.2.2.2.2.2,hcb.out _ (hbk.block _ hli0)⟩)
            ((go_at_call 58;(with_reducible refine (cp.out _ hd.out).mono ?_);rintro e w5 ⟨p5,rfl,hp5,hs5,hb5⟩;obtain rfl:p=p5:=Option.some.inj (hp.out.symm.trans hp5);have hbk:=hd.out.trans (hb5.mono hd.out.size);have hM8:=Lib.hid (hM5.out _ hbk);have hs8:p.size≤1000000000000000:=Nat.le_trans hs5 (by decide);clear hp5 hb5 hs5;obtain ⟨w9,hrun9,hM9,hg9⟩:=run_put hM8.out p hs8 hjb j (by omega);rw [← ht.out] at hM9;have hkb9:=(hg9.block wo.heap.size (by have:=hbk.size;omega) hn01.out).trans (hbk.block _ hli0);have hkd9:=(hg9.block (wo.heap.size+2) (by have:=hbk.size;omega) hn21.out).trans (hbk.block _ hli2);have hM10:=Lib.hid hM9;clear hM9;have hb9:=Lib.hid ((hbJ.out _ hbk).trans (below_grow wo.heap.size hg9 (by have:=hbk.size;omega)));clear hg9))
          all_goals
            have hXb9:=Lib.hid (hkb9.trans hXb.out)
            have hXd9:=Lib.hid (hkd9.trans hXd.out)
            clear y0 y1 y2 y3 y4 y5 y6 z8
            go_wp2_with fail
            go_roundw
            case rel=>exact ⟨j+1,by omega,by go_num,hM10,hXb9,hXd9,hb9⟩
            case measure=>simp [intOf];omega
        · have hbo2:=Lib.hid (hbz.out _ (hbw.out.trans (hbo.out.mono hbw.out.size)))
          have hjl':l.take j=l:=List.take_of_length_le (by omega)
          rw [hjl'] at hMj
          have hP:Hid (MapIs wi (wo.heap.size+1) j (portsT x)):=Lib.hid (by unfold portsT;rw [hl.out];exact hMj.out)
          have hkx:=Lib.hid fun b o (h:b<w.heap.size)=>(keepB hbo2.out (Nat.le_refl _) b o h).trans (hkw.out b o h).symm
          obtain ⟨_,k1,k2,_,_,_,_⟩:=hcx.out _ (hbw.out.trans (hbo.out.mono hbw.out.size))
          have D:Desk wi w.heap.size (wo.heap.size+1) w.heap.size j c vf (portsT x):=⟨k1,k2,hFx.out _ hbo2.out,hrz.out,E.out.below hbo2.out,hP.out,hbo2.out.size⟩
          have cB:=Lib.hid (m_box x Ai Ao Ag Ar Aw Au ci co cg cr cw cu D hxn (hG.out.keep (Nat.le_refl _) hkx.out fun _ _ h=>h.keep (Nat.le_refl _) hkx.out) (hU.out.keep (Nat.le_refl _) hkx.out fun _ _ h=>h.keep (Nat.le_refl _) hkx.out) (pureSl hO.out (Nat.le_refl _) hkx.out) (pureSl hT.out (Nat.le_refl _) hkx.out) hwx.out hof.out hrt.out)
          obtain ⟨z0,z1,z2,z3,z4,z5,z6,z7,z8⟩:=cells9 hXd.out
          have hbN:=Lib.hid fun W (hb:Below wi.heap.size wi W)=>hbw.out.trans ((hbo.out.trans (hb.mono hbo.out.size)).mono hbw.out.size)
          obtain ⟨P,hPb⟩:∃ P,P=boxB c (portsT x) x:=⟨_,rfl⟩
          rw [← hPb] at HS cB
          clear hPb k1 k2 D hMj hjl'
          cases P
          · have HF:=Lib.hid (show R=false by rw [HS.out];rfl)
            clear HS
            go_wp2_with (go_at_call 59;refine cB.out.mono ?_;intro e w7 hp7;obtain ⟨k7,s7,rfl,hk0,hk1,hb7⟩:=e_no hp7;have hb8:=Lib.hid (hbz.out _ (hbN.out _ hb7));replace hk0:=Lib.hid hk0;clear hb7 hp7)
            go_ret2
            exact e_bad HF.out hk0.out hb8.out
          · have HF:=Lib.hid (show R=(c.boxes.drop (k+1)).all fun b=>boxB c (portsT b) b by rw [HS.out];rfl)
            clear HS
            go_wp2_with (go_at_call 59;refine cB.out.mono ?_;intro e w7 hp7;obtain ⟨s7,rfl,hb7⟩:=e_yes hp7;have hb8:=Lib.hid (hbN.out _ hb7);clear hb7 hp7)
            go_roundw
            case rel=>exact ⟨k+1,by omega,by go_num,HF,hb8⟩
            case measure=>simp [intOf];omega
    · have HF:Hid (R=true):=Lib.hid (by rw [HR.out,drop_end hlt];rfl)
      have hbF:=Lib.hid (hbz.out _ hbw.out)
      clear HR
      go_wp2_with fail
      go_ret2
      exact e_ok HF.out hbF.out
abbrev placeC (x:Nat×Bool):List Value:=[.int .i64 x.1, .bool x.2]
def placesV (p:List (Nat×Bool)):List Value:=(p.map placeC).flatten
theorem placesV_snoc (p:List (Nat×Bool))(x:Nat×Bool):placesV (p++[x])=placesV p++placeC x:=by simp [placesV]
structure NumA (b0:Nat)(w0 W:World)(A:Option Addr)(cap:Nat)(p:List (Nat×Bool))(n:Nat)(f:Tab):Prop where
  l:W.heap[b0+1]?=some (.cells #[.slice A p.length cap] 106 (0,0))
  r:W.ownsRow (b0+4) 110 2 (.slice A p.length cap) p.length (placesV p)
  m:MapIs W (b0+2) n f
  n:W.heap[b0+3]?=some (.cells #[.map (some (b0+2))] 99 (0,0))
  b:Below (b0+1) w0 W
def Num (b0:Nat)(w0 W:World)(p:List (Nat×Bool))(f:Tab):Prop:=∃ A cap,NumA b0 w0 W A cap p p.length f
section
variable {b0:Nat} {w0 W w':World} {A:Option Addr} {cap n:Nat} {p:List (Nat×Bool)} {f f':Tab}
theorem NumA.lt (h:NumA b0 w0 W A cap p n f):b0+3<W.heap.size:=(Array.getElem?_eq_some_iff.1 h.n).1
theorem NumA.put (h:NumA b0 w0 W A cap p n f)(hg:W.grownBy w' (some (b0+2))){n':Nat}(hm:MapIs w' (b0+2) n' f'):NumA b0 w0 w' A cap p n' f' where
  l:=(hg.block _ (by have:=h.lt;omega) (by intro e;injection e with e;omega)).trans h.l
  r := by
    refine World.ownsRow.kept h.r hg ?_
    rcases h.r.2 with ⟨hv,_⟩|⟨g,c,cur,hv,hb,_⟩
    · rw [hv];exact .inl rfl
    · rw [hv];exact .inr (by intro e;injection e with e;have e':g=b0+2:=e;omega)
  m:=hm
  n:=(hg.block _ h.lt (by intro e;injection e with e;omega)).trans h.n
  b:=h.b.trans (below_grow (b0+1) hg (by have:=h.lt;omega))
theorem NumA.app (h:NumA b0 w0 W A cap p n f)(x:Nat×Bool)(o:Obj){g c:Nat}(hown:w'.ownsRow (b0+4) 110 2 (.slice (some ⟨g,0,none⟩) (p.length+1) c) (p.length+1) (placesV p++placeC x))
    (hg:(W.alloc o).grownBy w' (Value.slice A p.length cap).ownBlock):NumA b0 w0 (w'.setCell ⟨b0+1,0,none⟩ (.slice (some ⟨g,0,none⟩) (p.length+1) c)) (some ⟨g,0,none⟩) c (p++[x]) n f:=by
  have hlt:=h.lt
  have hbk:∀ k,k<b0+4→w'.heap[k]?=W.heap[k]?:=fun k hk=>by
    refine (hg.block k (by simp;omega) ?_).trans (((Below.refl W.heap.size W).alloc (Nat.le_refl _) o).block k (by omega))
    intro e
    have:=(h.r.alloc o).lt k e.symm
    omega
  have hb:Below (b0+1) W w':=((Below.refl _ _).alloc (by omega) o).grown hg (by simp;omega) fun k hk=>by have:=((h.r.alloc o).lt k hk).1;omega
  have hlen:(p++[x]).length=p.length+1:=by simp
  have hne:∀ k,k≠b0+1→(w'.setCell ⟨b0+1,0,none⟩ (.slice (some ⟨g,0,none⟩) (p.length+1) c)).heap[k]?=w'.heap[k]?:=fun k hk=>Below.heap_setCell _ _ _ k (fun e=>hk e)
  refine ⟨?_,?_,?_,?_,(h.b.trans hb).setCell (p:=⟨b0+1,0,none⟩) (Nat.le_refl _) _⟩
  · rw [hlen]
    have:=(hbk (b0+1) (by omega)).trans h.l
    exact one_setCell this
  · rw [hlen,placesV_snoc]
    exact ownsRow_setCell_other hown (by intro e;injection e with e;have e':g=b0+1:=e;have:=(hown.lt g rfl).1;omega) _
  · have hM:MapIs w' (b0+2) n f:=by
      obtain ⟨D,⟨es,clock,h1,h2,h3,h4⟩,t⟩:=h.m
      exact ⟨D,⟨es,clock,(hbk _ (by omega)).trans h1,h2,h3,h4⟩,t⟩
    obtain ⟨D,⟨es,clock,h1,h2,h3,h4⟩,t⟩:=hM
    exact ⟨D,⟨es,clock,(hne _ (by omega)).trans h1,h2,h3,h4⟩,t⟩
  · exact (hne _ (by omega)).trans ((hbk _ (by omega)).trans h.n)
end
theorem NumA.cell {b0:Nat}{w0 W w':World}{A:Option Addr}{cap n:Nat}{p:List (Nat×Bool)}{f:Tab}(h:NumA b0 w0 W A cap p n f)(o:Obj)(hg:(W.alloc o).grownBy w' (Value.slice A p.length cap).ownBlock):w'.heap[b0+1]?=some (.cells #[.slice A p.length cap] 106 (0,0)):=by
  have hlt:=h.lt
  refine ((hg.block (b0+1) (by simp;omega) ?_).trans (((Below.refl W.heap.size W).alloc (Nat.le_refl _) o).block (b0+1) (by omega))).trans h.l
  intro e
  have:=(h.r.alloc o).lt (b0+1) e.symm
  omega
def KeepT (b0:Nat)(w w':World):Prop:=∀ g cs T fr,b0+3<g→T≠110→w.heap[g]?=some (.cells cs T fr)→w'.heap[g]?=some (.cells cs T fr)
theorem KeepT.refl (b0:Nat)(w:World):KeepT b0 w w:=fun _ _ _ _ _ _ h=>h
theorem KeepT.trans {b0:Nat}{w w1 w2:World}(h:KeepT b0 w w1)(h':KeepT b0 w1 w2):KeepT b0 w w2:=fun g cs T fr hg hT hc=>h' g cs T fr hg hT (h g cs T fr hg hT hc)
theorem KeepT.put {b0:Nat}{w w':World}(hg:w.grownBy w' (some (b0+2))):KeepT b0 w w':=fun g cs T fr hgb _ hc=>
  (hg.block g (Array.getElem?_eq_some_iff.1 hc).1 (by intro e;injection e with e;omega)).trans hc
theorem KeepT.app {b0:Nat}{w0 W w':World}{A:Option Addr}{cap n:Nat}{p:List (Nat×Bool)}{f:Tab}(h:NumA b0 w0 W A cap p n f)(o:Obj)(v:Value)(hg:(W.alloc o).grownBy w' (Value.slice A p.length cap).ownBlock):KeepT b0 W (w'.setCell ⟨b0+1,0,none⟩ v):=fun g cs T fr hgb hT hc=>by
  have hlt:=(Array.getElem?_eq_some_iff.1 hc).1
  have h1:(W.alloc o).heap[g]?=some (.cells cs T fr):=(((Below.refl W.heap.size W).alloc (Nat.le_refl _) o).block g hlt).trans hc
  have h2:w'.heap[g]?=some (.cells cs T fr):=(hg.block g (by simp;omega) (by
    intro e
    rcases (h.r.alloc o).2 with ⟨hv,_⟩|⟨g',c',cur,hv,_,hh,_⟩
    · rw [hv] at e;cases e
    · rw [hv] at e
      have e':g=g':=by injection e
      subst e'
      rw [hh] at h1
      injection h1 with h1
      injection h1 with _ h1 _
      exact hT h1.symm)).trans h1
  exact (Below.heap_setCell _ _ _ g (fun e=>by have e':g=b0+1:=e;omega)).trans h2
theorem firstFrom_take {f:Tab}{k0:Nat}{l:List (ByteArray×Bool)}{j:Nat}{x:ByteArray×Bool}(h:l[j]?=some x):firstFrom f k0 (l.take (j+1))=addT (firstFrom f k0 (l.take j)) x.1 (k0+j):=by
  have hl:=(List.getElem?_eq_some_iff.1 h).1
  rw [take_snoc h,firstFrom_snoc,List.length_take,Nat.min_eq_left (Nat.le_of_lt hl)]
theorem place_info:(Tryz.prog.info? 110).map (fun i=>(i.zero,i.size,i.bytes))=some (some (.agg #[.int .i64 0, .bool false]),2,16):=by kernel_rfl
theorem place_one (x:Nat×Bool):∀ u∈placeC x,u.oneCell'=true:=by
  intro u hu
  simp only [placeC,List.mem_cons,List.not_mem_nil,or_false] at hu
  rcases hu with rfl|rfl<;>rfl
set_option maxHeartbeats 4000000 in
set_option maxRecDepth 100000 in
theorem m_put (b0 : Nat) (w0 w : World) (p : List (Nat × Bool)) (f : Tab) (i nb capb bb off : Nat) (nm : ByteArray) (s : List ByteArray) (v : Value) (inn : Bool) (h : Num b0 w0 w p f) (hw0 : w0.heap.size = b0 + 1) (hs : Texts w0 b0 v s) (hl : p.length + s.length ≤ 1000)
    (hc:w0.cell? ⟨b0,4,none⟩=some (.slice (some ⟨bb,off,none⟩) nb capb)) (hi:i<nb) (hnb:nb≤capb) (hcb:capb≤9223372036854775807) (hbb:bb<b0) (hn:w0.cell? ⟨bb,off+i*7,none⟩=some (.string nm)) (hnm:Sm nm) :
    Calls Tryz.prog 98 #[.int .i64 i,v, .bool inn, .pointer (some ⟨b0,0,none⟩), .pointer (some ⟨b0+3,0,none⟩), .pointer (some ⟨b0+1,0,none⟩)] w fun e w'=>(∃ u,e=.returned u)∧KeepT b0 w w'∧Num b0 w0 w' (p++s.map fun _=>(i,inn)) (firstFrom f p.length (s.map fun x=>(fullB nm x,inn))):=by
  obtain ⟨As,caps,rfl,hcs,hsl⟩:=SlOf.form hs
  obtain ⟨i0,hi1,hz0,hz1,hz2⟩:=info_parts place_info
  have hi1:=Lib.hid hi1;have hz0:=Lib.hid hz0;have hz1:=Lib.hid hz1;have hz2:=Lib.hid hz2
  have hS0:Hid (Num b0 w0 w (p++(s.take 0).map fun _=>(i,inn)) (firstFrom f p.length ((s.map fun x=>(fullB nm x,inn)).take 0))):=Lib.hid (by simpa [firstFrom] using h)
  have hsz:nm.size≤140737488355328:=hnm
  replace hs:=Lib.hid hs
  clear h
  go_enter Tryz.func98,Tryz.ntmps98
  go_wp2_with fail
  go_loopw [16] (fun j wr=>∃ k:Nat,k≤s.length∧j=.int .i64 k∧Hid (KeepT b0 w wr)∧Hid (Num b0 w0 wr (p++(s.take k).map fun _=>(i,inn)) (firstFrom f p.length ((s.map fun x=>(fullB nm x,inn)).take k)))) (fun j _=>s.length-(intOf j).toNat)
  case atStart=>exact ⟨0,Nat.zero_le _,rfl,Lib.hid (KeepT.refl b0 w),hS0⟩
  case round=>
    obtain ⟨k,hk,rfl,hKT,hS⟩:=hrel
    obtain ⟨wo,rfl⟩:∃ wo,wo=wr:=⟨_,rfl⟩
    clear hS0
    by_cases hlt:k<s.length
    · obtain ⟨AA,cA,hN⟩:=hS.out
      have hbo:=hN.b
      have hsw:=hs.out.keep (w':=wo) (Nat.le_refl _) fun b o h=>keepB (B:=b0) hbo (Nat.le_succ _) b o h
      obtain ⟨b,o,rfl⟩:=SlOf.addr hsw (by omega)
      obtain ⟨hbl,x,hx,hxs,e0⟩:=texts_el hsw hlt
      have c4:wo.cell? ⟨b0,4,none⟩=some (.slice (some ⟨bb,off,none⟩) nb capb):=(hbo.cell (p:=⟨b0,4,none⟩) (Nat.lt_succ_self _)).trans hc
      have c5:wo.cell? ⟨bb,off+i*7,none⟩=some (.string nm):=(hbo.cell (p:=⟨bb,off+i*7,none⟩) (by show bb<b0+1;omega)).trans hn
      have hicap:i≤capb:=by omega
      obtain ⟨fu,hfu⟩:∃ fu,fu=fullB nm x:=⟨_,rfl⟩
      have hfs:fu.size≤1000000000000000:=by rw [hfu];unfold fullB;simp only [ByteArray.size_append,show dotB.size=1 from rfl];omega
      have hfe:nm++⟨#[46]⟩++x=fu:=by rw [hfu];rfl
      have hlx:(s.map fun x=>(fullB nm x,inn))[k]?=some (fu,inn):=by rw [List.getElem?_map,hx,hfu];rfl
      have ht1:=Lib.hid (firstFrom_take (f:=f) (k0:=p.length) hlx)
      have ht2:Hid ((s.take (k+1)).map (fun _=>(i,inn))=(s.take k).map (fun _=>(i,inn))++[(i,inn)]):=Lib.hid (map_take_snoc hx)
      obtain ⟨q,hq⟩:∃ q,q=p++(s.take k).map fun _=>(i,inn):=⟨_,rfl⟩
      have hql:q.length=p.length+k:=by rw [hq,List.length_append,List.length_map,List.length_take];omega
      obtain ⟨fk,hfk⟩:∃ fk,fk=firstFrom f p.length ((s.map fun x=>(fullB nm x,inn)).take k):=⟨_,rfl⟩
      rw [← hq,← hfk] at hN
      rw [← hfk] at ht1
      replace hq:=Lib.hid hq
      replace hfu:=Lib.hid hfu
      have hlN:=hN.lt
      have l0:wo.cell? ⟨b0+3,0,none⟩=some (.map (some (b0+2))):=cell_of_one hN.n
      have l1:wo.cell? ⟨b0+1,0,none⟩=some (.slice AA q.length cA):=cell_of_one hN.l
      have hq1:q.length≤1000:=by omega
      have gs1:¬ 9223372036854775807<nm.size+1:=by omega
      have gs2:¬ 9223372036854775807<nm.size+1+x.size:=by omega
      clear hfk hlx hx hS hsw hc hn hbo
      replace hN:=Lib.hid hN
      replace hql:=Lib.hid hql
      cases hf:fk fu with
      | some kk =>
        have hT:Hid (addT fk fu (p.length+k)=fk):=Lib.hid (by unfold addT;rw [hf];rfl)
        have hf':=Lib.hid hf
        clear hf
        have hF4:Hid (∀ W' g' cap',NumA b0 w0 W' g' cap' (q++[(i,inn)]) q.length fk→Num b0 w0 W' (p++(s.take (k+1)).map fun _=>(i,inn)) (firstFrom f p.length ((s.map fun x=>(fullB nm x,inn)).take (k+1)))):=Lib.hid fun W' g' cap' h=>by
          rw [ht1.out,ht2.out,← List.append_assoc,← hq.out,hT.out]
          exact ⟨_,_,h.l,h.r,h.m.mono (by simp),h.n,h.b⟩
        clear ht1 ht2 hT
        go_wp2_with (first
          | (at_lookup;refine map_look hN.out.m rfl _ _ rfl rfl fu rfl hfs ?_;intro c9 _;rw [hf'.out])
          | (at_builtin;refine wpList_append_lies _ rfl (.tmp 41) (.tmp 45) _ rfl (b0+4) 110 i0 _ 2 16 Tryz.underlying106 hi1.out hz0.out hz1.out hz2.out rfl (by decide) (.slice AA q.length cA) q.length _ rfl (World.ownsRow.alloc hN.out.r _) ⟨wo.heap.size,0,none⟩ 1 1 (placeC (i,inn)) rfl rfl (World.news_of_block (heap_alloc_new wo _)) (place_one _) (by decide) (by unfold maxLen;omega) (by omega) (by simp;omega) (wo.heap.size+1) (by simp) ?_;intro g' cap' w4 hown4 hg4 hat4 hlt4;have hL4:=hN.out.cell _ hg4;have l4:=cell_of_one hL4;have f4:=free_of_one hL4;have N4:=Lib.hid (hN.out.app (i,inn) _ hown4 hg4);have K4:=Lib.hid (hKT.out.trans (KeepT.app hN.out _ (.slice (some ⟨g',0,none⟩) (q.length+1) cap') hg4));clear hown4 hg4 hat4 hlt4 hL4))
        go_roundw
        case rel=>exact ⟨k+1,by omega,by go_num,K4,Lib.hid (hF4.out _ _ _ N4.out)⟩
        case measure=>simp [intOf];omega
      | none =>
        have hT:Hid (addT fk fu (p.length+k)=upd fk fu ((p.length+k:Nat):Int)):=Lib.hid (by unfold addT;rw [hf];rfl)
        have hf':=Lib.hid hf
        clear hf
        have hF4:Hid (∀ W' g' cap',NumA b0 w0 W' g' cap' (q++[(i,inn)]) (q.length+1) (upd fk fu q.length)→Num b0 w0 W' (p++(s.take (k+1)).map fun _=>(i,inn)) (firstFrom f p.length ((s.map fun x=>(fullB nm x,inn)).take (k+1)))):=Lib.hid fun W' g' cap' h=>by
          rw [ht1.out,ht2.out,← List.append_assoc,← hq.out,hT.out,← hql.out]
          exact ⟨_,_,h.l,h.r,h.m.mono (by simp),h.n,h.b⟩
        clear ht1 ht2 hT
        go_wp2_with (first
          | (at_lookup;refine map_look hN.out.m rfl _ _ rfl rfl fu rfl hfs ?_;intro c9 _;rw [hf'.out])
          | (at_mapUpdate;(refine map_put hN.out.m rfl _ _ _ rfl rfl fu rfl hfs (by omega) q.length rfl (by omega) ?_;intro w3 hM3 hg3;have N3:=Lib.hid (hN.out.put hg3 hM3);have hK3:=Lib.hid (hKT.out.trans (KeepT.put hg3));have l3:w3.cell? ⟨b0+1,0,none⟩=some (.slice AA q.length cA):=cell_of_one N3.out.l;have hz3:b0+3<w3.heap.size:=N3.out.lt;clear hM3 hg3))
          | (at_builtin;refine wpList_append_lies _ rfl (.tmp 41) (.tmp 45) _ rfl (b0+4) 110 i0 _ 2 16 Tryz.underlying106 hi1.out hz0.out hz1.out hz2.out rfl (by decide) (.slice AA q.length cA) q.length _ rfl (World.ownsRow.alloc N3.out.r _) ⟨w3.heap.size,0,none⟩ 1 1 (placeC (i,inn)) rfl rfl (World.news_of_block (heap_alloc_new w3 _)) (place_one _) (by decide) (by unfold maxLen;omega) (by omega) (by simp;omega) (w3.heap.size+1) (by simp) ?_;intro g' cap' w4 hown4 hg4 hat4 hlt4;have hL4:=N3.out.cell _ hg4;have l4:=cell_of_one hL4;have f4:=free_of_one hL4;have N4:=Lib.hid (N3.out.app (i,inn) _ hown4 hg4);have K4:=Lib.hid (hK3.out.trans (KeepT.app N3.out _ (.slice (some ⟨g',0,none⟩) (q.length+1) cap') hg4));clear hown4 hg4 hat4 hlt4 hL4))
        go_roundw
        case rel=>exact ⟨k+1,by omega,by go_num,K4,Lib.hid (hF4.out _ _ _ N4.out)⟩
        case measure=>simp [intOf];omega
    · have hk':k=s.length:=by omega
      subst hk'
      have hF:Hid (Num b0 w0 wo (p++s.map fun _=>(i,inn)) (firstFrom f p.length (s.map fun x=>(fullB nm x,inn)))):=Lib.hid (by
        have:=hS.out
        rw [List.take_of_length_le (Nat.le_refl _),List.take_of_length_le (by rw [List.length_map];exact Nat.le_refl _)] at this
        exact this)
      go_wp2_with fail
      go_end0
      exact ⟨⟨_,rfl⟩,hKT.out,hF.out⟩
theorem NumA.alloc {b0:Nat}{w0 W:World}{A:Option Addr}{cap n:Nat}{p:List (Nat×Bool)}{f:Tab}(h:NumA b0 w0 W A cap p n f)(o:Obj):NumA b0 w0 (W.alloc o) A cap p n f:=by
  have hb:=(Below.refl W.heap.size W).alloc (Nat.le_refl _) o
  have hlt:=h.lt
  exact ⟨(hb.block _ (by omega)).trans h.l,h.r.alloc o,h.m.alloc o,(hb.block _ (by omega)).trans h.n,h.b.trans (hb.mono (by omega))⟩
def NumPost (c:ConfS)(w:World)(e:Ending)(w':World):Prop:=∃ A cap p,e=.returned (.tuple #[.slice A p.length cap, .map (some (w.heap.size+2))])∧p.map (·.2)=(fulls c.boxes).map (·.2) ∧
  w'.ownsRow (w.heap.size+4) 110 2 (.slice A p.length cap) p.length (placesV p)∧MapIs w' (w.heap.size+2) p.length (numsT c)∧Below w.heap.size w w'
theorem fulls_snoc (l:List BoxS)(b:BoxS):fulls (l++[b])=fulls l++fullsB b:=by simp [fulls]
theorem firstFrom_app:∀ (a b:List (ByteArray×Bool))(f:Tab)(k:Nat),firstFrom f k (a++b)=firstFrom (firstFrom f k a) (k+a.length) b
  | [],b,f,k=>by simp [firstFrom]
  | x :: r, b, f, k => by
    rw [List.cons_append,firstFrom,firstFrom_app r b,firstFrom]
    congr 1
    simp
    omega
theorem nPorts_sum:∀ (l:List BoxS),((fulls l).length:Int)=sumB nPorts l
  | []=>rfl
  | b :: r => by
    have h:=nPorts_sum r
    unfold fulls at h ⊢
    rw [List.flatMap_cons,List.length_append]
    unfold sumB
    rw [← h]
    simp only [fullsB,List.length_append,List.length_map,nPorts]
    omega
set_option maxHeartbeats 8000000 in
set_option maxRecDepth 100000 in
theorem m_numbered (c : ConfS) (vf vb vl vs : Value) (B : Nat) (w : World) (h : ConfC w B c vf vb vl vs) (hB : B ≤ w.heap.size) (hlen : (fulls c.boxes).length ≤ 1000) :
    Calls Tryz.prog 60 #[.agg (confV c vf vb vl vs)] w (NumPost c w):=by
  obtain ⟨Ab,capb,rfl,hcb,hcapb⟩:=SlOf.form h.b
  obtain ⟨W0,hW0⟩:∃ W0,w.alloc (confO c vf (.slice Ab c.boxes.length capb) vl vs)=W0:=⟨_,rfl⟩
  have hz0:W0.heap.size=w.heap.size+1:=by rw [← hW0];simp
  have hX:W0.heap[w.heap.size]?=some (confO c vf (.slice Ab c.boxes.length capb) vl vs):=by rw [← hW0];exact heap_alloc_new w _
  have hb0:=Lib.hid (show Below w.heap.size w W0 by rw [← hW0];exact (Below.refl _ _).alloc (Nat.le_refl _) _)
  have hBx:=Lib.hid (h.b.keep (w':=W0) hB (keepB hb0.out hB) fun _ _ h=>h.keep hB (keepB hb0.out hB))
  obtain ⟨W1,hW1⟩:∃ W1,W0.alloc (.cells #[.slice none 0 0] 106 (0,0))=W1:=⟨_,rfl⟩
  have hz1:W1.heap.size=w.heap.size+2:=by rw [← hW1];simp [hz0]
  obtain ⟨W2,hW2⟩:∃ W2,W1.alloc (.map #[] 0)=W2:=⟨_,rfl⟩
  have hz2:W2.heap.size=w.heap.size+3:=by rw [← hW2];simp [hz1]
  obtain ⟨W3,hW3⟩:∃ W3,W2.alloc (.cells #[.map (some (w.heap.size+2))] 99 (0,0))=W3:=⟨_,rfl⟩
  have hb01:Below W0.heap.size W0 W1:=by rw [← hW1];exact (Below.refl _ _).alloc (Nat.le_refl _) _
  have hb12:Below W1.heap.size W1 W2:=by rw [← hW2];exact (Below.refl _ _).alloc (Nat.le_refl _) _
  have hb23:Below W2.heap.size W2 W3:=by rw [← hW3];exact (Below.refl _ _).alloc (Nat.le_refl _) _
  have hN0:Hid (NumA w.heap.size W0 W3 none 0 [] 0 noTab):=Lib.hid (by
    refine ⟨?_,World.ownsRow_nil _ _ _ _,?_,?_,?_⟩
    · exact (hb23.block _ (by omega)).trans ((hb12.block _ (by omega)).trans (by rw [← hz0,← hW1];exact heap_alloc_new W0 _))
    · have:=MapIs.new W1
      rw [hW2,hz1] at this
      exact this.below hb23 (by omega)
    · rw [← hz2,← hW3];exact heap_alloc_new W2 _
    · have h1:=hb01.trans (hb12.mono (by omega))
      have h2:=h1.trans (hb23.mono (by omega))
      rw [hz0] at h2
      exact h2)
  have hmm:=@run_makeMap Tryz.prog
  obtain ⟨_,_,_,_,x4,_,_⟩:=conf_cells hX
  have x4':W3.cell? ⟨w.heap.size,4,none⟩=some (.slice Ab c.boxes.length capb):=(hN0.out.b.cell (p:=⟨w.heap.size,4,none⟩) (Nat.lt_succ_self _)).trans x4
  have hS0:Hid (∃ p,p.map (·.2)=(fulls (c.boxes.take 0)).map (·.2)∧Num w.heap.size W0 W3 p (firstFrom noTab 0 (fulls (c.boxes.take 0)))):=Lib.hid ⟨[],rfl,_,_,hN0.out⟩
  have hbz:=Lib.hid hz0
  clear h hX hb01 hb12 hb23
  go_enter Tryz.func60,Tryz.ntmps60
  go_wp2_with fail
  go_loopw [14] (fun i wr=>∃ k:Nat,k≤c.boxes.length∧i=.int .i64 k∧Hid (∃ p,p.map (·.2)=(fulls (c.boxes.take k)).map (·.2)∧Num w.heap.size W0 wr p (firstFrom noTab 0 (fulls (c.boxes.take k))))) (fun i _=>c.boxes.length-(intOf i).toNat)
  case atStart=>exact ⟨0,Nat.zero_le _,rfl,hS0⟩
  case round=>
    obtain ⟨k,hk,rfl,hS⟩:=hrel
    obtain ⟨wo,rfl⟩:∃ wo,wo=wr:=⟨_,rfl⟩
    clear hS0 hN0 x4' hW0 hW1 hW2 hW3 hz0 hz1 hz2
    obtain ⟨p,hp2,hSn⟩:=hS.out
    have hpl:p.length=(fulls (c.boxes.take k)).length:=by have:=congrArg List.length hp2;simpa using this
    by_cases hlt:k<c.boxes.length
    · obtain ⟨AA,cA,hN⟩:=hSn
      have hbo:=hN.b
      have hlN:=hN.lt
      obtain ⟨b,off,rfl⟩:=SlOf.addr hBx.out (by omega)
      have hBw:=hBx.out.keep (w':=wo) (Nat.le_refl _) (fun b o h=>keepB (B:=w.heap.size) hbo (Nat.le_succ _) b o h) fun _ _ h'=>h'.keep (Nat.le_refl _) (fun b o h=>keepB (B:=w.heap.size) hbo (Nat.le_succ _) b o h)
      obtain ⟨hbb,cc,x,hx,hc,hj⟩:=SlOf.el hBw hlt
      obtain ⟨Ai,ci,Ao,co,Ag,cg,Ar,cr,Aw,cw,Au,cu,rfl,⟨s1,s2,_,_,_,_⟩,hxn,hti,hto,_⟩:=box_form hc
      have e0:wo.cell? ⟨b,off+k*7,none⟩=some (.string x.name):=hj 0 _ rfl
      have e1:=hj 1 _ rfl
      have e2:=hj 2 _ rfl
      have e3:=hj 3 _ rfl
      have e4:=hj 4 _ rfl
      have e5:=hj 5 _ rfl
      have e6:=hj 6 _ rfl
      have y4:wo.cell? ⟨w.heap.size,4,none⟩=some (.slice (some ⟨b,off,none⟩) c.boxes.length capb):=(hbo.cell (p:=⟨w.heap.size,4,none⟩) (Nat.lt_succ_self _)).trans x4
      have n0:W0.cell? ⟨b,off+k*7,none⟩=some (.string x.name):=(hbo.cell (p:=⟨b,off+k*7,none⟩) (by show b<w.heap.size+1;omega)).symm.trans e0
      have hti0:=Lib.hid (hti.keep (w':=W0) (Nat.le_refl _) fun b o h=>(keepB (B:=w.heap.size) hbo (Nat.le_succ _) b o h).symm)
      have hto0:=Lib.hid (hto.keep (w':=W0) (Nat.le_refl _) fun b o h=>(keepB (B:=w.heap.size) hbo (Nat.le_succ _) b o h).symm)
      have hfl:(fulls (c.boxes.take (k+1)))=fulls (c.boxes.take k)++fullsB x:=by rw [take_snoc hx,fulls_snoc]
      have hle:(fulls (c.boxes.take (k+1))).length≤(fulls c.boxes).length:=by
        have h1:c.boxes=c.boxes.take (k+1)++c.boxes.drop (k+1):=(List.take_append_drop _ _).symm
        conv=>rhs;rw [h1]
        unfold fulls
        rw [List.flatMap_append,List.length_append]
        omega
      rw [hfl,List.length_append] at hle
      have hfb:(fullsB x).length=x.ins.length+x.outs.length:=by simp [fullsB]
      obtain ⟨wa,hwa⟩:∃ wa,wo.alloc (boxO (.string x.name) (.slice Ai x.ins.length ci) (.slice Ao x.outs.length co) (.slice Ag x.guards.length cg) (.slice Ar x.rules.length cr) (.slice Aw x.owns.length cw) (.slice Au x.routes.length cu))=wa:=⟨_,rfl⟩
      have hXa:wa.heap[wo.heap.size]?=some (boxO (.string x.name) (.slice Ai x.ins.length ci) (.slice Ao x.outs.length co) (.slice Ag x.guards.length cg) (.slice Ar x.rules.length cr) (.slice Aw x.owns.length cw) (.slice Au x.routes.length cu)):=by rw [← hwa];exact heap_alloc_new wo _
      have hNa:Num w.heap.size W0 wa p (firstFrom noTab 0 (fulls (c.boxes.take k))):=⟨AA,cA,by rw [← hwa];exact hN.alloc _⟩
      have c1:=Lib.hid (m_put w.heap.size W0 wa p _ k c.boxes.length capb b off x.name x.ins _ true hNa hbz.out hti0.out (by omega) x4 hlt hcb hcapb.1 hbb n0 hxn)
      have c2:=Lib.hid fun W f' q (hq:Num w.heap.size W0 W q f') (hl:q.length+x.outs.length≤1000)=>m_put w.heap.size W0 W q f' k c.boxes.length capb b off x.name x.outs _ false hq hbz.out hto0.out hl x4 hlt hcb hcapb.1 hbb n0 hxn
      obtain ⟨_,r1,r2,_,_,_,_⟩:=cells7 hXa
      have hl1:p.length+x.ins.length+x.outs.length≤1000:=by omega
      have hF:Hid (p.map (·.2)=(fulls (c.boxes.take k)).map (·.2)):=Lib.hid hp2
      have hpl':=Lib.hid hpl
      replace hfl:=Lib.hid hfl
      clear hS hN hbo hBw hj hc hx hti hto hNa hp2 hpl n0 hle hfb
      have h1000:(p++x.ins.map fun _=>(k,true)).length+x.outs.length≤1000:=by rw [List.length_append,List.length_map];omega
      go_wp2_with (first
        | (go_at_call 98;refine (c2.out _ _ _ hN6.out h1000).mono ?_;rintro e w7 ⟨⟨u7,rfl⟩,_,hN7⟩;have hN8:=Lib.hid hN7;clear hN7 hN6)
        | (go_at_call 98;refine c1.out.mono ?_;rintro e w5 ⟨⟨u5,rfl⟩,hK5,hN5⟩;have hX5:=hK5 wo.heap.size _ _ _ (by omega) (by decide) hXa;obtain ⟨_,_,q2,_,_,_,_⟩:=cells7 hX5;have hN6:=Lib.hid hN5;clear hK5 hN5 hX5 c1))
      go_roundw
      case rel=>
        refine ⟨k+1,by omega,by go_num,Lib.hid ⟨(p++x.ins.map fun _=>(k,true))++x.outs.map fun _=>(k,false),?_,?_⟩⟩
        · rw [hfl.out,List.map_append,List.map_append,List.map_append,hF.out]
          simp [fullsB,Function.comp_def]
        · have h8:=hN8.out
          rw [List.length_append,List.length_map,hpl'.out] at h8
          rw [hfl.out,firstFrom_app,fullsB,firstFrom_app,Nat.zero_add,List.length_map]
          exact h8
      case measure=>simp [intOf];omega
    · have hkl:c.boxes.take k=c.boxes:=List.take_of_length_le (by omega)
      rw [hkl] at hp2 hSn
      obtain ⟨AA,cA,hN⟩:=hSn
      have l1:wo.cell? ⟨w.heap.size+1,0,none⟩=some (.slice AA p.length cA):=cell_of_one hN.l
      have l3:wo.cell? ⟨w.heap.size+3,0,none⟩=some (.map (some (w.heap.size+2))):=cell_of_one hN.n
      have hF:Hid (∀ n,NumPost c w (.returned (.tuple #[.slice AA p.length cA, .map (some (w.heap.size+2))])) (wo.drewN n)):=Lib.hid fun n=>by
        have hbd:=below_drewN (Below.refl wo.heap.size wo) n
        refine ⟨AA,cA,p,rfl,hp2,?_,hN.m.below hbd hN.m.lt,(hb0.out.trans (hN.b.mono (Nat.le_succ _))).trans (hbd.mono (by have:=hN.lt;omega))⟩
        obtain ⟨h1,h2|⟨g,c',cur,hv,hb,hg,hr⟩⟩:=hN.r
        · exact ⟨h1, .inl h2⟩
        · exact ⟨h1, .inr ⟨g,c',cur,hv,hb,(hbd.block _ (Array.getElem?_eq_some_iff.1 hg).1).trans hg,hr⟩⟩
      clear hS hN hp2 hpl
      go_upto_region 10 with fail
      go_quiet (fail)
      go_wp2_with fail
      go_ret2
      exact hF.out _
theorem firstFrom_lt : ∀ (l : List (ByteArray × Bool)) (f : Tab) (k : Nat) (M : Int), (∀ s c, f s = some c → 0 ≤ c ∧ c < M) → (k : Int) + l.length ≤ M → ∀ s c, firstFrom f k l s = some c → 0 ≤ c ∧ c < M
  | [],f,k,M,h,_=>h
  | x :: r, f, k, M, h, hM => by
    rw [List.length_cons] at hM
    refine firstFrom_lt r (addT f x.1 k) (k+1) M (fun s c hc=>?_) (by omega)
    unfold addT at hc
    split at hc
    · exact h s c hc
    · unfold upd at hc
      split at hc
      · injection hc with hc
        omega
      · exact h s c hc
theorem numsT_lt {c:ConfS}{s:ByteArray}{k:Int}(h:numsT c s=some k):0≤k∧k<((fulls c.boxes).length:Int):=
  firstFrom_lt _ _ 0 _ (fun _ _ h=>by cases h) (by omega) s k h
structure LinkW (w:World)(Lb Nb mb base:Nat)(A:Option Addr)(cap n:Nat)(p:List (Nat×Bool))(f:Tab):Prop where
  l:w.cell? ⟨Lb,0,none⟩=some (.slice A p.length cap)
  q:w.cell? ⟨Nb,0,none⟩=some (.map (some mb))
  r:w.ownsRow base 110 2 (.slice A p.length cap) p.length (placesV p)
  m:MapIs w mb n f
  hf:∀ s k,f s=some k→0≤k∧k<(p.length:Int)
theorem LinkW.keep {w w':World}{Lb Nb mb base cap n:Nat}{A:Option Addr}{p:List (Nat×Bool)}{f:Tab}(h:LinkW w Lb Nb mb base A cap n p f){b:Nat}(hb:∀ g,g<b→w'.heap[g]?=w.heap[g]?)(h1:Lb<b)(h2:Nb<b)(h3:mb<b)(h4:∀ g,A=some ⟨g,0,none⟩→g<b):LinkW w' Lb Nb mb base A cap n p f where
  l:=by rw [← h.l];unfold World.cell?;simp only [hb _ h1]
  q:=by rw [← h.q];unfold World.cell?;simp only [hb _ h2]
  r := by
    obtain ⟨k1,k2|⟨g,c',cur,hv,hbg,hg,hr⟩⟩:=h.r
    · exact ⟨k1, .inl k2⟩
    · injection hv with hA hl hc
      subst hA hc
      exact ⟨k1, .inr ⟨g,_,cur,rfl,hbg,(hb _ (h4 g rfl)).trans hg,hr⟩⟩
  m := by
    obtain ⟨D,⟨es,clock,k1,k2,k3,k4⟩,t⟩:=h.m
    exact ⟨D,⟨es,clock,(hb _ h3).trans k1,k2,k3,k4⟩,t⟩
  hf:=h.hf
theorem LinkW.at_ {w:World}{Lb Nb mb base cap n:Nat}{A:Option Addr}{p:List (Nat×Bool)}{f:Tab}(h:LinkW w Lb Nb mb base A cap n p f){k:Nat}(hk:k<p.length):∃ g,A=some ⟨g,0,none⟩∧∃ x,p[k]?=some x∧w.cell? ⟨g,k*2+1,none⟩=some (.bool x.2):=by
  obtain ⟨k1,k2⟩:=h.r
  rcases k2 with ⟨_,h0⟩|⟨g,c',cur,hv,hr⟩
  · omega
  · injection hv with hA hl hc
    refine ⟨g,hA,p[k],List.getElem?_eq_getElem hk,?_⟩
    have hadd:(⟨g,0,none⟩:Addr).add (k*2+1)=⟨g,k*2+1,none⟩:=by unfold Addr.add;split<;>simp_all
    rw [← hadd]
    have h':=h.r
    rw [hA] at h'
    refine World.ownsRow.cells h' (g:=g) rfl _ _ ?_
    exact flatten_at 2 _ (fun c hc=>by obtain ⟨f,_,rfl⟩:=List.mem_map.1 hc;rfl) k 1 (placeC p[k]) _ (by simp [List.getElem?_eq_getElem hk]) rfl
theorem inAt_is {c:ConfS}{p:List (Nat×Bool)}(h:p.map (·.2)=(fulls c.boxes).map (·.2)){k:Nat}{x:Nat×Bool}(hx:p[k]?=some x):inAt (fulls c.boxes) (k:Int)=x.2:=by
  have h1:(p.map (·.2))[k]?=some x.2:=by rw [List.getElem?_map,hx];rfl
  rw [h,List.getElem?_map] at h1
  unfold inAt
  rw [Int.toNat_natCast]
  cases hy:(fulls c.boxes)[k]? with
  | none=>rw [hy] at h1;cases h1
  | some y=>rw [hy] at h1;injection h1
set_option maxHeartbeats 2000000 in
theorem k_side (c:ConfS)(Lb Nb mb base cap n:Nat)(A:Option Addr)(p:List (Nat×Bool))(f:Tab)(s:ByteArray)(inn:Bool)(w:World)(h:LinkW w Lb Nb mb base A cap n p f)(hp:p.map (·.2)=(fulls c.boxes).map (·.2))(hs:s.size≤1000000000000000)(hcap:p.length≤cap∧cap≤9223372036854775807) :
    Calls Tryz.prog 61 #[.string s, .bool inn, .pointer (some ⟨Nb,0,none⟩), .pointer (some ⟨Lb,0,none⟩)] w (CodePost (sideN f (fulls c.boxes) s inn) w):=by
  have hl:=h.l
  have hn:=h.q
  have hM:=Lib.hid h.m
  have hb:=Lib.hid (Below.refl w.heap.size w)
  obtain ⟨hc1,hc2⟩:=hcap
  cases hf:f s with
  | none =>
    have H:=Lib.hid (show sideN f (fulls c.boxes) s inn=false by unfold sideN;rw [hf])
    have hf:=Lib.hid hf
    clear h
    go_enter Tryz.func61,Tryz.ntmps61
    go_wp2_with (at_lookup;refine map_look hM.out rfl _ _ rfl rfl s rfl hs ?_;intro c _;rw [hf.out])
    go_ret
    exact code_bad H.out (by decide) hb.out
  | some kk =>
    obtain ⟨h0,h1⟩:=h.hf s kk hf
    obtain ⟨k,rfl⟩:∃ k:Nat,kk=k:=⟨kk.toNat,by omega⟩
    obtain ⟨g,hA,x,hx,e1⟩:=h.at_ (k:=k) (by omega)
    subst hA
    have hin:=inAt_is hp hx
    have H:=Lib.hid (show sideN f (fulls c.boxes) s inn=(x.2 == inn) by unfold sideN;rw [hf];show (inAt _ _ == inn)=_;rw [hin])
    have hf:=Lib.hid hf
    clear h hx hin
    have hlk:k<p.length:=by omega
    clear h0 h1
    generalize x.2=xi at *
    cases xi<;>cases inn
    all_goals
      go_enter Tryz.func61,Tryz.ntmps61
      go_wp2_with (at_lookup;refine map_look hM.out rfl _ _ rfl rfl s rfl hs ?_;intro c hc;obtain rfl:=hc k hf.out;clear hc;rw [hf.out])
      go_ret
      first|exact code_ok (by rw [H.out];rfl) hb.out|exact code_bad (by rw [H.out];rfl) (by decide) hb.out
end Go.Proofs.YtdhehcobnbcmdaaGreatDoor
