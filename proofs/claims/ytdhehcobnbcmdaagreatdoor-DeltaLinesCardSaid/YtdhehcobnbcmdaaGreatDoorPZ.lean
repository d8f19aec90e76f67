/- The row of DeltaLines, proved: the law of reach/reachlaw16 says true of every two configurations that it reads, and what it read reads as it did; in worlds in which the package variables of the card stand as the program's text lays them. -/
import Derived.Test.YtdhehcobnbcmdaaGreatDoorPLF
import Derived.Test.YtdhehcobnbcmdaaGreatDoorPEn
import Derived.Test.YtdhehcobnbcmdaaGreatDoorPOp
import Derived.Test.YtdhehcobnbcmdaaGreatDoorPFa
import Derived.HandedShaped
import Derived.ProofKit
import Derived.OpenShut
import Derived.LaidMore
import Derived.Lay
import Derived.Carry
import Derived.SevenTiedAt
import Derived.Stop.Joined
import Derived.Test.YtdhehcobnbcmdaaGreatDoorCards
import Derived.Test.YtdhehcobnbcmdaaGreatDoorTie
set_option linter.all false
namespace Go.Proofs.YtdhehcobnbcmdaaGreatDoor
open Go.ChangeShapes Go.WideShapes Go.ChangeAt Go.RowKit
theorem handed_all {H:Type}{enc:TypeId×Value→H}{a:Assume}{C:Checked}{os:Os}{f:FuncId}{fn:Func}{s:ChangeSpec}{conds:List PathCond}{apart fresh handsOn again:Bool}{X:World→Array Value→Prop}
    (hX:∀ (w w':World) (args:Array Value),w.heap=w'.heap→X w args→X w' args)
    (own:ownKnob C.prog.godebug=none) (started:os.Started) (noInit:C.prog.inits.idxOf? f=none) (hfn:C.prog.funcs[f]?=some fn)
    (witness:∃ (w:World) (tape:Tape) (i:Input),w.os=os∧(w.forCall tape i).Shaped C.prog∧i.vars=[]∧Input.okWide C.prog (w.forCall tape i) .any w.heap.size f i ∧
      ((s.pre enc C.prog fn conds apart (w.forCall tape i).memory i.args∧X (w.forCall tape i).memory i.args)∧sizedMet enc C.prog fn (OpenSpec.ofChange s) apart (w.forCall tape i).memory i.args)∧a.holds C.prog (lone (Frame.enter C.prog f i.args .normal) [] (w.forCall tape i)))
    (contract:∀ (W:World) (base:Nat) (args:Array Value) (ds gs:List (DataW H)) (before:List MemPlace),
      (∀ (j:Nat) t v,fn.params[j]?=some t→args[j]?=some v→Value.okWide C.prog W .any base t v) →
      DataW.Whole enc C.prog fn.params.toList s.vars apart W args.toList ds gs before →
      conds.all (PathCond.test C.prog ⟨fn.params.toList,ds,s.plain.varTypes C.prog,gs⟩)=true →
      (DataW.weightsEach C.prog (fn.params.toList++s.plain.varTypes C.prog) (ds++gs)).all (·≤reachBytes)=true→X W args→W.ShapedOpen C.prog →
      a.holds C.prog (lone (Frame.enter C.prog f args .normal) [] W) →
      Calls C.prog f args W fun e W'=>∃ v,e=.returned v∧s.post enc C.prog fn apart fresh handsOn again W args v W') :
    ReturnsInHanded a C os f .any (fun w args=>(s.pre enc C.prog fn conds apart w args∧X w args)∧sizedMet enc C.prog fn (OpenSpec.ofChange s) apart w args) (s.post enc C.prog fn apart fresh handsOn again):=by
  refine returnsInHanded_of_calls own started noInit witness ?_
  intro w tape i _ hsh _ hok hpre hholds
  obtain ⟨_,_,_,fn',hfn',_,_,_,_,hval⟩:=hok
  have e:fn'=fn:=Option.some.inj (hfn'.symm.trans hfn)
  subst e
  obtain ⟨⟨⟨ds,gs,before,hw,hc⟩,hx⟩,hz⟩:=hpre
  have hw':=DataW.Whole.of_heap (w':=w.forCall tape i) (by rfl) hw
  refine (contract (w.forCall tape i) w.heap.size i.args ds gs before hval hw' hc (hz.weights hw) (hX _ _ _ (by rfl) hx) hsh hholds).mono fun e W' ⟨v,he,hp⟩=>?_
  subst he
  exact ChangeSpec.post_blind hp
theorem own:ownKnob Tryz.prog.godebug=none:=by kernel_rfl
theorem laidOut:laidOutB Tryz.prog=true:=by kernel_rfl
set_option maxRecDepth 100000 in
theorem deltaLines_lifted (os:Os)(started:os.Started)(H:Type)(enc:TypeId×Value→H) :
    ReturnsInHanded {} Tryz.checked os 3 .any (fun w args=>(Rows.deltaLinesSpec.pre enc Tryz.prog Tryz.f3 Rows.deltaLinesRow.domain false w args∧laidMetH Tryz.prog Rows.deltaLinesRow.laid w)∧sizedMet enc Tryz.prog Tryz.f3 (OpenSpec.ofChange Rows.deltaLinesSpec) false w args)
      (Rows.deltaLinesSpec.post enc Tryz.prog Tryz.f3 false true false false):=by
  refine handed_all (C:=Tryz.checked) (X:=fun w _=>laidMetH Tryz.prog Rows.deltaLinesRow.laid w) (fun _ _ _ hh h=>h.of_heap hh) own started (by kernel_rfl) Tryz.func3
    (ChangeSpec.witness_shaped (enc:=enc) (C:=Tryz.checked) (os:=os) (X:=fun w _=>laidMetH Tryz.prog Rows.deltaLinesRow.laid w) false (World.laidAll Tryz.prog os Rows.deltaLinesRow.laid) #[.agg #[.string ⟨#[]⟩, .slice none 0 0, .string ⟨#[]⟩, .bool false, .slice none 0 0, .slice none 0 0, .slice none 0 0], .agg #[.string ⟨#[]⟩, .slice none 0 0, .string ⟨#[]⟩, .bool false, .slice none 0 0, .slice none 0 0, .slice none 0 0]] 8 (World.laidAll_os _ _ _)
      (World.shaped_of_ZipB (by kernel_rfl) (by kernel_rfl)) (by kernel_rfl) (by kernel_rfl) (by kernel_rfl)
      (by rw [MakeChecks.laidMetH_plain _ _ _ (by kernel_rfl)];exact laidMet_laidAll _ (by kernel_rfl) (by kernel_rfl))) ?_
  intro W base args ds gs before hval0 hW _ hz hL hsh _
  have hval:∀ (j:Nat) t v,Tryz.f3.params[j]?=some t→args[j]?=some v→Value.okWide Tryz.prog W .any base t v:=hval0
  have hW':=hW
  obtain ⟨p,q,hA0,hV,rfl,_,_⟩:=hW
  have hA:DataW.TrodAll enc Tryz.prog W 0 (fun _=>true) true Tryz.f3.params.toList args.toList ds p:=hA0
  rw [Tryz.params3] at hA hval
  obtain ⟨v0,v1,d0,d1,p0,p1,rfl,rfl,rfl,h0,h1⟩:=trodAll_two hA
  obtain ⟨rfl,rfl⟩:=trodVars_none hV
  clear hA0 hval0
  simp only [List.append_nil] at hW'
  have hlt:∀ x∈p0++p1,x.block<W.heap.size:=fun x hx=>by simpa using hW'.lt x hx
  have hargs:∀ (W':World) (v:Value) (d:DataW H) (pp:List MemPlace),DataW.Trod enc Tryz.prog W 0 (fun _=>true) true 27 v d pp→(∀ x∈pp,x.block<W.heap.size)→Below W.heap.size W W'→DataW.Trod enc Tryz.prog W' 0 (fun b=>decide (b<W.heap.size)) true 27 v d pp:=
    fun W' v d pp h hl hn=>Below.trod laidOut (by kernel_rfl) (of_decide_eq_true (by kernel_rfl)) h hn hl
  have hz':(DataW.weightsEach Tryz.prog [27,27] [d0,d1]).all (·≤reachBytes)=true:=hz
  obtain ⟨a,vf,vb,vl,vs,rfl,ha,wfa⟩:=conf_open (hval 0 27 v0 rfl rfl) h0 fun k hk=>by
    have:=List.all_eq_true.1 hz' k (DataW.weights_mem_each (j:=0) (t:=27) rfl rfl k hk)
    simpa using this
  obtain ⟨b,uf,ub,ul,us,rfl,hb,wfb⟩:=conf_open (hval 1 27 v1 rfl rfl) h1 fun k hk=>by
    have:=List.all_eq_true.1 hz' k (DataW.weights_mem_each (j:=1) (t:=27) rfl rfl k hk)
    simpa using this
  refine (law_lines a b vf vb vl vs uf ub ul us W ha hb (env_lines hL hsh) wfa wfb).mono fun e W' ⟨he,hbw⟩=>?_
  subst he
  exact ⟨_,rfl,⟨_,_,_,[],_,[],hW',trodAll_mk1 (shut_bool Tryz.underlying4 _),trodAll_mk2 (hargs _ _ _ _ h0 (fun x hx=>hlt x (List.mem_append_left _ hx)) hbw) (hargs _ _ _ _ h1 (fun x hx=>hlt x (List.mem_append_right _ hx)) hbw),rfl,hbw.frame _,fun h=>by cases h⟩⟩
theorem deltaLines_holds:Rows.DeltaLinesSaid:=
  OpenClaim.holds_of_wide 3 Tryz.f3 rfl rfl rfl rfl rfl rfl rfl ⟨rfl,rfl,rfl,rfl,rfl⟩ rfl rfl rfl rfl rfl fact_fn Tryz.func3 fact_all fact_inst fact_wrap
    (fun os started H enc _=>deltaLines_lifted os started H enc)
#print axioms deltaLines_holds
end Go.Proofs.YtdhehcobnbcmdaaGreatDoor
namespace Go.Proofs.YtdhehcobnbcmdaaGreatDoor
open Go
theorem deltaLines_card : Rows.DeltaLinesCardSaid :=
  Claim7.holds_tied_plain_at .later [] [.data, .data, .data, .data, .sentinel, .sentinel, .listed, .data, .data, .data, .pinned] true (true, "9e26e2f14c67464a77b84946bb5039bb58912b570083a1cb57bf7c96963d6539") true
    deltaLines_holds (fun _ h=>by cases h) (by kernel_rfl) (fun _ h=>by cases h) deltaLines_row_tie rfl ⟨rfl,rfl⟩ (by kernel_rfl) rfl
    (fun f fn hf hfn=>by
      obtain rfl : f = 3 := Option.some.inj ((show Tryz.prog.funcNamed "reach/reachlaw16.DeltaLines" = some 3 by kernel_rfl).symm.trans hf) |>.symm
      obtain rfl:fn=Tryz.f3:=(Option.some.inj (Tryz.func3.symm.trans hfn)).symm
      exact ⟨by kernel_rfl,fun j t ht=>by
        rw [Tryz.params3] at ht
        have hm:t∈[27,27]:=by simpa using Array.mem_of_getElem? ht
        have hall:([27,27].all fun u=>!Tryz.prog.wantsStandIn u)=true:=by kernel_rfl
        exact (show Tryz.prog.wantsStandIn t=false by simpa using List.all_eq_true.1 hall t hm)⟩)
    (by kernel_rfl)
#print axioms deltaLines_card
end Go.Proofs.YtdhehcobnbcmdaaGreatDoor
