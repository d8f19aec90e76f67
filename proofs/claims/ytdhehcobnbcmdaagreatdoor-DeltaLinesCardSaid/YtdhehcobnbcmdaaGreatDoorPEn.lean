/- A part of the proof of DeltaLines: EnvL. -/
import Derived.Test.YtdhehcobnbcmdaaGreatDoorPF1
import Derived.Test.YtdhehcobnbcmdaaGreatDoorRows
import Derived.Lib.LaidU8
import Derived.PinnedBridge
import Derived.OpenShut
import Derived.MakeChecks
import Derived.Stop.Joined
import Derived.Shelf.Vars
set_option linter.all false
namespace Go.Proofs.YtdhehcobnbcmdaaGreatDoor
open Go.Lib Go.RowKit
section
variable {P:Program} {w:World}
theorem strings_of_array {H:Type}{enc:TypeId×Value→H}{base:Nat}{sp:Nat→Bool}{held:Bool}{fuel:Nat}{t e:TypeId}{n:Nat}{cs:List Value}{bs:List (List UInt8)}{p:List MemPlace}(ht:P.underlying t=some (.array n e))(he:P.underlying e=some .string)(hc:P.cellsOf e=1)(hct:P.cellsOf t=n)
    (h:DataW.trod enc P w base sp held fuel t cs=some (.agg (bs.map fun b=>.lit (.string b)),p)):cs=bs.map fun b=>Value.string ⟨b.toArray⟩:=by
  obtain ⟨xs,m,_,ex,hl,hn,hel⟩:=DataW.trod_array ht h
  have e3:(xs.map (·.1))=bs.map fun b=>(.lit (.string b):DataW H):=(DataW.agg.inj (Prod.mk.inj ex).1).symm
  have hbl:bs.length=n:=by have:=congrArg List.length e3;simp at this;omega
  rw [hct] at hl
  refine List.ext_getElem? fun i=>?_
  by_cases hi:i<n
  · have hE:=hel i hi
    rw [hc,Nat.mul_one,List.getElem?_eq_getElem (by omega)] at hE
    obtain ⟨s,e1,e2,_⟩:=DataW.trod_string he hE
    have e4:(xs.map (·.1))[i]?=(bs.map fun b=>(.lit (.string b):DataW H))[i]?:=by rw [e3]
    rw [List.getElem?_map,List.getElem?_map,List.getElem?_eq_getElem (by omega:i<xs.length),List.getElem?_eq_getElem (by omega:i<bs.length),e2] at e4
    simp only [Option.map_some,Option.some.injEq,DataW.lit.injEq,Lit.string.injEq] at e4
    have h0:((cs.drop i).take 1)[0]?=some (.string s):=by rw [e1];rfl
    simp at h0
    rw [h0,List.getElem?_map,List.getElem?_eq_getElem (by omega:i<bs.length),← e4]
    rfl
  · rw [List.getElem?_eq_none (by omega),List.getElem?_eq_none (by simp;omega)]
theorem iface_of_trod {H:Type}{enc:TypeId×Value→H}{base:Nat}{sp:Nat→Bool}{held:Bool}{fuel:Nat}{t:TypeId}{ms:Array (String×TypeId)}{cs:List Value}{x:DataW H×List MemPlace}(ht:P.underlying t=some (.interface ms))(h:DataW.trod enc P w base sp held fuel t cs=some x) :
    ∃ ev,cs=[ev]∧(ev=.nilIface∨∃ te pe,ev=.iface te pe):=by
  cases fuel with
  | zero=>simp [DataW.trod] at h
  | succ m =>
    unfold DataW.trod at h
    rw [ht] at h
    split at h<;>simp_all
theorem var_heap {n:String}{g:Nat}{cs:Array Value}(hg:P.globalNamed n=some g)(h:w.var? P n=some cs):∃ t fr,w.heap[g]?=some (.cells cs t fr):=by
  unfold World.var? at h
  rw [hg] at h
  simp only [Option.bind_some] at h
  split at h
  · rename_i c t fr hh
    exact ⟨t,fr,by rw [hh,Option.some.inj h]⟩
  · cases h
theorem bools_of_array {H:Type}{enc:TypeId×Value→H}{base:Nat}{sp:Nat→Bool}{held:Bool}{fuel:Nat}{t e:TypeId}{n k:Nat}{fs:Array Field}{cs:List Value}{bs:List (List Bool)}{p:List MemPlace}(ht:P.underlying t=some (.array n e))(he:P.underlying e=some (.struct fs))(hk:fs.size=k)
    (hf:∀ (j:Nat) (f:Field),fs[j]?=some f→f.offset=j∧P.cellsOf f.type=1∧P.underlying f.type=some .bool) (hc:P.cellsOf e=k) (hct:P.cellsOf t=n*k) (hbk:∀ r∈bs,r.length=k)
    (h:DataW.trod enc P w base sp held fuel t cs=some (.agg (bs.map fun r=>.agg (r.map fun b=>.lit (.bool b))),p)):∀ (i j:Nat) (r:List Bool) (b:Bool),bs[i]?=some r→r[j]?=some b→cs[i*k+j]?=some (.bool b):=by
  obtain ⟨xs,m,_,ex,hl,hn,hel⟩:=DataW.trod_array ht h
  have e3:(xs.map (·.1))=bs.map fun r=>(.agg (r.map fun b=>.lit (.bool b)):DataW H):=(DataW.agg.inj (Prod.mk.inj ex).1).symm
  have hbl:bs.length=n:=by have:=congrArg List.length e3;simp at this;omega
  intro i j r b hr hb
  have hi:i<n:=by have:=(List.getElem?_eq_some_iff.1 hr).1;omega
  have hE:=hel i hi
  rw [hc,List.getElem?_eq_getElem (by omega)] at hE
  obtain ⟨ys,m2,_,ey,hyl,hyn,hye⟩:=DataW.trod_struct he hE
  have e4:(xs.map (·.1))[i]?=some (.agg (r.map fun b=>.lit (.bool b))):=by rw [e3,List.getElem?_map,hr];rfl
  rw [List.getElem?_map,List.getElem?_eq_getElem (by omega:i<xs.length)] at e4
  have e5:(xs[i]'(by omega)).1=.agg (r.map fun b=>.lit (.bool b)):=by injection e4
  rw [ey] at e5
  have e6:ys.map (·.1)=r.map fun b=>(.lit (.bool b):DataW H):=DataW.agg.inj e5
  have hjk:j<k:=by have:=(List.getElem?_eq_some_iff.1 hb).1;have:=hbk r (List.mem_of_getElem? hr);omega
  obtain ⟨f1,f2,f3⟩:=hf j fs[j] (Array.getElem?_eq_getElem (by omega))
  have hY:=hye j fs[j] (Array.getElem?_eq_getElem (by omega))
  rw [f1,f2,List.getElem?_eq_getElem (by omega:j<ys.length)] at hY
  obtain ⟨b',h1,h2⟩:=DataW.trod_bool f3 hY
  have e7:(ys.map (·.1))[j]?=some (.lit (.bool b)):=by rw [e6,List.getElem?_map,hb];rfl
  rw [List.getElem?_map,List.getElem?_eq_getElem (by omega:j<ys.length)] at e7
  have e8:(ys[j]'(by omega)).1=.lit (.bool b):=by injection e7
  rw [h2] at e8
  have e9:b'=b:=by injection e8 with e8;injection e8
  subst e9
  have h0:((((cs.drop (i*k)).take k).drop j).take 1)[0]?=some (.bool b'):=by rw [h1];rfl
  rw [List.getElem?_take_of_lt (by omega),List.getElem?_drop,List.getElem?_take_of_lt (by omega),List.getElem?_drop] at h0
  simpa using h0
end
theorem u8Extra:U8Extra Tryz.prog Tryz.lays260_ren where
  n3:=by kernel_rfl
  n4:=by kernel_rfl
  y3:=by kernel_rfl
  y4:=by kernel_rfl
  c5:=by kernel_rfl
  c119:=by kernel_rfl
  c138:=by kernel_rfl
theorem whiteExtra:WhiteExtra Tryz.prog Tryz.lays199_ren where
  n6:=by kernel_rfl
  y6:=by kernel_rfl
  c3:=by kernel_rfl
  c49:=by kernel_rfl
  c193:=by kernel_rfl
  c194:=by kernel_rfl
  c196:=by kernel_rfl
  c198:=by kernel_rfl
def usedR:List (List Bool):=[[false,false,false,false],[true,false,false,false],[true,false,true,false],[true,true,false,false],[false,false,false,true]]
theorem tab_is {W:World}{n:String}{t e:TypeId}{g m:Nat}{k:IntKind}{zs:List Int}(r:VarReads Tryz.prog W n (tabData k zs))(hg0:Tryz.prog.globalNamed n=some g)(ht0:(Tryz.prog.globals[g]?).map (·.type)=some t)(h1:Tryz.prog.underlying t=some (.array m e))(h2:Tryz.prog.underlying e=some (.int k))(h3:Tryz.prog.cellsOf e=1)(h4:Tryz.prog.cellsOf t=m):TabIs Tryz.prog W n k zs:=by
  obtain ⟨g',t',cs,fuel,p,hg,ht,hv,hd⟩:=r
  obtain rfl:=Option.some.inj (hg0.symm.trans hg)
  obtain rfl:=Option.some.inj (ht0.symm.trans ht)
  have hcs:=cells_of_tab h1 h2 h3 h4 hd
  unfold TabIs
  rw [hv,← hcs]
set_option maxRecDepth 100000 in
theorem env_lines {W : World} (hL : laidMetH Tryz.prog Rows.deltaLinesRow.laid W) (hsh : W.ShapedOpen Tryz.prog) : Env W := by
  rw [MakeChecks.laidMetH_plain _ _ _ (by kernel_rfl)] at hL
  have r3 : VarReads Tryz.prog W "unicode/utf8.first" firstData := by
    rw [← Pinned.utf8First_eq];exact laidMet.reads hL (by simp [Rows.deltaLinesRow,Rows.laid_unicode_utf8_first])
  have r4 : VarReads Tryz.prog W "unicode/utf8.acceptRanges" acceptData := by
    rw [show acceptData=Rows.laid_unicode_utf8_acceptRanges from by kernel_rfl];exact laidMet.reads hL (by simp [Rows.deltaLinesRow])
  have r6 : VarReads Tryz.prog W "unicode.White_Space" whiteData := by
    rw [show whiteData=Rows.laid_unicode_White_Space from by kernel_rfl];exact laidMet.reads hL (by simp [Rows.deltaLinesRow])
  have ra : VarReads Tryz.prog W "strings.asciiSpace" (tabData .u8 asciiSpaceTab) := by
    rw [show tabData .u8 asciiSpaceTab=Rows.laid_strings_asciiSpace from by kernel_rfl];exact laidMet.reads hL (by simp [Rows.deltaLinesRow])
  have rp : VarReads Tryz.prog W "internal/strconv.uint64pow10" (tabData .u64 pow10Tab) := by
    rw [show tabData .u64 pow10Tab=Rows.laid_internal_strconv_uint64pow10 from by kernel_rfl];exact laidMet.reads hL (by simp [Rows.deltaLinesRow])
  have rs : VarReads Tryz.prog W "reach/scan.signs" Rows.laid_reach_scan_signs := laidMet.reads hL (by simp [Rows.deltaLinesRow])
  have ru : VarReads Tryz.prog W "reach/field.used" Rows.laid_reach_field_used := laidMet.reads hL (by simp [Rows.deltaLinesRow])
  have re : VarReads Tryz.prog W "strconv.ErrSyntax" Rows.laid_strconv_ErrSyntax := laidMet.reads hL (by simp [Rows.deltaLinesRow])
  refine ⟨?_,?_,utf8Tabs_of_reads Tryz.lays260 u8Extra r3 r4,?_,?_,tab_is rp (g:=2) (t:=218) (e:=184) (by kernel_rfl) (by kernel_rfl) Tryz.underlying218 Tryz.underlying184 (by kernel_rfl) (by kernel_rfl),tab_is ra (g:=0) (t:=144) (e:=5) (by kernel_rfl) (by kernel_rfl) Tryz.underlying144 Tryz.underlying5 (by kernel_rfl) (by kernel_rfl),whiteTab_of_reads Tryz.lays199 whiteExtra r6⟩
  · exact cell_of_shapedOpen_int (t:=3) (zero:=#[.int .i64 0]) hsh (by decide +kernel) (by kernel_rfl) rfl (by kernel_rfl) (by kernel_rfl) Tryz.underlying3
  · obtain ⟨g,t,cs,fuel,p,hg,ht,hv,hd⟩:=re
    obtain rfl := Option.some.inj ((show Tryz.prog.globalNamed "strconv.ErrSyntax" = some 10 by kernel_rfl).symm.trans hg)
    obtain rfl:=Option.some.inj ((show (Tryz.prog.globals[10]?).map (·.type)=some 158 by kernel_rfl).symm.trans ht)
    obtain ⟨ev,he,hk⟩:=iface_of_trod Tryz.underlying158 hd
    refine ⟨ev,?_,hk⟩
    rw [World.var?_cell hg hv 0,← Array.getElem?_toList,he]
    rfl
  · obtain ⟨g,t,cs,fuel,p,hg,ht,hv,hd⟩:=rs
    obtain rfl := Option.some.inj ((show Tryz.prog.globalNamed "reach/scan.signs" = some 9 by kernel_rfl).symm.trans hg)
    obtain rfl:=Option.some.inj ((show (Tryz.prog.globals[9]?).map (·.type)=some 322 by kernel_rfl).symm.trans ht)
    have hcs:=strings_of_array (bs:=signsB.map fun b=>b.data.toList) Tryz.underlying322 Tryz.underlying9 (by kernel_rfl) (by kernel_rfl) (p:=p) (by rw [hd];rfl)
    obtain ⟨ty,fr,hh⟩:=var_heap hg hv
    refine ⟨ty,fr,hh.trans ?_⟩
    have:cs=signsA:=by
      apply Array.toList_inj.1
      rw [hcs];rfl
    rw [this]
  · obtain ⟨g,t,cs,fuel,p,hg,ht,hv,hd⟩:=ru
    obtain rfl := Option.some.inj ((show Tryz.prog.globalNamed "reach/field.used" = some 6 by kernel_rfl).symm.trans hg)
    obtain rfl:=Option.some.inj ((show (Tryz.prog.globals[6]?).map (·.type)=some 257 by kernel_rfl).symm.trans ht)
    have hcs:=bools_of_array (bs:=usedR) (k:=4) (p:=p) Tryz.underlying257 Tryz.underlying256 rfl (fun j f hj=>by
      match j,hj with
      | 0,hj=>injection hj with hj;subst hj;exact ⟨rfl,by kernel_rfl,Tryz.underlying4⟩
      | 1,hj=>injection hj with hj;subst hj;exact ⟨rfl,by kernel_rfl,Tryz.underlying4⟩
      | 2,hj=>injection hj with hj;subst hj;exact ⟨rfl,by kernel_rfl,Tryz.underlying4⟩
      | 3,hj=>injection hj with hj;subst hj;exact ⟨rfl,by kernel_rfl,Tryz.underlying4⟩
      | j+4,hj=>simp at hj) (by kernel_rfl) (by kernel_rfl) (by decide) (by rw [hd];rfl)
    have hl:cs.toList.length=20:=by
      obtain ⟨xs,m,_,_,hl,_⟩:=DataW.trod_array Tryz.underlying257 hd
      exact hl.trans (by kernel_rfl)
    obtain ⟨ty,fr,hh⟩:=var_heap hg hv
    refine ⟨ty,fr,hh.trans ?_⟩
    have:cs=usedA:=by
      apply Array.toList_inj.1
      apply List.ext_getElem?
      intro q
      by_cases hq:q<20
      · have hr:∃ r b,usedR[q / 4]?=some r∧r[q % 4]?=some b∧usedA.toList[q]?=some (.bool b):=by
          have h20:∀ q:Fin 20,(usedR[q.val / 4]?).bind (fun r=>r[q.val % 4]?)=usedL[q.val]?:=by decide
          have h:=h20 ⟨q,hq⟩
          have h3:usedL[q]?=some (usedL[q]'hq):=List.getElem?_eq_getElem hq
          rw [h3,Option.bind_eq_some_iff] at h
          obtain ⟨r,h1,h2⟩:=h
          refine ⟨r,_,h1,h2,?_⟩
          show (usedL.map Value.bool)[q]?=_
          rw [List.getElem?_map,h3]
          rfl
        obtain ⟨r,b,h1,h2,h3⟩:=hr
        have:=hcs (q / 4) (q % 4) r b h1 h2
        rw [show q / 4*4+q % 4=q by omega] at this
        rw [this,h3]
      · rw [List.getElem?_eq_none (by omega),List.getElem?_eq_none (by show 20≤q;omega)]
    rw [this]
end Go.Proofs.YtdhehcobnbcmdaaGreatDoor
