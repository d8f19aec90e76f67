/- What the walks ask of the package variables, out of what the row lists and the world's shape. -/
import Derived.Test.YtjokciofeicdkaaGreatDoorNumS
import Derived.Test.YtjokciofeicdkaaGreatDoorRows
import Derived.Lib.LaidU8
import Derived.PinnedBridge
import Derived.OpenShut
import Derived.MakeChecks
import Derived.Stop.Joined
import Derived.Shelf.Vars
namespace Go.Proofs.YtjokciofeicdkaaGreatDoor
open Go.Lib Go.RowKit

section
variable {P : Program} {w : World}
theorem strings_of_array {H : Type} {enc : TypeId × Value → H} {base : Nat} {sp : Nat → Bool} {held : Bool} {fuel : Nat} {t e : TypeId} {n : Nat} {cs : List Value} {bs : List (List UInt8)} {p : List MemPlace} (ht : P.underlying t = some (.array n e)) (he : P.underlying e = some .string) (hc : P.cellsOf e = 1) (hct : P.cellsOf t = n)
    (h : DataW.trod enc P w base sp held fuel t cs = some (.agg (bs.map fun b => .lit (.string b)), p)) : cs = bs.map fun b => Value.string ⟨b.toArray⟩ := by
  obtain ⟨xs, m, _, ex, hl, hn, hel⟩ := DataW.trod_array ht h
  have e3 : (xs.map (·.1)) = bs.map fun b => (.lit (.string b) : DataW H) := (DataW.agg.inj (Prod.mk.inj ex).1).symm
  have hbl : bs.length = n := by have := congrArg List.length e3; simp at this; omega
  rw [hct] at hl
  refine List.ext_getElem? fun i => ?_
  by_cases hi : i < n
  · have hE := hel i hi
    rw [hc, Nat.mul_one, List.getElem?_eq_getElem (by omega)] at hE
    obtain ⟨s, e1, e2, _⟩ := DataW.trod_string he hE
    have e4 : (xs.map (·.1))[i]? = (bs.map fun b => (.lit (.string b) : DataW H))[i]? := by rw [e3]
    rw [List.getElem?_map, List.getElem?_map, List.getElem?_eq_getElem (by omega : i < xs.length), List.getElem?_eq_getElem (by omega : i < bs.length), e2] at e4
    simp only [Option.map_some, Option.some.injEq, DataW.lit.injEq, Lit.string.injEq] at e4
    have h0 : ((cs.drop i).take 1)[0]? = some (.string s) := by rw [e1]; rfl
    simp at h0
    rw [h0, List.getElem?_map, List.getElem?_eq_getElem (by omega : i < bs.length), ← e4]
    rfl
  · rw [List.getElem?_eq_none (by omega), List.getElem?_eq_none (by simp; omega)]
theorem iface_of_trod {H : Type} {enc : TypeId × Value → H} {base : Nat} {sp : Nat → Bool} {held : Bool} {fuel : Nat} {t : TypeId} {ms : Array (String × TypeId)} {cs : List Value} {x : DataW H × List MemPlace} (ht : P.underlying t = some (.interface ms)) (h : DataW.trod enc P w base sp held fuel t cs = some x) :
    ∃ ev, cs = [ev] ∧ (ev = .nilIface ∨ ∃ te pe, ev = .iface te pe) := by
  cases fuel with
  | zero => simp [DataW.trod] at h
  | succ m =>
    unfold DataW.trod at h
    rw [ht] at h
    split at h <;> simp_all
theorem var_heap {n : String} {g : Nat} {cs : Array Value} (hg : P.globalNamed n = some g) (h : w.var? P n = some cs) : ∃ t fr, w.heap[g]? = some (.cells cs t fr) := by
  unfold World.var? at h
  rw [hg] at h
  simp only [Option.bind_some] at h
  split at h
  · rename_i c t fr hh
    exact ⟨t, fr, by rw [hh, Option.some.inj h]⟩
  · cases h
end

theorem u8Extra : U8Extra Tryz.prog Tryz.lays260_ren where
  n3 := by kernel_rfl
  n4 := by kernel_rfl
  y3 := by kernel_rfl
  y4 := by kernel_rfl
  c5 := by kernel_rfl
  c119 := by kernel_rfl
  c138 := by kernel_rfl
theorem whiteExtra : WhiteExtra Tryz.prog Tryz.lays199_ren where
  n6 := by kernel_rfl
  y6 := by kernel_rfl
  c3 := by kernel_rfl
  c49 := by kernel_rfl
  c193 := by kernel_rfl
  c194 := by kernel_rfl
  c196 := by kernel_rfl
  c198 := by kernel_rfl

set_option maxRecDepth 100000 in
theorem env_of {W : World} (hL : laidMetH Tryz.prog Rows.lowerValidsRow.laid W) (hsh : W.ShapedOpen Tryz.prog) : Env W := by
  rw [MakeChecks.laidMetH_plain _ _ _ (by kernel_rfl)] at hL
  have r3 : VarReads Tryz.prog W "unicode/utf8.first" firstData := by
    rw [← Pinned.utf8First_eq]; exact laidMet.reads hL (by simp [Rows.lowerValidsRow, Rows.laid_unicode_utf8_first])
  have r4 : VarReads Tryz.prog W "unicode/utf8.acceptRanges" acceptData := by
    rw [show acceptData = Rows.laid_unicode_utf8_acceptRanges from by kernel_rfl]; exact laidMet.reads hL (by simp [Rows.lowerValidsRow])
  have r6 : VarReads Tryz.prog W "unicode.White_Space" whiteData := by
    rw [show whiteData = Rows.laid_unicode_White_Space from by kernel_rfl]; exact laidMet.reads hL (by simp [Rows.lowerValidsRow])
  have ra : VarReads Tryz.prog W "strings.asciiSpace" (tabData .u8 asciiSpaceTab) := by
    rw [show tabData .u8 asciiSpaceTab = Rows.laid_strings_asciiSpace from by kernel_rfl]; exact laidMet.reads hL (by simp [Rows.lowerValidsRow])
  have rs : VarReads Tryz.prog W "reach/scan.signs" Rows.laid_reach_scan_signs := laidMet.reads hL (by simp [Rows.lowerValidsRow])
  have re : VarReads Tryz.prog W "strconv.ErrSyntax" Rows.laid_strconv_ErrSyntax := laidMet.reads hL (by simp [Rows.lowerValidsRow])
  refine ⟨?_, ?_, utf8Tabs_of_reads Tryz.lays260 u8Extra r3 r4, whiteTab_of_reads Tryz.lays199 whiteExtra r6, ?_, ?_⟩
  · exact cell_of_shapedOpen_int (t := 3) (zero := #[.int .i64 0]) hsh (by decide +kernel) (by kernel_rfl) rfl (by kernel_rfl) (by kernel_rfl) Tryz.underlying3
  · obtain ⟨g, t, cs, fuel, p, hg, ht, hv, hd⟩ := re
    obtain rfl := Option.some.inj ((show Tryz.prog.globalNamed "strconv.ErrSyntax" = some 8 by kernel_rfl).symm.trans hg)
    obtain rfl := Option.some.inj ((show (Tryz.prog.globals[8]?).map (·.type) = some 210 by kernel_rfl).symm.trans ht)
    obtain ⟨ev, he, hk⟩ := iface_of_trod Tryz.underlying210 hd
    refine ⟨ev, ?_, hk⟩
    rw [World.var?_cell hg hv 0, ← Array.getElem?_toList, he]
    rfl
  · obtain ⟨g, t, cs, fuel, p, hg, ht, hv, hd⟩ := ra
    obtain rfl := Option.some.inj ((show (Tryz.prog.globals[1]?).map (·.type) = some 147 by kernel_rfl).symm.trans ((Option.some.inj ((show Tryz.prog.globalNamed "strings.asciiSpace" = some 1 by kernel_rfl).symm.trans hg)) ▸ ht))
    have hcs := cells_of_tab Tryz.underlying147 Tryz.underlying5 (by kernel_rfl) (by kernel_rfl) hd
    unfold TabIs
    rw [hv, ← hcs]
  · obtain ⟨g, t, cs, fuel, p, hg, ht, hv, hd⟩ := rs
    obtain rfl := Option.some.inj ((show Tryz.prog.globalNamed "reach/scan.signs" = some 2 by kernel_rfl).symm.trans hg)
    obtain rfl := Option.some.inj ((show (Tryz.prog.globals[2]?).map (·.type) = some 159 by kernel_rfl).symm.trans ht)
    have hcs := strings_of_array (bs := signsB.map fun b => b.data.toList) Tryz.underlying159 Tryz.underlying9 (by kernel_rfl) (by kernel_rfl) (p := p) (by rw [hd]; rfl)
    obtain ⟨ty, fr, hh⟩ := var_heap hg hv
    refine ⟨ty, fr, hh.trans ?_⟩
    have : cs = signsA := by
      apply Array.toList_inj.1
      rw [hcs]; rfl
    rw [this]
end Go.Proofs.YtjokciofeicdkaaGreatDoor
