/- Walks: reachref9.Valid. -/
import Derived.Test.YtjokciofeicdkaaGreatDoorRef2
import Derived.Test.YtjokciofeicdkaaGreatDoorRef3
import Derived.Test.YtjokciofeicdkaaGreatDoorRef5
namespace Go.Proofs.YtjokciofeicdkaaGreatDoor
open Go.RowKit

/-- What Valid tells. -/
def codeS (b : Bool) : Int := if b then 0 else 90
/-- The numbers' limits. -/
def limS (n : NetS) : Bool := decide (n.bits < 1) || decide (n.bits > 256) || decide (n.tables.length > 16) || decide (n.ports.length > 48) || decide (n.guards.length ≠ n.ports.length)
theorem validS_lim (n : NetS) (h : limS n = true) : validS n = false := by
  unfold validS; unfold limS at h; rw [h]; rfl
theorem validS_in (n : NetS) (h : limS n = false) : validS n = (portsFrom n 0 n.ports && guardsOk n && tablesOk n) := by
  unfold validS; unfold limS at h; rw [h, Bool.not_false, Bool.true_and]

set_option maxHeartbeats 2000000 in
set_option maxRecDepth 100000 in
theorem refValid_any (n : NetS) (v : Value) (B : Nat) (w : World) (hn : NetAt w B v n) (hB : B ≤ w.heap.size) :
    Calls Tryz.prog 7 #[v] w fun e w' => e = .returned (.int .i64 (codeS (validS n))) ∧ Below w.heap.size w w' := by
  obtain ⟨vp, vt, vg, rfl, hp, ht, hg⟩ := hn
  have hI := Lib.hid (NetIn.mk_box hp ht hg hB)
  have hb0 := Lib.hid ((Below.refl w.heap.size w).alloc (Nat.le_refl _) (.cells #[.int .i64 n.bits, vp, vt, vg] 26 (0, 0)))
  obtain ⟨A1, cap1, rfl, hcl1, hcap1⟩ := SlOf.form hp
  obtain ⟨A2, cap2, rfl, hcl2, hcap2⟩ := SlOf.form ht
  obtain ⟨A3, cap3, rfl, hcl3, hcap3⟩ := SlOf.form hg
  clear hp ht hg
  cases hL : limS n
  · have HV := Lib.hid (validS_in n hL)
    have l1 : ¬ n.bits < 1 ∧ ¬ n.bits > 256 ∧ ¬ n.tables.length > 16 ∧ ¬ n.ports.length > 48 ∧ n.guards.length = n.ports.length := by
      unfold limS at hL; simp only [Bool.or_eq_false_iff, decide_eq_false_iff_not, Decidable.not_not] at hL; omega
    obtain ⟨l1, l2, l3, l4, l5⟩ := l1
    have l3' : ¬ (n.tables.length : Int) > 16 := by omega
    have l4' : ¬ (n.ports.length : Int) > 48 := by omega
    have hl3 := Lib.hid l3
    have hl4 := Lib.hid l4
    have hl5 := Lib.hid l5
    have l5' : ((n.guards.length : Int) != (n.ports.length : Int)) = false := by simp [l5]
    have c1 : Hid (∀ W', Below (w.heap.size + 1) (w.alloc (.cells #[.int .i64 n.bits, .slice A1 n.ports.length cap1, .slice A2 n.tables.length cap2, .slice A3 n.guards.length cap3] 26 (0, 0))) W' →
        Calls Tryz.prog 18 #[.agg #[.int .i64 n.bits, .slice A1 n.ports.length cap1, .slice A2 n.tables.length cap2, .slice A3 n.guards.length cap3]] W' fun e w' => e = .returned (.bool (portsFrom n 0 n.ports)) ∧ Below W'.heap.size W' w') :=
      Lib.hid fun W' h => portsRight_any n _ _ W' ((hI.out.below h).net) (by have := h.size; simpa using this)
    have c2 : Hid (∀ W', Below (w.heap.size + 1) (w.alloc (.cells #[.int .i64 n.bits, .slice A1 n.ports.length cap1, .slice A2 n.tables.length cap2, .slice A3 n.guards.length cap3] 26 (0, 0))) W' →
        Calls Tryz.prog 19 #[.agg #[.int .i64 n.bits, .slice A1 n.ports.length cap1, .slice A2 n.tables.length cap2, .slice A3 n.guards.length cap3]] W' fun e w' => e = .returned (.bool (guardsOk n)) ∧ Below W'.heap.size W' w') :=
      Lib.hid fun W' h => guardsRight_any n _ _ W' ((hI.out.below h).net) (by have := h.size; simpa using this) (by have := hl4.out; have := hl5.out; omega)
    have c3 : Hid (∀ W', Below (w.heap.size + 1) (w.alloc (.cells #[.int .i64 n.bits, .slice A1 n.ports.length cap1, .slice A2 n.tables.length cap2, .slice A3 n.guards.length cap3] 26 (0, 0))) W' →
        Calls Tryz.prog 20 #[.agg #[.int .i64 n.bits, .slice A1 n.ports.length cap1, .slice A2 n.tables.length cap2, .slice A3 n.guards.length cap3]] W' fun e w' => e = .returned (.bool (tablesOk n)) ∧ Below W'.heap.size W' w') :=
      Lib.hid fun W' h => tablesRight_any n _ _ W' ((hI.out.below h).net) (by have := h.size; simpa using this) (by have := hl3.out; omega)
    clear l3 l4 l5 hL
    generalize portsFrom n 0 n.ports = r1 at *
    generalize guardsOk n = r2 at *
    generalize tablesOk n = r3 at *
    go_enter Tryz.func7, Tryz.ntmps7
    go_wp2_with fail
    refine (c1.out _ (Below.refl _ _)).mono ?_
    rintro e w1 ⟨rfl, hb1⟩
    have hb1 := hb1.mono (show w.heap.size + 1 ≤ _ by simp)
    have hI1 := hI.out.below hb1
    have q0 := hI1.c0
    have q1 := hI1.c1
    have q2 := hI1.c2
    have q3 := hI1.c3
    have hO1 := Lib.hid (hb0.out.trans (hb1.mono (by omega)))
    have hb1 := Lib.hid hb1
    clear c1 hI1
    cases r1
    · have HF : Hid (validS n = false) := Lib.hid (by rw [HV.out]; rfl)
      clear HV
      go_wp2_with fail
      go_ret
      exact ⟨ret_int (by rw [HF.out]; rfl), hO1.out⟩
    go_wp2_with fail
    refine (c2.out _ hb1.out).mono ?_
    rintro e w2 ⟨rfl, hb2⟩
    have hb2 := hb1.out.trans (hb2.mono (show w.heap.size + 1 ≤ _ by have := hb1.out.size; simpa using this))
    have hI1 := hI.out.below hb2
    clear q0 q1 q2 q3
    have q0 := hI1.c0
    have q1 := hI1.c1
    have q2 := hI1.c2
    have q3 := hI1.c3
    have hO1 := Lib.hid (hb0.out.trans (hb2.mono (by omega)))
    have hb2 := Lib.hid hb2
    clear c2 hI1
    cases r2
    · have HF : Hid (validS n = false) := Lib.hid (by rw [HV.out]; rfl)
      clear HV
      go_wp2_with fail
      go_ret
      exact ⟨ret_int (by rw [HF.out]; rfl), hO1.out⟩
    go_wp2_with fail
    refine (c3.out _ hb2.out).mono ?_
    rintro e w3 ⟨rfl, hb3⟩
    have hO1 := Lib.hid (hO1.out.trans (hb3.mono (show w.heap.size ≤ _ by have := hb2.out.size; simp at this; omega)))
    clear c3 q0 q1 q2 q3
    cases r3
    · have HF : Hid (validS n = false) := Lib.hid (by rw [HV.out]; rfl)
      clear HV
      go_wp2_with fail
      go_ret
      exact ⟨ret_int (by rw [HF.out]; rfl), hO1.out⟩
    · have HF : Hid (validS n = true) := Lib.hid (by rw [HV.out]; rfl)
      clear HV
      go_wp2_with fail
      go_ret
      exact ⟨ret_int (by rw [HF.out]; rfl), hO1.out⟩
  · have HV := Lib.hid (validS_lim n hL)
    have hL := Lib.hid hL
    have q0 := hI.out.c0
    have hcase : n.bits < 1 ∨ (¬ n.bits < 1 ∧ n.bits > 256) ∨ (¬ n.bits < 1 ∧ ¬ n.bits > 256 ∧ (n.tables.length : Int) > 16) ∨ (¬ n.bits < 1 ∧ ¬ n.bits > 256 ∧ ¬ (n.tables.length : Int) > 16 ∧ (n.ports.length : Int) > 48) ∨
        (¬ n.bits < 1 ∧ ¬ n.bits > 256 ∧ ¬ (n.tables.length : Int) > 16 ∧ ¬ (n.ports.length : Int) > 48 ∧ ((n.guards.length : Int) != (n.ports.length : Int)) = true) := by
      have := hL.out; unfold limS at this; simp only [Bool.or_eq_true, decide_eq_true_eq] at this
      simp only [bne_iff_ne, ne_eq]; omega
    clear q0 hI
    go_enter Tryz.func7, Tryz.ntmps7
    rcases hcase with h1 | ⟨h1, h2⟩ | ⟨h1, h2, h3⟩ | ⟨h1, h2, h3, h4⟩ | ⟨h1, h2, h3, h4, h5⟩
    all_goals
      go_wp2_with fail
      go_ret
      exact ⟨ret_int (by rw [HV.out]; rfl), hb0.out⟩
end Go.Proofs.YtjokciofeicdkaaGreatDoor
