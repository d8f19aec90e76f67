/- Walks: the program's validPorts. -/
import Derived.Test.YtjokciofeicdkaaGreatDoorToken
import Derived.Test.YtjokciofeicdkaaGreatDoorRef1
import Derived.Maps.OwnSet
namespace Go.Proofs.YtjokciofeicdkaaGreatDoor
open Go.RowKit Go.Maps

/-- What the map of names knows behind k ports. -/
structure MapS (D : DataW Unit) (l : List PortS) (k : Nat) : Prop where
  h1 : ∀ nm : ByteArray, Maps.has D (.string nm.data.toList) = (l.take k).any (fun q => decide (q.name = nm))
  h2 : ∀ (nm : ByteArray) (c : Int) (z : DataW Unit), Maps.has D (.string nm.data.toList) = true → D.atKey (.string nm.data.toList) z = .lit (.int .i64 c) → c < k
theorem MapS.zero (l : List PortS) : MapS (.map []) l 0 := ⟨fun _ => rfl, fun _ _ _ h => by cases h⟩
theorem str_ne {a b : ByteArray} (h : a ≠ b) : Lit.string a.data.toList ≠ Lit.string b.data.toList := fun e => h (WideShapes.bytes_inj (by injection e))
theorem MapS.put {D : DataW Unit} {l : List PortS} {k : Nat} {x : PortS} (h : MapS D l k) (hD : IsMap D) (hx : l[k]? = some x) :
    MapS (D.put (.string x.name.data.toList) (.lit (.int .i64 k))) l (k + 1) where
  h1 nm := by
    rw [List.take_add_one, hx, List.any_append, ← h.h1 nm]
    by_cases he : nm = x.name
    · subst he
      rw [Maps.has_put_same hD (show WideAt.IsKeyLit (.string _) from trivial)]; simp
    · rw [Maps.has_put_other (str_ne he)]
      simp [show ¬ x.name = nm from fun e => he e.symm]
  h2 nm c z hh ha := by
    by_cases he : nm = x.name
    · subst he
      rw [Maps.atKey_put_same hD (show WideAt.IsKeyLit (.string _) from trivial)] at ha
      injection ha with ha
      injection ha with _ ha
      omega
    · rw [Maps.has_put_other (str_ne he)] at hh
      rw [Maps.atKey_put_other (str_ne he)] at ha
      have := h.h2 nm c z hh ha
      omega
theorem lawStr : Keyed Tryz.prog 9 := string_keyed Tryz.underlying9
theorem zeroInt (w : World) : (zeroValue 3).run Tryz.prog w = .ok (.int .i64 0) w := by kernel_rfl
theorem keyStr {s : ByteArray} (hs : s.size ≤ 140737488355328) : keyOf Tryz.prog 9 (.string s) = some (.string s.data.toList) := WideMaps.keyOf_string_mk Tryz.underlying9 (by unfold maxLen; omega)
theorem below_grow {w w' : World} {b : Nat} (N : Nat) (h : w.grownBy w' (some b)) (hN : N ≤ w.heap.size) (hb : N ≤ b := by omega) : Below N w w' :=
  (Below.refl N w).grown h hN (fun k hk => by cases hk; exact hb)
theorem not_any {l : List PortS} (f : PortS → Bool) : l.all (fun q => !f q) = !l.any f := by
  induction l with
  | nil => rfl
  | cons a r ih => simp only [List.all_cons, List.any_cons, ih, Bool.not_or]

set_option maxHeartbeats 4000000 in
set_option maxRecDepth 100000 in
theorem validPorts_any (n : NetS) (v : Value) (B : Nat) (w : World) (hn : NetAt w B v n) (hB : B ≤ w.heap.size) (E : Env w) :
    Calls Tryz.prog 12 #[v] w fun e w' => e = .returned (.bool (portsFrom n 0 n.ports)) ∧ Below w.heap.size w w' := by
  obtain ⟨vp, vt, vg, rfl, hp, ht, hg⟩ := hn
  have hI := Lib.hid (NetIn.mk_box hp ht hg hB)
  have hb0 := Lib.hid ((Below.refl w.heap.size w).alloc (Nat.le_refl _) (.cells #[.int .i64 n.bits, vp, vt, vg] 26 (0, 0)))
  have hb1 := Lib.hid (Below.refl (w.heap.size + 1) (w.alloc (.cells #[.int .i64 n.bits, vp, vt, vg] 26 (0, 0))))
  obtain ⟨A, cap, rfl, hcl, hcap⟩ := SlOf.form hp
  obtain ⟨A2, cap2, rfl, hcl2, hcap2⟩ := SlOf.form ht
  have HR0 : Hid (portsFrom n 0 n.ports = portsFrom n 0 (n.ports.drop 0)) := Lib.hid rfl
  generalize portsFrom n 0 n.ports = R at *
  obtain ⟨W0, hW0⟩ : ∃ W0, w.alloc (.cells #[.int .i64 n.bits, .slice A n.ports.length cap, .slice A2 n.tables.length cap2, vg] 26 (0, 0)) = W0 := ⟨_, rfl⟩
  rw [hW0] at hI hb0 hb1
  have hz : Hid (W0.heap.size = w.heap.size + 1) := Lib.hid (by rw [← hW0]; simp)
  have hm0 : Hid ((W0.alloc (.map #[] 0)).ownsMap Tryz.prog 9 (plainElem (H := Unit) Tryz.prog 3) (w.heap.size + 1) 0 (.map [])) := Lib.hid (by
    have := World.ownsMap_made (H := Unit) W0 Tryz.prog 9 (plainElem Tryz.prog 3); rw [hz.out] at this; exact this)
  have hbm := Lib.hid (hb1.out.alloc (by rw [hz.out]; omega) (.map #[] 0))
  have hE := Lib.hid E
  have q10 := hI.out.c1
  have hmm := @run_makeMap Tryz.prog
  have hz' := hz.out
  have hlt0 : w.heap.size < W0.heap.size := by omega
  clear hp ht hg E
  go_enter Tryz.func12, Tryz.ntmps12
  go_wp2_with fail
  clear hW0 q10 hmm hz' hlt0
  go_loopw [4, 5, 6, 7, 12] (fun _ _ _ _ i wr => ∃ (k : Nat) (D : DataW Unit), k ≤ n.ports.length ∧ i = .int .i64 k ∧ Hid (R = portsFrom n k (n.ports.drop k)) ∧ Hid (Below (w.heap.size + 1) W0 wr) ∧
    Hid (wr.ownsMap Tryz.prog 9 (plainElem (H := Unit) Tryz.prog 3) (w.heap.size + 1) k D) ∧ Hid (MapS D n.ports k)) (fun _ _ _ _ i _ => n.ports.length - (intOf i).toNat)
  case atStart => exact ⟨0, _, Nat.zero_le _, rfl, HR0, hbm, hm0, Lib.hid (MapS.zero _)⟩
  case round =>
    obtain ⟨k, D, hk, rfl, HR, hbw, hown, hM⟩ := hrel
    clear HR0 hbm hm0
    have hN := Lib.hid (hI.out.below hbw.out)
    have hO := Lib.hid (hb0.out.trans (hbw.out.mono (by omega)))
    by_cases hlt : k < n.ports.length
    · obtain ⟨b, off, rfl⟩ := SlOf.addr hN.out.p (by omega)
      obtain ⟨hb, c, x, hx, ⟨hc, hxs⟩, hj⟩ := SlOf.el hN.out.p hlt
      subst hc
      have e0 : wr.cell? ⟨b, off + k * 4, none⟩ = some (.string x.name) := hj 0 _ rfl
      have e1 : wr.cell? ⟨b, off + k * 4 + 1, none⟩ = some (.int .i64 x.box) := hj 1 _ rfl
      have e2 : wr.cell? ⟨b, off + k * 4 + 2, none⟩ = some (.bool x.inn) := hj 2 _ rfl
      have e3 : wr.cell? ⟨b, off + k * 4 + 3, none⟩ = some (.int .i64 x.dest) := hj 3 _ rfl
      clear hj
      have HS : Hid (R = (portOk n k x && portsFrom n (k + 1) (n.ports.drop (k + 1)))) := Lib.hid (by rw [HR.out, drop_at hx]; rfl)
      clear HR
      have hhas0 := hM.out.h1 x.name
      have hlw : Hid (w.heap.size + 1 < wr.heap.size) := Lib.hid hown.out.lt
      cases hdup : (n.ports.take k).any (fun q => decide (q.name = x.name))
      · have hhas := Lib.hid (hhas0.trans hdup)
        have hal : Hid ((n.ports.take k).all (fun q => !decide (q.name = x.name)) = true) := Lib.hid (by rw [not_any, hdup]; rfl)
        clear hhas0 hdup
        have c1 : Hid (∀ w, Env w → Calls Tryz.prog 35 #[.string x.name] w fun e w' => e = .returned (.bool (fullS x.name)) ∧ Below w.heap.size w w') := Lib.hid fun w E => by
          have := token_any x.name w hxs E; rw [tokS_full] at this; exact this
        go_wp2_with (at_lookup; refine wpList_lookup_own_ok_int _ rfl _ _ 89 rfl 9 3 .i64 lawStr Tryz.underlying89 Tryz.underlying3 (zeroInt _) (w.heap.size + 1) k D rfl (hown.out.alloc _) _ _ rfl (keyStr hxs) ?_; intro c hat hwc; rw [hhas.out])
        refine (c1.out _ ((hE.out.below hO.out).alloc _)).mono ?_
        rintro e w2 ⟨rfl, hb2⟩
        obtain ⟨hP, hbw0⟩ := below_boxed hb2
        have hown2 : Hid (w2.ownsMap Tryz.prog 9 (plainElem (H := Unit) Tryz.prog 3) (w.heap.size + 1) k D) := Lib.hid (hown.out.kept (row := none) (gb_below (gb_refl wr none) hbw0) (by simp))
        have hbw2 := Lib.hid (hbw.out.trans (hbw0.mono (by have := hlw.out; omega)))
        have hN2 := Lib.hid (hI.out.below hbw2.out)
        have hO2 := Lib.hid (hO.out.trans (hbw0.mono (by have := hlw.out; omega)))
        have hlw2 : Hid (w.heap.size + 1 < w2.heap.size) := Lib.hid hown2.out.lt
        have q2 := hN2.out.c2
        have d0 : w2.cell? ⟨wr.heap.size, 0, none⟩ = some (.string x.name) := by simpa using cell_of_row w2 wr.heap.size 0 _ _ (0, 0) hP
        have d1 : w2.cell? ⟨wr.heap.size, 1, none⟩ = some (.int .i64 x.box) := by simpa using cell_of_row w2 wr.heap.size 1 _ _ (0, 0) hP
        have d2 : w2.cell? ⟨wr.heap.size, 2, none⟩ = some (.bool x.inn) := by simpa using cell_of_row w2 wr.heap.size 2 _ _ (0, 0) hP
        have d3 : w2.cell? ⟨wr.heap.size, 3, none⟩ = some (.int .i64 x.dest) := by simpa using cell_of_row w2 wr.heap.size 3 _ _ (0, 0) hP
        clear c1 e0 e1 e2 e3 hP hbw0 hb2 hown hN hO hbw hhas hI
        cases hf : fullS x.name
        · have HF : Hid (R = false) := Lib.hid (by rw [HS.out]; unfold portOk; simp [hf])
          clear HS hown2
          go_wp2_with fail
          go_ret
          exact ⟨ret_bool HF.out.symm, hO2.out⟩
        by_cases b1 : x.box < 0
        · have HF : Hid (R = false) := Lib.hid (by rw [HS.out]; unfold portOk; simp [b1])
          clear HS hown2
          go_wp2_with fail
          go_ret
          exact ⟨ret_bool HF.out.symm, hO2.out⟩
        by_cases b2 : x.box ≥ (n.tables.length : Int)
        · have HF : Hid (R = false) := Lib.hid (by rw [HS.out]; unfold portOk; simp [b2])
          clear HS hown2
          go_wp2_with fail
          go_ret
          exact ⟨ret_bool HF.out.symm, hO2.out⟩
        have HS2 : Hid (R = (!decide (x.dest < -1) && !decide (x.dest ≥ (n.ports.length : Int)) && !(decide (x.dest ≥ 0) && (x.inn || !inS n x.dest)) && portsFrom n (k + 1) (n.ports.drop (k + 1)))) := Lib.hid (by
          rw [HS.out]; unfold portOk; rw [hf, decide_eq_false b1, decide_eq_false b2, hal.out]; simp)
        clear HS hal
        have hne : wr.heap.size ≠ w.heap.size + 1 := by have := hlw.out; omega
        have hM3 := Lib.hid (hM.out.put hown2.out.isMap hx)
        by_cases m1 : x.dest = -1
        · have HU : Hid (R = portsFrom n (k + 1) (n.ports.drop (k + 1))) := Lib.hid (by rw [HS2.out, m1]; simp; omega)
          have m1' : (x.dest != -1) = false := by simp [m1]
          clear HS2 m1 hM
          go_wp2_with (at_mapUpdate; refine wpList_mapUpdate_own _ rfl _ _ _ 89 rfl 9 3 lawStr Tryz.underlying89 (plainElem (H := Unit) Tryz.prog 3) (w.heap.size + 1) k D rfl hown2.out (by unfold maxLen; omega) _ _ _ rfl rfl (keyStr hxs) (.lit (.int .i64 k)) [] (plainElem_int Tryz.underlying3 (WalkArith.wf_i64 (by omega))) ?_; intro w3 hown3 hgrow3; have hbg := Lib.hid (below_grow (w.heap.size + 1) hgrow3 (by have := hlw2.out; omega)); have hN3 := Lib.hid (hN2.out.below hbg.out); have d2 := gb_cell hgrow3 d2 hne; have d3 := gb_cell hgrow3 d3 hne; have q1 := hN3.out.c1)
          go_roundw
          case rel => exact ⟨k + 1, _, by omega, by go_num, HU, Lib.hid (hbw2.out.trans hbg.out), Lib.hid hown3, hM3⟩
          case measure => simp [intOf]; omega
        have m1' : (x.dest != -1) = true := by simp [m1]
        cases hin : x.inn
        case true =>
          have HF : Hid (R = false) := Lib.hid (by
            rw [HS2.out, hin]
            by_cases h0 : x.dest ≥ 0
            · rw [decide_eq_true h0]; simp
            · rw [decide_eq_true (p := x.dest < -1) (by omega)]; simp)
          rw [hin] at d2
          clear HS2 m1 hM hM3
          go_wp2_with (at_mapUpdate; refine wpList_mapUpdate_own _ rfl _ _ _ 89 rfl 9 3 lawStr Tryz.underlying89 (plainElem (H := Unit) Tryz.prog 3) (w.heap.size + 1) k D rfl hown2.out (by unfold maxLen; omega) _ _ _ rfl rfl (keyStr hxs) (.lit (.int .i64 k)) [] (plainElem_int Tryz.underlying3 (WalkArith.wf_i64 (by omega))) ?_; intro w3 hown3 hgrow3; have hbg := Lib.hid (below_grow (w.heap.size + 1) hgrow3 (by have := hlw2.out; omega)); have hN3 := Lib.hid (hN2.out.below hbg.out); have d2 := gb_cell hgrow3 d2 hne; have d3 := gb_cell hgrow3 d3 hne; have q1 := hN3.out.c1)
          go_ret
          exact ⟨ret_bool HF.out.symm, hO2.out.trans (hbg.out.mono (by omega))⟩
        rw [hin] at d2 HS2
        by_cases m2 : x.dest < 0
        · have HF : Hid (R = false) := Lib.hid (by rw [HS2.out, decide_eq_true (p := x.dest < -1) (by omega)]; simp)
          clear HS2 m1 hM hM3 hin
          go_wp2_with (at_mapUpdate; refine wpList_mapUpdate_own _ rfl _ _ _ 89 rfl 9 3 lawStr Tryz.underlying89 (plainElem (H := Unit) Tryz.prog 3) (w.heap.size + 1) k D rfl hown2.out (by unfold maxLen; omega) _ _ _ rfl rfl (keyStr hxs) (.lit (.int .i64 k)) [] (plainElem_int Tryz.underlying3 (WalkArith.wf_i64 (by omega))) ?_; intro w3 hown3 hgrow3; have hbg := Lib.hid (below_grow (w.heap.size + 1) hgrow3 (by have := hlw2.out; omega)); have hN3 := Lib.hid (hN2.out.below hbg.out); have d2 := gb_cell hgrow3 d2 hne; have d3 := gb_cell hgrow3 d3 hne; have q1 := hN3.out.c1)
          go_ret
          exact ⟨ret_bool HF.out.symm, hO2.out.trans (hbg.out.mono (by omega))⟩
        by_cases m3 : x.dest ≥ (n.ports.length : Int)
        · have HF : Hid (R = false) := Lib.hid (by rw [HS2.out, decide_eq_true m3]; simp)
          clear HS2 m1 hM hM3 hin
          go_wp2_with (at_mapUpdate; refine wpList_mapUpdate_own _ rfl _ _ _ 89 rfl 9 3 lawStr Tryz.underlying89 (plainElem (H := Unit) Tryz.prog 3) (w.heap.size + 1) k D rfl hown2.out (by unfold maxLen; omega) _ _ _ rfl rfl (keyStr hxs) (.lit (.int .i64 k)) [] (plainElem_int Tryz.underlying3 (WalkArith.wf_i64 (by omega))) ?_; intro w3 hown3 hgrow3; have hbg := Lib.hid (below_grow (w.heap.size + 1) hgrow3 (by have := hlw2.out; omega)); have hN3 := Lib.hid (hN2.out.below hbg.out); have d2 := gb_cell hgrow3 d2 hne; have d3 := gb_cell hgrow3 d3 hne; have q1 := hN3.out.c1)
          go_ret
          exact ⟨ret_bool HF.out.symm, hO2.out.trans (hbg.out.mono (by omega))⟩
        obtain ⟨_, c, y, hy, ⟨hc, hys⟩, hj⟩ := SlOf.el hN2.out.p (k := x.dest.toNat) (by omega)
        subst hc
        have g2 : w2.cell? ⟨b, off + x.dest.toNat * 4 + 2, none⟩ = some (.bool y.inn) := hj 2 _ rfl
        have HS3 : Hid (R = (y.inn && portsFrom n (k + 1) (n.ports.drop (k + 1)))) := Lib.hid (by
          rw [HS2.out, decide_eq_false (p := x.dest < -1) (by omega), decide_eq_false m3, decide_eq_true (p := x.dest ≥ 0) (by omega), show inS n x.dest = y.inn by unfold inS; rw [hy]]; simp)
        clear hj hy HS2 m1
        cases hyi : y.inn
        · have HF : Hid (R = false) := Lib.hid (by rw [HS3.out, hyi]; rfl)
          rw [hyi] at g2
          clear HS3 hM hM3 hin hyi
          go_wp2_with (at_mapUpdate; refine wpList_mapUpdate_own _ rfl _ _ _ 89 rfl 9 3 lawStr Tryz.underlying89 (plainElem (H := Unit) Tryz.prog 3) (w.heap.size + 1) k D rfl hown2.out (by unfold maxLen; omega) _ _ _ rfl rfl (keyStr hxs) (.lit (.int .i64 k)) [] (plainElem_int Tryz.underlying3 (WalkArith.wf_i64 (by omega))) ?_; intro w3 hown3 hgrow3; have hbg := Lib.hid (below_grow (w.heap.size + 1) hgrow3 (by have := hlw2.out; omega)); have hN3 := Lib.hid (hN2.out.below hbg.out); have d2 := gb_cell hgrow3 d2 hne; have d3 := gb_cell hgrow3 d3 hne; have q1 := hN3.out.c1; have g2 := (hbg.out.cell (p := ⟨b, off + x.dest.toNat * 4 + 2, none⟩) hb).trans g2)
          go_ret
          exact ⟨ret_bool HF.out.symm, hO2.out.trans (hbg.out.mono (by omega))⟩
        · have HU : Hid (R = portsFrom n (k + 1) (n.ports.drop (k + 1))) := Lib.hid (by rw [HS3.out, hyi, Bool.true_and])
          rw [hyi] at g2
          clear HS3 hM hin hyi
          go_wp2_with (at_mapUpdate; refine wpList_mapUpdate_own _ rfl _ _ _ 89 rfl 9 3 lawStr Tryz.underlying89 (plainElem (H := Unit) Tryz.prog 3) (w.heap.size + 1) k D rfl hown2.out (by unfold maxLen; omega) _ _ _ rfl rfl (keyStr hxs) (.lit (.int .i64 k)) [] (plainElem_int Tryz.underlying3 (WalkArith.wf_i64 (by omega))) ?_; intro w3 hown3 hgrow3; have hbg := Lib.hid (below_grow (w.heap.size + 1) hgrow3 (by have := hlw2.out; omega)); have hN3 := Lib.hid (hN2.out.below hbg.out); have d2 := gb_cell hgrow3 d2 hne; have d3 := gb_cell hgrow3 d3 hne; have q1 := hN3.out.c1; have g2 := (hbg.out.cell (p := ⟨b, off + x.dest.toNat * 4 + 2, none⟩) hb).trans g2)
          go_roundw
          case rel => exact ⟨k + 1, _, by omega, by go_num, HU, Lib.hid (hbw2.out.trans hbg.out), Lib.hid hown3, hM3⟩
          case measure => simp [intOf]; omega
      · have hhas := Lib.hid (hhas0.trans hdup)
        have hck : Hid (∀ c : Int, D.atKey (.string x.name.data.toList) (.lit (.int .i64 0)) = .lit (.int .i64 c) → c < k) := Lib.hid fun c ha => hM.out.h2 x.name c _ hhas.out ha
        have HF : Hid (R = false) := Lib.hid (by rw [HS.out]; unfold portOk; rw [not_any, hdup]; simp)
        have hO2 : Hid (∀ o, Below w.heap.size w (wr.alloc o)) := Lib.hid fun o => hO.out.alloc (by have := hlw.out; omega) o
        clear hhas0 hdup HS
        go_wp2_with (at_lookup; refine wpList_lookup_own_ok_int _ rfl _ _ 89 rfl 9 3 .i64 lawStr Tryz.underlying89 Tryz.underlying3 (zeroInt _) (w.heap.size + 1) k D rfl (hown.out.alloc _) _ _ rfl (keyStr hxs) ?_; intro c hat hwc; rw [hhas.out]; have hck1 := hck.out c hat)
        go_ret
        exact ⟨ret_bool HF.out.symm, hO2.out _⟩
    · have HF : Hid (R = true) := Lib.hid (by rw [HR.out, drop_end hlt]; rfl)
      clear HR
      go_wp2_with fail
      go_ret
      exact ⟨ret_bool HF.out.symm, hO.out⟩
end Go.Proofs.YtjokciofeicdkaaGreatDoor
