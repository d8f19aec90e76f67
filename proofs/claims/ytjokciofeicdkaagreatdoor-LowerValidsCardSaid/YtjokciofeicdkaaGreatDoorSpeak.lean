/- Walks: speak (a quoted text). -/
import Derived.Test.YtjokciofeicdkaaGreatDoorSpeakS
import Derived.Deep.AppendLies
namespace Go.Proofs.YtjokciofeicdkaaGreatDoor
open Go.RowKit

theorem heap_iterAt_ne {w : World} {s : ByteArray} {p k : Nat} {g : Nat} (h : g ≠ k) : (w.iterAt k s p).heap[g]? = w.heap[g]? := by
  show (w.heap.setIfInBounds k _)[g]? = _
  rw [Array.getElem?_setIfInBounds, if_neg (Ne.symm h)]
theorem own_heap {w w' : World} {base : Nat} {e : TypeId} {size n : Nat} {v : Value} {xs : List Value} (h : w.ownsRow base e size v n xs) (hk : ∀ g, v.ownBlock = some g → w'.heap[g]? = w.heap[g]?) : w'.ownsRow base e size v n xs := by
  obtain ⟨h1, h2⟩ := h
  refine ⟨h1, ?_⟩
  rcases h2 with h2 | ⟨g, cap, cur, rfl, hg, hh, r⟩
  · exact .inl h2
  · exact .inr ⟨g, cap, cur, rfl, hg, (hk g rfl).trans hh, r⟩
theorem u8_info : (Tryz.prog.info? 5).map (fun i => (i.zero, i.size, i.bytes)) = some (some (.int .u8 0), 1, 1) := by kernel_rfl
theorem u8s_one (l : List Int) : ∀ u ∈ u8s l, u.oneCell' = true := by
  intro u hu
  obtain ⟨x, _, rfl⟩ := List.mem_map.1 hu
  rfl
theorem own_below {w w' : World} {base : Nat} {e : TypeId} {size n : Nat} {v : Value} {xs : List Value} (h : w.ownsRow base e size v n xs) (hb : Below w.heap.size w w') : w'.ownsRow base e size v n xs :=
  own_heap h fun g hg => hb.block g (h.lt g hg).2
theorem own_not_iter {w : World} {base : Nat} {e : TypeId} {size n : Nat} {v : Value} {xs : List Value} (h : w.ownsRow base e size v n xs) {k p : Nat} {s : ByteArray} (hi : w.heap[k]? = some (.stringIter s p)) : ∀ g, v.ownBlock = some g → g ≠ k := by
  intro g hg
  rcases h.2 with ⟨rfl, _⟩ | ⟨g', cap, cur, rfl, _, hh, _⟩
  · simp [Value.ownBlock] at hg
  · simp [Value.ownBlock] at hg
    subst hg
    rintro rfl
    rw [hi] at hh; cases hh

set_option maxHeartbeats 4000000 in
set_option maxRecDepth 100000 in
theorem speak_any (s : ByteArray) (lines : Bool) (h1 : 1 ≤ s.size) (hs : s.size < 4294967281) (w : World) (E : Env w) :
    Calls Tryz.prog 86 #[.string s, .bool lines] w fun e w' => SpkPost w (speakS s lines (s.size + 1) 1 []) e w' := by
  have HE := Lib.hid E
  clear E
  obtain ⟨R, hR0⟩ : ∃ R, R = speakS s lines (s.size + 1) 1 [] := ⟨_, rfl⟩
  rw [← hR0]
  have HR0 := Lib.hid hR0
  clear hR0
  go_enter Tryz.func86, Tryz.ntmps86
  go_wp2_with fail
  refine wp_scope_again 0 (SpkJ s lines w R) (fun a _ => s.size - (intOf (a.tmps.getD 7 undef)).toNat) rfl ?_ ?_
  · rintro a' w' ⟨p, n, _, said, v, u8, u9, u10, u11, u12, u13, u14, u15, u16, u17, u18, u19, u20, u21, u22, u23, u24, u25, u26, u27, u28, u29, u30, u31, u32, u33, u34, u35, u36, u37, u38, u39, u40, u41, u42, u43, u44, u45, u46, u47, u48, u49, u50, u51, u52, u53, u54, u55, u56, u57, u58, u59, u60, u61, u62, u63, u64, u65, u66, u67, u68, u69, u70, u71, u72, u73, rfl, rfl, hp, hn, hl, hR, hO, hb⟩
    have hp1 : (p : Int) ≤ (s.size : Int) := by omega
    go_wp2_with fail
    obtain ⟨q, hq⟩ : ∃ q, q = s.extract p s.size := ⟨_, rfl⟩
    have hqs : q.size = s.size - p := by rw [hq, ByteArray.size_extract]; omega
    have hdec := Lib.hid (show ∀ j, j < q.size → Utf8.decode q j = Utf8.decode s (j + p) from fun j hj => by
      rw [hq, decode_extract s p j hp (by omega), Nat.add_comm])
    rw [← hq]
    clear hq
    obtain ⟨Bi, hBi⟩ : ∃ Bi, Bi = w'.heap.size := ⟨_, rfl⟩
    have hBw : w.heap.size ≤ Bi := by rw [hBi]; exact hb.size
    have hit0 := Lib.hid (World.iter_heap w' q 0)
    have hb0 : Below w.heap.size w (w'.iter q 0) := hb.alloc hb.size _
    have hO0 : Hid ((w'.iter q 0).ownsRow w.heap.size 5 1 v said.length (u8s said)) := Lib.hid (hO.out.alloc _)
    rw [← hBi] at hit0 ⊢
    obtain ⟨wi, hwi⟩ : ∃ wi, wi = w'.iter q 0 := ⟨_, rfl⟩
    rw [← hwi] at hit0 hb0 hO0 ⊢
    clear hwi hBi hO hb
    go_loopw [4, 5, 6, 7] (fun vs v5 v6 v7 wr => ∃ (j m : Nat) (sd : List Int), v5 = .int .i64 0 ∧ v6 = .int .i64 0 ∧ v7 = .int .i64 p ∧ j ≤ q.size ∧ wr.heap[Bi]? = some (.stringIter q j) ∧ s.size - (j + p) < m ∧ sd.length ≤ 4 * (j + p) ∧ Hid (R = speakS s lines m (j + p) sd) ∧ Hid (wr.ownsRow w.heap.size 5 1 vs sd.length (u8s sd)) ∧ Below w.heap.size w wr) (fun _ _ _ _ wr => q.size - wr.iterPos Bi)
    case atStart => exact ⟨0, n, said, rfl, rfl, rfl, by omega, hit0.out, by omega, by omega, by rw [Nat.zero_add]; exact hR, hO0, hb0⟩
    case round =>
      obtain ⟨j, m, sd, rfl, rfl, rfl, hj, hit, hm, hsl, hr, ho, hbr⟩ := hrel
      obtain ⟨m, rfl⟩ : ∃ k, m = k + 1 := ⟨m - 1, by omega⟩
      clear hR hO0 hb0 hit0
      by_cases hlt : j < q.size
      · have hnx := fun ty => Lib.run_next_any_at (P := Tryz.prog) wr Bi q j ty hit hlt
        have hwd := width_pos q j hlt
        have hwl := width_le q j hlt
        have hcle := decode_le q j
        have HU := Lib.hid (hr.out.trans (show speakS s lines (m + 1) (j + p) sd = _ by rw [speakS, if_pos (show j + p < s.size by omega)]))
        rw [← hdec.out j hlt] at HU
        have hlo := Lib.hid (fun c w E => loose_any s (j + p) c (by omega) w E)
        have hit2 := Lib.hid (Lib.iterAt_heap wr Bi q j (j + (Utf8.decode q j).2) hit)
        have ho2 : Hid ((wr.iterAt Bi q (j + (Utf8.decode q j).2)).ownsRow w.heap.size 5 1 u4 sd.length (u8s sd)) := Lib.hid (own_heap ho.out (fun g hg => heap_iterAt_ne (own_not_iter ho.out hit g hg)))
        have hb2 : Below w.heap.size w (wr.iterAt Bi q (j + (Utf8.decode q j).2)) := hbr.trans ⟨rfl, rfl, rfl, by simp [World.iterAt], fun i hi => heap_iterAt_ne (by omega)⟩
        have hpos := Lib.hid (show wr.iterPos Bi = j by simp [World.iterPos, hit])
        obtain ⟨W2, hW2⟩ : ∃ W2, W2 = wr.iterAt Bi q (j + (Utf8.decode q j).2) := ⟨_, rfl⟩
        rw [← hW2] at hnx hit2 ho2 hb2
        have HE2 := Lib.hid (HE.out.below hb2)
        clear hW2 hr ho hit hbr
        generalize Utf8.decode q j = cw at *
        obtain ⟨c, wd⟩ := cw
        dsimp only at *
        by_cases h34 : c = 34
        · have H := Lib.hid (HU.out.trans (if_pos h34))
          subst h34
          clear HU
          go_wp2_with fail
          (try simp only [Exit.jump])
          go_ret3
          exact ⟨u4, by rw [H.out]; first | rfl | (simp; done) | (simp; omega), by rw [H.out]; exact ho2.out, hb2⟩
        have b34 : ((c : Int) == 34) = false := by simp; omega
        have HU := Lib.hid (HU.out.trans (if_neg h34))
        by_cases h92 : c = 92
        · have HU := Lib.hid (HU.out.trans (if_pos h92))
          subst h92
          have ce := Lib.hid (fun w E => escape_any (s.extract (j + p) s.size) (by have := size_extract_le s (j + p) s.size; omega) w E)
          have hel := Lib.hid (escS_le (s.extract (j + p) s.size))
          have hes : (s.extract (j + p) s.size).size = s.size - (j + p) := by rw [ByteArray.size_extract]; omega
          rw [hes] at hel
          generalize escS (s.extract (j + p) s.size) = es at *
          obtain ⟨eb, ek⟩ := es
          dsimp only at HU hel
          clear hes
          go_wp2_with fail
          refine (ce.out _ HE2.out).mono ?_
          rintro e w3 ⟨sv, rfl, hso, hb3⟩
          dsimp only at hso
          by_cases hk0 : ek = 0
          · have H := Lib.hid (HU.out.trans (if_pos hk0))
            subst hk0
            clear HU
            go_wp2_with fail
            (try simp only [Exit.jump])
            go_ret3
            exact spk_err _ _ _ _ (hb2.trans (hb3.mono hb2.size)) _ H.out
          · have H := Lib.hid (HU.out.trans (if_neg hk0))
            have bk0 : ((ek : Int) == 0) = false := by simp; omega
            clear HU
            obtain ⟨g, capg, rfl, hgb, hgl⟩ := hso.form (by have := hel.out.2 hk0; omega)
            have ho3 := Lib.hid (own_below ho2.out hb3)
            have hsoc := Lib.hid (hso.cells (g := g) rfl)
            have hb3' := hb2.trans (hb3.mono hb2.size)
            have hbase := Lib.hid (ho2.out.lt)
            obtain ⟨i0, hi, hz0, hz1, hz2⟩ := info_parts u8_info
            have hi := Lib.hid hi; have hz0 := Lib.hid hz0; have hz1 := Lib.hid hz1; have hz2 := Lib.hid hz2
            have hso := Lib.hid hso
            have hle1 := hel.out.1
            have hle2 := hel.out.2 hk0
            go_wp2_with (at_builtin; refine wpList_append_own _ rfl (.tmp 42) (.tmp 43) _ rfl w.heap.size 5 i0 _ 1 1 Tryz.underlying144 hi.out hz0.out hz1.out hz2.out rfl (by decide) u4 sd.length (u8s sd) rfl ho3.out ⟨g, 0, none⟩ eb.length capg (u8s eb) rfl (by simp [u8s]) hsoc.out (u8s_one _) (by unfold maxLen; omega) (by omega) hb3'.size ?_; intro v4 w4 hown4 hg4 _)
            go_step3
            refine ⟨rfl, ⟨j + p + ek, m, _, sd ++ eb, v4, _, _, _, _, _, _, _, _, _, _, _, _, _, _, _, _, _, _, _, _, _, _, _, _, _, _, _, _, _, _, _, _, _, _, _, _, _, _, _, _, _, _, _, _, _, _, _, _, _, _, _, _, _, _, _, _, _, _, _, _, _, _, _, _, _, _, rfl, by omega, by omega, by omega, by rw [List.length_append]; omega, H, Lib.hid ?_, hb3'.grown hg4 hb3'.size (fun k hk => (hbase.out k hk).1)⟩, ?_⟩
            · rw [List.length_append, show u8s (sd ++ eb) = u8s sd ++ u8s eb from List.map_append]; exact hown4
            · simp [intOf]; omega
        · have b92 : ((c : Int) == 92) = false := by simp; omega
          have HU := Lib.hid (HU.out.trans (if_neg h92))
          have hc2 : c ≤ 2147483647 := hcle
          by_cases h10 : c = 10 ∧ lines = true
          · have H := Lib.hid (HU.out.trans (if_pos h10))
            obtain ⟨rfl, rfl⟩ := h10
            clear HU
            go_wp2_with fail
            (try simp only [Exit.jump])
            go_ret3
            exact spk_err _ _ _ _ hb2 _ H.out
          · have HU := Lib.hid (HU.out.trans (if_neg h10))
            by_cases hlo1 : c < 32 ∨ c = 127
            · have H := Lib.hid (HU.out.trans (if_pos (by rcases hlo1 with h | h; exact .inl h; exact .inr (.inl h))))
              clear HU
              by_cases h10' : c = 10
              · subst h10'
                have hl0 : lines = false := by simpa using h10
                subst hl0
                go_wp2_with fail
                (try simp only [Exit.jump])
                go_ret3
                exact spk_err _ _ _ _ hb2 _ H.out
              · have b10 : ((c : Int) == 10) = false := by simp; omega
                rcases hlo1 with h | h
                · go_wp2_with fail
                  (try simp only [Exit.jump])
                  go_ret3
                  exact spk_err _ _ _ _ hb2 _ H.out
                · subst h
                  go_wp2_with fail
                  (try simp only [Exit.jump])
                  go_ret3
                  exact spk_err _ _ _ _ hb2 _ H.out
            · have b10 : ((c : Int) == 10) = false := by simp; omega
              have b127 : ((c : Int) == 127) = false := by simp; omega
              have b32 : (32 : Int) ≤ c := by omega
              have hl2 := Lib.hid (hlo.out c W2 HE2.out)
              have HU2 := Lib.hid (show R = if looseS s (j + p) c = true then ([], j + p, 33) else speakS s lines m (j + p + wd) (sd ++ Lib.encodeRuneZ c) by
                rw [HU.out]
                by_cases hq : looseS s (j + p) c = true
                · rw [if_pos (.inr (.inr hq)), if_pos hq]
                · rw [if_neg (by rintro (h | h | h); exact hlo1 (.inl h); exact hlo1 (.inr h); exact hq h), if_neg hq])
              clear HU hlo
              generalize looseS s (j + p) c = L at *
              go_wp2_with fail
              refine hl2.out.mono ?_
              rintro e w3 ⟨rfl, hb3⟩
              have hb3' := hb2.trans (hb3.mono hb2.size)
              cases L with
              | true =>
                go_wp2_with fail
                (try simp only [Exit.jump])
                go_ret3
                exact spk_err _ _ _ _ hb3' _ HU2.out
              | false =>
                have H := Lib.hid (show R = speakS s lines m (j + p + wd) (sd ++ Lib.encodeRuneZ c) from HU2.out)
                have ho3 := Lib.hid (own_below ho2.out hb3)
                have hit3 := Lib.hid ((hb3.block Bi (Array.getElem?_eq_some_iff.1 hit2.out).1).trans hit2.out)
                have hbase := Lib.hid (ho2.out.lt)
                have hnit := Lib.hid (own_not_iter ho3.out hit3.out)
                have ca := Lib.hid (Tryz.utf8_AppendRune_plain w.heap.size u4 sd.length (u8s sd) (c : Int) (by omega) (by omega) w3 ho3.out (by omega) hb3'.size)
                have hrl := Lib.hid (show (Lib.encodeRuneZ (c : Int)).length ≤ 4 by unfold Lib.encodeRuneZ; (repeat' split) <;> simp)
                clear HU2 hl2
                go_wp2_with fail
                refine ca.out.mono ?_
                rintro e w4 ⟨v4, rfl, hown4, o4, hg4⟩
                go_wp2_with fail
                have hrl' := hrl.out
                go_roundw
                case rel =>
                  refine ⟨j + wd, m, sd ++ Lib.encodeRuneZ c, rfl, rfl, rfl, hwl, ?_, by omega, by rw [List.length_append]; omega, Lib.hid (by rw [H.out]; congr 1; omega), Lib.hid ?_, ?_⟩
                  · have hlt3 := (Array.getElem?_eq_some_iff.1 hit3.out).1
                    rw [hg4.block Bi (by simp; omega) (fun e => hnit.out Bi e.symm rfl), Below.heap_alloc _ _ _ hlt3]
                    exact hit3.out
                  · rw [List.length_append, show u8s (sd ++ Lib.encodeRuneZ (c : Int)) = u8s sd ++ Lib.runeCells (c : Int) from List.map_append]
                    rw [show (Lib.runeCells (c : Int)).length = (Lib.encodeRuneZ (c : Int)).length by simp [Lib.runeCells]] at hown4
                    exact hown4
                  · exact (hb3'.alloc hb3'.size o4).grown hg4 (by simp; have := hb3'.size; omega) (fun k hk => (hbase.out k hk).1)
                case measure =>
                  rw [hpos.out]
                  have hlt3 := (Array.getElem?_eq_some_iff.1 hit3.out).1
                  have : w4.iterPos Bi = j + wd := by
                    unfold World.iterPos
                    rw [hg4.block Bi (by simp; omega) (fun e => hnit.out Bi e.symm rfl), Below.heap_alloc _ _ _ hlt3, hit3.out]
                  first | (rw [this]; omega) | (simp only [this]; omega)
      · have hnx := fun ty => Lib.run_next_end_at (P := Tryz.prog) wr Bi q j ty hit hlt
        have H := Lib.hid (hr.out.trans (show speakS s lines (m + 1) (j + p) sd = ([], s.size, 32) by rw [speakS, if_neg (by omega)]))
        clear hr ho hit
        go_wp2_with fail
        (try simp only [Exit.jump])
        go_ret3
        exact spk_err _ _ _ _ hbr _ H.out
  · intro hp
    refine wp_seq ?_
    go_step
    go_step
    go_step
    go_step
    go_step
    refine wp_label_then (hp _ _ ?_)
    exact ⟨1, s.size + 1, _, [], _, _, _, _, _, _, _, _, _, _, _, _, _, _, _, _, _, _, _, _, _, _, _, _, _, _, _, _, _, _, _, _, _, _, _, _, _, _, _, _, _, _, _, _, _, _, _, _, _, _, _, _, _, _, _, _, _, _, _, _, _, _, _, _, _, _, _, rfl, rfl, h1, by omega, by simp, HR0, Lib.hid (World.ownsRow_nil _ _ _ _), Below.refl _ _⟩
end Go.Proofs.YtjokciofeicdkaaGreatDoor
