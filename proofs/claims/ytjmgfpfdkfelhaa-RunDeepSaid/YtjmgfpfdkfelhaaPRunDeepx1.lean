-- By a program of this session (wip/tools/mkprint.py), for this claim.
import Derived.Test.YtjmgfpfdkfelhaaPRunDeepx0
namespace Go.Proofs.Ytjmgfpfdkfelhaa.PRunDeep
open Go.RowKit Go.Proofs.YtjmgfpfdkfelhaaW.PrintWords Go.Proofs.YtjmgfpfdkfelhaaW.PrintLast Go.Proofs.YtjmgfpfdkfelhaaW.PrintMore
attribute [local go_sem] max2_int min2_int max_two min_two max_three min_three max_four min_four   -- for this text's walks alone
set_option linter.unusedVariables false
set_option linter.unusedSimpArgs false

/-! ### run_Word: function 9 -/
def run_Word.f (a0 : Int) : Option (Int) := some (Go.bits .and .i64 a0 65535)
set_option maxHeartbeats 8000000 in
set_option maxRecDepth 100000 in
theorem run_Word.calls (a0 : Int) (r : Int) (w : World) (h : run_Word.f a0 = some r) :
    Calls Try.prog 9 #[.int .i64 a0] w fun e w' => e = .returned (.int .i64 r) ∧ Drawn0 w w' := by
  have H : (some (Go.bits .and .i64 a0 65535)) = some r := h
  clear h
  obtain rfl := Option.some.inj H
  go_enter Try.func9, Try.ntmps9
  go_wp2
  go_ret
  exact ⟨by first | rfl | (simp; done) | (simp [*]; done), by repeat (first | exact Drawn0.refl _ | apply Drawn0.step)⟩

/-! ### slices_Clone_int_int: function 14 (by hand) -/
def slices_Clone_int_int.f (l0 : List (Int)) : Option (List (Int)) := if l0.length < 17592186044416 then some l0 else none
theorem slices_Clone_int_int.calls (A0 : Option Addr) (c0 : Nat) (l0 : List (Int)) (r : List (Int)) (w : World) (hr0 : Kd.C (Kd.int .i64) w A0 l0.length l0) (hc0 : l0.length ≤ c0) (h : slices_Clone_int_int.f l0 = some r) :
    Calls Try.prog 14 #[.slice A0 l0.length c0] w fun e w' => ∃ v0_ : Value, e = .returned (v0_) ∧ Kd.R (Kd.int .i64) 3 w' w.heap.size (fun _ => True) v0_ r ∧ Below w.heap.size w w' := by
  have hl : l0.length < 17592186044416 := by
    unfold slices_Clone_int_int.f at h
    split at h
    · assumption
    · cases h
  obtain rfl : l0 = r := by
    unfold slices_Clone_int_int.f at h
    rw [if_pos hl] at h
    exact Option.some.inj h
  clear h
  have hu := Try.underlying28
  have he := fun (W : World) => Lib.run_eql_slice_nil (P := Try.prog) W 28 3 A0 l0.length c0 0 0 Try.underlying28
  cases A0 with
  | none =>
    obtain rfl : l0 = [] := by
      rcases Nat.eq_zero_or_pos l0.length with h0 | h0
      · exact List.eq_nil_of_length_eq_zero h0
      · obtain ⟨ad, h1, _⟩ := hr0.2.2 h0
        cases h1
    clear hr0
    simp only [List.length_nil] at he hc0 ⊢
    go_enter Try.func14, Try.ntmps14
    go_wp2
    go_ret
    exact ⟨_, rfl, Kd.R_nil _ _ _ _ _, Below.refl _ _⟩
  | some ad =>
    have HR := Aside0.mk hr0
    clear hr0
    go_enter Try.func14, Try.ntmps14
    have HB := Aside0.mk (Below.refl w.heap.size w)
    go_wp2_with (first | ((with_reducible refine gate_dst (N := 5) rfl ?_); refine Kd.R_lit (Kd.int .i64) _ 3 ?hg (N := 5) ?hd (xs := ([] : List (Int))) (inner := []) (ok := fun _ => True) (okp := fun _ => True) ?hr ?hp (fun _ hk => hk) trivial (Below.refl _ _) (Nat.le_refl _) (by simp) ?_; (case hd => rfl); (case hg => rfl); (case hr => first | (go_simp; done) | (go_simp; rfl)); (case hp => exact (Reps.none _ _)); intro v5 w3 ho4 hb hg_ hnew_; clear hg_ hnew_; have HO := Aside0.mk ho4; have HC := Aside0.mk (Kd.C_below HR.out hb); have HB1 := Aside0.mk hb; clear ho4 hb HB HR) | ((with_reducible refine gate_builtin (b := .append) (xs := #[.tmp 5, .tmp 6]) rfl ?_); at_builtin; refine Kd.R_append_rows (Kd.int .i64) (w0 := w) w.heap.size rfl (.tmp 5) (.tmp 6) 28 3 (.int .i64 0) 8 rfl Try.underlying28 info3 rfl (by decide) (by omega) v5 ([] : List (Int)) l0 _ _ _ (fun _ => True) (fun _ => False) rfl rfl ?aO ?aR (fun _ _ h => h) ?aK ?aF ?aB ?aS ?aL ?_; (case aO => exact HO.out); (case aR => exact HC.out); (case aK => exact fun _ h => h.elim); (case aF => exact fun _ _ => trivial); (case aB => exact HB1.out); (case aS => exact HB1.out.size); (case aL => simp; omega); intro v7 w7 ho7 hb7 hg7 hat7; clear HC HO HB1))
    go_ret
    rw [List.nil_append] at ho7
    exact ⟨_, rfl, ho7, hb7⟩

-- NOT PRINTED: function 13 (run_Run_1)

/-! ### run_Op: function 7 -/
def run_Op.f (a0 : Int) (a1 : Int) (a2 : Int) : Option (Int × Bool) := (run_Word.f a1).bind fun t101 => ((run_Word.f a2).bind fun t102 => (if a0 = 3 then ((run_Word.f (wrap64 (t101 + t102))).bind fun t103 => (some (t103, true))) else (if a0 = 4 then ((run_Word.f (wrap64 (t101 - t102))).bind fun t104 => (some (t104, true))) else (if a0 = 5 then ((run_Word.f (wrap64 (t101 * t102))).bind fun t105 => (some (t105, true))) else (if a0 = 6 then (if t101 < t102 then (some (1, true)) else (some (0, true))) else (if a0 = 7 then (if t102 = 0 then (some (0, false)) else (some (wrap64 (Int.tdiv t101 t102), true))) else (some (0, false))))))))
set_option maxHeartbeats 8000000 in
set_option maxRecDepth 100000 in
theorem run_Op.calls (a0 : Int) (a1 : Int) (a2 : Int) (r1 : Int) (r2 : Bool) (w : World) (h : run_Op.f a0 a1 a2 = some (r1, r2)) :
    Calls Try.prog 7 #[.int .i64 a0, .int .i64 a1, .int .i64 a2] w fun e w' => e = .returned (.tuple #[.int .i64 r1, .bool r2]) ∧ Drawn0 w w' := by
  have H : ((run_Word.f a1).bind fun t101 => ((run_Word.f a2).bind fun t102 => (if a0 = 3 then ((run_Word.f (wrap64 (t101 + t102))).bind fun t103 => (some (t103, true))) else (if a0 = 4 then ((run_Word.f (wrap64 (t101 - t102))).bind fun t104 => (some (t104, true))) else (if a0 = 5 then ((run_Word.f (wrap64 (t101 * t102))).bind fun t105 => (some (t105, true))) else (if a0 = 6 then (if t101 < t102 then (some (1, true)) else (some (0, true))) else (if a0 = 7 then (if t102 = 0 then (some (0, false)) else (some (wrap64 (Int.tdiv t101 t102), true))) else (some (0, false))))))))) = some (r1, r2) := h
  clear h
  replace H := Option.bind_eq_some_iff.mp H
  obtain ⟨t101, A40, H⟩ := H
  replace H : ((run_Word.f a2).bind fun t102 => (if a0 = 3 then ((run_Word.f (wrap64 (t101 + t102))).bind fun t103 => (some (t103, true))) else (if a0 = 4 then ((run_Word.f (wrap64 (t101 - t102))).bind fun t104 => (some (t104, true))) else (if a0 = 5 then ((run_Word.f (wrap64 (t101 * t102))).bind fun t105 => (some (t105, true))) else (if a0 = 6 then (if t101 < t102 then (some (1, true)) else (some (0, true))) else (if a0 = 7 then (if t102 = 0 then (some (0, false)) else (some (wrap64 (Int.tdiv t101 t102), true))) else (some (0, false)))))))) = some (r1, r2) := H
  have A4 := Aside0.mk A40
  clear A40
  replace H := Option.bind_eq_some_iff.mp H
  obtain ⟨t102, A50, H⟩ := H
  replace H : (if a0 = 3 then ((run_Word.f (wrap64 (t101 + t102))).bind fun t103 => (some (t103, true))) else (if a0 = 4 then ((run_Word.f (wrap64 (t101 - t102))).bind fun t104 => (some (t104, true))) else (if a0 = 5 then ((run_Word.f (wrap64 (t101 * t102))).bind fun t105 => (some (t105, true))) else (if a0 = 6 then (if t101 < t102 then (some (1, true)) else (some (0, true))) else (if a0 = 7 then (if t102 = 0 then (some (0, false)) else (some (wrap64 (Int.tdiv t101 t102), true))) else (some (0, false))))))) = some (r1, r2) := H
  have A5 := Aside0.mk A50
  clear A50
  by_cases c6 : a0 = 3
  · rw [if_pos c6] at H
    have c6b0 : (a0 == 3) = true := beq_iff_eq.mpr c6
    have c6b1 : (a0 != 3) = false := bne_eq_false_iff_eq.mpr c6
    clear c6
    replace H := Option.bind_eq_some_iff.mp H
    obtain ⟨t103, A70, H⟩ := H
    replace H : (some (t103, true)) = some (r1, r2) := H
    have A7 := Aside0.mk A70
    clear A70
    simp only [Option.some.injEq, Prod.mk.injEq] at H
    obtain ⟨rfl, rfl⟩ := H
    go_enter Try.func7, Try.ntmps7
    go_wp2_with (first | ((with_reducible refine gate_callee (f := 9) rfl ?_); refine goesL_ (some 9) rfl rfl Try.func9 (by kernel_rfl) rfl #[.int .i64 a1] rfl (by (try simp only [List.map_toArray, List.map_cons, List.map_nil]); first | done | rfl | (simp only [List.length_drop, List.length_take]; rfl)) ?_; (with_reducible refine (run_Word.calls a1 t101 _ A4.out).mono ?_); rintro e w' ⟨rfl, ⟨nd, rfl⟩⟩; refine ⟨_, rfl, ?_⟩) | ((with_reducible refine gate_callee (f := 9) rfl ?_); refine goesL_ (some 11) rfl rfl Try.func9 (by kernel_rfl) rfl #[.int .i64 a2] rfl (by (try simp only [List.map_toArray, List.map_cons, List.map_nil]); first | done | rfl | (simp only [List.length_drop, List.length_take]; rfl)) ?_; (with_reducible refine (run_Word.calls a2 t102 _ A5.out).mono ?_); rintro e w' ⟨rfl, ⟨nd, rfl⟩⟩; refine ⟨_, rfl, ?_⟩) | ((with_reducible refine gate_callee (f := 9) rfl ?_); refine goesL_ (some 18) rfl rfl Try.func9 (by kernel_rfl) rfl #[.int .i64 (wrap64 (t101 + t102))] rfl (by (try simp only [List.map_toArray, List.map_cons, List.map_nil]); first | done | rfl | (simp only [List.length_drop, List.length_take]; rfl)) ?_; (with_reducible refine (run_Word.calls (wrap64 (t101 + t102)) t103 _ A7.out).mono ?_); rintro e w' ⟨rfl, ⟨nd, rfl⟩⟩; refine ⟨_, rfl, ?_⟩))
    go_ret2
    exact ⟨by first | rfl | (simp; done) | (simp [*]; done), by repeat (first | exact Drawn0.refl _ | apply Drawn0.step)⟩
  · rw [if_neg c6] at H
    have c6b0 : (a0 == 3) = false := beq_eq_false_iff_ne.mpr c6
    have c6b1 : (a0 != 3) = true := bne_iff_ne.mpr c6
    by_cases c8 : a0 = 4
    · rw [if_pos c8] at H
      have c8b0 : (a0 == 4) = true := beq_iff_eq.mpr c8
      have c8b1 : (a0 != 4) = false := bne_eq_false_iff_eq.mpr c8
      clear c8
      replace H := Option.bind_eq_some_iff.mp H
      obtain ⟨t104, A90, H⟩ := H
      replace H : (some (t104, true)) = some (r1, r2) := H
      have A9 := Aside0.mk A90
      clear A90
      simp only [Option.some.injEq, Prod.mk.injEq] at H
      obtain ⟨rfl, rfl⟩ := H
      go_enter Try.func7, Try.ntmps7
      go_wp2_with (first | ((with_reducible refine gate_callee (f := 9) rfl ?_); refine goesL_ (some 9) rfl rfl Try.func9 (by kernel_rfl) rfl #[.int .i64 a1] rfl (by (try simp only [List.map_toArray, List.map_cons, List.map_nil]); first | done | rfl | (simp only [List.length_drop, List.length_take]; rfl)) ?_; (with_reducible refine (run_Word.calls a1 t101 _ A4.out).mono ?_); rintro e w' ⟨rfl, ⟨nd, rfl⟩⟩; refine ⟨_, rfl, ?_⟩) | ((with_reducible refine gate_callee (f := 9) rfl ?_); refine goesL_ (some 11) rfl rfl Try.func9 (by kernel_rfl) rfl #[.int .i64 a2] rfl (by (try simp only [List.map_toArray, List.map_cons, List.map_nil]); first | done | rfl | (simp only [List.length_drop, List.length_take]; rfl)) ?_; (with_reducible refine (run_Word.calls a2 t102 _ A5.out).mono ?_); rintro e w' ⟨rfl, ⟨nd, rfl⟩⟩; refine ⟨_, rfl, ?_⟩) | ((with_reducible refine gate_callee (f := 9) rfl ?_); refine goesL_ (some 24) rfl rfl Try.func9 (by kernel_rfl) rfl #[.int .i64 (wrap64 (t101 - t102))] rfl (by (try simp only [List.map_toArray, List.map_cons, List.map_nil]); first | done | rfl | (simp only [List.length_drop, List.length_take]; rfl)) ?_; (with_reducible refine (run_Word.calls (wrap64 (t101 - t102)) t104 _ A9.out).mono ?_); rintro e w' ⟨rfl, ⟨nd, rfl⟩⟩; refine ⟨_, rfl, ?_⟩))
      go_ret2
      exact ⟨by first | rfl | (simp; done) | (simp [*]; done), by repeat (first | exact Drawn0.refl _ | apply Drawn0.step)⟩
    · rw [if_neg c8] at H
      have c8b0 : (a0 == 4) = false := beq_eq_false_iff_ne.mpr c8
      have c8b1 : (a0 != 4) = true := bne_iff_ne.mpr c8
      by_cases c10 : a0 = 5
      · rw [if_pos c10] at H
        have c10b0 : (a0 == 5) = true := beq_iff_eq.mpr c10
        have c10b1 : (a0 != 5) = false := bne_eq_false_iff_eq.mpr c10
        clear c10
        replace H := Option.bind_eq_some_iff.mp H
        obtain ⟨t105, A110, H⟩ := H
        replace H : (some (t105, true)) = some (r1, r2) := H
        have A11 := Aside0.mk A110
        clear A110
        simp only [Option.some.injEq, Prod.mk.injEq] at H
        obtain ⟨rfl, rfl⟩ := H
        go_enter Try.func7, Try.ntmps7
        go_wp2_with (first | ((with_reducible refine gate_callee (f := 9) rfl ?_); refine goesL_ (some 9) rfl rfl Try.func9 (by kernel_rfl) rfl #[.int .i64 a1] rfl (by (try simp only [List.map_toArray, List.map_cons, List.map_nil]); first | done | rfl | (simp only [List.length_drop, List.length_take]; rfl)) ?_; (with_reducible refine (run_Word.calls a1 t101 _ A4.out).mono ?_); rintro e w' ⟨rfl, ⟨nd, rfl⟩⟩; refine ⟨_, rfl, ?_⟩) | ((with_reducible refine gate_callee (f := 9) rfl ?_); refine goesL_ (some 11) rfl rfl Try.func9 (by kernel_rfl) rfl #[.int .i64 a2] rfl (by (try simp only [List.map_toArray, List.map_cons, List.map_nil]); first | done | rfl | (simp only [List.length_drop, List.length_take]; rfl)) ?_; (with_reducible refine (run_Word.calls a2 t102 _ A5.out).mono ?_); rintro e w' ⟨rfl, ⟨nd, rfl⟩⟩; refine ⟨_, rfl, ?_⟩) | ((with_reducible refine gate_callee (f := 9) rfl ?_); refine goesL_ (some 30) rfl rfl Try.func9 (by kernel_rfl) rfl #[.int .i64 (wrap64 (t101 * t102))] rfl (by (try simp only [List.map_toArray, List.map_cons, List.map_nil]); first | done | rfl | (simp only [List.length_drop, List.length_take]; rfl)) ?_; (with_reducible refine (run_Word.calls (wrap64 (t101 * t102)) t105 _ A11.out).mono ?_); rintro e w' ⟨rfl, ⟨nd, rfl⟩⟩; refine ⟨_, rfl, ?_⟩))
        go_ret2
        exact ⟨by first | rfl | (simp; done) | (simp [*]; done), by repeat (first | exact Drawn0.refl _ | apply Drawn0.step)⟩
      · rw [if_neg c10] at H
        have c10b0 : (a0 == 5) = false := beq_eq_false_iff_ne.mpr c10
        have c10b1 : (a0 != 5) = true := bne_iff_ne.mpr c10
        by_cases c12 : a0 = 6
        · rw [if_pos c12] at H
          have c12b0 : (a0 == 6) = true := beq_iff_eq.mpr c12
          have c12b1 : (a0 != 6) = false := bne_eq_false_iff_eq.mpr c12
          clear c12
          by_cases c13 : t101 < t102
          · rw [if_pos c13] at H
            have c13b0 : decide (t101 < t102) = true := decide_eq_true c13
            clear c13
            simp only [Option.some.injEq, Prod.mk.injEq] at H
            obtain ⟨rfl, rfl⟩ := H
            go_enter Try.func7, Try.ntmps7
            go_wp2_with (first | ((with_reducible refine gate_callee (f := 9) rfl ?_); refine goesL_ (some 9) rfl rfl Try.func9 (by kernel_rfl) rfl #[.int .i64 a1] rfl (by (try simp only [List.map_toArray, List.map_cons, List.map_nil]); first | done | rfl | (simp only [List.length_drop, List.length_take]; rfl)) ?_; (with_reducible refine (run_Word.calls a1 t101 _ A4.out).mono ?_); rintro e w' ⟨rfl, ⟨nd, rfl⟩⟩; refine ⟨_, rfl, ?_⟩) | ((with_reducible refine gate_callee (f := 9) rfl ?_); refine goesL_ (some 11) rfl rfl Try.func9 (by kernel_rfl) rfl #[.int .i64 a2] rfl (by (try simp only [List.map_toArray, List.map_cons, List.map_nil]); first | done | rfl | (simp only [List.length_drop, List.length_take]; rfl)) ?_; (with_reducible refine (run_Word.calls a2 t102 _ A5.out).mono ?_); rintro e w' ⟨rfl, ⟨nd, rfl⟩⟩; refine ⟨_, rfl, ?_⟩))
            go_ret2
            exact ⟨by first | rfl | (simp; done) | (simp [*]; done), by repeat (first | exact Drawn0.refl _ | apply Drawn0.step)⟩
          · rw [if_neg c13] at H
            have c13b0 : decide (t101 < t102) = false := decide_eq_false c13
            clear c13
            simp only [Option.some.injEq, Prod.mk.injEq] at H
            obtain ⟨rfl, rfl⟩ := H
            go_enter Try.func7, Try.ntmps7
            go_wp2_with (first | ((with_reducible refine gate_callee (f := 9) rfl ?_); refine goesL_ (some 9) rfl rfl Try.func9 (by kernel_rfl) rfl #[.int .i64 a1] rfl (by (try simp only [List.map_toArray, List.map_cons, List.map_nil]); first | done | rfl | (simp only [List.length_drop, List.length_take]; rfl)) ?_; (with_reducible refine (run_Word.calls a1 t101 _ A4.out).mono ?_); rintro e w' ⟨rfl, ⟨nd, rfl⟩⟩; refine ⟨_, rfl, ?_⟩) | ((with_reducible refine gate_callee (f := 9) rfl ?_); refine goesL_ (some 11) rfl rfl Try.func9 (by kernel_rfl) rfl #[.int .i64 a2] rfl (by (try simp only [List.map_toArray, List.map_cons, List.map_nil]); first | done | rfl | (simp only [List.length_drop, List.length_take]; rfl)) ?_; (with_reducible refine (run_Word.calls a2 t102 _ A5.out).mono ?_); rintro e w' ⟨rfl, ⟨nd, rfl⟩⟩; refine ⟨_, rfl, ?_⟩))
            go_ret2
            exact ⟨by first | rfl | (simp; done) | (simp [*]; done), by repeat (first | exact Drawn0.refl _ | apply Drawn0.step)⟩
        · rw [if_neg c12] at H
          have c12b0 : (a0 == 6) = false := beq_eq_false_iff_ne.mpr c12
          have c12b1 : (a0 != 6) = true := bne_iff_ne.mpr c12
          by_cases c14 : a0 = 7
          · rw [if_pos c14] at H
            have c14b0 : (a0 == 7) = true := beq_iff_eq.mpr c14
            have c14b1 : (a0 != 7) = false := bne_eq_false_iff_eq.mpr c14
            clear c14
            by_cases c15 : t102 = 0
            · rw [if_pos c15] at H
              have c15b0 : (t102 == 0) = true := beq_iff_eq.mpr c15
              have c15b1 : (t102 != 0) = false := bne_eq_false_iff_eq.mpr c15
              clear c15
              simp only [Option.some.injEq, Prod.mk.injEq] at H
              obtain ⟨rfl, rfl⟩ := H
              go_enter Try.func7, Try.ntmps7
              go_wp2_with (first | ((with_reducible refine gate_callee (f := 9) rfl ?_); refine goesL_ (some 9) rfl rfl Try.func9 (by kernel_rfl) rfl #[.int .i64 a1] rfl (by (try simp only [List.map_toArray, List.map_cons, List.map_nil]); first | done | rfl | (simp only [List.length_drop, List.length_take]; rfl)) ?_; (with_reducible refine (run_Word.calls a1 t101 _ A4.out).mono ?_); rintro e w' ⟨rfl, ⟨nd, rfl⟩⟩; refine ⟨_, rfl, ?_⟩) | ((with_reducible refine gate_callee (f := 9) rfl ?_); refine goesL_ (some 11) rfl rfl Try.func9 (by kernel_rfl) rfl #[.int .i64 a2] rfl (by (try simp only [List.map_toArray, List.map_cons, List.map_nil]); first | done | rfl | (simp only [List.length_drop, List.length_take]; rfl)) ?_; (with_reducible refine (run_Word.calls a2 t102 _ A5.out).mono ?_); rintro e w' ⟨rfl, ⟨nd, rfl⟩⟩; refine ⟨_, rfl, ?_⟩))
              go_ret2
              exact ⟨by first | rfl | (simp; done) | (simp [*]; done), by repeat (first | exact Drawn0.refl _ | apply Drawn0.step)⟩
            · rw [if_neg c15] at H
              have c15b0 : (t102 == 0) = false := beq_eq_false_iff_ne.mpr c15
              have c15b1 : (t102 != 0) = true := bne_iff_ne.mpr c15
              simp only [Option.some.injEq, Prod.mk.injEq] at H
              obtain ⟨rfl, rfl⟩ := H
              go_enter Try.func7, Try.ntmps7
              go_wp2_with (first | ((with_reducible refine gate_callee (f := 9) rfl ?_); refine goesL_ (some 9) rfl rfl Try.func9 (by kernel_rfl) rfl #[.int .i64 a1] rfl (by (try simp only [List.map_toArray, List.map_cons, List.map_nil]); first | done | rfl | (simp only [List.length_drop, List.length_take]; rfl)) ?_; (with_reducible refine (run_Word.calls a1 t101 _ A4.out).mono ?_); rintro e w' ⟨rfl, ⟨nd, rfl⟩⟩; refine ⟨_, rfl, ?_⟩) | ((with_reducible refine gate_callee (f := 9) rfl ?_); refine goesL_ (some 11) rfl rfl Try.func9 (by kernel_rfl) rfl #[.int .i64 a2] rfl (by (try simp only [List.map_toArray, List.map_cons, List.map_nil]); first | done | rfl | (simp only [List.length_drop, List.length_take]; rfl)) ?_; (with_reducible refine (run_Word.calls a2 t102 _ A5.out).mono ?_); rintro e w' ⟨rfl, ⟨nd, rfl⟩⟩; refine ⟨_, rfl, ?_⟩))
              go_ret2
              exact ⟨by first | rfl | (simp; done) | (simp [*]; done), by repeat (first | exact Drawn0.refl _ | apply Drawn0.step)⟩
          · rw [if_neg c14] at H
            have c14b0 : (a0 == 7) = false := beq_eq_false_iff_ne.mpr c14
            have c14b1 : (a0 != 7) = true := bne_iff_ne.mpr c14
            simp only [Option.some.injEq, Prod.mk.injEq] at H
            obtain ⟨rfl, rfl⟩ := H
            go_enter Try.func7, Try.ntmps7
            go_wp2_with (first | ((with_reducible refine gate_callee (f := 9) rfl ?_); refine goesL_ (some 9) rfl rfl Try.func9 (by kernel_rfl) rfl #[.int .i64 a1] rfl (by (try simp only [List.map_toArray, List.map_cons, List.map_nil]); first | done | rfl | (simp only [List.length_drop, List.length_take]; rfl)) ?_; (with_reducible refine (run_Word.calls a1 t101 _ A4.out).mono ?_); rintro e w' ⟨rfl, ⟨nd, rfl⟩⟩; refine ⟨_, rfl, ?_⟩) | ((with_reducible refine gate_callee (f := 9) rfl ?_); refine goesL_ (some 11) rfl rfl Try.func9 (by kernel_rfl) rfl #[.int .i64 a2] rfl (by (try simp only [List.map_toArray, List.map_cons, List.map_nil]); first | done | rfl | (simp only [List.length_drop, List.length_take]; rfl)) ?_; (with_reducible refine (run_Word.calls a2 t102 _ A5.out).mono ?_); rintro e w' ⟨rfl, ⟨nd, rfl⟩⟩; refine ⟨_, rfl, ?_⟩))
            go_ret2
            exact ⟨by first | rfl | (simp; done) | (simp [*]; done), by repeat (first | exact Drawn0.refl _ | apply Drawn0.step)⟩

/-! ### api_Func: function 16 (by hand) -/
theorem api_Func.ix_hit (nm : ByteArray) (l : List Rn.Fn) (i : Nat) (h : i < l.length) (hp : (l.getD i Rn.zF).name = nm) (hn : ∀ j, j < i → ¬ (l.getD j Rn.zF).name = nm) : Rn.ix l nm = (i : Int) := by
  have e : l.findIdx? (fun f => decide (f.name = nm)) = some i := by
    rw [List.findIdx?_eq_some_iff_getElem]
    refine ⟨h, ?_, fun j hj => ?_⟩
    · rw [List.getD_eq_getElem?_getD, List.getElem?_eq_getElem h] at hp
      exact decide_eq_true hp
    · have := hn j hj
      rw [List.getD_eq_getElem?_getD, List.getElem?_eq_getElem (by omega)] at this
      exact fun q => this (of_decide_eq_true q)
  unfold Rn.ix
  rw [e]
theorem api_Func.ix_miss (nm : ByteArray) (l : List Rn.Fn) (hn : ∀ j, j < l.length → ¬ (l.getD j Rn.zF).name = nm) : Rn.ix l nm = -1 := by
  have e : l.findIdx? (fun f => decide (f.name = nm)) = none := by
    rw [List.findIdx?_eq_none_iff]
    intro x hx
    obtain ⟨j, hj, rfl⟩ := List.getElem_of_mem hx
    have := hn j hj
    rw [List.getD_eq_getElem?_getD, List.getElem?_eq_getElem hj] at this
    exact decide_eq_false this
  unfold Rn.ix
  rw [e]
set_option maxHeartbeats 2000000 in
theorem api_Func.callsP (nm : ByteArray) (g : Nat) (lb : Array Value) (eg : ∀ args w, (callFunc g args).run Try.prog w = .ok (.enter g args) w) (A0 : Option Addr) (c0 : Nat) (l0 : List Rn.Fn) (w : World) (hr0 : Rn.kF.C w A0 l0.length l0) (hc0 : l0.length ≤ c0)
    (hp : ∀ (W : World) (x : Rn.Fn) (cs : List Value), Rn.kF.K W x cs → Below w.heap.size w W → Calls Try.prog g (#[.agg cs.toArray] ++ lb) W fun e w' => e = .returned (.bool (decide (x.name = nm))) ∧ Below W.heap.size W w') :
    Calls Try.prog 16 #[.slice A0 l0.length c0, .func (.func g) #[] lb] w fun e w' => e = .returned (.int .i64 (Rn.ix l0 nm)) ∧ Below w.heap.size w w' := by
  have HR := Aside0.mk hr0
  have HP := Aside0.mk hp
  have hmax : l0.length ≤ 9223372036854775807 := hr0.2.1
  clear hr0 hp
  go_enter Try.func16, Try.ntmps16
  go_wp2
  go_loopg [5, 8] l0.length (fun gg _ s8 wr => ∃ kk : Nat, kk ≤ l0.length ∧ l0.length - kk ≤ gg ∧ s8 = .int .i64 kk ∧ Aside0 (Below w.heap.size w wr) ∧ Aside0 (∀ j, j < kk → ¬ (l0.getD j Rn.zF).name = nm))
  case atStart => exact ⟨0, Nat.zero_le _, by omega, rfl, ⟨Below.refl _ w⟩, ⟨fun j h => absurd h (Nat.not_lt_zero _)⟩⟩
  case round =>
    obtain ⟨kk, hkk, hg, rfl, BW, AF⟩ := hrel
    by_cases hlt : kk < l0.length
    · have hltz : (kk : Int) < (l0.length : Int) := by omega
      have h0z : (0 : Int) ≤ (kk : Int) := by omega
      obtain ⟨ad, Ab, cb, rfl, k0, k1, k2, k3, hl, hC⟩ := Rn.at_F (Kd.C_below HR.out BW.out) kk hlt
      have hcall := HP.out wr _ _ (Rn.mk_F hl hC) BW.out
      have AF2 : Aside0 (¬ (l0.getD kk Rn.zF).name = nm → ∀ j, j < kk + 1 → ¬ (l0.getD j Rn.zF).name = nm) := ⟨fun q j h => by
        by_cases e : j = kk
        · subst e
          exact q
        · exact AF.out j (by omega)⟩
      have AF3 : Aside0 ((l0.getD kk Rn.zF).name = nm → Rn.ix l0 nm = (kk : Int)) := ⟨fun q => api_Func.ix_hit nm l0 kk hlt q AF.out⟩
      clear hl hC
      generalize l0.getD kk Rn.zF = X at hcall AF2 AF3 k0 k1 k2 k3
      by_cases hq : X.name = nm
      · rw [decide_eq_true hq] at hcall
        have e3 := Lib.hid (AF3.out hq)
        clear AF3 hq
        go_wp2_with (go_at_fn g; refine hcall.mono ?_; rintro e w' ⟨rfl, hb'⟩)
        go_ret
        refine ⟨?_, below_step BW.out hb'⟩
        rw [e3.out]
        rfl
      · rw [decide_eq_false hq] at hcall
        have e3 := Aside0.mk (AF2.out hq)
        clear AF2 AF3 hq
        go_wp2_with (go_at_fn g; refine hcall.mono ?_; rintro e w' ⟨rfl, hb'⟩)
        go_roundg (l0.length - (kk + 1))
        case measure => omega
        case rel => exact ⟨kk + 1, by omega, by omega, by go_num, ⟨below_step BW.out hb'⟩, e3⟩
    · have hltz : ¬ (kk : Int) < (l0.length : Int) := by omega
      go_wp2
      go_ret
      refine ⟨?_, BW.out⟩
      rw [api_Func.ix_miss nm l0 (fun j hj => AF.out j (by omega))]
      rfl

-- NOT PRINTED: function 17 (run_machine_call_1)

/-! ### run_machine_step: function 18 (by hand) -/
def run_machine_step.outP : List PanicEntry := [{ v := .iface 48 (.agg #[]), recovered := false }]
theorem run_machine_step.calls (base gm : Nat) (A : Option Addr) (n c : Nat) (fuel : Int) (m : Rn.M) (tv : Value) (W : World) (h : Rn.St W base gm A n c fuel m tv) (hlt : m.steps < fuel) :
    Calls Try.prog 18 #[.pointer (some ⟨gm, 0, none⟩)] W fun e w' => e = .returned (.tuple #[]) ∧ Rn.St w' base gm A n c fuel { m with steps := m.steps + 1 } tv ∧ Rn.Fr base gm tv tv W w' := by
  have k1 := h.at258
  have k2 := h.at259
  have f2 := h.fz 259
  have hs := h.hs
  have hf := h.hf
  have H := Aside0.mk h
  clear h
  go_enter Try.func18, Try.ntmps18
  go_wp2_with (fail)
  go_quiet (fail)
  go_wp2_with (fail)
  go_end0
  exact ⟨rfl, Rn.St.tick (H.out.drewN nq) hlt, (Rn.Fr.drewN (Rn.Fr.refl base gm tv W) nq).mset H.out.hg _ _⟩
theorem run_machine_step.calls_out (base gm : Nat) (A : Option Addr) (n c : Nat) (fuel : Int) (m : Rn.M) (tv : Value) (W : World) (h : Rn.St W base gm A n c fuel m tv) (hlt : fuel ≤ m.steps) :
    Calls Try.prog 18 #[.pointer (some ⟨gm, 0, none⟩)] W fun e w' => e = .panicked run_machine_step.outP ∧ Rn.St w' base gm A n c fuel m tv ∧ Rn.Fr base gm tv tv W w' := by
  have k1 := h.at258
  have k2 := h.at259
  have H := Aside0.mk h
  clear h
  go_enter Try.func18, Try.ntmps18
  go_wp2_with (fail)
  go_quiet (fail)
  go_wp2_with (fail)
  exact ⟨rfl, rfl, H.out.drewN nq, Rn.Fr.drewN (Rn.Fr.refl base gm tv W) nq⟩

end Go.Proofs.Ytjmgfpfdkfelhaa.PRunDeep
