-- By a program of this session (wip/tools/mkprint.py), for this claim.
import Derived.Test.YtbpblefamjmkjaaPEvictTouchesx0
namespace Go.Proofs.Ytbpblefamjmkjaa.PEvictTouches
open Go.RowKit Go.Proofs.YtbpblefamjmkjaaW.PrintWords Go.Proofs.YtbpblefamjmkjaaW.PrintLast Go.Proofs.YtbpblefamjmkjaaW.PrintMore
attribute [local go_sem] max2_int min2_int max_two min_two max_three min_three max_four min_four   -- for this text's walks alone
set_option linter.unusedVariables false
set_option linter.unusedSimpArgs false

/-! ### cubbylaw20_heavy: function 8 -/
def cubbylaw20_heavy.l0 : Nat → List (S29) → Int → Int → Option (Bool)
  | 0, _, _, _ => none
  | k + 1, x0, x3, x4 => if x4 < (x0.length : Int) then (if x3 ≤ 2048 then (if 0 ≤ x4 then (cubbylaw20_heavy.l0 k x0 (wrap64 (x3 + (mn (((rd_T29 x0 x4).f0).size : Int) 1048576))) (wrap64 (x4 + 1))) else (none)) else (if x3 > 2048 then (some true) else (some (decide ((x0.length : Int) > 100))))) else (if x3 > 2048 then (some true) else (some (decide ((x0.length : Int) > 100))))
def cubbylaw20_heavy.f (k : Nat) (l0 : List (S29)) : Option (Bool) := cubbylaw20_heavy.l0 k l0 (mn (l0.length : Int) 1048576) 0
theorem cubbylaw20_heavy.mono_l : ∀ k, (∀ y0 y1 y2, LeO (cubbylaw20_heavy.l0 k y0 y1 y2) (cubbylaw20_heavy.l0 (k + 1) y0 y1 y2))
  | 0 => fun _ _ _ r h => by simp [cubbylaw20_heavy.l0] at h
  | k + 1 => by
    have ih0 := cubbylaw20_heavy.mono_l k
    · intro y0 y1 y2
      unfold cubbylaw20_heavy.l0
      repeat' first
      | (with_reducible exact ih0 _ _ _)
      | (with_reducible exact LeO.refl _)
      | (with_reducible exact LeO.none _)
      | (with_reducible refine LeO.ite ?_ ?_)
      | (with_reducible refine LeO.bind ?_ (fun _ => ?_))
      | exact ih0 _ _ _
      | exact LeO.none _
      | refine LeO.ite ?_ ?_
      | refine LeO.bind ?_ (fun _ => ?_)
theorem cubbylaw20_heavy.mono : ∀ a0 k, LeO (cubbylaw20_heavy.f k a0) (cubbylaw20_heavy.f (k + 1) a0) := by
  intro a0 k
  have ih0 := cubbylaw20_heavy.mono_l k
  unfold cubbylaw20_heavy.f
  repeat' first
      | (with_reducible exact ih0 _ _ _)
      | (with_reducible exact LeO.refl _)
      | (with_reducible exact LeO.none _)
      | (with_reducible refine LeO.ite ?_ ?_)
      | (with_reducible refine LeO.bind ?_ (fun _ => ?_))
      | exact ih0 _ _ _
      | exact LeO.none _
      | refine LeO.ite ?_ ?_
      | refine LeO.bind ?_ (fun _ => ?_)
set_option maxHeartbeats 8000000 in
set_option maxRecDepth 100000 in
theorem cubbylaw20_heavy.calls (k : Nat) (A0 : Option Addr) (c0 : Nat) (l0 : List (S29)) (r : Bool) (w : World) (hr0 : Kd.C k29 w A0 l0.length l0) (hc0 : l0.length ≤ c0) (h : cubbylaw20_heavy.f k l0 = some r) :
    Calls Try.prog 8 #[.slice A0 l0.length c0] w fun e w' => e = .returned (.bool r) ∧ Below w.heap.size w w' := by
  have HR0 := Aside0.mk hr0
  have HC0 := Aside0.mk hc0
  clear hr0 hc0
  have HB := Aside0.mk (Below.refl w.heap.size w)
  have H : (cubbylaw20_heavy.l0 k l0 (mn (l0.length : Int) 1048576) 0) = some r := h
  clear h
  obtain ⟨ji2, hji2⟩ : ∃ j_ : Int, (mn (l0.length : Int) 1048576) = j_ := ⟨_, rfl⟩
  replace H : (cubbylaw20_heavy.l0 k l0 ji2 0) = some r := by first | (rw [hji2] at H; exact H) | (simp only [hji2] at H ⊢; exact H)
  (try (have hji2h : ji2 ≤ 1048576 := by (rw [← hji2]; unfold mn; (repeat' split) <;> omega)))
  (try (have hji2g : ji2 ≤ 64 := by omega))
  (try (have hji2l : 0 ≤ ji2 := by (rw [← hji2]; unfold mn; (repeat' split) <;> omega)))
  (try (have hji2m : 0 ≤ ji2 := by omega))
  have hji2_ : (if 1048576 < (l0.length : Int) then 1048576 else (l0.length : Int)) = ji2 := hji2
  have H' := Aside0.mk H
  clear H
  go_enter Try.func8, Try.ntmps8
  go_wp2
  go_loopg [3, 4] k (fun kq v3 v4 w' => ∃ (x3_1 : Int) (x4_1 : Int), v3 = .int .i64 x3_1 ∧ v4 = .int .i64 x4_1 ∧ Aside0 (cubbylaw20_heavy.l0 kq l0 x3_1 x4_1 = some r) ∧ Aside0 (kq ≤ k) ∧ Aside0 (Below w.heap.size w w'))
  case atStart => exact ⟨(ji2), (0), (by first | rfl | (simp; done) | (simp only [← hji2] <;> (first | rfl | simp)) | (simp [*]; done)), (by first | rfl | (simp; done) | (simp [*]; done)), H', ⟨Nat.le_refl _⟩, ⟨by repeat (first | (with_reducible first | exact HB.out | apply below_alloc | apply pw_below_drewN | apply below_drew1) | exact HB.out)⟩⟩
  case round =>
    clear H'
    try clear p2
    obtain ⟨x3_1, x4_1, rfl, rfl, HA, HK1, HB⟩ := hrel
    cases gk with
    | zero => exact absurd HA.out (by simp [cubbylaw20_heavy.l0])
    | succ k1 =>
      have H := HA.out
      clear HA
      simp only [cubbylaw20_heavy.l0] at H
      by_cases c3 : x4_1 < (l0.length : Int)
      · rw [if_pos c3] at H
        have c3b0 : decide (x4_1 < (l0.length : Int)) = true := decide_eq_true c3
        clear c3
        by_cases c4 : x3_1 ≤ 2048
        · rw [if_pos c4] at H
          have c4b0 : decide (x3_1 ≤ 2048) = true := decide_eq_true c4
          clear c4
          by_cases c5 : 0 ≤ x4_1
          · rw [if_pos c5] at H
            have c5b0 : decide (0 ≤ x4_1) = true := decide_eq_true c5
            clear c5
            obtain ⟨ji6, hji6⟩ : ∃ j_ : Int, (mn (((rd_T29 l0 x4_1).f0).size : Int) 1048576) = j_ := ⟨_, rfl⟩
            replace H : (cubbylaw20_heavy.l0 k1 l0 (wrap64 (x3_1 + (ji6))) (wrap64 (x4_1 + 1))) = some r := by first | (rw [hji6] at H; exact H) | (simp only [hji6] at H ⊢; exact H)
            have hji6_ : (if 1048576 < (((rd_T29 l0 x4_1).f0).size : Int) then 1048576 else (((rd_T29 l0 x4_1).f0).size : Int)) = ji6 := hji6
            have H' := Aside0.mk H
            clear H
            have p101 : 0 ≤ (x4_1 : Int) := of_decide_eq_true (by first | (with_reducible assumption) | assumption)
            have q101 : x4_1 < (l0.length : Int) := of_decide_eq_true (by first | (with_reducible assumption) | assumption)
            obtain ⟨ad101, e101, hx101_0, hx101_1, hx101_2, hx101_3⟩ := at_T29 HR0.out x4_1 p101 q101
            cases e101
            replace hx101_0 := (HB.out.cell (World.block_lt_of_cell? w _ hx101_0)).trans hx101_0
            replace hx101_1 := (HB.out.cell (World.block_lt_of_cell? w _ hx101_1)).trans hx101_1
            replace hx101_2 := (HB.out.cell (World.block_lt_of_cell? w _ hx101_2)).trans hx101_2
            replace hx101_3 := (HB.out.cell (World.block_lt_of_cell? w _ hx101_3)).trans hx101_3
            replace p101 := eq_true p101
            replace q101 := eq_true q101
            go_wp2
            go_roundg k1
            case measure => have := HK1.out; omega
            case rel => exact ⟨(wrap64 (x3_1 + (ji6))), (wrap64 (x4_1 + 1)), (by first | rfl | (simp; done) | (simp only [← hji6] <;> (first | rfl | simp)) | (simp [*]; done)), (by first | rfl | (simp; done) | (simp [*]; done)), H', ⟨by have := HK1.out; omega⟩, ⟨by repeat (first | (with_reducible first | exact HB.out | apply below_alloc | apply pw_below_drewN | apply below_drew1) | exact HB.out)⟩⟩
          · rw [if_neg c5] at H
            exact absurd H (by simp)
        · rw [if_neg c4] at H
          have c4b0 : decide (x3_1 ≤ 2048) = false := decide_eq_false c4
          clear c4
          by_cases c7 : x3_1 > 2048
          · rw [if_pos c7] at H
            have c7b0 : decide (2048 < x3_1) = true := decide_eq_true c7
            clear c7
            obtain rfl := Option.some.inj H
            go_wp2
            go_ret
            exact ⟨by first | rfl | (simp [errW_none, errW_some] <;> rfl) | (simp only [← hji2]; first | rfl | (simp [errW_none, errW_some] <;> rfl)) | (simp [*, errW_none, errW_some] <;> rfl), by repeat (first | (with_reducible first | exact HB.out | apply below_alloc | apply pw_below_drewN | apply below_drew1) | exact HB.out)⟩
          · rw [if_neg c7] at H
            have c7b0 : decide (2048 < x3_1) = false := decide_eq_false c7
            clear c7
            obtain rfl := Option.some.inj H
            go_wp2
            go_ret
            exact ⟨by first | rfl | (simp [errW_none, errW_some] <;> rfl) | (simp only [← hji2]; first | rfl | (simp [errW_none, errW_some] <;> rfl)) | (simp [*, errW_none, errW_some] <;> rfl), by repeat (first | (with_reducible first | exact HB.out | apply below_alloc | apply pw_below_drewN | apply below_drew1) | exact HB.out)⟩
      · rw [if_neg c3] at H
        have c3b0 : decide (x4_1 < (l0.length : Int)) = false := decide_eq_false c3
        clear c3
        by_cases c8 : x3_1 > 2048
        · rw [if_pos c8] at H
          have c8b0 : decide (2048 < x3_1) = true := decide_eq_true c8
          clear c8
          obtain rfl := Option.some.inj H
          go_wp2
          go_ret
          exact ⟨by first | rfl | (simp [errW_none, errW_some] <;> rfl) | (simp only [← hji2]; first | rfl | (simp [errW_none, errW_some] <;> rfl)) | (simp [*, errW_none, errW_some] <;> rfl), by repeat (first | (with_reducible first | exact HB.out | apply below_alloc | apply pw_below_drewN | apply below_drew1) | exact HB.out)⟩
        · rw [if_neg c8] at H
          have c8b0 : decide (2048 < x3_1) = false := decide_eq_false c8
          clear c8
          obtain rfl := Option.some.inj H
          go_wp2
          go_ret
          exact ⟨by first | rfl | (simp [errW_none, errW_some] <;> rfl) | (simp only [← hji2]; first | rfl | (simp [errW_none, errW_some] <;> rfl)) | (simp [*, errW_none, errW_some] <;> rfl), by repeat (first | (with_reducible first | exact HB.out | apply below_alloc | apply pw_below_drewN | apply below_drew1) | exact HB.out)⟩

/-! ### evict_Entry: function 15 (by hand) -/
def evict_Entry.f (l0 : List (S29)) : Option (List (S29)) := if l0.length < 3518437208883 then some l0 else none
theorem evict_Entry.calls (A0 : Option Addr) (c0 : Nat) (l0 : List (S29)) (r : List (S29)) (w : World) (hr0 : Kd.C k29 w A0 l0.length l0) (hc0 : l0.length ≤ c0) (h : evict_Entry.f l0 = some r) :
    Calls Try.prog 15 #[.slice A0 l0.length c0] w fun e w' => ∃ v0_ : Value, e = .returned (v0_) ∧ Kd.R k29 29 w' w.heap.size (fun _ => True) v0_ r ∧ Below w.heap.size w w' := by
  have hl : l0.length < 3518437208883 := by
    unfold evict_Entry.f at h
    split at h
    · assumption
    · cases h
  obtain rfl : l0 = r := by
    unfold evict_Entry.f at h
    rw [if_pos hl] at h
    exact Option.some.inj h
  clear h
  have hu := Try.underlying22
  have he := fun (W : World) => Lib.run_eql_slice_nil (P := Try.prog) W 22 29 A0 l0.length c0 0 0 Try.underlying22
  cases A0 with
  | none =>
    obtain rfl : l0 = [] := by
      rcases Nat.eq_zero_or_pos l0.length with h0 | h0
      · exact List.eq_nil_of_length_eq_zero h0
      · obtain ⟨ad, h1, _⟩ := hr0.2.2 h0
        cases h1
    clear hr0
    simp only [List.length_nil] at he hc0 ⊢
    go_enter Try.func15, Try.ntmps15
    go_wp2
    go_ret
    exact ⟨_, rfl, Kd.R_nil _ _ _ _ _, Below.refl _ _⟩
  | some ad =>
    have HR := Aside0.mk hr0
    clear hr0
    go_enter Try.func15, Try.ntmps15
    have HB := Aside0.mk (Below.refl w.heap.size w)
    go_wp2_with (first | ((with_reducible refine gate_dst (N := 5) rfl ?_); refine Kd.R_lit k29 _ 29 ?hg (N := 5) ?hd (xs := ([] : List (S29))) (inner := []) (ok := fun _ => True) (okp := fun _ => True) ?hr ?hp (fun _ hk => hk) trivial (Below.refl _ _) (Nat.le_refl _) (by simp) ?_; (case hd => rfl); (case hg => rfl); (case hr => first | (go_simp; done) | (go_simp; rfl)); (case hp => exact (Reps.none _ _)); intro v5 w3 ho4 hb hg_ hnew_; clear hg_ hnew_; have HO := Aside0.mk ho4; have HC := Aside0.mk (Kd.C_below HR.out hb); have HB1 := Aside0.mk hb; clear ho4 hb HB HR) | ((with_reducible refine gate_builtin (b := .append) (xs := #[.tmp 5, .tmp 6]) rfl ?_); at_builtin; refine Kd.R_append_rows k29 (w0 := w) w.heap.size rfl (.tmp 5) (.tmp 6) 22 29 (.agg #[(.string ⟨#[]⟩), (.int .i64 0), (.int .i64 0), (.bool false)]) 40 rfl Try.underlying22 info29 rfl (by decide) (by omega) v5 ([] : List (S29)) l0 _ _ _ (fun _ => True) (fun _ => False) rfl rfl ?aO ?aR (fun _ _ h => h) ?aK ?aF ?aB ?aS ?aL ?_; (case aO => exact HO.out); (case aR => exact HC.out); (case aK => exact fun _ h => h.elim); (case aF => exact fun _ _ => trivial); (case aB => exact HB1.out); (case aS => exact HB1.out.size); (case aL => simp; omega); intro v7 w7 ho7 hb7 hg7 hat7; clear HC HO HB1))
    go_ret
    rw [List.nil_append] at ho7
    exact ⟨_, rfl, ho7, hb7⟩

/-! ### evict_Touch: function 9 -/
mutual
def evict_Touch.l0 : Nat → List (S29) → ByteArray → Int → List (S29) → Int → Int → Option ((List (S29)))
  | 0, _, _, _, _, _, _ => none
  | k + 1, x0, x1, x5, x10, x11, x12 => if x12 < x11 then (if 0 ≤ x12 then (if x12 < (x10.length : Int) then (evict_Touch.l0 k x0 x1 (mx x5 ((rd_T29 x10 x12).f2)) x10 x11 (wrap64 (x12 + 1))) else (none)) else (none)) else (if x5 < 1073741824 then (evict_Touch.j1 k x0 x1 (wrap64 (x5 + 1))) else (evict_Touch.j1 k x0 x1 x5))
def evict_Touch.j1 : Nat → List (S29) → ByteArray → Int → Option ((List (S29)))
  | 0, _, _, _ => none
  | k + 1, x0, x1, x5 => (evict_Entry.f x0).bind fun t104 => (evict_Touch.l1 k x1 x5 t104 (t104.length : Int) 0)
def evict_Touch.l1 : Nat → ByteArray → Int → List (S29) → Int → Int → Option ((List (S29)))
  | 0, _, _, _, _, _ => none
  | k + 1, x1, x5, x8, x28, x29 => if x29 < x28 then (if 0 ≤ x29 then (if x29 < (x8.length : Int) then (if ((rd_T29 x8 x29).f0).toList = x1.toList then (evict_Touch.l1 k x1 x5 (x8.set (x29 : Int).toNat (⟨(rd_T29 x8 x29).f0, (rd_T29 x8 x29).f1, x5, (rd_T29 x8 x29).f3⟩ : S29)) x28 (wrap64 (x29 + 1))) else (evict_Touch.l1 k x1 x5 x8 x28 (wrap64 (x29 + 1)))) else (none)) else (none)) else (some x8)
end
def evict_Touch.f (k : Nat) (l0 : List (S29)) (a1 : ByteArray) : Option ((List (S29))) := evict_Touch.l0 k l0 a1 (-1) l0 (l0.length : Int) 0
theorem evict_Touch.mono_l : ∀ k, (∀ y0 y1 y2 y3 y4 y5, LeO (evict_Touch.l0 k y0 y1 y2 y3 y4 y5) (evict_Touch.l0 (k + 1) y0 y1 y2 y3 y4 y5)) ∧ (∀ y0 y1 y2, LeO (evict_Touch.j1 k y0 y1 y2) (evict_Touch.j1 (k + 1) y0 y1 y2)) ∧ (∀ y0 y1 y2 y3 y4, LeO (evict_Touch.l1 k y0 y1 y2 y3 y4) (evict_Touch.l1 (k + 1) y0 y1 y2 y3 y4))
  | 0 => ⟨fun _ _ _ _ _ _ r h => by simp [evict_Touch.l0] at h, fun _ _ _ r h => by simp [evict_Touch.j1] at h, fun _ _ _ _ _ r h => by simp [evict_Touch.l1] at h⟩
  | k + 1 => by
    obtain ⟨ih0, ih1, ih2⟩ := evict_Touch.mono_l k
    refine ⟨?_, ?_, ?_⟩
    · intro y0 y1 y2 y3 y4 y5
      unfold evict_Touch.l0
      repeat' first
      | (with_reducible exact ih0 _ _ _ _ _ _)
      | (with_reducible exact ih1 _ _ _)
      | (with_reducible exact ih2 _ _ _ _ _)
      | (with_reducible exact LeO.refl _)
      | (with_reducible exact LeO.none _)
      | (with_reducible refine LeO.ite ?_ ?_)
      | (with_reducible refine LeO.bind ?_ (fun _ => ?_))
      | exact ih0 _ _ _ _ _ _
      | exact ih1 _ _ _
      | exact ih2 _ _ _ _ _
      | exact LeO.none _
      | refine LeO.ite ?_ ?_
      | refine LeO.bind ?_ (fun _ => ?_)
    · intro y0 y1 y2
      unfold evict_Touch.j1
      repeat' first
      | (with_reducible exact ih0 _ _ _ _ _ _)
      | (with_reducible exact ih1 _ _ _)
      | (with_reducible exact ih2 _ _ _ _ _)
      | (with_reducible exact LeO.refl _)
      | (with_reducible exact LeO.none _)
      | (with_reducible refine LeO.ite ?_ ?_)
      | (with_reducible refine LeO.bind ?_ (fun _ => ?_))
      | exact ih0 _ _ _ _ _ _
      | exact ih1 _ _ _
      | exact ih2 _ _ _ _ _
      | exact LeO.none _
      | refine LeO.ite ?_ ?_
      | refine LeO.bind ?_ (fun _ => ?_)
    · intro y0 y1 y2 y3 y4
      unfold evict_Touch.l1
      repeat' first
      | (with_reducible exact ih0 _ _ _ _ _ _)
      | (with_reducible exact ih1 _ _ _)
      | (with_reducible exact ih2 _ _ _ _ _)
      | (with_reducible exact LeO.refl _)
      | (with_reducible exact LeO.none _)
      | (with_reducible refine LeO.ite ?_ ?_)
      | (with_reducible refine LeO.bind ?_ (fun _ => ?_))
      | exact ih0 _ _ _ _ _ _
      | exact ih1 _ _ _
      | exact ih2 _ _ _ _ _
      | exact LeO.none _
      | refine LeO.ite ?_ ?_
      | refine LeO.bind ?_ (fun _ => ?_)
theorem evict_Touch.mono : ∀ a0 a1 k, LeO (evict_Touch.f k a0 a1) (evict_Touch.f (k + 1) a0 a1) := by
  intro a0 a1 k
  obtain ⟨ih0, ih1, ih2⟩ := evict_Touch.mono_l k
  unfold evict_Touch.f
  repeat' first
      | (with_reducible exact ih0 _ _ _ _ _ _)
      | (with_reducible exact ih1 _ _ _)
      | (with_reducible exact ih2 _ _ _ _ _)
      | (with_reducible exact LeO.refl _)
      | (with_reducible exact LeO.none _)
      | (with_reducible refine LeO.ite ?_ ?_)
      | (with_reducible refine LeO.bind ?_ (fun _ => ?_))
      | exact ih0 _ _ _ _ _ _
      | exact ih1 _ _ _
      | exact ih2 _ _ _ _ _
      | exact LeO.none _
      | refine LeO.ite ?_ ?_
      | refine LeO.bind ?_ (fun _ => ?_)
set_option maxHeartbeats 8000000 in
set_option maxRecDepth 100000 in
theorem evict_Touch.calls (k : Nat) (A0 : Option Addr) (c0 : Nat) (l0 : List (S29)) (a1 : ByteArray) (r : List (S29)) (w : World) (hr0 : Kd.C k29 w A0 l0.length l0) (hc0 : l0.length ≤ c0) (h : evict_Touch.f k l0 a1 = some r) :
    Calls Try.prog 9 #[.slice A0 l0.length c0, .string a1] w fun e w' => ∃ v0_ : Value, e = .returned (v0_) ∧ Kd.R k29 29 w' w.heap.size (fun _ => True) v0_ r ∧ Below w.heap.size w w' := by
  have hu29 := Try.underlying29
  have HR0 := Aside0.mk hr0
  have HC0 := Aside0.mk hc0
  clear hr0 hc0
  have HB := Aside0.mk (Below.refl w.heap.size w)
  have H : (evict_Touch.l0 k l0 a1 (-1) l0 (l0.length : Int) 0) = some r := h
  clear h
  have H' := Aside0.mk H
  clear H
  go_enter Try.func9, Try.ntmps9
  go_wp2
  go_loopg [5, 12] k (fun kq v5 v12 w' => ∃ (x5_1 : Int) (x12_1 : Int), v5 = .int .i64 x5_1 ∧ v12 = .int .i64 x12_1 ∧ Aside0 (evict_Touch.l0 kq l0 a1 x5_1 l0 (l0.length : Int) x12_1 = some r) ∧ Aside0 (kq ≤ k) ∧ Aside0 (Below w.heap.size w w'))
  case atStart => exact ⟨((-1)), (0), (by first | rfl | (simp; done) | (simp [*]; done)), (by first | rfl | (simp; done) | (simp [*]; done)), H', ⟨Nat.le_refl _⟩, ⟨by repeat (first | (with_reducible first | exact HB.out | apply below_alloc | apply pw_below_drewN | apply below_drew1) | exact HB.out)⟩⟩
  case round =>
    clear H'
    try clear p2
    obtain ⟨x5_1, x12_1, rfl, rfl, HA, HK1, HB⟩ := hrel
    cases gk with
    | zero => exact absurd HA.out (by simp [evict_Touch.l0])
    | succ k1 =>
      have H := HA.out
      clear HA
      simp only [evict_Touch.l0] at H
      by_cases c3 : x12_1 < (l0.length : Int)
      · rw [if_pos c3] at H
        have c3b0 : decide (x12_1 < (l0.length : Int)) = true := decide_eq_true c3
        clear c3
        by_cases c4 : 0 ≤ x12_1
        · rw [if_pos c4] at H
          have c4b0 : decide (0 ≤ x12_1) = true := decide_eq_true c4
          clear c4
          by_cases c5 : x12_1 < (l0.length : Int)
          · rw [if_pos c5] at H
            have c5b0 : decide (x12_1 < (l0.length : Int)) = true := decide_eq_true c5
            clear c5
            obtain ⟨ji6, hji6⟩ : ∃ j_ : Int, (mx x5_1 ((rd_T29 l0 x12_1).f2)) = j_ := ⟨_, rfl⟩
            replace H : (evict_Touch.l0 k1 l0 a1 ji6 l0 (l0.length : Int) (wrap64 (x12_1 + 1))) = some r := by first | (rw [hji6] at H; exact H) | (simp only [hji6] at H ⊢; exact H)
            have hji6_ : (if x5_1 < ((rd_T29 l0 x12_1).f2) then ((rd_T29 l0 x12_1).f2) else x5_1) = ji6 := hji6
            have H' := Aside0.mk H
            clear H
            have p102 : 0 ≤ (x12_1 : Int) := of_decide_eq_true (by first | (with_reducible assumption) | assumption)
            have q102 : x12_1 < (l0.length : Int) := of_decide_eq_true (by first | (with_reducible assumption) | assumption)
            obtain ⟨ad102, e102, hx102_0, hx102_1, hx102_2, hx102_3⟩ := at_T29 HR0.out x12_1 p102 q102
            cases e102
            replace hx102_0 := (HB.out.cell (World.block_lt_of_cell? w _ hx102_0)).trans hx102_0
            replace hx102_1 := (HB.out.cell (World.block_lt_of_cell? w _ hx102_1)).trans hx102_1
            replace hx102_2 := (HB.out.cell (World.block_lt_of_cell? w _ hx102_2)).trans hx102_2
            replace hx102_3 := (HB.out.cell (World.block_lt_of_cell? w _ hx102_3)).trans hx102_3
            replace p102 := eq_true p102
            replace q102 := eq_true q102
            go_wp2_with (first | ((with_reducible refine gate_dst (N := 7) rfl ?_); refine box_event ?hg (N := 7) ?hd (cs := #[.string (⟨#[]⟩ : ByteArray), .int .i64 0, .int .i64 0, .bool false]) (t := 29) ?hr ?_; (case hd => rfl); (case hg => rfl); (case hr => first | (go_simp; done) | (go_simp; rfl)); intro gb103 hg w7 hbox hb; have n0_ := Aside0.mk (below_step (by repeat (first | (with_reducible first | exact HB.out | apply below_alloc | apply pw_below_drewN | apply below_drew1) | exact HB.out)) hb); have n1_ := Aside0.mk (hbox); have n2_ := Aside0.mk ((by rw [hg]; exact (below_size (by repeat (first | (with_reducible first | exact HB.out | apply below_alloc | apply pw_below_drewN | apply below_drew1) | exact HB.out))) : w.heap.size ≤ gb103)); have n3_ := Aside0.mk ((by rw [hg]; exact (below_size (by repeat (first | (with_reducible first | exact HB.out | apply below_alloc | apply pw_below_drewN | apply below_drew1) | exact HB.out))) : w.heap.size ≤ gb103)); clear HB; have HB := n0_; have BK103 := n1_; have GW103 := n2_; have GE103 := n3_; clear n0_ n1_ n2_ n3_; clear hb hbox hg; have hcz8_0 : w7.cell? ⟨gb103, 0, none⟩ = some (.string (⟨#[]⟩ : ByteArray)) := (blk_cell BK103.out 0).trans rfl; have hcz8_1 : w7.cell? ⟨gb103, 1, none⟩ = some (.int .i64 0) := (blk_cell BK103.out 1).trans rfl; have hcz8_2 : w7.cell? ⟨gb103, 2, none⟩ = some (.int .i64 0) := (blk_cell BK103.out 2).trans rfl; have hcz8_3 : w7.cell? ⟨gb103, 3, none⟩ = some (.bool false) := (blk_cell BK103.out 3).trans rfl; have hfz8_0 := blk_frozen BK103.out 0; have hfz8_1 := blk_frozen BK103.out 1; have hfz8_2 := blk_frozen BK103.out 2; have hfz8_3 := blk_frozen BK103.out 3; have hdz8_0 : ∀ y0_ y1_ y2_ y3_ : Value, (((((w7.setCell ⟨gb103, 0, none⟩ y0_).setCell ⟨gb103, 1, none⟩ y1_).setCell ⟨gb103, 2, none⟩ y2_).setCell ⟨gb103, 3, none⟩ y3_)).cell? ⟨gb103, 0, none⟩ = some y0_ := fun y0_ y1_ y2_ y3_ => (blk_cell ((blk_put (blk_put (blk_put (blk_put BK103.out 0 y0_ rfl) 1 y1_ rfl) 2 y2_ rfl) 3 y3_ rfl)) 0).trans rfl; have hdz8_1 : ∀ y0_ y1_ y2_ y3_ : Value, (((((w7.setCell ⟨gb103, 0, none⟩ y0_).setCell ⟨gb103, 1, none⟩ y1_).setCell ⟨gb103, 2, none⟩ y2_).setCell ⟨gb103, 3, none⟩ y3_)).cell? ⟨gb103, 1, none⟩ = some y1_ := fun y0_ y1_ y2_ y3_ => (blk_cell ((blk_put (blk_put (blk_put (blk_put BK103.out 0 y0_ rfl) 1 y1_ rfl) 2 y2_ rfl) 3 y3_ rfl)) 1).trans rfl; have hdz8_2 : ∀ y0_ y1_ y2_ y3_ : Value, (((((w7.setCell ⟨gb103, 0, none⟩ y0_).setCell ⟨gb103, 1, none⟩ y1_).setCell ⟨gb103, 2, none⟩ y2_).setCell ⟨gb103, 3, none⟩ y3_)).cell? ⟨gb103, 2, none⟩ = some y2_ := fun y0_ y1_ y2_ y3_ => (blk_cell ((blk_put (blk_put (blk_put (blk_put BK103.out 0 y0_ rfl) 1 y1_ rfl) 2 y2_ rfl) 3 y3_ rfl)) 2).trans rfl; have hdz8_3 : ∀ y0_ y1_ y2_ y3_ : Value, (((((w7.setCell ⟨gb103, 0, none⟩ y0_).setCell ⟨gb103, 1, none⟩ y1_).setCell ⟨gb103, 2, none⟩ y2_).setCell ⟨gb103, 3, none⟩ y3_)).cell? ⟨gb103, 3, none⟩ = some y3_ := fun y0_ y1_ y2_ y3_ => (blk_cell ((blk_put (blk_put (blk_put (blk_put BK103.out 0 y0_ rfl) 1 y1_ rfl) 2 y2_ rfl) 3 y3_ rfl)) 3).trans rfl))
            go_roundg k1
            case measure => have := HK1.out; omega
            case rel => exact ⟨(ji6), (wrap64 (x12_1 + 1)), (by first | rfl | (simp; done) | (simp only [← hji6] <;> (first | rfl | simp)) | (simp [*]; done)), (by first | rfl | (simp; done) | (simp [*]; done)), H', ⟨by have := HK1.out; omega⟩, ⟨by repeat (first | (with_reducible first | exact HB.out | apply below_alloc | apply pw_below_drewN | apply below_drew1 | refine below_set ?_ GE103.out) | exact HB.out)⟩⟩
          · rw [if_neg c5] at H
            exact absurd H (by simp)
        · rw [if_neg c4] at H
          exact absurd H (by simp)
      · rw [if_neg c3] at H
        have c3b0 : decide (x12_1 < (l0.length : Int)) = false := decide_eq_false c3
        clear c3
        have HC9 := Aside0.mk H
        clear H
        go_upto_if 22 with (fail)
        go_cut [5] (fun v5 wc => ∃ (kq : Nat) (x5_8 : Int), v5 = .int .i64 x5_8 ∧ Aside0 (evict_Touch.j1 kq l0 a1 x5_8 = some r) ∧ Aside0 (kq ≤ k1) ∧ Aside0 (Below w.heap.size w wc))
        case first =>
          have H := HC9.out
          clear HC9
          by_cases c10 : x5_1 < 1073741824
          · rw [if_pos c10] at H
            have c10b0 : decide (x5_1 < 1073741824) = true := decide_eq_true c10
            clear c10
            (first | rw [c10b0] | (simp only [i64_w, i32_w]; rw [c10b0]) | skip)
            have H' := Aside0.mk H
            clear H
            go_wp2
            go_meet
            case rel => exact ⟨_, (wrap64 (x5_1 + 1)), (by first | rfl | (simp; done) | (simp [*]; done)), H', ⟨by have := HK1.out; first | omega | exact Nat.le_refl _⟩, ⟨by repeat (first | (with_reducible first | exact HB.out | apply below_alloc | apply pw_below_drewN | apply below_drew1) | exact HB.out)⟩⟩
          · rw [if_neg c10] at H
            have c10b0 : decide (x5_1 < 1073741824) = false := decide_eq_false c10
            clear c10
            (first | rw [c10b0] | (simp only [i64_w, i32_w]; rw [c10b0]) | skip)
            have H' := Aside0.mk H
            clear H
            go_wp2
            go_meet
            case rel => exact ⟨_, (x5_1), (by first | rfl | (simp; done) | (simp [*]; done)), H', ⟨by have := HK1.out; first | omega | exact Nat.le_refl _⟩, ⟨by repeat (first | (with_reducible first | exact HB.out | apply below_alloc | apply pw_below_drewN | apply below_drew1) | exact HB.out)⟩⟩
        case rest =>
          clear HC9
          try clear c1
          try clear p1
          try clear q1
          try clear hx1
          try clear p2
          try clear c3
          try clear c3b0
          try clear c4
          try clear c4b0
          try clear c5
          try clear c5b0
          try clear p6
          try clear c9
          try clear c10
          try clear c10b0
          try clear p10
          try clear q10
          try clear hx10
          try clear hcz8_0
          try clear hcz8_1
          try clear hcz8_2
          try clear hcz8_3
          try clear hfz8_0
          try clear hfz8_1
          try clear hfz8_2
          try clear hfz8_3
          try clear hx102_0
          try clear hx102_1
          try clear hx102_2
          try clear hx102_3
          try clear p102
          try clear p2
          try clear q102
          obtain ⟨kq, x5_8, rfl, HA, HJ8, HB⟩ := hcut
          cases kq with
          | zero => exact absurd HA.out (by simp [evict_Touch.j1])
          | succ kj8 =>
            have H := HA.out
            clear HA
            simp only [evict_Touch.j1] at H
            replace H := Option.bind_eq_some_iff.mp H
            obtain ⟨t104, A110, H⟩ := H
            replace H : (evict_Touch.l1 kj8 a1 x5_8 t104 (t104.length : Int) 0) = some r := H
            have A11 := Aside0.mk A110
            clear A110
            have H' := Aside0.mk H
            clear H
            go_wp2_with (first | ((with_reducible refine gate_callee (f := 15) rfl ?_); refine goesL_ (some 26) rfl rfl Try.func15 (by kernel_rfl) rfl #[.slice A0 l0.length c0] rfl (by (try simp only [List.map_toArray, List.map_cons, List.map_nil]); first | done | rfl | (simp only [List.length_drop, List.length_take]; rfl)) ?_; (with_reducible refine (evict_Entry.calls _ _ l0 t104 _ ?side1 ?side2 A11.out).mono ?_); (case side1 => repeat (first | exact (Kd.C_below HR0.out HB.out) | (with_reducible refine Kd.C_alloc ?_ _) | (with_reducible refine Kd.C_drewN ?_ _) | (with_reducible refine Kd.C_drew ?_))); (case side2 => exact HC0.out); rintro e w12 ⟨v105, rfl, ho0, hb⟩; refine ⟨_, rfl, ?_⟩; have n0_ := Aside0.mk (Kd.R_lower ho0 (below_size (by repeat (first | (with_reducible first | exact HB.out | apply below_alloc | apply pw_below_drewN | apply below_drew1) | exact HB.out)))); have n1_ := Aside0.mk (below_step (by repeat (first | (with_reducible first | exact HB.out | apply below_alloc | apply pw_below_drewN | apply below_drew1) | exact HB.out)) hb); clear HB; have HO106 := n0_; have HB := n1_; clear n0_ n1_; (try clear hb); (try clear hb2); (try clear hk); (try clear hi); (try clear ho0); obtain ⟨Ao13, co13, eo13⟩ := Kd.R_slice HO106.out; subst eo13))
            go_loopg [29] kj8 (fun kq v29 w' => ∃ (x8_3 : List (S29)) (x29_3 : Int), v29 = .int .i64 x29_3 ∧ Aside0 (evict_Touch.l1 kq a1 x5_8 x8_3 (t104.length : Int) x29_3 = some r) ∧ Aside0 (kq ≤ kj8) ∧ Aside0 (Kd.R k29 29 w' w.heap.size (fun _ => True) (.slice Ao13 t104.length co13) x8_3) ∧ Aside0 (Below w.heap.size w w'))
            case atStart => exact ⟨(t104), (0), (by first | rfl | (simp; done) | (simp [*]; done)), H', ⟨Nat.le_refl _⟩, ⟨by (with_reducible repeat (first | apply Kd.R_alloc | apply Kd.R_drewN | apply Kd.R_drew)); exact HO106.out⟩, ⟨by repeat (first | (with_reducible first | exact HB.out | apply below_alloc | apply pw_below_drewN | apply below_drew1) | exact HB.out)⟩⟩
            case round =>
              clear H'
              try clear c1
              try clear p1
              try clear q1
              try clear hx1
              try clear p2
              try clear c3
              try clear c3b0
              try clear c4
              try clear c4b0
              try clear c5
              try clear c5b0
              try clear p6
              try clear c9
              try clear c10
              try clear c10b0
              try clear p10
              try clear q10
              try clear hx10
              try clear hcz8_0
              try clear hcz8_1
              try clear hcz8_2
              try clear hcz8_3
              try clear hfz8_0
              try clear hfz8_1
              try clear hfz8_2
              try clear hfz8_3
              try clear hx102_0
              try clear hx102_1
              try clear hx102_2
              try clear hx102_3
              try clear p1
              try clear p10
              try clear p102
              try clear p2
              try clear p6
              try clear q1
              try clear q10
              try clear q102
              obtain ⟨x8_3, x29_3, rfl, HA, HK3, HO_8, HB⟩ := hrel
              have hl8_3 := (Kd.R_reads' HO_8.out).1
              rw [hl8_3] at HO_8
              (try simp only [hl8_3])
              cases gk with
              | zero => exact absurd HA.out (by simp [evict_Touch.l1])
              | succ k3 =>
                have H := HA.out
                clear HA
                simp only [evict_Touch.l1] at H
                by_cases c14 : x29_3 < (t104.length : Int)
                · rw [if_pos c14] at H
                  have c14b0 : decide (x29_3 < (t104.length : Int)) = true := decide_eq_true c14
                  have c14b0h := c14b0
                  (try simp only [hl8_3] at c14b0h)
                  clear c14
                  by_cases c15 : 0 ≤ x29_3
                  · rw [if_pos c15] at H
                    have c15b0 : decide (0 ≤ x29_3) = true := decide_eq_true c15
                    clear c15
                    by_cases c16 : x29_3 < (x8_3.length : Int)
                    · rw [if_pos c16] at H
                      have c16b0 : decide (x29_3 < (x8_3.length : Int)) = true := decide_eq_true c16
                      have c16b0h := c16b0
                      (try simp only [hl8_3] at c16b0h)
                      clear c16
                      by_cases c17 : ((rd_T29 x8_3 x29_3).f0).toList = a1.toList
                      · rw [if_pos c17] at H
                        have c17b0 : (((rd_T29 x8_3 x29_3).f0).toList == a1.toList) = true := beq_iff_eq.mpr c17
                        have c17b1 : (((rd_T29 x8_3 x29_3).f0).toList != a1.toList) = false := bne_eq_false_iff_eq.mpr c17
                        clear c17
                        obtain ⟨y108, hy108⟩ : ∃ y_ : List (S29), y_ = (x8_3.set (x29_3 : Int).toNat (⟨(rd_T29 x8_3 x29_3).f0, (rd_T29 x8_3 x29_3).f1, x5_8, (rd_T29 x8_3 x29_3).f3⟩ : S29)) := ⟨_, rfl⟩
                        replace H : (evict_Touch.l1 k3 a1 x5_8 y108 (t104.length : Int) (wrap64 (x29_3 + 1))) = some r := by first | (rw [hy108]; with_reducible exact H) | (have H2_ := (Option.bind_some _ _).symm.trans H; rw [hy108]; with_reducible exact H2_) | (have H2_ := (Option.bind_some _ _).symm.trans H; with_reducible exact H2_) | with_reducible exact H | (rw [hy108]; exact H) | exact H
                        have Ny108 := Aside0.mk hy108
                        clear hy108
                        have H' := Aside0.mk H
                        clear H
                        have p107 : 0 ≤ (x29_3 : Int) := of_decide_eq_true (by first | (with_reducible assumption) | assumption)
                        have q107 : x29_3 < (x8_3.length : Int) := of_decide_eq_true (by first | (with_reducible assumption) | assumption)
                        obtain ⟨ad107, e107, hx107_0, hx107_1, hx107_2, hx107_3⟩ := at_T29 (Kd.R_reads' HO_8.out).2.2 x29_3 p107 q107
                        cases e107
                        replace p107 := eq_true p107
                        replace q107 := eq_true q107
                        have p18 : 0 ≤ (x29_3 : Int) := of_decide_eq_true (by first | (with_reducible assumption) | assumption)
                        have q18 : (x29_3 : Int) < ((x8_3.length : Int) : Int) := of_decide_eq_true (by first | (with_reducible assumption) | assumption)
                        obtain ⟨go18, co18, eo18, gb18, gl18, cl18, HG18⟩ := Kd.R_form HO_8.out (by omega)
                        (first | cases eo18 | (injection eo18 with ea_ en_ ec_; (first | subst ea_ | (injection ea_ with ea_; subst ea_)); subst ec_; clear en_))
                        have GB18 := Aside0.mk gb18
                        have GG18 := Aside0.mk HG18
                        clear gb18 gl18 HG18
                        (first | simp only [add_plain] at hx107_0 | skip)
                        (first | simp only [add_plain] at hx107_1 | skip)
                        (first | simp only [add_plain] at hx107_2 | skip)
                        (first | simp only [add_plain] at hx107_3 | skip)
                        obtain ⟨ce18, hcl18, hM18, hcc18, hfr18⟩ := Kd.R_elem HO_8.out z29 (x29_3 : Int) p18 q18
                        obtain rfl := k29_openM hM18
                        have hx18_0 : wr.cell? ⟨go18, (x29_3 : Int).toNat * 4, none⟩ = some (.string ((rd_T29 x8_3 x29_3).f0)) := hcc18 0 _ rfl
                        have hx18_1 : wr.cell? ⟨go18, (x29_3 : Int).toNat * 4 + 1, none⟩ = some (.int .i64 ((rd_T29 x8_3 x29_3).f1)) := hcc18 1 _ rfl
                        have hx18_2 : wr.cell? ⟨go18, (x29_3 : Int).toNat * 4 + 2, none⟩ = some (.int .i64 ((rd_T29 x8_3 x29_3).f2)) := hcc18 2 _ rfl
                        have hx18_3 : wr.cell? ⟨go18, (x29_3 : Int).toNat * 4 + 3, none⟩ = some (.bool ((rd_T29 x8_3 x29_3).f3)) := hcc18 3 _ rfl
                        have hf18_0 : wr.frozen? ⟨go18, (x29_3 : Int).toNat * 4, none⟩ = false := hfr18 0
                        have hf18_1 : wr.frozen? ⟨go18, (x29_3 : Int).toNat * 4 + 1, none⟩ = false := hfr18 1
                        have hf18_2 : wr.frozen? ⟨go18, (x29_3 : Int).toNat * 4 + 2, none⟩ = false := hfr18 2
                        have hf18_3 : wr.frozen? ⟨go18, (x29_3 : Int).toNat * 4 + 3, none⟩ = false := hfr18 3
                        clear hcl18 hcc18 hfr18 hM18
                        replace p18 := eq_true p18
                        replace q18 := eq_true q18
                        have HX19 := Aside0.mk (show Kd.R k29 29 wr w.heap.size (fun _ => True) (.slice (some ⟨go18, 0, none⟩) x8_3.length co13) x8_3 from (by (with_reducible repeat (first | apply Kd.R_alloc | apply Kd.R_drewN | apply Kd.R_drew)); exact HO_8.out))
                        obtain ⟨ce19, hcl19, hM19, hcc19, hfr19⟩ := Kd.R_elem HX19.out z29 (x29_3 : Int) (of_decide_eq_true (by first | (with_reducible assumption) | assumption)) (by have h_ : (x29_3 : Int) < ((x8_3.length : Int) : Int) := of_decide_eq_true (by first | (with_reducible assumption) | assumption); first | exact h_ | (have e_ := (Kd.R_reads' HO_8.out).1; omega) | simpa using h_)
                        obtain rfl := k29_openM hM19
                        have HP19 := Kd.R_seg HX19.out (x29_3 : Int) (of_decide_eq_true (by first | (with_reducible assumption) | assumption)) (by have h_ : (x29_3 : Int) < ((x8_3.length : Int) : Int) := of_decide_eq_true (by first | (with_reducible assumption) | assumption); first | exact h_ | (have e_ := (Kd.R_reads' HO_8.out).1; omega) | simpa using h_) (seg := [.int .i64 x5_8]) (j := 2) hcl19 hcc19 (show 3 ≤ 4 from by decide) (x' := (⟨(rd_T29 x8_3 x29_3).f0, (rd_T29 x8_3 x29_3).f1, x5_8, (rd_T29 x8_3 x29_3).f3⟩ : S29)) (k29_mkM _ _ _ (⟨(rd_T29 x8_3 x29_3).f0, (rd_T29 x8_3 x29_3).f1, x5_8, (rd_T29 x8_3 x29_3).f3⟩ : S29) ) (fun _ hk => hk)
                        have hx19_2 := hcc19 2 _ rfl
                        (try simp only [show (k29).sz = 4 from rfl, Nat.mul_one, Nat.add_zero] at hx19_2)
                        have hf19_2 := hfr19 2
                        (try simp only [show (k29).sz = 4 from rfl, Nat.mul_one, Nat.add_zero] at hf19_2)
                        clear hcl19 hcc19 hfr19 hM19
                        go_wp2_with (first | ((with_reducible refine gate_store (t := 3) (p := 43) rfl ?_); refine store_event (t := 3) (p := 43) (v := ?vo_w20) (w1 := (wr.setCell ⟨go18, (x29_3 : Int).toNat * 4 + 2, none⟩ (.int .i64 x5_8))) ?hg ?ho ?hn ?hr ?_; (case ho => rfl); (case hg => rfl); (case hn => rfl); (case hr => first | (go_simp; done) | (go_simp; rfl)); intro w20 hw; have hg : wr.grownBy w20 (some go18) := (by rw [hw]; exact HP19.2); have hp_ : Kd.R k29 29 w20 w.heap.size (fun _ => True) (.slice (some ⟨go18, 0, none⟩) x8_3.length co13) y108 := (by rw [hw, Ny108.out]; exact HP19.1); clear HP19; have n0_ := Aside0.mk (hp_); have n1_ := Aside0.mk ((by rw [hw]; exact below_set (HB.out) GB18.out : Below w.heap.size w w20)); clear HO_8; clear HB; have HO_8 := n0_; have HB := n1_; clear n0_ n1_; clear hg hw hp_))
                        (try simp only [← hl8_3])
                        go_roundg k3
                        case measure => have := HK1.out; have := HJ8.out; have := HK3.out; omega
                        case rel => exact ⟨(y108), (wrap64 (x29_3 + 1)), (by first | rfl | (simp; done) | (simp [*]; done)), H', ⟨by have := HK1.out; have := HJ8.out; have := HK3.out; omega⟩, ⟨by (try simp only [hl8_3]); (with_reducible repeat (first | apply Kd.R_alloc | apply Kd.R_drewN | apply Kd.R_drew)); exact HO_8.out⟩, ⟨by repeat (first | (with_reducible first | exact HB.out | apply below_alloc | apply pw_below_drewN | apply below_drew1) | exact HB.out)⟩⟩
                      · rw [if_neg c17] at H
                        have c17b0 : (((rd_T29 x8_3 x29_3).f0).toList == a1.toList) = false := beq_eq_false_iff_ne.mpr c17
                        have c17b1 : (((rd_T29 x8_3 x29_3).f0).toList != a1.toList) = true := bne_iff_ne.mpr c17
                        have H' := Aside0.mk H
                        clear H
                        have p107 : 0 ≤ (x29_3 : Int) := of_decide_eq_true (by first | (with_reducible assumption) | assumption)
                        have q107 : x29_3 < (x8_3.length : Int) := of_decide_eq_true (by first | (with_reducible assumption) | assumption)
                        obtain ⟨ad107, e107, hx107_0, hx107_1, hx107_2, hx107_3⟩ := at_T29 (Kd.R_reads' HO_8.out).2.2 x29_3 p107 q107
                        cases e107
                        replace p107 := eq_true p107
                        replace q107 := eq_true q107
                        go_wp2
                        (try simp only [← hl8_3])
                        go_roundg k3
                        case measure => have := HK1.out; have := HJ8.out; have := HK3.out; omega
                        case rel => exact ⟨(x8_3), (wrap64 (x29_3 + 1)), (by first | rfl | (simp; done) | (simp [*]; done)), H', ⟨by have := HK1.out; have := HJ8.out; have := HK3.out; omega⟩, ⟨by (try simp only [hl8_3]); (with_reducible repeat (first | apply Kd.R_alloc | apply Kd.R_drewN | apply Kd.R_drew)); exact HO_8.out⟩, ⟨by repeat (first | (with_reducible first | exact HB.out | apply below_alloc | apply pw_below_drewN | apply below_drew1) | exact HB.out)⟩⟩
                    · rw [if_neg c16] at H
                      exact absurd H (by simp)
                  · rw [if_neg c15] at H
                    exact absurd H (by simp)
                · rw [if_neg c14] at H
                  have c14b0 : decide (x29_3 < (t104.length : Int)) = false := decide_eq_false c14
                  have c14b0h := c14b0
                  (try simp only [hl8_3] at c14b0h)
                  clear c14
                  obtain rfl := Option.some.inj H
                  go_wp2
                  go_ret
                  exact ⟨_, by first | rfl | (simp [errW_none, errW_some] <;> rfl) | (simp [*, errW_none, errW_some] <;> rfl), by (with_reducible repeat (first | apply Kd.R_alloc | apply Kd.R_drewN | apply Kd.R_drew)); exact HO_8.out, by repeat (first | (with_reducible first | exact HB.out | apply below_alloc | apply pw_below_drewN | apply below_drew1) | exact HB.out)⟩

/-! ### cubbyref20_Touch: function 10 -/
mutual
def cubbyref20_Touch.l0 : Nat → List (S30) → ByteArray → Int → Int → Option ((List (S30)))
  | 0, _, _, _, _ => none
  | k + 1, x0, x1, x5, x6 => if x6 < (x0.length : Int) then (if 0 ≤ x6 then (cubbyref20_Touch.l0 k x0 x1 (mx x5 ((rd_T30 x0 x6).f2)) (wrap64 (x6 + 1))) else (none)) else (if x5 < 1073741824 then (cubbyref20_Touch.j1 k x0 x1 (wrap64 (x5 + 1))) else (cubbyref20_Touch.j1 k x0 x1 x5))
def cubbyref20_Touch.j1 : Nat → List (S30) → ByteArray → Int → Option ((List (S30)))
  | 0, _, _, _ => none
  | k + 1, x0, x1, x5 => cubbyref20_Touch.l1 k x0 x1 x5 (([] : List (S30))) 0
def cubbyref20_Touch.l1 : Nat → List (S30) → ByteArray → Int → List (S30) → Int → Option ((List (S30)))
  | 0, _, _, _, _, _ => none
  | k + 1, x0, x1, x5, x7, x8 => if x8 < (x0.length : Int) then (if 0 ≤ x8 then (if ((rd_T30 x0 x8).f0).toList = x1.toList then (if x7.length < 3518437208883 then (cubbyref20_Touch.l1 k x0 x1 x5 (x7 ++ [(⟨(rd_T30 x0 x8).f0, (rd_T30 x0 x8).f1, x5, (rd_T30 x0 x8).f3⟩ : S30)]) (wrap64 (x8 + 1))) else (none)) else (if x7.length < 3518437208883 then (cubbyref20_Touch.l1 k x0 x1 x5 (x7 ++ [(⟨(rd_T30 x0 x8).f0, (rd_T30 x0 x8).f1, (rd_T30 x0 x8).f2, (rd_T30 x0 x8).f3⟩ : S30)]) (wrap64 (x8 + 1))) else (none))) else (none)) else (some x7)
end
def cubbyref20_Touch.f (k : Nat) (l0 : List (S30)) (a1 : ByteArray) : Option ((List (S30))) := cubbyref20_Touch.l0 k l0 a1 (-1) 0
theorem cubbyref20_Touch.mono_l : ∀ k, (∀ y0 y1 y2 y3, LeO (cubbyref20_Touch.l0 k y0 y1 y2 y3) (cubbyref20_Touch.l0 (k + 1) y0 y1 y2 y3)) ∧ (∀ y0 y1 y2, LeO (cubbyref20_Touch.j1 k y0 y1 y2) (cubbyref20_Touch.j1 (k + 1) y0 y1 y2)) ∧ (∀ y0 y1 y2 y3 y4, LeO (cubbyref20_Touch.l1 k y0 y1 y2 y3 y4) (cubbyref20_Touch.l1 (k + 1) y0 y1 y2 y3 y4))
  | 0 => ⟨fun _ _ _ _ r h => by simp [cubbyref20_Touch.l0] at h, fun _ _ _ r h => by simp [cubbyref20_Touch.j1] at h, fun _ _ _ _ _ r h => by simp [cubbyref20_Touch.l1] at h⟩
  | k + 1 => by
    obtain ⟨ih0, ih1, ih2⟩ := cubbyref20_Touch.mono_l k
    refine ⟨?_, ?_, ?_⟩
    · intro y0 y1 y2 y3
      unfold cubbyref20_Touch.l0
      repeat' first
      | (with_reducible exact ih0 _ _ _ _)
      | (with_reducible exact ih1 _ _ _)
      | (with_reducible exact ih2 _ _ _ _ _)
      | (with_reducible exact LeO.refl _)
      | (with_reducible exact LeO.none _)
      | (with_reducible refine LeO.ite ?_ ?_)
      | (with_reducible refine LeO.bind ?_ (fun _ => ?_))
      | exact ih0 _ _ _ _
      | exact ih1 _ _ _
      | exact ih2 _ _ _ _ _
      | exact LeO.none _
      | refine LeO.ite ?_ ?_
      | refine LeO.bind ?_ (fun _ => ?_)
    · intro y0 y1 y2
      unfold cubbyref20_Touch.j1
      repeat' first
      | (with_reducible exact ih0 _ _ _ _)
      | (with_reducible exact ih1 _ _ _)
      | (with_reducible exact ih2 _ _ _ _ _)
      | (with_reducible exact LeO.refl _)
      | (with_reducible exact LeO.none _)
      | (with_reducible refine LeO.ite ?_ ?_)
      | (with_reducible refine LeO.bind ?_ (fun _ => ?_))
      | exact ih0 _ _ _ _
      | exact ih1 _ _ _
      | exact ih2 _ _ _ _ _
      | exact LeO.none _
      | refine LeO.ite ?_ ?_
      | refine LeO.bind ?_ (fun _ => ?_)
    · intro y0 y1 y2 y3 y4
      unfold cubbyref20_Touch.l1
      repeat' first
      | (with_reducible exact ih0 _ _ _ _)
      | (with_reducible exact ih1 _ _ _)
      | (with_reducible exact ih2 _ _ _ _ _)
      | (with_reducible exact LeO.refl _)
      | (with_reducible exact LeO.none _)
      | (with_reducible refine LeO.ite ?_ ?_)
      | (with_reducible refine LeO.bind ?_ (fun _ => ?_))
      | exact ih0 _ _ _ _
      | exact ih1 _ _ _
      | exact ih2 _ _ _ _ _
      | exact LeO.none _
      | refine LeO.ite ?_ ?_
      | refine LeO.bind ?_ (fun _ => ?_)
theorem cubbyref20_Touch.mono : ∀ a0 a1 k, LeO (cubbyref20_Touch.f k a0 a1) (cubbyref20_Touch.f (k + 1) a0 a1) := by
  intro a0 a1 k
  obtain ⟨ih0, ih1, ih2⟩ := cubbyref20_Touch.mono_l k
  unfold cubbyref20_Touch.f
  repeat' first
      | (with_reducible exact ih0 _ _ _ _)
      | (with_reducible exact ih1 _ _ _)
      | (with_reducible exact ih2 _ _ _ _ _)
      | (with_reducible exact LeO.refl _)
      | (with_reducible exact LeO.none _)
      | (with_reducible refine LeO.ite ?_ ?_)
      | (with_reducible refine LeO.bind ?_ (fun _ => ?_))
      | exact ih0 _ _ _ _
      | exact ih1 _ _ _
      | exact ih2 _ _ _ _ _
      | exact LeO.none _
      | refine LeO.ite ?_ ?_
      | refine LeO.bind ?_ (fun _ => ?_)
set_option maxHeartbeats 8000000 in
set_option maxRecDepth 100000 in
theorem cubbyref20_Touch.calls (k : Nat) (A0 : Option Addr) (c0 : Nat) (l0 : List (S30)) (a1 : ByteArray) (r : List (S30)) (w : World) (hr0 : Kd.C k30 w A0 l0.length l0) (hc0 : l0.length ≤ c0) (h : cubbyref20_Touch.f k l0 a1 = some r) :
    Calls Try.prog 10 #[.slice A0 l0.length c0, .string a1] w fun e w' => ∃ v0_ : Value, e = .returned (v0_) ∧ Kd.R k30 30 w' w.heap.size (fun _ => True) v0_ r ∧ Below w.heap.size w w' := by
  have hu30 := Try.underlying30
  have HR0 := Aside0.mk hr0
  have HC0 := Aside0.mk hc0
  clear hr0 hc0
  have HB := Aside0.mk (Below.refl w.heap.size w)
  have H : (cubbyref20_Touch.l0 k l0 a1 (-1) 0) = some r := h
  clear h
  have H' := Aside0.mk H
  clear H
  go_enter Try.func10, Try.ntmps10
  go_wp2
  go_loopg [5, 6] k (fun kq v5 v6 w' => ∃ (x5_1 : Int) (x6_1 : Int), v5 = .int .i64 x5_1 ∧ v6 = .int .i64 x6_1 ∧ Aside0 (cubbyref20_Touch.l0 kq l0 a1 x5_1 x6_1 = some r) ∧ Aside0 (kq ≤ k) ∧ Aside0 (Below w.heap.size w w'))
  case atStart => exact ⟨((-1)), (0), (by first | rfl | (simp; done) | (simp [*]; done)), (by first | rfl | (simp; done) | (simp [*]; done)), H', ⟨Nat.le_refl _⟩, ⟨by repeat (first | (with_reducible first | exact HB.out | apply below_alloc | apply pw_below_drewN | apply below_drew1) | exact HB.out)⟩⟩
  case round =>
    clear H'
    try clear c1
    try clear p2
    obtain ⟨x5_1, x6_1, rfl, rfl, HA, HK1, HB⟩ := hrel
    cases gk with
    | zero => exact absurd HA.out (by simp [cubbyref20_Touch.l0])
    | succ k1 =>
      have H := HA.out
      clear HA
      simp only [cubbyref20_Touch.l0] at H
      by_cases c3 : x6_1 < (l0.length : Int)
      · rw [if_pos c3] at H
        have c3b0 : decide (x6_1 < (l0.length : Int)) = true := decide_eq_true c3
        clear c3
        by_cases c4 : 0 ≤ x6_1
        · rw [if_pos c4] at H
          have c4b0 : decide (0 ≤ x6_1) = true := decide_eq_true c4
          clear c4
          obtain ⟨ji5, hji5⟩ : ∃ j_ : Int, (mx x5_1 ((rd_T30 l0 x6_1).f2)) = j_ := ⟨_, rfl⟩
          replace H : (cubbyref20_Touch.l0 k1 l0 a1 ji5 (wrap64 (x6_1 + 1))) = some r := by first | (rw [hji5] at H; exact H) | (simp only [hji5] at H ⊢; exact H)
          have hji5_ : (if x5_1 < ((rd_T30 l0 x6_1).f2) then ((rd_T30 l0 x6_1).f2) else x5_1) = ji5 := hji5
          have H' := Aside0.mk H
          clear H
          have p109 : 0 ≤ (x6_1 : Int) := of_decide_eq_true (by first | (with_reducible assumption) | assumption)
          have q109 : x6_1 < (l0.length : Int) := of_decide_eq_true (by first | (with_reducible assumption) | assumption)
          obtain ⟨ad109, e109, hx109_0, hx109_1, hx109_2, hx109_3⟩ := at_T30 HR0.out x6_1 p109 q109
          cases e109
          replace hx109_0 := (HB.out.cell (World.block_lt_of_cell? w _ hx109_0)).trans hx109_0
          replace hx109_1 := (HB.out.cell (World.block_lt_of_cell? w _ hx109_1)).trans hx109_1
          replace hx109_2 := (HB.out.cell (World.block_lt_of_cell? w _ hx109_2)).trans hx109_2
          replace hx109_3 := (HB.out.cell (World.block_lt_of_cell? w _ hx109_3)).trans hx109_3
          replace p109 := eq_true p109
          replace q109 := eq_true q109
          go_wp2
          go_roundg k1
          case measure => have := HK1.out; omega
          case rel => exact ⟨(ji5), (wrap64 (x6_1 + 1)), (by first | rfl | (simp; done) | (simp only [← hji5] <;> (first | rfl | simp)) | (simp [*]; done)), (by first | rfl | (simp; done) | (simp [*]; done)), H', ⟨by have := HK1.out; omega⟩, ⟨by repeat (first | (with_reducible first | exact HB.out | apply below_alloc | apply pw_below_drewN | apply below_drew1) | exact HB.out)⟩⟩
        · rw [if_neg c4] at H
          exact absurd H (by simp)
      · rw [if_neg c3] at H
        have c3b0 : decide (x6_1 < (l0.length : Int)) = false := decide_eq_false c3
        clear c3
        have HC6 := Aside0.mk H
        clear H
        go_upto_if 24 with (fail)
        go_cut [5] (fun v5 wc => ∃ (kq : Nat) (x5_5 : Int), v5 = .int .i64 x5_5 ∧ Aside0 (cubbyref20_Touch.j1 kq l0 a1 x5_5 = some r) ∧ Aside0 (kq ≤ k1) ∧ Aside0 (Below w.heap.size w wc))
        case first =>
          have H := HC6.out
          clear HC6
          by_cases c7 : x5_1 < 1073741824
          · rw [if_pos c7] at H
            have c7b0 : decide (x5_1 < 1073741824) = true := decide_eq_true c7
            clear c7
            (first | rw [c7b0] | (simp only [i64_w, i32_w]; rw [c7b0]) | skip)
            have H' := Aside0.mk H
            clear H
            go_wp2
            go_meet
            case rel => exact ⟨_, (wrap64 (x5_1 + 1)), (by first | rfl | (simp; done) | (simp [*]; done)), H', ⟨by have := HK1.out; first | omega | exact Nat.le_refl _⟩, ⟨by repeat (first | (with_reducible first | exact HB.out | apply below_alloc | apply pw_below_drewN | apply below_drew1) | exact HB.out)⟩⟩
          · rw [if_neg c7] at H
            have c7b0 : decide (x5_1 < 1073741824) = false := decide_eq_false c7
            clear c7
            (first | rw [c7b0] | (simp only [i64_w, i32_w]; rw [c7b0]) | skip)
            have H' := Aside0.mk H
            clear H
            go_wp2
            go_meet
            case rel => exact ⟨_, (x5_1), (by first | rfl | (simp; done) | (simp [*]; done)), H', ⟨by have := HK1.out; first | omega | exact Nat.le_refl _⟩, ⟨by repeat (first | (with_reducible first | exact HB.out | apply below_alloc | apply pw_below_drewN | apply below_drew1) | exact HB.out)⟩⟩
        case rest =>
          clear HC6
          try clear c1
          try clear p1
          try clear q1
          try clear hx1
          try clear p2
          try clear c3
          try clear c3b0
          try clear c4
          try clear c4b0
          try clear p6
          try clear c7
          try clear c7b0
          try clear hx109_0
          try clear hx109_1
          try clear hx109_2
          try clear hx109_3
          try clear p109
          try clear p2
          try clear q109
          obtain ⟨kq, x5_5, rfl, HA, HJ5, HB⟩ := hcut
          cases kq with
          | zero => exact absurd HA.out (by simp [cubbyref20_Touch.j1])
          | succ kj5 =>
            have H := HA.out
            clear HA
            simp only [cubbyref20_Touch.j1] at H
            obtain ⟨y110, hy110⟩ : ∃ y_ : List (S30), y_ = (([] : List (S30))) := ⟨_, rfl⟩
            replace H : (cubbyref20_Touch.l1 kj5 l0 a1 x5_5 y110 0) = some r := by first | (rw [hy110]; with_reducible exact H) | (have H2_ := (Option.bind_some _ _).symm.trans H; rw [hy110]; with_reducible exact H2_) | (have H2_ := (Option.bind_some _ _).symm.trans H; with_reducible exact H2_) | with_reducible exact H | (rw [hy110]; exact H) | exact H
            have Ny110 := Aside0.mk hy110
            clear hy110
            have H' := Aside0.mk H
            clear H
            go_wp2_with (first | ((with_reducible refine gate_dst (N := 27) rfl ?_); refine Kd.R_lit k30 _ 30 ?hg (N := 27) ?hd (xs := ([] : List (S30))) (inner := []) (ok := fun _ => True) (okp := fun _ => True) ?hr ?hp (fun _ hk => hk) trivial (Below.refl _ _) (Nat.le_refl _) (by simp) ?_; (case hd => rfl); (case hg => rfl); (case hr => first | (go_simp; done) | (go_simp; rfl)); (case hp => exact (Reps.none _ _)); intro v111 w8 ho9 hb hg_ hnew_; clear hg_ hnew_; (first | rw [← Ny110.out] at ho9 | (simp only [Int.reduceToNat] at ho9; rw [← Ny110.out] at ho9)); have n0_ := Aside0.mk (Kd.R_lower ho9 (below_size (by repeat (first | (with_reducible first | exact HB.out | apply below_alloc | apply pw_below_drewN | apply below_drew1) | exact HB.out)))); have n1_ := Aside0.mk (below_step (by repeat (first | (with_reducible first | exact HB.out | apply below_alloc | apply pw_below_drewN | apply below_drew1) | exact HB.out)) hb); clear HB; have HO112 := n0_; have HB := n1_; clear n0_ n1_; clear hb ho9))
            go_loopg [7, 8] kj5 (fun kq v7 v8 w' => ∃ (x7_3 : List (S30)) (x8_3 : Int), v8 = .int .i64 x8_3 ∧ Aside0 (cubbyref20_Touch.l1 kq l0 a1 x5_5 x7_3 x8_3 = some r) ∧ Aside0 (kq ≤ kj5) ∧ Aside0 (Kd.R k30 30 w' w.heap.size (fun _ => True) v7 x7_3) ∧ Aside0 (Below w.heap.size w w'))
            case atStart => exact ⟨(y110), (0), (by first | rfl | (simp; done) | (simp [*]; done)), H', ⟨Nat.le_refl _⟩, ⟨by (with_reducible repeat (first | apply Kd.R_alloc | apply Kd.R_drewN | apply Kd.R_drew)); exact HO112.out⟩, ⟨by repeat (first | (with_reducible first | exact HB.out | apply below_alloc | apply pw_below_drewN | apply below_drew1) | exact HB.out)⟩⟩
            case round =>
              clear H'
              try clear c1
              try clear p1
              try clear q1
              try clear hx1
              try clear p2
              try clear c3
              try clear c3b0
              try clear c4
              try clear c4b0
              try clear p6
              try clear c7
              try clear c7b0
              try clear hx109_0
              try clear hx109_1
              try clear hx109_2
              try clear hx109_3
              try clear p1
              try clear p109
              try clear p2
              try clear p6
              try clear q1
              try clear q109
              obtain ⟨x7_3, x8_3, rfl, HA, HK3, HO_7, HB⟩ := hrel
              cases gk with
              | zero => exact absurd HA.out (by simp [cubbyref20_Touch.l1])
              | succ k3 =>
                have H := HA.out
                clear HA
                simp only [cubbyref20_Touch.l1] at H
                by_cases c10 : x8_3 < (l0.length : Int)
                · rw [if_pos c10] at H
                  have c10b0 : decide (x8_3 < (l0.length : Int)) = true := decide_eq_true c10
                  clear c10
                  by_cases c11 : 0 ≤ x8_3
                  · rw [if_pos c11] at H
                    have c11b0 : decide (0 ≤ x8_3) = true := decide_eq_true c11
                    clear c11
                    by_cases c12 : ((rd_T30 l0 x8_3).f0).toList = a1.toList
                    · rw [if_pos c12] at H
                      have c12b0 : (((rd_T30 l0 x8_3).f0).toList == a1.toList) = true := beq_iff_eq.mpr c12
                      have c12b1 : (((rd_T30 l0 x8_3).f0).toList != a1.toList) = false := bne_eq_false_iff_eq.mpr c12
                      clear c12
                      by_cases c13 : x7_3.length < 3518437208883
                      · rw [if_pos c13] at H
                        have LMc13 := Aside0.mk c13
                        clear c13
                        obtain ⟨y115, hy115⟩ : ∃ y_ : List (S30), y_ = (x7_3 ++ [(⟨(rd_T30 l0 x8_3).f0, (rd_T30 l0 x8_3).f1, x5_5, (rd_T30 l0 x8_3).f3⟩ : S30)]) := ⟨_, rfl⟩
                        replace H : (cubbyref20_Touch.l1 k3 l0 a1 x5_5 y115 (wrap64 (x8_3 + 1))) = some r := by first | (rw [hy115]; with_reducible exact H) | (have H2_ := (Option.bind_some _ _).symm.trans H; rw [hy115]; with_reducible exact H2_) | (have H2_ := (Option.bind_some _ _).symm.trans H; with_reducible exact H2_) | with_reducible exact H | (rw [hy115]; exact H) | exact H
                        have Ny115 := Aside0.mk hy115
                        clear hy115
                        have H' := Aside0.mk H
                        clear H
                        have p113 : 0 ≤ (x8_3 : Int) := of_decide_eq_true (by first | (with_reducible assumption) | assumption)
                        have q113 : x8_3 < (l0.length : Int) := of_decide_eq_true (by first | (with_reducible assumption) | assumption)
                        obtain ⟨ad113, e113, hx113_0, hx113_1, hx113_2, hx113_3⟩ := at_T30 HR0.out x8_3 p113 q113
                        cases e113
                        replace hx113_0 := (HB.out.cell (World.block_lt_of_cell? w _ hx113_0)).trans hx113_0
                        replace hx113_1 := (HB.out.cell (World.block_lt_of_cell? w _ hx113_1)).trans hx113_1
                        replace hx113_2 := (HB.out.cell (World.block_lt_of_cell? w _ hx113_2)).trans hx113_2
                        replace hx113_3 := (HB.out.cell (World.block_lt_of_cell? w _ hx113_3)).trans hx113_3
                        replace p113 := eq_true p113
                        replace q113 := eq_true q113
                        go_wp2_with (first | ((with_reducible refine gate_dst (N := 9) rfl ?_); refine box_event ?hg (N := 9) ?hd (cs := #[.string (⟨#[]⟩ : ByteArray), .int .i64 0, .int .i64 0, .bool false]) (t := 30) ?hr ?_; (case hd => rfl); (case hg => rfl); (case hr => first | (go_simp; done) | (go_simp; rfl)); intro gb114 hg w14 hbox hb; have n0_ := Aside0.mk (Kd.R_below (Kd.R_elderB (by (with_reducible repeat (first | apply Kd.R_alloc | apply Kd.R_drewN | apply Kd.R_drew)); exact HO_7.out) gb114 (Nat.le_of_eq hg.symm)) hb); have n1_ := Aside0.mk (below_step (by repeat (first | (with_reducible first | exact HB.out | apply below_alloc | apply pw_below_drewN | apply below_drew1) | exact HB.out)) hb); have n2_ := Aside0.mk (hbox); have n3_ := Aside0.mk ((by rw [hg]; exact (below_size (by repeat (first | (with_reducible first | exact HB.out | apply below_alloc | apply pw_below_drewN | apply below_drew1) | exact HB.out))) : w.heap.size ≤ gb114)); have n4_ := Aside0.mk ((by rw [hg]; exact (below_size (by repeat (first | (with_reducible first | exact HB.out | apply below_alloc | apply pw_below_drewN | apply below_drew1) | exact HB.out))) : w.heap.size ≤ gb114)); clear HO_7; clear HB; have HO_7 := n0_; have HB := n1_; have BK114 := n2_; have GW114 := n3_; have GE114 := n4_; clear n0_ n1_ n2_ n3_ n4_; clear hb hbox hg; have hcz15_0 : w14.cell? ⟨gb114, 0, none⟩ = some (.string (⟨#[]⟩ : ByteArray)) := (blk_cell BK114.out 0).trans rfl; have hcz15_1 : w14.cell? ⟨gb114, 1, none⟩ = some (.int .i64 0) := (blk_cell BK114.out 1).trans rfl; have hcz15_2 : w14.cell? ⟨gb114, 2, none⟩ = some (.int .i64 0) := (blk_cell BK114.out 2).trans rfl; have hcz15_3 : w14.cell? ⟨gb114, 3, none⟩ = some (.bool false) := (blk_cell BK114.out 3).trans rfl; have hfz15_0 := blk_frozen BK114.out 0; have hfz15_1 := blk_frozen BK114.out 1; have hfz15_2 := blk_frozen BK114.out 2; have hfz15_3 := blk_frozen BK114.out 3; have hdz15_0 : ∀ y0_ y1_ y2_ y3_ : Value, (((((w14.setCell ⟨gb114, 0, none⟩ y0_).setCell ⟨gb114, 1, none⟩ y1_).setCell ⟨gb114, 2, none⟩ y2_).setCell ⟨gb114, 3, none⟩ y3_)).cell? ⟨gb114, 0, none⟩ = some y0_ := fun y0_ y1_ y2_ y3_ => (blk_cell ((blk_put (blk_put (blk_put (blk_put BK114.out 0 y0_ rfl) 1 y1_ rfl) 2 y2_ rfl) 3 y3_ rfl)) 0).trans rfl; have hdz15_1 : ∀ y0_ y1_ y2_ y3_ : Value, (((((w14.setCell ⟨gb114, 0, none⟩ y0_).setCell ⟨gb114, 1, none⟩ y1_).setCell ⟨gb114, 2, none⟩ y2_).setCell ⟨gb114, 3, none⟩ y3_)).cell? ⟨gb114, 1, none⟩ = some y1_ := fun y0_ y1_ y2_ y3_ => (blk_cell ((blk_put (blk_put (blk_put (blk_put BK114.out 0 y0_ rfl) 1 y1_ rfl) 2 y2_ rfl) 3 y3_ rfl)) 1).trans rfl; have hdz15_2 : ∀ y0_ y1_ y2_ y3_ : Value, (((((w14.setCell ⟨gb114, 0, none⟩ y0_).setCell ⟨gb114, 1, none⟩ y1_).setCell ⟨gb114, 2, none⟩ y2_).setCell ⟨gb114, 3, none⟩ y3_)).cell? ⟨gb114, 2, none⟩ = some y2_ := fun y0_ y1_ y2_ y3_ => (blk_cell ((blk_put (blk_put (blk_put (blk_put BK114.out 0 y0_ rfl) 1 y1_ rfl) 2 y2_ rfl) 3 y3_ rfl)) 2).trans rfl; have hdz15_3 : ∀ y0_ y1_ y2_ y3_ : Value, (((((w14.setCell ⟨gb114, 0, none⟩ y0_).setCell ⟨gb114, 1, none⟩ y1_).setCell ⟨gb114, 2, none⟩ y2_).setCell ⟨gb114, 3, none⟩ y3_)).cell? ⟨gb114, 3, none⟩ = some y3_ := fun y0_ y1_ y2_ y3_ => (blk_cell ((blk_put (blk_put (blk_put (blk_put BK114.out 0 y0_ rfl) 1 y1_ rfl) 2 y2_ rfl) 3 y3_ rfl)) 3).trans rfl) | ((with_reducible refine gate_builtin (b := .append) (xs := #[.tmp 44, .tmp 46]) rfl ?_); at_builtin; refine Kd.R_append k30 (w0 := w) w.heap.size rfl (.tmp 44) (.tmp 46) 25 30 (.agg #[(.string ⟨#[]⟩), (.int .i64 0), (.int .i64 0), (.bool false)]) 40 rfl Try.underlying25 info30 rfl (by decide) (by omega) u7 x7_3 (⟨(rd_T30 l0 x8_3).f0, (rd_T30 l0 x8_3).f1, x5_5, (rd_T30 l0 x8_3).f3⟩ : S30) [.string ((rd_T30 l0 x8_3).f0), .int .i64 ((rd_T30 l0 x8_3).f1), .int .i64 x5_5, .bool ((rd_T30 l0 x8_3).f3)] (fun k_ => k_ ≠ gb114) (fun _ => False) rfl (by first | (go_simp; done) | (go_simp; rfl)) ?aP (fun _ hk => hk.elim) ?aF ?aO ?aB ?aS ?aL ?_; (case aP => exact k30_mkM _ _ _ (⟨(rd_T30 l0 x8_3).f0, (rd_T30 l0 x8_3).f1, x5_5, (rd_T30 l0 x8_3).f3⟩ : S30)); (case aB => exact (by repeat (first | (with_reducible first | exact HB.out | apply below_alloc | apply pw_below_drewN | apply below_drew1 | refine below_set ?_ GE114.out) | exact HB.out))); (case aF => exact (fun k_ hk => Kd.freshB (g := gb114) (o := .cells #[.string ((rd_T30 l0 x8_3).f0), .int .i64 ((rd_T30 l0 x8_3).f1), .int .i64 x5_5, .bool ((rd_T30 l0 x8_3).f3)] 30 (0, 0)) (by (with_reducible repeat (first | refine blk_drewN ?_ _ | refine blk_drew ?_ | refine blk_alloc ?_ _)); refine blk_put (cs := #[.string ((rd_T30 l0 x8_3).f0), .int .i64 ((rd_T30 l0 x8_3).f1), .int .i64 ((rd_T30 l0 x8_3).f2), .bool ((rd_T30 l0 x8_3).f3)]) ?_ 2 _ rfl; (with_reducible repeat (first | refine blk_drewN ?_ _ | refine blk_drew ?_ | refine blk_alloc ?_ _)); refine blk_put (cs := #[.string ((rd_T30 l0 x8_3).f0), .int .i64 ((rd_T30 l0 x8_3).f1), .int .i64 ((rd_T30 l0 x8_3).f2), .bool false]) ?_ 3 _ rfl; (with_reducible repeat (first | refine blk_drewN ?_ _ | refine blk_drew ?_ | refine blk_alloc ?_ _)); refine blk_put (cs := #[.string ((rd_T30 l0 x8_3).f0), .int .i64 ((rd_T30 l0 x8_3).f1), .int .i64 0, .bool false]) ?_ 2 _ rfl; (with_reducible repeat (first | refine blk_drewN ?_ _ | refine blk_drew ?_ | refine blk_alloc ?_ _)); refine blk_put (cs := #[.string ((rd_T30 l0 x8_3).f0), .int .i64 0, .int .i64 0, .bool false]) ?_ 1 _ rfl; (with_reducible repeat (first | refine blk_drewN ?_ _ | refine blk_drew ?_ | refine blk_alloc ?_ _)); refine blk_put (cs := #[.string (⟨#[]⟩ : ByteArray), .int .i64 0, .int .i64 0, .bool false]) ?_ 0 _ rfl; (with_reducible repeat (first | refine blk_drewN ?_ _ | refine blk_drew ?_ | refine blk_alloc ?_ _)); exact BK114.out) k_ hk)); (case aO => exact (by (with_reducible repeat (first | apply Kd.R_alloc | apply Kd.R_drewN | apply Kd.R_drew)); exact Kd.R_mono (Kd.R_far (p := ⟨gb114, 2, none⟩) (Kd.R_far (p := ⟨gb114, 3, none⟩) (Kd.R_far (p := ⟨gb114, 2, none⟩) (Kd.R_far (p := ⟨gb114, 1, none⟩) (Kd.R_far (p := ⟨gb114, 0, none⟩) (Kd.R_mono HO_7.out (fun k_ hk => (⟨hk, hk.2⟩ : _ ∧ k_ ≠ gb114))) (fun _ hk => hk.2) (.string ((rd_T30 l0 x8_3).f0))) (fun _ hk => hk.2) (.int .i64 ((rd_T30 l0 x8_3).f1))) (fun _ hk => hk.2) (.int .i64 ((rd_T30 l0 x8_3).f2))) (fun _ hk => hk.2) (.bool ((rd_T30 l0 x8_3).f3))) (fun _ hk => hk.2) (.int .i64 x5_5)) (fun _ hk => hk.1.2))); (case aS => exact (below_size (by repeat (first | (with_reducible first | exact HB.out | apply below_alloc | apply pw_below_drewN | apply below_drew1 | refine below_set ?_ GE114.out) | exact HB.out)))); (case aL => have := LMc13.out; omega); intro v116 w16 ho hb hg hat; rw [← Ny115.out] at ho; have n0_ := Aside0.mk (blk_grown (g := gb114) (o := .cells #[.string ((rd_T30 l0 x8_3).f0), .int .i64 ((rd_T30 l0 x8_3).f1), .int .i64 x5_5, .bool ((rd_T30 l0 x8_3).f3)] 30 (0, 0)) (by (with_reducible repeat (first | refine blk_drewN ?_ _ | refine blk_drew ?_ | refine blk_alloc ?_ _)); refine blk_put (cs := #[.string ((rd_T30 l0 x8_3).f0), .int .i64 ((rd_T30 l0 x8_3).f1), .int .i64 ((rd_T30 l0 x8_3).f2), .bool ((rd_T30 l0 x8_3).f3)]) ?_ 2 _ rfl; (with_reducible repeat (first | refine blk_drewN ?_ _ | refine blk_drew ?_ | refine blk_alloc ?_ _)); refine blk_put (cs := #[.string ((rd_T30 l0 x8_3).f0), .int .i64 ((rd_T30 l0 x8_3).f1), .int .i64 ((rd_T30 l0 x8_3).f2), .bool false]) ?_ 3 _ rfl; (with_reducible repeat (first | refine blk_drewN ?_ _ | refine blk_drew ?_ | refine blk_alloc ?_ _)); refine blk_put (cs := #[.string ((rd_T30 l0 x8_3).f0), .int .i64 ((rd_T30 l0 x8_3).f1), .int .i64 0, .bool false]) ?_ 2 _ rfl; (with_reducible repeat (first | refine blk_drewN ?_ _ | refine blk_drew ?_ | refine blk_alloc ?_ _)); refine blk_put (cs := #[.string ((rd_T30 l0 x8_3).f0), .int .i64 0, .int .i64 0, .bool false]) ?_ 1 _ rfl; (with_reducible repeat (first | refine blk_drewN ?_ _ | refine blk_drew ?_ | refine blk_alloc ?_ _)); refine blk_put (cs := #[.string (⟨#[]⟩ : ByteArray), .int .i64 0, .int .i64 0, .bool false]) ?_ 0 _ rfl; (with_reducible repeat (first | refine blk_drewN ?_ _ | refine blk_drew ?_ | refine blk_alloc ?_ _)); exact BK114.out) hg (Kd.R_away HO_7.out (fun _ hk => hk.2))); have n1_ := Aside0.mk (hb); have n2_ := Aside0.mk (ho); clear BK114; clear HB; clear HO_7; have BK114 := n0_; have HB := n1_; have HO117 := n2_; clear n0_ n1_ n2_; clear ho hb hg hat))
                        go_roundg k3
                        case measure => have := HK1.out; have := HJ5.out; have := HK3.out; omega
                        case rel => exact ⟨(y115), (wrap64 (x8_3 + 1)), (by first | rfl | (simp; done) | (simp [*]; done)), H', ⟨by have := HK1.out; have := HJ5.out; have := HK3.out; omega⟩, ⟨by (with_reducible repeat (first | apply Kd.R_alloc | apply Kd.R_drewN | apply Kd.R_drew)); exact Kd.R_mono HO117.out (fun _ hk => trivial)⟩, ⟨by repeat (first | (with_reducible first | exact HB.out | apply below_alloc | apply pw_below_drewN | apply below_drew1 | refine below_set ?_ GE114.out) | exact HB.out)⟩⟩
                      · rw [if_neg c13] at H
                        exact absurd H (by simp)
                    · rw [if_neg c12] at H
                      have c12b0 : (((rd_T30 l0 x8_3).f0).toList == a1.toList) = false := beq_eq_false_iff_ne.mpr c12
                      have c12b1 : (((rd_T30 l0 x8_3).f0).toList != a1.toList) = true := bne_iff_ne.mpr c12
                      by_cases c17 : x7_3.length < 3518437208883
                      · rw [if_pos c17] at H
                        have LMc17 := Aside0.mk c17
                        clear c17
                        obtain ⟨y118, hy118⟩ : ∃ y_ : List (S30), y_ = (x7_3 ++ [(⟨(rd_T30 l0 x8_3).f0, (rd_T30 l0 x8_3).f1, (rd_T30 l0 x8_3).f2, (rd_T30 l0 x8_3).f3⟩ : S30)]) := ⟨_, rfl⟩
                        replace H : (cubbyref20_Touch.l1 k3 l0 a1 x5_5 y118 (wrap64 (x8_3 + 1))) = some r := by first | (rw [hy118]; with_reducible exact H) | (have H2_ := (Option.bind_some _ _).symm.trans H; rw [hy118]; with_reducible exact H2_) | (have H2_ := (Option.bind_some _ _).symm.trans H; with_reducible exact H2_) | with_reducible exact H | (rw [hy118]; exact H) | exact H
                        have Ny118 := Aside0.mk hy118
                        clear hy118
                        have H' := Aside0.mk H
                        clear H
                        have p113 : 0 ≤ (x8_3 : Int) := of_decide_eq_true (by first | (with_reducible assumption) | assumption)
                        have q113 : x8_3 < (l0.length : Int) := of_decide_eq_true (by first | (with_reducible assumption) | assumption)
                        obtain ⟨ad113, e113, hx113_0, hx113_1, hx113_2, hx113_3⟩ := at_T30 HR0.out x8_3 p113 q113
                        cases e113
                        replace hx113_0 := (HB.out.cell (World.block_lt_of_cell? w _ hx113_0)).trans hx113_0
                        replace hx113_1 := (HB.out.cell (World.block_lt_of_cell? w _ hx113_1)).trans hx113_1
                        replace hx113_2 := (HB.out.cell (World.block_lt_of_cell? w _ hx113_2)).trans hx113_2
                        replace hx113_3 := (HB.out.cell (World.block_lt_of_cell? w _ hx113_3)).trans hx113_3
                        replace p113 := eq_true p113
                        replace q113 := eq_true q113
                        go_wp2_with (first | ((with_reducible refine gate_dst (N := 9) rfl ?_); refine box_event ?hg (N := 9) ?hd (cs := #[.string (⟨#[]⟩ : ByteArray), .int .i64 0, .int .i64 0, .bool false]) (t := 30) ?hr ?_; (case hd => rfl); (case hg => rfl); (case hr => first | (go_simp; done) | (go_simp; rfl)); intro gb114 hg w18 hbox hb; have n0_ := Aside0.mk (Kd.R_below (Kd.R_elderB (by (with_reducible repeat (first | apply Kd.R_alloc | apply Kd.R_drewN | apply Kd.R_drew)); exact HO_7.out) gb114 (Nat.le_of_eq hg.symm)) hb); have n1_ := Aside0.mk (below_step (by repeat (first | (with_reducible first | exact HB.out | apply below_alloc | apply pw_below_drewN | apply below_drew1) | exact HB.out)) hb); have n2_ := Aside0.mk (hbox); have n3_ := Aside0.mk ((by rw [hg]; exact (below_size (by repeat (first | (with_reducible first | exact HB.out | apply below_alloc | apply pw_below_drewN | apply below_drew1) | exact HB.out))) : w.heap.size ≤ gb114)); have n4_ := Aside0.mk ((by rw [hg]; exact (below_size (by repeat (first | (with_reducible first | exact HB.out | apply below_alloc | apply pw_below_drewN | apply below_drew1) | exact HB.out))) : w.heap.size ≤ gb114)); clear HO_7; clear HB; have HO_7 := n0_; have HB := n1_; have BK114 := n2_; have GW114 := n3_; have GE114 := n4_; clear n0_ n1_ n2_ n3_ n4_; clear hb hbox hg; have hcz19_0 : w18.cell? ⟨gb114, 0, none⟩ = some (.string (⟨#[]⟩ : ByteArray)) := (blk_cell BK114.out 0).trans rfl; have hcz19_1 : w18.cell? ⟨gb114, 1, none⟩ = some (.int .i64 0) := (blk_cell BK114.out 1).trans rfl; have hcz19_2 : w18.cell? ⟨gb114, 2, none⟩ = some (.int .i64 0) := (blk_cell BK114.out 2).trans rfl; have hcz19_3 : w18.cell? ⟨gb114, 3, none⟩ = some (.bool false) := (blk_cell BK114.out 3).trans rfl; have hfz19_0 := blk_frozen BK114.out 0; have hfz19_1 := blk_frozen BK114.out 1; have hfz19_2 := blk_frozen BK114.out 2; have hfz19_3 := blk_frozen BK114.out 3; have hdz19_0 : ∀ y0_ y1_ y2_ y3_ : Value, (((((w18.setCell ⟨gb114, 0, none⟩ y0_).setCell ⟨gb114, 1, none⟩ y1_).setCell ⟨gb114, 2, none⟩ y2_).setCell ⟨gb114, 3, none⟩ y3_)).cell? ⟨gb114, 0, none⟩ = some y0_ := fun y0_ y1_ y2_ y3_ => (blk_cell ((blk_put (blk_put (blk_put (blk_put BK114.out 0 y0_ rfl) 1 y1_ rfl) 2 y2_ rfl) 3 y3_ rfl)) 0).trans rfl; have hdz19_1 : ∀ y0_ y1_ y2_ y3_ : Value, (((((w18.setCell ⟨gb114, 0, none⟩ y0_).setCell ⟨gb114, 1, none⟩ y1_).setCell ⟨gb114, 2, none⟩ y2_).setCell ⟨gb114, 3, none⟩ y3_)).cell? ⟨gb114, 1, none⟩ = some y1_ := fun y0_ y1_ y2_ y3_ => (blk_cell ((blk_put (blk_put (blk_put (blk_put BK114.out 0 y0_ rfl) 1 y1_ rfl) 2 y2_ rfl) 3 y3_ rfl)) 1).trans rfl; have hdz19_2 : ∀ y0_ y1_ y2_ y3_ : Value, (((((w18.setCell ⟨gb114, 0, none⟩ y0_).setCell ⟨gb114, 1, none⟩ y1_).setCell ⟨gb114, 2, none⟩ y2_).setCell ⟨gb114, 3, none⟩ y3_)).cell? ⟨gb114, 2, none⟩ = some y2_ := fun y0_ y1_ y2_ y3_ => (blk_cell ((blk_put (blk_put (blk_put (blk_put BK114.out 0 y0_ rfl) 1 y1_ rfl) 2 y2_ rfl) 3 y3_ rfl)) 2).trans rfl; have hdz19_3 : ∀ y0_ y1_ y2_ y3_ : Value, (((((w18.setCell ⟨gb114, 0, none⟩ y0_).setCell ⟨gb114, 1, none⟩ y1_).setCell ⟨gb114, 2, none⟩ y2_).setCell ⟨gb114, 3, none⟩ y3_)).cell? ⟨gb114, 3, none⟩ = some y3_ := fun y0_ y1_ y2_ y3_ => (blk_cell ((blk_put (blk_put (blk_put (blk_put BK114.out 0 y0_ rfl) 1 y1_ rfl) 2 y2_ rfl) 3 y3_ rfl)) 3).trans rfl) | ((with_reducible refine gate_builtin (b := .append) (xs := #[.tmp 44, .tmp 46]) rfl ?_); at_builtin; refine Kd.R_append k30 (w0 := w) w.heap.size rfl (.tmp 44) (.tmp 46) 25 30 (.agg #[(.string ⟨#[]⟩), (.int .i64 0), (.int .i64 0), (.bool false)]) 40 rfl Try.underlying25 info30 rfl (by decide) (by omega) u7 x7_3 (⟨(rd_T30 l0 x8_3).f0, (rd_T30 l0 x8_3).f1, (rd_T30 l0 x8_3).f2, (rd_T30 l0 x8_3).f3⟩ : S30) [.string ((rd_T30 l0 x8_3).f0), .int .i64 ((rd_T30 l0 x8_3).f1), .int .i64 ((rd_T30 l0 x8_3).f2), .bool ((rd_T30 l0 x8_3).f3)] (fun k_ => k_ ≠ gb114) (fun _ => False) rfl (by first | (go_simp; done) | (go_simp; rfl)) ?aP (fun _ hk => hk.elim) ?aF ?aO ?aB ?aS ?aL ?_; (case aP => exact k30_mkM _ _ _ (⟨(rd_T30 l0 x8_3).f0, (rd_T30 l0 x8_3).f1, (rd_T30 l0 x8_3).f2, (rd_T30 l0 x8_3).f3⟩ : S30)); (case aB => exact (by repeat (first | (with_reducible first | exact HB.out | apply below_alloc | apply pw_below_drewN | apply below_drew1 | refine below_set ?_ GE114.out) | exact HB.out))); (case aF => exact (fun k_ hk => Kd.freshB (g := gb114) (o := .cells #[.string ((rd_T30 l0 x8_3).f0), .int .i64 ((rd_T30 l0 x8_3).f1), .int .i64 ((rd_T30 l0 x8_3).f2), .bool ((rd_T30 l0 x8_3).f3)] 30 (0, 0)) (by (with_reducible repeat (first | refine blk_drewN ?_ _ | refine blk_drew ?_ | refine blk_alloc ?_ _)); refine blk_put (cs := #[.string ((rd_T30 l0 x8_3).f0), .int .i64 ((rd_T30 l0 x8_3).f1), .int .i64 ((rd_T30 l0 x8_3).f2), .bool false]) ?_ 3 _ rfl; (with_reducible repeat (first | refine blk_drewN ?_ _ | refine blk_drew ?_ | refine blk_alloc ?_ _)); refine blk_put (cs := #[.string ((rd_T30 l0 x8_3).f0), .int .i64 ((rd_T30 l0 x8_3).f1), .int .i64 0, .bool false]) ?_ 2 _ rfl; (with_reducible repeat (first | refine blk_drewN ?_ _ | refine blk_drew ?_ | refine blk_alloc ?_ _)); refine blk_put (cs := #[.string ((rd_T30 l0 x8_3).f0), .int .i64 0, .int .i64 0, .bool false]) ?_ 1 _ rfl; (with_reducible repeat (first | refine blk_drewN ?_ _ | refine blk_drew ?_ | refine blk_alloc ?_ _)); refine blk_put (cs := #[.string (⟨#[]⟩ : ByteArray), .int .i64 0, .int .i64 0, .bool false]) ?_ 0 _ rfl; (with_reducible repeat (first | refine blk_drewN ?_ _ | refine blk_drew ?_ | refine blk_alloc ?_ _)); exact BK114.out) k_ hk)); (case aO => exact (by (with_reducible repeat (first | apply Kd.R_alloc | apply Kd.R_drewN | apply Kd.R_drew)); exact Kd.R_mono (Kd.R_far (p := ⟨gb114, 3, none⟩) (Kd.R_far (p := ⟨gb114, 2, none⟩) (Kd.R_far (p := ⟨gb114, 1, none⟩) (Kd.R_far (p := ⟨gb114, 0, none⟩) (Kd.R_mono HO_7.out (fun k_ hk => (⟨hk, hk.2⟩ : _ ∧ k_ ≠ gb114))) (fun _ hk => hk.2) (.string ((rd_T30 l0 x8_3).f0))) (fun _ hk => hk.2) (.int .i64 ((rd_T30 l0 x8_3).f1))) (fun _ hk => hk.2) (.int .i64 ((rd_T30 l0 x8_3).f2))) (fun _ hk => hk.2) (.bool ((rd_T30 l0 x8_3).f3))) (fun _ hk => hk.1.2))); (case aS => exact (below_size (by repeat (first | (with_reducible first | exact HB.out | apply below_alloc | apply pw_below_drewN | apply below_drew1 | refine below_set ?_ GE114.out) | exact HB.out)))); (case aL => have := LMc17.out; omega); intro v119 w20 ho hb hg hat; rw [← Ny118.out] at ho; have n0_ := Aside0.mk (blk_grown (g := gb114) (o := .cells #[.string ((rd_T30 l0 x8_3).f0), .int .i64 ((rd_T30 l0 x8_3).f1), .int .i64 ((rd_T30 l0 x8_3).f2), .bool ((rd_T30 l0 x8_3).f3)] 30 (0, 0)) (by (with_reducible repeat (first | refine blk_drewN ?_ _ | refine blk_drew ?_ | refine blk_alloc ?_ _)); refine blk_put (cs := #[.string ((rd_T30 l0 x8_3).f0), .int .i64 ((rd_T30 l0 x8_3).f1), .int .i64 ((rd_T30 l0 x8_3).f2), .bool false]) ?_ 3 _ rfl; (with_reducible repeat (first | refine blk_drewN ?_ _ | refine blk_drew ?_ | refine blk_alloc ?_ _)); refine blk_put (cs := #[.string ((rd_T30 l0 x8_3).f0), .int .i64 ((rd_T30 l0 x8_3).f1), .int .i64 0, .bool false]) ?_ 2 _ rfl; (with_reducible repeat (first | refine blk_drewN ?_ _ | refine blk_drew ?_ | refine blk_alloc ?_ _)); refine blk_put (cs := #[.string ((rd_T30 l0 x8_3).f0), .int .i64 0, .int .i64 0, .bool false]) ?_ 1 _ rfl; (with_reducible repeat (first | refine blk_drewN ?_ _ | refine blk_drew ?_ | refine blk_alloc ?_ _)); refine blk_put (cs := #[.string (⟨#[]⟩ : ByteArray), .int .i64 0, .int .i64 0, .bool false]) ?_ 0 _ rfl; (with_reducible repeat (first | refine blk_drewN ?_ _ | refine blk_drew ?_ | refine blk_alloc ?_ _)); exact BK114.out) hg (Kd.R_away HO_7.out (fun _ hk => hk.2))); have n1_ := Aside0.mk (hb); have n2_ := Aside0.mk (ho); clear BK114; clear HB; clear HO_7; have BK114 := n0_; have HB := n1_; have HO120 := n2_; clear n0_ n1_ n2_; clear ho hb hg hat))
                        go_roundg k3
                        case measure => have := HK1.out; have := HJ5.out; have := HK3.out; omega
                        case rel => exact ⟨(y118), (wrap64 (x8_3 + 1)), (by first | rfl | (simp; done) | (simp [*]; done)), H', ⟨by have := HK1.out; have := HJ5.out; have := HK3.out; omega⟩, ⟨by (with_reducible repeat (first | apply Kd.R_alloc | apply Kd.R_drewN | apply Kd.R_drew)); exact Kd.R_mono HO120.out (fun _ hk => trivial)⟩, ⟨by repeat (first | (with_reducible first | exact HB.out | apply below_alloc | apply pw_below_drewN | apply below_drew1 | refine below_set ?_ GE114.out) | exact HB.out)⟩⟩
                      · rw [if_neg c17] at H
                        exact absurd H (by simp)
                  · rw [if_neg c11] at H
                    exact absurd H (by simp)
                · rw [if_neg c10] at H
                  have c10b0 : decide (x8_3 < (l0.length : Int)) = false := decide_eq_false c10
                  clear c10
                  obtain rfl := Option.some.inj H
                  go_wp2
                  go_ret
                  exact ⟨_, by first | rfl | (simp [errW_none, errW_some] <;> rfl) | (simp [*, errW_none, errW_some] <;> rfl), by (with_reducible repeat (first | apply Kd.R_alloc | apply Kd.R_drewN | apply Kd.R_drew)); exact HO_7.out, by repeat (first | (with_reducible first | exact HB.out | apply below_alloc | apply pw_below_drewN | apply below_drew1) | exact HB.out)⟩

end Go.Proofs.Ytbpblefamjmkjaa.PEvictTouches
