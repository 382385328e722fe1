-- By a program of this session (wip/tools/mkprint.py), for this claim.
import Derived.Test.YtbikejfjfliamaaPDiskAgainx0
import Derived.Test.YtbikejfjfliamaaPDiskAgainx1
import Derived.Test.YtbikejfjfliamaaPDiskAgainx2
import Derived.Test.YtbikejfjfliamaaPDiskAgainx3
namespace Go.Proofs.Ytbikejfjfliamaa.PDiskAgain
open Go.RowKit Go.Proofs.YtbikejfjfliamaaW.PrintWords Go.Proofs.YtbikejfjfliamaaW.PrintLast Go.Proofs.YtbikejfjfliamaaW.PrintMore
attribute [local go_sem] max2_int min2_int max_two min_two max_three min_three max_four min_four   -- for this text's walks alone
set_option linter.unusedVariables false
set_option linter.unusedSimpArgs false

/-! ### cubbylaw03_heavy: function 23 -/
def cubbylaw03_heavy.l0 : Nat → List (S44) → Int → Int → Option (Bool)
  | 0, _, _, _ => none
  | k + 1, x0, x3, x4 => if x4 < (x0.length : Int) then (if x3 ≤ 4096 then (if 0 ≤ x4 then (cubbylaw03_heavy.l0 k x0 (wrap64 (x3 + (mn (((rd_T44 x0 x4).f2).size : Int) 1048576))) (wrap64 (x4 + 1))) else (none)) else (if x3 > 4096 then (some true) else (some (decide ((x0.length : Int) > 200))))) else (if x3 > 4096 then (some true) else (some (decide ((x0.length : Int) > 200))))
def cubbylaw03_heavy.f (k : Nat) (l0 : List (S44)) : Option (Bool) := cubbylaw03_heavy.l0 k l0 (l0.length : Int) 0
theorem cubbylaw03_heavy.mono_l : ∀ k, (∀ y0 y1 y2, LeO (cubbylaw03_heavy.l0 k y0 y1 y2) (cubbylaw03_heavy.l0 (k + 1) y0 y1 y2))
  | 0 => fun _ _ _ r h => by simp [cubbylaw03_heavy.l0] at h
  | k + 1 => by
    have ih0 := cubbylaw03_heavy.mono_l k
    · intro y0 y1 y2
      unfold cubbylaw03_heavy.l0
      repeat' first
      | (with_reducible exact ih0 _ _ _)
      | (with_reducible exact LeO.refl _)
      | (with_reducible exact LeO.none _)
      | (with_reducible refine LeO.ite ?_ ?_)
      | (with_reducible refine LeO.bind ?_ (fun _ => ?_))
      | exact ih0 _ _ _
      | exact LeO.none _
      | refine LeO.ite ?_ ?_
      | refine LeO.bind ?_ (fun _ => ?_)
theorem cubbylaw03_heavy.mono : ∀ a0 k, LeO (cubbylaw03_heavy.f k a0) (cubbylaw03_heavy.f (k + 1) a0) := by
  intro a0 k
  have ih0 := cubbylaw03_heavy.mono_l k
  unfold cubbylaw03_heavy.f
  repeat' first
      | (with_reducible exact ih0 _ _ _)
      | (with_reducible exact LeO.refl _)
      | (with_reducible exact LeO.none _)
      | (with_reducible refine LeO.ite ?_ ?_)
      | (with_reducible refine LeO.bind ?_ (fun _ => ?_))
      | exact ih0 _ _ _
      | exact LeO.none _
      | refine LeO.ite ?_ ?_
      | refine LeO.bind ?_ (fun _ => ?_)
set_option maxHeartbeats 8000000 in
set_option maxRecDepth 100000 in
theorem cubbylaw03_heavy.calls (k : Nat) (A0 : Option Addr) (c0 : Nat) (l0 : List (S44)) (r : Bool) (w : World) (hr0 : Kd.C k44 w A0 l0.length l0) (hc0 : l0.length ≤ c0) (h : cubbylaw03_heavy.f k l0 = some r) :
    Calls Try.prog 23 #[.slice A0 l0.length c0] w fun e w' => e = .returned (.bool r) ∧ Below w.heap.size w w' := by
  have HR0 := Aside0.mk hr0
  have HC0 := Aside0.mk hc0
  clear hr0 hc0
  have HB := Aside0.mk (Below.refl w.heap.size w)
  have H : (cubbylaw03_heavy.l0 k l0 (l0.length : Int) 0) = some r := h
  clear h
  have H' := Aside0.mk H
  clear H
  go_enter Try.func23, Try.ntmps23
  go_wp2
  go_loopg [3, 4] k (fun kq v3 v4 w' => ∃ (x3_1 : Int) (x4_1 : Int), v3 = .int .i64 x3_1 ∧ v4 = .int .i64 x4_1 ∧ Aside0 (cubbylaw03_heavy.l0 kq l0 x3_1 x4_1 = some r) ∧ Aside0 (kq ≤ k) ∧ Aside0 (Below w.heap.size w w'))
  case atStart => exact ⟨((l0.length : Int)), (0), (by first | rfl | (simp; done) | (simp [*]; done)), (by first | rfl | (simp; done) | (simp [*]; done)), H', ⟨Nat.le_refl _⟩, ⟨by repeat (first | (with_reducible first | exact HB.out | apply below_alloc | apply pw_below_drewN | apply below_drew1) | exact HB.out)⟩⟩
  case round =>
    clear H'
    obtain ⟨x3_1, x4_1, rfl, rfl, HA, HK1, HB⟩ := hrel
    cases gk with
    | zero => exact absurd HA.out (by simp [cubbylaw03_heavy.l0])
    | succ k1 =>
      have H := HA.out
      clear HA
      simp only [cubbylaw03_heavy.l0] at H
      by_cases c2 : x4_1 < (l0.length : Int)
      · rw [if_pos c2] at H
        have c2b0 : decide (x4_1 < (l0.length : Int)) = true := decide_eq_true c2
        clear c2
        by_cases c3 : x3_1 ≤ 4096
        · rw [if_pos c3] at H
          have c3b0 : decide (x3_1 ≤ 4096) = true := decide_eq_true c3
          clear c3
          by_cases c4 : 0 ≤ x4_1
          · rw [if_pos c4] at H
            have c4b0 : decide (0 ≤ x4_1) = true := decide_eq_true c4
            clear c4
            obtain ⟨ji5, hji5⟩ : ∃ j_ : Int, (mn (((rd_T44 l0 x4_1).f2).size : Int) 1048576) = j_ := ⟨_, rfl⟩
            replace H : (cubbylaw03_heavy.l0 k1 l0 (wrap64 (x3_1 + (ji5))) (wrap64 (x4_1 + 1))) = some r := by first | (rw [hji5] at H; exact H) | (simp only [hji5] at H ⊢; exact H)
            have hji5_ : (if 1048576 < (((rd_T44 l0 x4_1).f2).size : Int) then 1048576 else (((rd_T44 l0 x4_1).f2).size : Int)) = ji5 := hji5
            have H' := Aside0.mk H
            clear H
            have p103 : 0 ≤ (x4_1 : Int) := of_decide_eq_true (by first | (with_reducible assumption) | assumption)
            have q103 : x4_1 < (l0.length : Int) := of_decide_eq_true (by first | (with_reducible assumption) | assumption)
            obtain ⟨ad103, e103, hx103_0, hx103_1, hx103_2, hx103_3⟩ := at_T44 HR0.out x4_1 p103 q103
            cases e103
            replace hx103_0 := (HB.out.cell (World.block_lt_of_cell? w _ hx103_0)).trans hx103_0
            replace hx103_1 := (HB.out.cell (World.block_lt_of_cell? w _ hx103_1)).trans hx103_1
            replace hx103_2 := (HB.out.cell (World.block_lt_of_cell? w _ hx103_2)).trans hx103_2
            replace hx103_3 := (HB.out.cell (World.block_lt_of_cell? w _ hx103_3)).trans hx103_3
            replace p103 := eq_true p103
            replace q103 := eq_true q103
            go_wp2
            go_roundg k1
            case measure => have := HK1.out; omega
            case rel => exact ⟨(wrap64 (x3_1 + (ji5))), (wrap64 (x4_1 + 1)), (by first | rfl | (simp; done) | (simp only [← hji5] <;> (first | rfl | simp)) | (simp [*]; done)), (by first | rfl | (simp; done) | (simp [*]; done)), H', ⟨by have := HK1.out; omega⟩, ⟨by repeat (first | (with_reducible first | exact HB.out | apply below_alloc | apply pw_below_drewN | apply below_drew1) | exact HB.out)⟩⟩
          · rw [if_neg c4] at H
            exact absurd H (by simp)
        · rw [if_neg c3] at H
          have c3b0 : decide (x3_1 ≤ 4096) = false := decide_eq_false c3
          clear c3
          by_cases c6 : x3_1 > 4096
          · rw [if_pos c6] at H
            have c6b0 : decide (4096 < x3_1) = true := decide_eq_true c6
            clear c6
            obtain rfl := Option.some.inj H
            go_wp2
            go_ret
            exact ⟨by first | rfl | (simp [errW_none, errW_some] <;> rfl) | (simp [*, errW_none, errW_some] <;> rfl), by repeat (first | (with_reducible first | exact HB.out | apply below_alloc | apply pw_below_drewN | apply below_drew1) | exact HB.out)⟩
          · rw [if_neg c6] at H
            have c6b0 : decide (4096 < x3_1) = false := decide_eq_false c6
            clear c6
            obtain rfl := Option.some.inj H
            go_wp2
            go_ret
            exact ⟨by first | rfl | (simp [errW_none, errW_some] <;> rfl) | (simp [*, errW_none, errW_some] <;> rfl), by repeat (first | (with_reducible first | exact HB.out | apply below_alloc | apply pw_below_drewN | apply below_drew1) | exact HB.out)⟩
      · rw [if_neg c2] at H
        have c2b0 : decide (x4_1 < (l0.length : Int)) = false := decide_eq_false c2
        clear c2
        by_cases c7 : x3_1 > 4096
        · rw [if_pos c7] at H
          have c7b0 : decide (4096 < x3_1) = true := decide_eq_true c7
          clear c7
          obtain rfl := Option.some.inj H
          go_wp2
          go_ret
          exact ⟨by first | rfl | (simp [errW_none, errW_some] <;> rfl) | (simp [*, errW_none, errW_some] <;> rfl), by repeat (first | (with_reducible first | exact HB.out | apply below_alloc | apply pw_below_drewN | apply below_drew1) | exact HB.out)⟩
        · rw [if_neg c7] at H
          have c7b0 : decide (4096 < x3_1) = false := decide_eq_false c7
          clear c7
          obtain rfl := Option.some.inj H
          go_wp2
          go_ret
          exact ⟨by first | rfl | (simp [errW_none, errW_some] <;> rfl) | (simp [*, errW_none, errW_some] <;> rfl), by repeat (first | (with_reducible first | exact HB.out | apply below_alloc | apply pw_below_drewN | apply below_drew1) | exact HB.out)⟩

/-! ### cubbyref03_Disk_Cut: function 12 (by hand) -/
set_option maxHeartbeats 4000000 in
set_option maxRecDepth 100000 in
theorem cubbyref03_Disk_Cut.calls (s : Dk.S) (base g : Nat) (iv lv : Value) (i k : Int) (w : World) (h : Rf.D w base g s iv lv) :
    Calls Try.prog 12 #[.pointer (some ⟨g, 0, none⟩), .int .i64 i, .int .u64 k] w fun e w' => e = .returned (.tuple #[]) ∧ Rf.D w' base g (Dk.cutS s i k) iv lv ∧ Rf.B base w w' := by
  have m3 : w.cell? ⟨g, 3, none⟩ = some (.int .i64 s.cut) := h.at 3
  have m4 : w.cell? ⟨g, 4, none⟩ = some (.int .u64 s.keep) := h.at 4
  have f3 := h.fz 3
  have f4 := h.fz 4
  have HH := Aside0.mk h
  clear h
  have fin : ∀ m : Int, mx i 0 = m → Rf.D ((w.setCell ⟨g, 3, none⟩ (.int .i64 m)).setCell ⟨g, 4, none⟩ (.int .u64 k)) base g (Dk.cutS s i k) iv lv ∧ Rf.B base w ((w.setCell ⟨g, 3, none⟩ (.int .i64 m)).setCell ⟨g, 4, none⟩ (.int .u64 k)) := by
    rintro m rfl
    obtain ⟨h1, b1⟩ := Rf.D.put (s' := { s with cut := mx i 0 }) HH.out 3 (.int .i64 (mx i 0)) rfl rfl rfl
    obtain ⟨h2, b2⟩ := Rf.D.put (s' := Dk.cutS s i k) h1 4 (.int .u64 k) rfl rfl rfl
    exact ⟨h2, b1.trans b2⟩
  have FIN := Aside0.mk fin
  clear fin
  by_cases hi : i < 0
  · go_enter Try.func12, Try.ntmps12
    go_wp2
    go_end0
    exact ⟨rfl, FIN.out 0 (by unfold mx; split <;> omega)⟩
  · go_enter Try.func12, Try.ntmps12
    go_wp2
    go_end0
    exact ⟨rfl, FIN.out i (by unfold mx; split <;> omega)⟩

/-! ### disk_Disk_Dead: function 17 (by hand) -/
set_option maxHeartbeats 4000000 in
set_option maxRecDepth 100000 in
theorem disk_Disk_Dead.calls (s : Dk.S) (base g mb n : Nat) (ov : Value) (w : World) (h : Dk.D w base g s mb n ov) :
    Calls Try.prog 17 #[.pointer (some ⟨g, 0, none⟩)] w fun e w' => e = .returned (.bool s.off) ∧ w' = w := by
  have m2 : w.cell? ⟨g, 258, none⟩ = some (.bool s.off) := h.at 2
  clear h
  go_enter Try.func17, Try.ntmps17
  go_wp2
  go_ret
  exact ⟨rfl, rfl⟩

/-! ### cubbyref03_Disk_Calls: function 19 (by hand) -/
set_option maxHeartbeats 4000000 in
set_option maxRecDepth 100000 in
theorem cubbyref03_Disk_Calls.calls (s : Dk.S) (base g : Nat) (iv lv : Value) (w : World) (h : Rf.D w base g s iv lv) :
    Calls Try.prog 19 #[.pointer (some ⟨g, 0, none⟩)] w fun e w' => e = .returned (.int .i64 s.many) ∧ w' = w := by
  have m2 : w.cell? ⟨g, 6, none⟩ = some (.int .i64 s.many) := h.at 6
  clear h
  go_enter Try.func19, Try.ntmps19
  go_wp2
  go_ret
  exact ⟨rfl, rfl⟩

/-! ### disk_Disk_Fail: function 20 (by hand) -/
set_option maxHeartbeats 4000000 in
set_option maxRecDepth 100000 in
theorem disk_Disk_Fail.calls (s : Dk.S) (base g mb n : Nat) (ov : Value) (i : Int) (w : World) (h : Dk.D w base g s mb n ov) :
    Calls Try.prog 20 #[.pointer (some ⟨g, 0, none⟩), .int .i64 i] w fun e w' => e = .returned (.tuple #[]) ∧ Dk.D w' base g (Dk.failS s i) mb n ov ∧ Dk.B base w w' := by
  have m3 : w.cell? ⟨g, 260, none⟩ = some (.int .i64 s.fail) := h.at 4
  have f3 := h.fz 260
  have HH := Aside0.mk h
  clear h
  by_cases hi : i < 0
  · have em : mx i 0 = 0 := by unfold mx; split <;> omega
    go_enter Try.func20, Try.ntmps20
    go_wp2
    go_end0
    rw [← em]
    obtain ⟨h1, b1⟩ := Dk.D.put (s' := Dk.failS s i) HH.out 260 (.int .i64 (mx i 0)) (by rw [Dk.arr_set s mb _ 4 _ HH.out.hl]; rfl) HH.out.hl rfl
    exact ⟨rfl, h1, b1⟩
  · have em : mx i 0 = i := by unfold mx; split <;> omega
    go_enter Try.func20, Try.ntmps20
    go_wp2
    go_end0
    have e2 := em.symm
    obtain ⟨h1, b1⟩ := Dk.D.put (s' := Dk.failS s i) HH.out 260 (.int .i64 (i)) (by rw [Dk.arr_set s mb _ 4 _ HH.out.hl]; unfold Dk.failS; rw [em]; rfl) HH.out.hl rfl
    exact ⟨rfl, h1, b1⟩

/-! ### cubbyref03_Disk_Power: function 25 (by hand) -/
set_option maxHeartbeats 4000000 in
set_option maxRecDepth 100000 in
theorem cubbyref03_Disk_Power.calls (s : Dk.S) (base g : Nat) (iv lv : Value) (w : World) (h : Rf.D w base g s iv lv) :
    Calls Try.prog 25 #[.pointer (some ⟨g, 0, none⟩)] w fun e w' => e = .returned (.tuple #[]) ∧ Rf.D w' base g (Dk.powS s) iv lv ∧ Rf.B base w w' := by
  have m2 : w.cell? ⟨g, 2, none⟩ = some (.bool s.off) := h.at 2
  have m3 : w.cell? ⟨g, 3, none⟩ = some (.int .i64 s.cut) := h.at 3
  have m4 : w.cell? ⟨g, 5, none⟩ = some (.int .i64 s.fail) := h.at 5
  have f2 := h.fz 2
  have f3 := h.fz 3
  have f4 := h.fz 5
  have HH := Aside0.mk h
  clear h
  unfold Dk.powS
  cases ho : s.off
  · rw [ho] at m2
    rw [if_neg (by decide)]
    go_enter Try.func25, Try.ntmps25
    go_wp2
    go_end0
    exact ⟨rfl, HH.out, Rf.B.refl _ _⟩
  · rw [ho] at m2
    rw [if_pos rfl]
    go_enter Try.func25, Try.ntmps25
    go_wp2
    go_end0
    obtain ⟨h1, b1⟩ := Rf.D.put (s' := { s with off := false }) HH.out 2 (.bool false) rfl rfl rfl
    obtain ⟨h2, b2⟩ := Rf.D.put (s' := { s with off := false, cut := 0 }) h1 3 (.int .i64 0) rfl rfl rfl
    obtain ⟨h3, b3⟩ := Rf.D.put (s' := { s with off := false, cut := 0, fail := 0 }) h2 5 (.int .i64 0) rfl rfl rfl
    exact ⟨rfl, h3, (b1.trans b2).trans b3⟩

/-! ### cubbyref03_Disk_Read: function 34 (by hand) -/
set_option maxHeartbeats 4000000 in
set_option maxRecDepth 100000 in
theorem cubbyref03_Disk_Read.calls (s : Dk.S) (base g : Nat) (iv lv : Value) (i : Int) (w : World) (h : Rf.D w base g s iv lv) :
    Calls Try.prog 34 #[.pointer (some ⟨g, 0, none⟩), .int .i64 i] w fun e w' => e = .returned (.tuple #[.string (Dk.read s i).1, .int .i64 (Dk.read s i).2]) ∧ w' = w := by
  have m2 : w.cell? ⟨g, 2, none⟩ = some (.bool s.off) := h.at 2
  unfold Dk.read
  cases ho : s.off
  · rw [ho] at m2
    rw [if_neg (by decide)]
    by_cases c1 : i < 0
    · rw [if_pos (.inl c1)]
      have c2 : decide (i < 0) = true := decide_eq_true c1
      clear h
      go_enter Try.func34, Try.ntmps34
      go_wp2
      go_ret2
      exact ⟨rfl, rfl⟩
    · have c2 : decide (i < 0) = false := decide_eq_false c1
      by_cases c3 : 256 ≤ i
      · rw [if_pos (.inr c3)]
        clear h
        go_enter Try.func34, Try.ntmps34
        go_wp2
        go_ret2
        exact ⟨rfl, rfl⟩
      · rw [if_neg (fun q => q.elim c1 c3)]
        obtain ⟨x, rfl⟩ : ∃ x : Nat, i = (x : Int) := ⟨i.toNat, by omega⟩
        have x1 : (0 : Int) ≤ (x : Int) := by omega
        have x2 : (x : Int) < 256 := by omega
        obtain ⟨b, c, rfl, _, _, _, hc⟩ := h.form
        have m0 : w.cell? ⟨g, 0, none⟩ = some (.slice (some ⟨b, 0, none⟩) 256 c) := h.at 0
        have m6 := (hc x (by omega)).1
        rw [Int.toNat_natCast]
        clear h hc
        go_enter Try.func34, Try.ntmps34
        go_wp2
        go_ret2
        exact ⟨rfl, rfl⟩
  · rw [ho] at m2
    rw [if_pos rfl]
    clear h
    go_enter Try.func34, Try.ntmps34
    go_wp2
    go_ret2
    exact ⟨rfl, rfl⟩

/-! ### cubbyref03_Disk_Fail: function 35 (by hand) -/
set_option maxHeartbeats 4000000 in
set_option maxRecDepth 100000 in
theorem cubbyref03_Disk_Fail.calls (s : Dk.S) (base g : Nat) (iv lv : Value) (i : Int) (w : World) (h : Rf.D w base g s iv lv) :
    Calls Try.prog 35 #[.pointer (some ⟨g, 0, none⟩), .int .i64 i] w fun e w' => e = .returned (.tuple #[]) ∧ Rf.D w' base g (Dk.failS s i) iv lv ∧ Rf.B base w w' := by
  have m3 : w.cell? ⟨g, 5, none⟩ = some (.int .i64 s.fail) := h.at 5
  have f3 := h.fz 5
  have HH := Aside0.mk h
  clear h
  have fin : ∀ m : Int, mx i 0 = m → Rf.D (w.setCell ⟨g, 5, none⟩ (.int .i64 m)) base g (Dk.failS s i) iv lv ∧ Rf.B base w (w.setCell ⟨g, 5, none⟩ (.int .i64 m)) := by
    rintro m rfl
    exact Rf.D.put (s' := Dk.failS s i) HH.out 5 (.int .i64 (mx i 0)) rfl rfl rfl
  have FIN := Aside0.mk fin
  clear fin
  by_cases hi : i < 0
  · go_enter Try.func35, Try.ntmps35
    go_wp2
    go_end0
    exact ⟨rfl, FIN.out 0 (by unfold mx; split <;> omega)⟩
  · go_enter Try.func35, Try.ntmps35
    go_wp2
    go_end0
    exact ⟨rfl, FIN.out i (by unfold mx; split <;> omega)⟩

/-! ### cubbyref03_Disk_Dead: function 36 (by hand) -/
set_option maxHeartbeats 4000000 in
set_option maxRecDepth 100000 in
theorem cubbyref03_Disk_Dead.calls (s : Dk.S) (base g : Nat) (iv lv : Value) (w : World) (h : Rf.D w base g s iv lv) :
    Calls Try.prog 36 #[.pointer (some ⟨g, 0, none⟩)] w fun e w' => e = .returned (.bool s.off) ∧ w' = w := by
  have m2 : w.cell? ⟨g, 2, none⟩ = some (.bool s.off) := h.at 2
  clear h
  go_enter Try.func36, Try.ntmps36
  go_wp2
  go_ret
  exact ⟨rfl, rfl⟩

/-! ### cubbylaw03_step: function 24 (by hand) -/
theorem cubbylaw03_step.dWrite (s : Dk.S) (base g n : Nat) (i : Int) (x : ByteArray) (w : World) (h : Tw.D w base g n s) (hin : Dk.In s) (hn : n ≤ 1000000) :
    Calls Try.prog 13 #[.pointer (some ⟨g, 0, none⟩), .int .i64 i, .string x] w fun e w' => e = .returned (.int .i64 (Dk.writ s i x).2) ∧ Tw.D w' base g (n + 1) ((Dk.writ s i x).1) ∧ Dk.B base w w' := by
  obtain ⟨mb, n', ov, hn', h⟩ := h
  refine (disk_Disk_Write.calls s base g mb n' ov i x w h hin (by omega)).mono ?_
  rintro e w' ⟨he, ⟨ov', n2, h2, hd⟩, hb⟩
  exact ⟨he, ⟨mb, n2, ov', by omega, hd⟩, hb⟩
theorem cubbylaw03_step.dBarrier (s : Dk.S) (base g n : Nat) (w : World) (h : Tw.D w base g n s) (hin : Dk.In s) :
    Calls Try.prog 15 #[.pointer (some ⟨g, 0, none⟩)] w fun e w' => e = .returned (.int .i64 (Dk.barr s).2) ∧ Tw.D w' base g (n + 0) ((Dk.barr s).1) ∧ Dk.B base w w' := by
  obtain ⟨mb, n', ov, hn', h⟩ := h
  refine (disk_Disk_Barrier.calls s base g mb n' ov w h hin).mono ?_
  rintro e w' ⟨he, ⟨ov', hd⟩, hb⟩
  exact ⟨he, ⟨mb, n', ov', by omega, hd⟩, hb⟩
theorem cubbylaw03_step.dCut (s : Dk.S) (base g n : Nat) (i k : Int) (w : World) (h : Tw.D w base g n s) :
    Calls Try.prog 11 #[.pointer (some ⟨g, 0, none⟩), .int .i64 i, .int .u64 k] w fun e w' => e = .returned (.tuple #[]) ∧ Tw.D w' base g (n + 0) (Dk.cutS s i k) ∧ Dk.B base w w' := by
  obtain ⟨mb, n', ov, hn', h⟩ := h
  refine (disk_Disk_Cut.calls s base g mb n' ov i k w h).mono ?_
  rintro e w' ⟨he, hd, hb⟩
  exact ⟨he, ⟨mb, n', ov, by omega, hd⟩, hb⟩
theorem cubbylaw03_step.dFail (s : Dk.S) (base g n : Nat) (i : Int) (w : World) (h : Tw.D w base g n s) :
    Calls Try.prog 20 #[.pointer (some ⟨g, 0, none⟩), .int .i64 i] w fun e w' => e = .returned (.tuple #[]) ∧ Tw.D w' base g (n + 0) (Dk.failS s i) ∧ Dk.B base w w' := by
  obtain ⟨mb, n', ov, hn', h⟩ := h
  refine (disk_Disk_Fail.calls s base g mb n' ov i w h).mono ?_
  rintro e w' ⟨he, hd, hb⟩
  exact ⟨he, ⟨mb, n', ov, by omega, hd⟩, hb⟩
theorem cubbylaw03_step.dPower (s : Dk.S) (base g n : Nat) (w : World) (h : Tw.D w base g n s) :
    Calls Try.prog 22 #[.pointer (some ⟨g, 0, none⟩)] w fun e w' => e = .returned (.tuple #[]) ∧ Tw.D w' base g (n + 0) (Dk.powS s) ∧ Dk.B base w w' := by
  obtain ⟨mb, n', ov, hn', h⟩ := h
  refine (disk_Disk_Power.calls s base g mb n' ov w h).mono ?_
  rintro e w' ⟨he, hd, hb⟩
  exact ⟨he, ⟨mb, n', ov, by omega, hd⟩, hb⟩
theorem cubbylaw03_step.dDead (s : Dk.S) (base g n : Nat) (w : World) (h : Tw.D w base g n s) :
    Calls Try.prog 17 #[.pointer (some ⟨g, 0, none⟩)] w fun e w' => e = .returned (.bool s.off) ∧ w' = w := by
  obtain ⟨mb, n', ov, hn', h⟩ := h
  exact disk_Disk_Dead.calls s base g mb n' ov w h
theorem cubbylaw03_step.dCalls (s : Dk.S) (base g n : Nat) (w : World) (h : Tw.D w base g n s) :
    Calls Try.prog 18 #[.pointer (some ⟨g, 0, none⟩)] w fun e w' => e = .returned (.int .i64 s.many) ∧ w' = w := by
  obtain ⟨mb, n', ov, hn', h⟩ := h
  exact disk_Disk_Calls.calls s base g mb n' ov w h
theorem cubbylaw03_step.dRead (s : Dk.S) (base g n : Nat) (i : Int) (w : World) (h : Tw.D w base g n s) :
    Calls Try.prog 21 #[.pointer (some ⟨g, 0, none⟩), .int .i64 i] w fun e w' => e = .returned (.tuple #[.string (Dk.read s i).1, .int .i64 (Dk.read s i).2]) ∧ w' = w := by
  obtain ⟨mb, n', ov, hn', h⟩ := h
  exact disk_Disk_Read.calls s base g mb n' ov i w h
theorem cubbylaw03_step.dNew (w : World) (base : Nat) (hb : base ≤ w.heap.size) : Calls Try.prog 9 #[] w fun e w' => ∃ g, e = .returned (.pointer (some ⟨g, 0, none⟩)) ∧ Tw.D w' base g 0 Dk.S0 ∧ Below w.heap.size w w' := by
  refine (disk_New.calls w base hb).mono ?_
  rintro e w' ⟨g, mb, he, hd, hb⟩
  exact ⟨g, he, ⟨mb, 0, _, Nat.le_refl _, hd⟩, hb⟩
theorem cubbylaw03_step.rWrite (s : Dk.S) (base g : Nat) (i : Int) (x : ByteArray) (w : World) (h : Tw.R w base g s) (hin : Dk.In s) :
    Calls Try.prog 14 #[.pointer (some ⟨g, 0, none⟩), .int .i64 i, .string x] w fun e w' => e = .returned (.int .i64 (Dk.writ s i x).2) ∧ Tw.R w' base g ((Dk.writ s i x).1) ∧ Rf.B base w w' := by
  obtain ⟨iv, lv, h⟩ := h
  refine (cubbyref03_Disk_Write.calls s base g iv lv i x w h hin).mono ?_
  rintro e w' ⟨he, ⟨lv', hd⟩, hb⟩
  exact ⟨he, ⟨iv, lv', hd⟩, hb⟩
theorem cubbylaw03_step.rBarrier (s : Dk.S) (base g : Nat) (w : World) (h : Tw.R w base g s) (hin : Dk.In s) :
    Calls Try.prog 16 #[.pointer (some ⟨g, 0, none⟩)] w fun e w' => e = .returned (.int .i64 (Dk.barr s).2) ∧ Tw.R w' base g ((Dk.barr s).1) ∧ Rf.B base w w' := by
  obtain ⟨iv, lv, h⟩ := h
  refine (cubbyref03_Disk_Barrier.calls s base g iv lv w h hin).mono ?_
  rintro e w' ⟨he, ⟨lv', hd⟩, hb⟩
  exact ⟨he, ⟨iv, lv', hd⟩, hb⟩
theorem cubbylaw03_step.rCut (s : Dk.S) (base g : Nat) (i k : Int) (w : World) (h : Tw.R w base g s) :
    Calls Try.prog 12 #[.pointer (some ⟨g, 0, none⟩), .int .i64 i, .int .u64 k] w fun e w' => e = .returned (.tuple #[]) ∧ Tw.R w' base g (Dk.cutS s i k) ∧ Rf.B base w w' := by
  obtain ⟨iv, lv, h⟩ := h
  refine (cubbyref03_Disk_Cut.calls s base g iv lv i k w h).mono ?_
  rintro e w' ⟨he, hd, hb⟩
  exact ⟨he, ⟨iv, lv, hd⟩, hb⟩
theorem cubbylaw03_step.rFail (s : Dk.S) (base g : Nat) (i : Int) (w : World) (h : Tw.R w base g s) :
    Calls Try.prog 35 #[.pointer (some ⟨g, 0, none⟩), .int .i64 i] w fun e w' => e = .returned (.tuple #[]) ∧ Tw.R w' base g (Dk.failS s i) ∧ Rf.B base w w' := by
  obtain ⟨iv, lv, h⟩ := h
  refine (cubbyref03_Disk_Fail.calls s base g iv lv i w h).mono ?_
  rintro e w' ⟨he, hd, hb⟩
  exact ⟨he, ⟨iv, lv, hd⟩, hb⟩
theorem cubbylaw03_step.rPower (s : Dk.S) (base g : Nat) (w : World) (h : Tw.R w base g s) :
    Calls Try.prog 25 #[.pointer (some ⟨g, 0, none⟩)] w fun e w' => e = .returned (.tuple #[]) ∧ Tw.R w' base g (Dk.powS s) ∧ Rf.B base w w' := by
  obtain ⟨iv, lv, h⟩ := h
  refine (cubbyref03_Disk_Power.calls s base g iv lv w h).mono ?_
  rintro e w' ⟨he, hd, hb⟩
  exact ⟨he, ⟨iv, lv, hd⟩, hb⟩
theorem cubbylaw03_step.rDead (s : Dk.S) (base g : Nat) (w : World) (h : Tw.R w base g s) :
    Calls Try.prog 36 #[.pointer (some ⟨g, 0, none⟩)] w fun e w' => e = .returned (.bool s.off) ∧ w' = w := by
  obtain ⟨iv, lv, h⟩ := h
  exact cubbyref03_Disk_Dead.calls s base g iv lv w h
theorem cubbylaw03_step.rCalls (s : Dk.S) (base g : Nat) (w : World) (h : Tw.R w base g s) :
    Calls Try.prog 19 #[.pointer (some ⟨g, 0, none⟩)] w fun e w' => e = .returned (.int .i64 s.many) ∧ w' = w := by
  obtain ⟨iv, lv, h⟩ := h
  exact cubbyref03_Disk_Calls.calls s base g iv lv w h
theorem cubbylaw03_step.rRead (s : Dk.S) (base g : Nat) (i : Int) (w : World) (h : Tw.R w base g s) :
    Calls Try.prog 34 #[.pointer (some ⟨g, 0, none⟩), .int .i64 i] w fun e w' => e = .returned (.tuple #[.string (Dk.read s i).1, .int .i64 (Dk.read s i).2]) ∧ w' = w := by
  obtain ⟨iv, lv, h⟩ := h
  exact cubbyref03_Disk_Read.calls s base g iv lv i w h
theorem cubbylaw03_step.rNew (w : World) (base : Nat) (hb : base ≤ w.heap.size) : Calls Try.prog 10 #[] w fun e w' => ∃ g, e = .returned (.pointer (some ⟨g, 0, none⟩)) ∧ Tw.R w' base g Dk.S0 ∧ Below w.heap.size w w' := by
  refine (cubbyref03_New.calls w base hb).mono ?_
  rintro e w' ⟨g, iv, he, hd, hb⟩
  exact ⟨g, he, ⟨iv, _, hd⟩, hb⟩
set_option maxHeartbeats 16000000 in
set_option maxRecDepth 100000 in
theorem cubbylaw03_step.calls (base gd gr n : Nat) (m kd N : Int) (x : ByteArray) (kp : Int) (w : World) (h : Tw.P w base gd gr n m) (hn : n ≤ 1000000) (hm : m ≤ 80000) (hN : N < 9223372036854775808) (hk : 0 ≤ kp ∧ kp < 18446744073709551616) :
    Calls Try.prog 24 #[.pointer (some ⟨gd, 0, none⟩), .pointer (some ⟨gr, 0, none⟩), .agg #[.int .i64 kd, .int .i64 N, .string x, .int .u64 kp]] w fun e w' => e = .returned (.bool true) ∧ Tw.P w' base gd gr (n + 1) (m + 1) ∧ Tw.B base w w' := by
  obtain ⟨s, s', hd, hr, hq, hi, hi', hmm⟩ := h
  have hm1 : s.many ≤ 80000 := by omega
  have hm2 : s'.many ≤ 80000 := by rw [← hq.many]; exact hm1
  have HB := Aside0.mk ((Tw.B.refl base w).alloc hd.hb (.cells #[.int .i64 kd, .int .i64 N, .string x, .int .u64 kp] 44))
  have HD := Aside0.mk (hd.alloc (.cells #[.int .i64 kd, .int .i64 N, .string x, .int .u64 kp] 44))
  have HR := Aside0.mk (hr.alloc (.cells #[.int .i64 kd, .int .i64 N, .string x, .int .u64 kp] 44))
  have HK := Aside0.mk (Hw.blk_nw w (.cells #[.int .i64 kd, .int .i64 N, .string x, .int .u64 kp] 44))
  have HQ := Aside0.mk hq
  have HI := Aside0.mk hi
  have HI2 := Aside0.mk hi'
  have HMM := Aside0.mk hmm
  have HN := Aside0.mk hn
  have HNN := Aside0.mk hN
  have HKP := Aside0.mk hk
  have k0 : (w.alloc (.cells #[.int .i64 kd, .int .i64 N, .string x, .int .u64 kp] 44)).cell? ⟨w.heap.size, 0, none⟩ = some (.int .i64 kd) := cell_of_row _ _ 0 _ _ _ HK.out
  have k1 : (w.alloc (.cells #[.int .i64 kd, .int .i64 N, .string x, .int .u64 kp] 44)).cell? ⟨w.heap.size, 1, none⟩ = some (.int .i64 N) := cell_of_row _ _ 1 _ _ _ HK.out
  have k2 : (w.alloc (.cells #[.int .i64 kd, .int .i64 N, .string x, .int .u64 kp] 44)).cell? ⟨w.heap.size, 2, none⟩ = some (.string x) := cell_of_row _ _ 2 _ _ _ HK.out
  have k3 : (w.alloc (.cells #[.int .i64 kd, .int .i64 N, .string x, .int .u64 kp] 44)).cell? ⟨w.heap.size, 3, none⟩ = some (.int .u64 kp) := cell_of_row _ _ 3 _ _ _ HK.out
  clear hd hr hq hi hi' hmm hn hN hk hm
  by_cases c0 : kd = 0
  · subst c0
    have hqw := HQ.out.writ N x
    have HQ1 := Aside0.mk hqw.2
    have HRW : Aside0 (∀ W, Tw.R W base gr s' → Calls Try.prog 14 #[.pointer (some ⟨gr, 0, none⟩), .int .i64 N, .string x] W fun e w' => e = .returned (.int .i64 (Dk.writ s N x).2) ∧ Tw.R w' base gr (Dk.writ s' N x).1 ∧ Rf.B base W w') := ⟨fun W hW => by
      have e := cubbylaw03_step.rWrite s' base gr N x W hW HI2.out
      rw [← hqw.1] at e
      exact e⟩
    have HIN := Aside0.mk (Tw.writ_in s HI.out hm1 N x)
    have HIN2 := Aside0.mk (Tw.writ_in s' HI2.out hm2 N x)
    clear hqw
    go_enter Try.func24, Try.ntmps24
    go_wp2_with (fail)
    generalize hW1 : w.alloc (.cells #[.int .i64 0, .int .i64 N, .string x, .int .u64 kp] 44) = W1 at HB HD HR HK k0 k1 k2 k3 ⊢
    clear hW1
    have HB := Aside0.mk HB.out.drew
    have HD := Aside0.mk HD.out.drew
    have HR := Aside0.mk HR.out.drew
    have HK : Aside0 (W1.drew.heap[w.heap.size]? = some (.cells #[.int .i64 0, .int .i64 N, .string x, .int .u64 kp] 44)) := HK
    -- REGION 3 BEGINS
    refine start_ (n := 14) (S := fun w' => w'.cell? ⟨w.heap.size, 1, none⟩ = some (.int .i64 N) ∧ w'.cell? ⟨w.heap.size, 2, none⟩ = some (.string x)) (ds := []) #[false, false, false, false, false, false, false, false, false, false, false, false, false, false] (by kernel_rfl) rfl rfl ⟨k1, k2⟩ (fun hHeld => ?_)
    refine pure_ (i := 0) (N := some 15) (v := ?_) (a' := ?_) #[true, false, false, false, false, false, false, false, false, false, false, false, false, false] rfl rfl (by kernel_rfl) (fun _ _ _ h => h) (Or.inl ⟨by rfl, ?_⟩) ?_ ?_
    rotate_left
    · intro w'
      go_simp
      with_reducible rfl
    rotate_left
    · simp only [Act.put, List.setIfInBounds_toArray, List.set_cons_zero, List.set_cons_succ, i64_w, i32_w]
      rfl
    refine pure_ (i := 1) (N := some 16) (v := ?_) (a' := ?_) #[true, true, false, false, false, false, false, false, false, false, false, false, false, false] rfl rfl (by kernel_rfl) (fun _ _ _ h => h) (Or.inl ⟨by rfl, ?_⟩) ?_ ?_
    rotate_left
    · intro w'
      go_simp
      with_reducible rfl
    rotate_left
    · simp only [Act.put, List.setIfInBounds_toArray, List.set_cons_zero, List.set_cons_succ, i64_w, i32_w]
      rfl
    refine pure_ (i := 3) (N := some 18) (v := ?_) (a' := ?_) #[true, true, false, true, false, false, false, false, false, false, false, false, false, false] rfl rfl (by kernel_rfl) (fun _ _ _ h => h) (Or.inl ⟨by rfl, ?_⟩) ?_ ?_
    rotate_left
    · intro w'
      go_simp
      with_reducible rfl
    rotate_left
    · simp only [Act.put, List.setIfInBounds_toArray, List.set_cons_zero, List.set_cons_succ, i64_w, i32_w]
      rfl
    refine pure_ (i := 6) (N := some 21) (v := ?_) (a' := ?_) #[true, true, false, true, false, false, true, false, false, false, false, false, false, false] rfl rfl (by kernel_rfl) (fun _ _ _ h => h) (Or.inl ⟨by rfl, ?_⟩) ?_ ?_
    rotate_left
    · intro w'
      go_simp
      with_reducible rfl
    rotate_left
    · simp only [Act.put, List.setIfInBounds_toArray, List.set_cons_zero, List.set_cons_succ, i64_w, i32_w]
      rfl
    refine pure_ (i := 7) (N := some 22) (v := ?_) (a' := ?_) #[true, true, false, true, false, false, true, true, false, false, false, false, false, false] rfl rfl (by kernel_rfl) (fun _ _ _ h => h) (Or.inl ⟨by rfl, ?_⟩) ?_ ?_
    rotate_left
    · intro w'
      go_simp
      with_reducible rfl
    rotate_left
    · simp only [Act.put, List.setIfInBounds_toArray, List.set_cons_zero, List.set_cons_succ, i64_w, i32_w]
      rfl
    refine pure_ (i := 9) (N := some 24) (v := ?_) (a' := ?_) #[true, true, false, true, false, false, true, true, false, true, false, false, false, false] rfl rfl (by kernel_rfl) (fun _ _ _ h => h) (Or.inl ⟨by rfl, ?_⟩) ?_ ?_
    rotate_left
    · intro w'
      go_simp
      with_reducible rfl
    rotate_left
    · simp only [Act.put, List.setIfInBounds_toArray, List.set_cons_zero, List.set_cons_succ, i64_w, i32_w]
      rfl
    refine take_ (i := 2) (N := some 17) (v := ?_) (a' := ?_) #[true, true, true, true, false, false, true, true, false, true, false, false, false, false] rfl rfl (by kernel_rfl) (fun _ _ _ h => h) (Or.inl ⟨by rfl, ?_⟩) hHeld ?_ ?_
    rotate_left
    · rintro w' ⟨s0, s1⟩
      go_simp
      with_reducible rfl
    rotate_left
    · simp only [Act.put, List.setIfInBounds_toArray, List.set_cons_zero, List.set_cons_succ, i64_w, i32_w]
      rfl
    refine take_ (i := 4) (N := some 19) (v := ?_) (a' := ?_) #[true, true, true, true, true, false, true, true, false, true, false, false, false, false] rfl rfl (by kernel_rfl) (fun _ _ _ h => h) (Or.inl ⟨by rfl, ?_⟩) hHeld ?_ ?_
    rotate_left
    · rintro w' ⟨s0, s1⟩
      go_simp
      with_reducible rfl
    rotate_left
    · simp only [Act.put, List.setIfInBounds_toArray, List.set_cons_zero, List.set_cons_succ, i64_w, i32_w]
      rfl
    refine take_ (i := 8) (N := some 23) (v := ?_) (a' := ?_) #[true, true, true, true, true, false, true, true, true, true, false, false, false, false] rfl rfl (by kernel_rfl) (fun _ _ _ h => h) (Or.inl ⟨by rfl, ?_⟩) hHeld ?_ ?_
    rotate_left
    · rintro w' ⟨s0, s1⟩
      go_simp
      with_reducible rfl
    rotate_left
    · simp only [Act.put, List.setIfInBounds_toArray, List.set_cons_zero, List.set_cons_succ, i64_w, i32_w]
      rfl
    refine take_ (i := 10) (N := some 25) (v := ?_) (a' := ?_) #[true, true, true, true, true, false, true, true, true, true, true, false, false, false] rfl rfl (by kernel_rfl) (fun _ _ _ h => h) (Or.inl ⟨by rfl, ?_⟩) hHeld ?_ ?_
    rotate_left
    · rintro w' ⟨s0, s1⟩
      go_simp
      with_reducible rfl
    rotate_left
    · simp only [Act.put, List.setIfInBounds_toArray, List.set_cons_zero, List.set_cons_succ, i64_w, i32_w]
      rfl
    refine one_ (i := 5) (N := some 20) #[true, true, true, true, true, true, true, true, true, true, true, false, false, false] rfl rfl (by kernel_rfl) (by decide) (fun K hK => ?_)
    refine goes_ Try.func13 (by kernel_rfl) rfl #[.pointer (some ⟨gd, 0, none⟩), .int .i64 N, .string x] (by rfl) rfl rfl (by simp only [List.map_toArray, List.map_cons, List.map_nil]; rfl) ?_
    with_reducible refine (cubbylaw03_step.dWrite s base gd n N x _ HD.out HI.out HN.out).mono ?_
    rintro e w3 ⟨rfl, hd3, hb3⟩
    refine ⟨_, rfl, ?_⟩
    have HD := Aside0.mk hd3
    have HR := Aside0.mk (HR.out.dk hb3)
    have HB3 := Aside0.mk (Tw.B.dk hb3)
    clear hd3 hb3
    have HB := Aside0.mk (HB.out.trans HB3.out)
    have HK := Aside0.mk (HB3.out.blk (t := 44) HK.out (by decide))
    have k1 : w3.cell? ⟨w.heap.size, 1, none⟩ = some (.int .i64 N) := cell_of_row _ _ 1 _ _ _ HK.out
    have k2 : w3.cell? ⟨w.heap.size, 2, none⟩ = some (.string x) := cell_of_row _ _ 2 _ _ _ HK.out
    clear HB3
    refine hK.out _ _ ⟨k1, k2⟩ (fun hHeld => ?_)
    clear hK K
    refine norm_ (a' := ?_) ?_ ?_
    rotate_left
    · show Act.put _ (some 20) _ = _
      simp only [Act.put, List.setIfInBounds_toArray, List.set_cons_zero, List.set_cons_succ, i64_w, i32_w]
      rfl
    refine one_ (i := 11) (N := some 26) #[true, true, true, true, true, true, true, true, true, true, true, true, false, false] rfl rfl (by kernel_rfl) (by decide) (fun K hK => ?_)
    refine goes_ Try.func14 (by kernel_rfl) rfl #[.pointer (some ⟨gr, 0, none⟩), .int .i64 N, .string x] (by rfl) rfl rfl (by simp only [List.map_toArray, List.map_cons, List.map_nil]; rfl) ?_
    with_reducible refine (HRW.out _ HR.out).mono ?_
    rintro e w4 ⟨rfl, hr4, hb4⟩
    refine ⟨_, rfl, ?_⟩
    have HD := Aside0.mk (HD.out.rf hb4)
    have HR := Aside0.mk hr4
    have HB3 := Aside0.mk (Tw.B.rf hb4)
    clear hr4 hb4
    have HB := Aside0.mk (HB.out.trans HB3.out)
    have HK := Aside0.mk (HB3.out.blk (t := 44) HK.out (by decide))
    have k1 : w4.cell? ⟨w.heap.size, 1, none⟩ = some (.int .i64 N) := cell_of_row _ _ 1 _ _ _ HK.out
    have k2 : w4.cell? ⟨w.heap.size, 2, none⟩ = some (.string x) := cell_of_row _ _ 2 _ _ _ HK.out
    clear HB3
    refine hK.out _ _ ⟨k1, k2⟩ (fun hHeld => ?_)
    clear hK K
    refine norm_ (a' := ?_) ?_ ?_
    rotate_left
    · show Act.put _ (some 26) _ = _
      simp only [Act.put, List.setIfInBounds_toArray, List.set_cons_zero, List.set_cons_succ, i64_w, i32_w]
      rfl
    refine pure_ (i := 12) (N := some 27) (v := ?_) (a' := ?_) #[true, true, true, true, true, true, true, true, true, true, true, true, true, false] rfl rfl (by kernel_rfl) (fun _ _ _ h => h) (Or.inl ⟨by rfl, ?_⟩) ?_ ?_
    rotate_left
    · intro w'
      go_simp
      with_reducible rfl
    rotate_left
    · simp only [Act.put, List.setIfInBounds_toArray, List.set_cons_zero, List.set_cons_succ, i64_w, i32_w]
      rfl
    refine pure_ (i := 13) (N := some 6) (v := ?_) (a' := ?_) #[true, true, true, true, true, true, true, true, true, true, true, true, true, true] rfl rfl (by kernel_rfl) (fun _ _ _ h => h) (Or.inl ⟨by rfl, ?_⟩) ?_ ?_
    rotate_left
    · intro w'
      go_simp
      with_reducible rfl
    rotate_left
    · simp only [Act.put, List.setIfInBounds_toArray, List.set_cons_zero, List.set_cons_succ, i64_w, i32_w]
      rfl
    refine done_ (by kernel_rfl) ?_
    -- REGION 3 ENDS
    go_wp2_with (fail)
    go_ret
    refine ⟨by first | rfl | simp, ⟨_, _, HD.out, HR.out, HQ1.out, HIN.out.1, HIN2.out.1, ?_⟩, HB.out⟩
    have := HIN.out.2
    have := HMM.out
    omega
  by_cases c1 : kd = 1
  · subst c1
    have HRR : Aside0 (∀ W, Tw.R W base gr s' → Calls Try.prog 34 #[.pointer (some ⟨gr, 0, none⟩), .int .i64 N] W fun e w' => e = .returned (.tuple #[.string (Dk.read s N).1, .int .i64 (Dk.read s N).2]) ∧ w' = W) := ⟨fun W hW => by
      have e := cubbylaw03_step.rRead s' base gr N W hW
      rw [← HQ.out.read N] at e
      exact e⟩
    have HDR := Aside0.mk (fun W => cubbylaw03_step.dRead s base gd n N W)
    generalize Dk.read s N = rr at HRR HDR
    obtain ⟨r1, r2⟩ := rr
    go_enter Try.func24, Try.ntmps24
    go_wp2_with (fail)
    generalize hW1 : w.alloc (.cells #[.int .i64 1, .int .i64 N, .string x, .int .u64 kp] 44) = W1 at HB HD HR HK k0 k1 k2 k3 ⊢
    clear hW1
    go_wp2_with (first | (go_at_call 21; (with_reducible refine (HDR.out _ HD.out).mono ?_); rintro e w3 ⟨rfl, rfl⟩) | (go_at_call 34; (with_reducible refine (HRR.out _ HR.out).mono ?_); rintro e w3 ⟨rfl, rfl⟩))
    go_ret
    refine ⟨by first | rfl | simp, ⟨_, _, ?_, HR.out, HQ.out, HI.out, HI2.out, ?_⟩, HB.out⟩
    · obtain ⟨mb, n', ov, h1, h2⟩ := HD.out
      exact ⟨mb, n', ov, by omega, h2⟩
    · have := HMM.out
      omega
  by_cases c2 : kd = 2
  · subst c2
    have hqw := HQ.out.barr
    have HQ1 := Aside0.mk hqw.2
    have HRW : Aside0 (∀ W, Tw.R W base gr s' → Calls Try.prog 16 #[.pointer (some ⟨gr, 0, none⟩)] W fun e w' => e = .returned (.int .i64 (Dk.barr s).2) ∧ Tw.R w' base gr (Dk.barr s').1 ∧ Rf.B base W w') := ⟨fun W hW => by
      have e := cubbylaw03_step.rBarrier s' base gr W hW HI2.out
      rw [← hqw.1] at e
      exact e⟩
    have HIN := Aside0.mk (Tw.barr_in s HI.out hm1)
    have HIN2 := Aside0.mk (Tw.barr_in s' HI2.out hm2)
    clear hqw
    go_enter Try.func24, Try.ntmps24
    go_wp2_with (fail)
    generalize hW1 : w.alloc (.cells #[.int .i64 2, .int .i64 N, .string x, .int .u64 kp] 44) = W1 at HB HD HR HK k0 k1 k2 k3 ⊢
    clear hW1
    go_wp2_with (first | (go_at_call 15; (with_reducible refine (cubbylaw03_step.dBarrier s base gd n _ HD.out HI.out).mono ?_); rintro e w3 ⟨rfl, hd3, hb3⟩; have HD := Aside0.mk hd3; have HR := Aside0.mk (HR.out.dk hb3); have HB := Aside0.mk (HB.out.trans (Tw.B.dk hb3)); clear hd3 hb3) | (go_at_call 16; (with_reducible refine (HRW.out _ HR.out).mono ?_); rintro e w4 ⟨rfl, hr4, hb4⟩; have HD := Aside0.mk (HD.out.rf hb4); have HR := Aside0.mk hr4; have HB := Aside0.mk (HB.out.trans (Tw.B.rf hb4)); clear hr4 hb4))
    go_ret
    refine ⟨by first | rfl | simp, ⟨_, _, ?_, HR.out, HQ1.out, HIN.out.1, HIN2.out.1, ?_⟩, HB.out⟩
    · obtain ⟨mb, n', ov, h1, h2⟩ := HD.out
      exact ⟨mb, n', ov, by omega, h2⟩
    · have := HIN.out.2
      have := HMM.out
      omega
  by_cases c3 : kd = 3
  · subst c3
    have HQ1 := Aside0.mk (HQ.out.cutS N kp)
    have HIN := Aside0.mk (Tw.cut_in s HI.out N kp HNN.out HKP.out)
    have HIN2 := Aside0.mk (Tw.cut_in s' HI2.out N kp HNN.out HKP.out)
    have HDE := Aside0.mk (fun W => cubbylaw03_step.dDead (Dk.cutS s N kp) base gd (n + 0) W)
    have HRE : Aside0 (∀ W, Tw.R W base gr (Dk.cutS s' N kp) → Calls Try.prog 36 #[.pointer (some ⟨gr, 0, none⟩)] W fun e w' => e = .returned (.bool (Dk.cutS s N kp).off) ∧ w' = W) := ⟨fun W hW => by
      have e := cubbylaw03_step.rDead (Dk.cutS s' N kp) base gr W hW
      rw [← HQ1.out.off] at e
      exact e⟩
    have HDC := Aside0.mk (fun W => cubbylaw03_step.dCalls (Dk.cutS s N kp) base gd (n + 0) W)
    have HRC : Aside0 (∀ W, Tw.R W base gr (Dk.cutS s' N kp) → Calls Try.prog 19 #[.pointer (some ⟨gr, 0, none⟩)] W fun e w' => e = .returned (.int .i64 (Dk.cutS s N kp).many) ∧ w' = W) := ⟨fun W hW => by
      have e := cubbylaw03_step.rCalls (Dk.cutS s' N kp) base gr W hW
      rw [← HQ1.out.many] at e
      exact e⟩
    have HMY : Aside0 ((Dk.cutS s N kp).many = s.many) := ⟨rfl⟩
    obtain ⟨S1, hS1⟩ : ∃ S, (Dk.cutS s N kp) = S := ⟨_, rfl⟩
    obtain ⟨S2, hS2⟩ : ∃ S, (Dk.cutS s' N kp) = S := ⟨_, rfl⟩
    have HF1 := Aside0.mk (fun W h => cubbylaw03_step.dCut s base gd n N kp W h)
    have HF2 := Aside0.mk (fun W h => cubbylaw03_step.rCut s' base gr N kp W h)
    rw [hS1] at HQ1 HIN HDE HRE HDC HRC HMY HF1
    rw [hS2] at HQ1 HIN2 HRE HRC HF2
    clear hS1 hS2
    obtain ⟨so, hso⟩ : ∃ q, S1.off = q := ⟨_, rfl⟩
    obtain ⟨sm, hsm⟩ : ∃ q, S1.many = q := ⟨_, rfl⟩
    rw [hso] at HDE HRE
    rw [hsm] at HDC HRC HMY
    have HSM := Aside0.mk hsm
    clear hso hsm
    go_enter Try.func24, Try.ntmps24
    go_wp2_with (fail)
    generalize hW1 : w.alloc (.cells #[.int .i64 3, .int .i64 N, .string x, .int .u64 kp] 44) = W1 at HB HD HR HK k0 k1 k2 k3 ⊢
    clear hW1
    go_wp2_with (first | (go_at_call 11; (with_reducible refine (HF1.out _ HD.out).mono ?_); rintro e w3 ⟨rfl, hd3, hb3⟩; have HD := Aside0.mk hd3; have HR := Aside0.mk (HR.out.dk hb3); have HB3 := Aside0.mk (Tw.B.dk hb3); have HB := Aside0.mk (HB.out.trans HB3.out); have HK := Aside0.mk (HB3.out.blk (t := 44) HK.out (by decide)); have k1 : w3.cell? ⟨w.heap.size, 1, none⟩ = some (.int .i64 N) := cell_of_row _ _ 1 _ _ _ HK.out; have k3 : w3.cell? ⟨w.heap.size, 3, none⟩ = some (.int .u64 kp) := cell_of_row _ _ 3 _ _ _ HK.out; clear hd3 hb3 HB3) | (go_at_call 12; (with_reducible refine (HF2.out _ HR.out).mono ?_); rintro e w4 ⟨rfl, hr4, hb4⟩; have HD := Aside0.mk (HD.out.rf hb4); have HR := Aside0.mk hr4; have HB := Aside0.mk (HB.out.trans (Tw.B.rf hb4)); clear hr4 hb4) | (go_at_call 17; (with_reducible refine (HDE.out _ HD.out).mono ?_); rintro e w5 ⟨rfl, rfl⟩) | (go_at_call 36; (with_reducible refine (HRE.out _ HR.out).mono ?_); rintro e w5 ⟨rfl, rfl⟩) | (go_at_call 18; (with_reducible refine (HDC.out _ HD.out).mono ?_); rintro e w5 ⟨rfl, rfl⟩) | (go_at_call 19; (with_reducible refine (HRC.out _ HR.out).mono ?_); rintro e w5 ⟨rfl, rfl⟩))
    go_ret
    refine ⟨by first | rfl | simp, ⟨_, _, ?_, HR.out, HQ1.out, HIN.out, HIN2.out, ?_⟩, HB.out⟩
    · obtain ⟨mb, n', ov, h1, h2⟩ := HD.out
      exact ⟨mb, n', ov, by omega, h2⟩
    · have e1 := HMM.out
      have e2 := HSM.out
      have e3 := HMY.out
      omega
  by_cases c4 : kd = 4
  · subst c4
    have HQ1 := Aside0.mk (HQ.out.failS N)
    have HIN := Aside0.mk (Tw.fail_in s HI.out N HNN.out)
    have HIN2 := Aside0.mk (Tw.fail_in s' HI2.out N HNN.out)
    have HDE := Aside0.mk (fun W => cubbylaw03_step.dDead (Dk.failS s N) base gd (n + 0) W)
    have HRE : Aside0 (∀ W, Tw.R W base gr (Dk.failS s' N) → Calls Try.prog 36 #[.pointer (some ⟨gr, 0, none⟩)] W fun e w' => e = .returned (.bool (Dk.failS s N).off) ∧ w' = W) := ⟨fun W hW => by
      have e := cubbylaw03_step.rDead (Dk.failS s' N) base gr W hW
      rw [← HQ1.out.off] at e
      exact e⟩
    have HDC := Aside0.mk (fun W => cubbylaw03_step.dCalls (Dk.failS s N) base gd (n + 0) W)
    have HRC : Aside0 (∀ W, Tw.R W base gr (Dk.failS s' N) → Calls Try.prog 19 #[.pointer (some ⟨gr, 0, none⟩)] W fun e w' => e = .returned (.int .i64 (Dk.failS s N).many) ∧ w' = W) := ⟨fun W hW => by
      have e := cubbylaw03_step.rCalls (Dk.failS s' N) base gr W hW
      rw [← HQ1.out.many] at e
      exact e⟩
    have HMY : Aside0 ((Dk.failS s N).many = s.many) := ⟨rfl⟩
    obtain ⟨S1, hS1⟩ : ∃ S, (Dk.failS s N) = S := ⟨_, rfl⟩
    obtain ⟨S2, hS2⟩ : ∃ S, (Dk.failS s' N) = S := ⟨_, rfl⟩
    have HF1 := Aside0.mk (fun W h => cubbylaw03_step.dFail s base gd n N W h)
    have HF2 := Aside0.mk (fun W h => cubbylaw03_step.rFail s' base gr N W h)
    rw [hS1] at HQ1 HIN HDE HRE HDC HRC HMY HF1
    rw [hS2] at HQ1 HIN2 HRE HRC HF2
    clear hS1 hS2
    obtain ⟨so, hso⟩ : ∃ q, S1.off = q := ⟨_, rfl⟩
    obtain ⟨sm, hsm⟩ : ∃ q, S1.many = q := ⟨_, rfl⟩
    rw [hso] at HDE HRE
    rw [hsm] at HDC HRC HMY
    have HSM := Aside0.mk hsm
    clear hso hsm
    go_enter Try.func24, Try.ntmps24
    go_wp2_with (fail)
    generalize hW1 : w.alloc (.cells #[.int .i64 4, .int .i64 N, .string x, .int .u64 kp] 44) = W1 at HB HD HR HK k0 k1 k2 k3 ⊢
    clear hW1
    go_wp2_with (first | (go_at_call 20; (with_reducible refine (HF1.out _ HD.out).mono ?_); rintro e w3 ⟨rfl, hd3, hb3⟩; have HD := Aside0.mk hd3; have HR := Aside0.mk (HR.out.dk hb3); have HB3 := Aside0.mk (Tw.B.dk hb3); have HB := Aside0.mk (HB.out.trans HB3.out); have HK := Aside0.mk (HB3.out.blk (t := 44) HK.out (by decide)); have k1 : w3.cell? ⟨w.heap.size, 1, none⟩ = some (.int .i64 N) := cell_of_row _ _ 1 _ _ _ HK.out; have k3 : w3.cell? ⟨w.heap.size, 3, none⟩ = some (.int .u64 kp) := cell_of_row _ _ 3 _ _ _ HK.out; clear hd3 hb3 HB3) | (go_at_call 35; (with_reducible refine (HF2.out _ HR.out).mono ?_); rintro e w4 ⟨rfl, hr4, hb4⟩; have HD := Aside0.mk (HD.out.rf hb4); have HR := Aside0.mk hr4; have HB := Aside0.mk (HB.out.trans (Tw.B.rf hb4)); clear hr4 hb4) | (go_at_call 17; (with_reducible refine (HDE.out _ HD.out).mono ?_); rintro e w5 ⟨rfl, rfl⟩) | (go_at_call 36; (with_reducible refine (HRE.out _ HR.out).mono ?_); rintro e w5 ⟨rfl, rfl⟩) | (go_at_call 18; (with_reducible refine (HDC.out _ HD.out).mono ?_); rintro e w5 ⟨rfl, rfl⟩) | (go_at_call 19; (with_reducible refine (HRC.out _ HR.out).mono ?_); rintro e w5 ⟨rfl, rfl⟩))
    go_ret
    refine ⟨by first | rfl | simp, ⟨_, _, ?_, HR.out, HQ1.out, HIN.out, HIN2.out, ?_⟩, HB.out⟩
    · obtain ⟨mb, n', ov, h1, h2⟩ := HD.out
      exact ⟨mb, n', ov, by omega, h2⟩
    · have e1 := HMM.out
      have e2 := HSM.out
      have e3 := HMY.out
      omega
  by_cases c5 : kd = 5
  · subst c5
    have HQ1 := Aside0.mk (HQ.out.powS)
    have HIN := Aside0.mk (Tw.pow_in s HI.out)
    have HIN2 := Aside0.mk (Tw.pow_in s' HI2.out)
    have HDE := Aside0.mk (fun W => cubbylaw03_step.dDead (Dk.powS s) base gd (n + 0) W)
    have HRE : Aside0 (∀ W, Tw.R W base gr (Dk.powS s') → Calls Try.prog 36 #[.pointer (some ⟨gr, 0, none⟩)] W fun e w' => e = .returned (.bool (Dk.powS s).off) ∧ w' = W) := ⟨fun W hW => by
      have e := cubbylaw03_step.rDead (Dk.powS s') base gr W hW
      rw [← HQ1.out.off] at e
      exact e⟩
    have HDC := Aside0.mk (fun W => cubbylaw03_step.dCalls (Dk.powS s) base gd (n + 0) W)
    have HRC : Aside0 (∀ W, Tw.R W base gr (Dk.powS s') → Calls Try.prog 19 #[.pointer (some ⟨gr, 0, none⟩)] W fun e w' => e = .returned (.int .i64 (Dk.powS s).many) ∧ w' = W) := ⟨fun W hW => by
      have e := cubbylaw03_step.rCalls (Dk.powS s') base gr W hW
      rw [← HQ1.out.many] at e
      exact e⟩
    have HMY : Aside0 ((Dk.powS s).many = s.many) := ⟨by unfold Dk.powS; split <;> rfl⟩
    obtain ⟨S1, hS1⟩ : ∃ S, (Dk.powS s) = S := ⟨_, rfl⟩
    obtain ⟨S2, hS2⟩ : ∃ S, (Dk.powS s') = S := ⟨_, rfl⟩
    have HF1 := Aside0.mk (fun W h => cubbylaw03_step.dPower s base gd n W h)
    have HF2 := Aside0.mk (fun W h => cubbylaw03_step.rPower s' base gr W h)
    rw [hS1] at HQ1 HIN HDE HRE HDC HRC HMY HF1
    rw [hS2] at HQ1 HIN2 HRE HRC HF2
    clear hS1 hS2
    obtain ⟨so, hso⟩ : ∃ q, S1.off = q := ⟨_, rfl⟩
    obtain ⟨sm, hsm⟩ : ∃ q, S1.many = q := ⟨_, rfl⟩
    rw [hso] at HDE HRE
    rw [hsm] at HDC HRC HMY
    have HSM := Aside0.mk hsm
    clear hso hsm
    go_enter Try.func24, Try.ntmps24
    go_wp2_with (fail)
    generalize hW1 : w.alloc (.cells #[.int .i64 5, .int .i64 N, .string x, .int .u64 kp] 44) = W1 at HB HD HR HK k0 k1 k2 k3 ⊢
    clear hW1
    go_wp2_with (first | (go_at_call 22; (with_reducible refine (HF1.out _ HD.out).mono ?_); rintro e w3 ⟨rfl, hd3, hb3⟩; have HD := Aside0.mk hd3; have HR := Aside0.mk (HR.out.dk hb3); have HB3 := Aside0.mk (Tw.B.dk hb3); have HB := Aside0.mk (HB.out.trans HB3.out); have HK := Aside0.mk (HB3.out.blk (t := 44) HK.out (by decide)); have k1 : w3.cell? ⟨w.heap.size, 1, none⟩ = some (.int .i64 N) := cell_of_row _ _ 1 _ _ _ HK.out; have k3 : w3.cell? ⟨w.heap.size, 3, none⟩ = some (.int .u64 kp) := cell_of_row _ _ 3 _ _ _ HK.out; clear hd3 hb3 HB3) | (go_at_call 25; (with_reducible refine (HF2.out _ HR.out).mono ?_); rintro e w4 ⟨rfl, hr4, hb4⟩; have HD := Aside0.mk (HD.out.rf hb4); have HR := Aside0.mk hr4; have HB := Aside0.mk (HB.out.trans (Tw.B.rf hb4)); clear hr4 hb4) | (go_at_call 17; (with_reducible refine (HDE.out _ HD.out).mono ?_); rintro e w5 ⟨rfl, rfl⟩) | (go_at_call 36; (with_reducible refine (HRE.out _ HR.out).mono ?_); rintro e w5 ⟨rfl, rfl⟩) | (go_at_call 18; (with_reducible refine (HDC.out _ HD.out).mono ?_); rintro e w5 ⟨rfl, rfl⟩) | (go_at_call 19; (with_reducible refine (HRC.out _ HR.out).mono ?_); rintro e w5 ⟨rfl, rfl⟩))
    go_ret
    refine ⟨by first | rfl | simp, ⟨_, _, ?_, HR.out, HQ1.out, HIN.out, HIN2.out, ?_⟩, HB.out⟩
    · obtain ⟨mb, n', ov, h1, h2⟩ := HD.out
      exact ⟨mb, n', ov, by omega, h2⟩
    · have e1 := HMM.out
      have e2 := HSM.out
      have e3 := HMY.out
      omega
  have HQ1 := Aside0.mk (HQ.out)
  have HIN := Aside0.mk (HI.out)
  have HIN2 := Aside0.mk (HI2.out)
  have HDE := Aside0.mk (fun W => cubbylaw03_step.dDead (s) base gd (n + 0) W)
  have HRE : Aside0 (∀ W, Tw.R W base gr (s') → Calls Try.prog 36 #[.pointer (some ⟨gr, 0, none⟩)] W fun e w' => e = .returned (.bool (s).off) ∧ w' = W) := ⟨fun W hW => by
    have e := cubbylaw03_step.rDead (s') base gr W hW
    rw [← HQ1.out.off] at e
    exact e⟩
  have HDC := Aside0.mk (fun W => cubbylaw03_step.dCalls (s) base gd (n + 0) W)
  have HRC : Aside0 (∀ W, Tw.R W base gr (s') → Calls Try.prog 19 #[.pointer (some ⟨gr, 0, none⟩)] W fun e w' => e = .returned (.int .i64 (s).many) ∧ w' = W) := ⟨fun W hW => by
    have e := cubbylaw03_step.rCalls (s') base gr W hW
    rw [← HQ1.out.many] at e
    exact e⟩
  have HMY : Aside0 ((s).many = s.many) := ⟨rfl⟩
  obtain ⟨S1, hS1⟩ : ∃ S, s = S := ⟨_, rfl⟩
  subst hS1
  obtain ⟨S2, hS2⟩ : ∃ S, s' = S := ⟨_, rfl⟩
  subst hS2
  obtain ⟨so, hso⟩ : ∃ q, s.off = q := ⟨_, rfl⟩
  obtain ⟨sm, hsm⟩ : ∃ q, s.many = q := ⟨_, rfl⟩
  rw [hso] at HDE HRE
  rw [hsm] at HDC HRC HMY
  have HSM := Aside0.mk hsm
  clear hso hsm
  go_enter Try.func24, Try.ntmps24
  go_wp2_with (fail)
  generalize hW1 : w.alloc (.cells #[.int .i64 kd, .int .i64 N, .string x, .int .u64 kp] 44) = W1 at HB HD HR HK k0 k1 k2 k3 ⊢
  clear hW1
  go_wp2_with (first
    | (go_at_call 17; (with_reducible refine (HDE.out _ HD.out).mono ?_); rintro e w5 ⟨rfl, rfl⟩)
    | (go_at_call 36; (with_reducible refine (HRE.out _ HR.out).mono ?_); rintro e w5 ⟨rfl, rfl⟩)
    | (go_at_call 18; (with_reducible refine (HDC.out _ HD.out).mono ?_); rintro e w5 ⟨rfl, rfl⟩)
    | (go_at_call 19; (with_reducible refine (HRC.out _ HR.out).mono ?_); rintro e w5 ⟨rfl, rfl⟩))
  go_ret
  refine ⟨by first | rfl | simp, ⟨_, _, ?_, HR.out, HQ1.out, HIN.out, HIN2.out, ?_⟩, HB.out⟩
  · obtain ⟨mb, n', ov, h1, h2⟩ := HD.out
    exact ⟨mb, n', ov, by omega, h2⟩
  · have e1 := HMM.out
    have e2 := HSM.out
    have e3 := HMY.out
    omega

end Go.Proofs.Ytbikejfjfliamaa.PDiskAgain
