-- By a program of this session (wip/tools/mkprint.py), for this claim.
import Derived.Test.YtndmfbaffkekgaaPChunkCutsx0
namespace Go.Proofs.Ytndmfbaffkekgaa.PChunkCuts
open Go.RowKit Go.Proofs.YtndmfbaffkekgaaW.PrintWords Go.Proofs.YtndmfbaffkekgaaW.PrintLast Go.Proofs.YtndmfbaffkekgaaW.PrintMore
attribute [local go_sem] max2_int min2_int max_two min_two max_three min_three max_four min_four   -- for this text's walks alone
set_option linter.unusedVariables false
set_option linter.unusedSimpArgs false

-- NOT PRINTED: function 30 (chunk_pieces_1)

-- NOT PRINTED: function 15 (chunk_pieces)

/-! ### chunk_Cut: function 9 (by hand) -/
def chunk_Cut.f (s : ByteArray) : Option (List ByteArray) := if s.size ≤ 140737488355328 then some (Ct.pcs s) else none
theorem chunk_Cut.calls (s : ByteArray) (r : List ByteArray) (w : World) (h : chunk_Cut.f s = some r) : Calls Try.prog 9 #[.string s] w fun e w' => ∃ v0_ : Value, e = .returned (v0_) ∧ Kd.R Kd.string 9 w' w.heap.size (fun _ => True) v0_ r ∧ Below w.heap.size w w' := by
  by_cases hs : s.size ≤ 140737488355328
  · have e : Ct.pcs s = r := by
      unfold chunk_Cut.f at h
      rw [if_pos hs] at h
      exact Option.some.inj h
    rw [← e]
    exact Ct.cut s hs w
  · exact absurd h (by unfold chunk_Cut.f; rw [if_neg hs]; simp)

/-! ### cubbyref04_Cut: function 10 -/
def cubbyref04_Cut.l0 : Nat → ByteArray → List ByteArray → Option (List ByteArray)
  | 0, _, _ => none
  | k + 1, x0, x3 => if (x0.size : Int) > 96 then (if 0 ≤ 96 then (if 96 ≤ (x0.size : Int) then (if x3.length < 8796093022208 then (cubbyref04_Cut.l0 k (x0.extract 96 x0.size) (x3 ++ [x0.extract 0 96])) else (none)) else (none)) else (none)) else (if x3.length < 8796093022208 then (some (x3 ++ [x0])) else (none))
def cubbyref04_Cut.f (k : Nat) (a0 : ByteArray) : Option (List ByteArray) := cubbyref04_Cut.l0 k a0 (([] : List ByteArray))
theorem cubbyref04_Cut.mono_l : ∀ k, (∀ y0 y1, LeO (cubbyref04_Cut.l0 k y0 y1) (cubbyref04_Cut.l0 (k + 1) y0 y1))
  | 0 => fun _ _ r h => by simp [cubbyref04_Cut.l0] at h
  | k + 1 => by
    have ih0 := cubbyref04_Cut.mono_l k
    · intro y0 y1
      unfold cubbyref04_Cut.l0
      repeat' first
      | (with_reducible exact ih0 _ _)
      | (with_reducible exact LeO.refl _)
      | (with_reducible exact LeO.none _)
      | (with_reducible refine LeO.ite ?_ ?_)
      | (with_reducible refine LeO.bind ?_ (fun _ => ?_))
      | exact ih0 _ _
      | exact LeO.none _
      | refine LeO.ite ?_ ?_
      | refine LeO.bind ?_ (fun _ => ?_)
theorem cubbyref04_Cut.mono : ∀ a0 k, LeO (cubbyref04_Cut.f k a0) (cubbyref04_Cut.f (k + 1) a0) := by
  intro a0 k
  have ih0 := cubbyref04_Cut.mono_l k
  unfold cubbyref04_Cut.f
  repeat' first
      | (with_reducible exact ih0 _ _)
      | (with_reducible exact LeO.refl _)
      | (with_reducible exact LeO.none _)
      | (with_reducible refine LeO.ite ?_ ?_)
      | (with_reducible refine LeO.bind ?_ (fun _ => ?_))
      | exact ih0 _ _
      | exact LeO.none _
      | refine LeO.ite ?_ ?_
      | refine LeO.bind ?_ (fun _ => ?_)
set_option maxHeartbeats 8000000 in
set_option maxRecDepth 100000 in
theorem cubbyref04_Cut.calls (k : Nat) (a0 : ByteArray) (r : List ByteArray) (w : World) (h : cubbyref04_Cut.f k a0 = some r) :
    Calls Try.prog 10 #[.string a0] w fun e w' => ∃ v0_ : Value, e = .returned (v0_) ∧ Kd.R Kd.string 9 w' w.heap.size (fun _ => True) v0_ r ∧ Below w.heap.size w w' := by
  have HB := Aside0.mk (Below.refl w.heap.size w)
  have H : (cubbyref04_Cut.l0 k a0 (([] : List ByteArray))) = some r := h
  clear h
  obtain ⟨y101, hy101⟩ : ∃ y_ : List ByteArray, y_ = (([] : List ByteArray)) := ⟨_, rfl⟩
  replace H : (cubbyref04_Cut.l0 k a0 y101) = some r := by first | (rw [hy101]; with_reducible exact H) | (have H2_ := (Option.bind_some _ _).symm.trans H; rw [hy101]; with_reducible exact H2_) | (have H2_ := (Option.bind_some _ _).symm.trans H; with_reducible exact H2_) | with_reducible exact H | (rw [hy101]; exact H) | exact H
  have Ny101 := Aside0.mk hy101
  clear hy101
  have H' := Aside0.mk H
  clear H
  go_enter Try.func10, Try.ntmps10
  go_wp2_with (first | ((with_reducible refine gate_dst (N := 4) rfl ?_); refine Kd.R_lit Kd.string _ 9 ?hg (N := 4) ?hd (xs := ([] : List ByteArray)) (inner := []) (ok := fun _ => True) (okp := fun _ => True) ?hr ?hp (fun _ hk => hk) trivial (Below.refl _ _) (Nat.le_refl _) (by simp) ?_; (case hd => rfl); (case hg => rfl); (case hr => first | (go_simp; done) | (go_simp; rfl)); (case hp => exact (Reps.none _ _)); intro v102 w2 ho3 hb hg_ hnew_; clear hg_ hnew_; (first | rw [← Ny101.out] at ho3 | (simp only [Int.reduceToNat] at ho3; rw [← Ny101.out] at ho3)); have n0_ := Aside0.mk (Kd.R_lower ho3 (below_size (by repeat (first | (with_reducible first | exact HB.out | apply below_alloc | apply pw_below_drewN | apply below_drew1) | exact HB.out)))); have n1_ := Aside0.mk (below_step (by repeat (first | (with_reducible first | exact HB.out | apply below_alloc | apply pw_below_drewN | apply below_drew1) | exact HB.out)) hb); clear HB; have HO103 := n0_; have HB := n1_; clear n0_ n1_; clear hb ho3))
  go_loopg [0, 3] k (fun kq v0 v3 w' => ∃ (x0_1 : ByteArray) (x3_1 : List ByteArray), v0 = .string x0_1 ∧ Aside0 (cubbyref04_Cut.l0 kq x0_1 x3_1 = some r) ∧ Aside0 (kq ≤ k) ∧ Aside0 (Kd.R Kd.string 9 w' w.heap.size (fun _ => True) v3 x3_1) ∧ Aside0 (Below w.heap.size w w'))
  case atStart => exact ⟨(a0), (y101), (by first | rfl | (simp; done) | (simp [*]; done)), H', ⟨Nat.le_refl _⟩, ⟨by (with_reducible repeat (first | apply Kd.R_alloc | apply Kd.R_drewN | apply Kd.R_drew)); exact HO103.out⟩, ⟨by repeat (first | (with_reducible first | exact HB.out | apply below_alloc | apply pw_below_drewN | apply below_drew1) | exact HB.out)⟩⟩
  case round =>
    clear H'
    try clear c1
    try clear p2
    obtain ⟨x0_1, x3_1, rfl, HA, HK1, HO_3, HB⟩ := hrel
    cases gk with
    | zero => exact absurd HA.out (by simp [cubbyref04_Cut.l0])
    | succ k1 =>
      have H := HA.out
      clear HA
      simp only [cubbyref04_Cut.l0] at H
      by_cases c4 : (x0_1.size : Int) > 96
      · rw [if_pos c4] at H
        have c4b0 : decide (96 < (x0_1.size : Int)) = true := decide_eq_true c4
        have c4b1 : decide (96 < x0_1.size) = true := decide_eq_true (by omega)
        clear c4
        by_cases c5 : 0 ≤ 96
        · rw [if_pos c5] at H
          have c5b0 := eq_true c5
          have c5b1 : decide (0 ≤ 96) = true := decide_eq_true c5
          clear c5
          by_cases c6 : 96 ≤ (x0_1.size : Int)
          · rw [if_pos c6] at H
            have c6b0 := eq_true c6
            have c6b1 : decide (96 ≤ (x0_1.size : Int)) = true := decide_eq_true c6
            clear c6
            by_cases c7 : x3_1.length < 8796093022208
            · rw [if_pos c7] at H
              have LMc7 := Aside0.mk c7
              clear c7
              obtain ⟨y104, hy104⟩ : ∃ y_ : List ByteArray, y_ = (x3_1 ++ [x0_1.extract 0 96]) := ⟨_, rfl⟩
              replace H : (cubbyref04_Cut.l0 k1 (x0_1.extract 96 x0_1.size) y104) = some r := by first | (rw [hy104]; with_reducible exact H) | (have H2_ := (Option.bind_some _ _).symm.trans H; rw [hy104]; with_reducible exact H2_) | (have H2_ := (Option.bind_some _ _).symm.trans H; with_reducible exact H2_) | with_reducible exact H | (rw [hy104]; exact H) | exact H
              have Ny104 := Aside0.mk hy104
              clear hy104
              have c8b0 := eq_true (of_decide_eq_true (by first | (with_reducible assumption) | assumption) : 96 ≤ (x0_1.size : Int))
              have H' := Aside0.mk H
              clear H
              go_wp2_with (first | ((with_reducible refine gate_builtin (b := .append) (xs := #[.tmp 8, .tmp 11]) rfl ?_); at_builtin; refine Kd.R_append Kd.string (w0 := w) w.heap.size rfl (.tmp 8) (.tmp 11) 22 9 (.string ⟨#[]⟩) 16 rfl Try.underlying22 info9 rfl (by decide) (by omega) u3 x3_1 (x0_1.extract 0 96) [.string (x0_1.extract 0 96)] (fun _ => True) (fun _ => False) rfl rfl ?aP (fun _ hk => hk.elim) ?aF ?aO ?aB ?aS ?aL ?_; (case aP => exact rfl); (case aB => exact (by repeat (first | (with_reducible first | exact HB.out | apply below_alloc | apply pw_below_drewN | apply below_drew1) | exact HB.out))); (case aF => exact (fun _ _ => trivial)); (case aO => exact (by (with_reducible repeat (first | apply Kd.R_alloc | apply Kd.R_drewN | apply Kd.R_drew)); exact HO_3.out)); (case aS => exact (below_size (by repeat (first | (with_reducible first | exact HB.out | apply below_alloc | apply pw_below_drewN | apply below_drew1) | exact HB.out)))); (case aL => have := LMc7.out; omega); intro v105 w9 ho hb hg hat; rw [← Ny104.out] at ho; have n0_ := Aside0.mk (hb); have n1_ := Aside0.mk (ho); clear HB; clear HO_3; have HB := n0_; have HO106 := n1_; clear n0_ n1_; clear ho hb hg hat))
              go_roundg k1
              case measure => have := HK1.out; omega
              case rel => exact ⟨(x0_1.extract 96 x0_1.size), (y104), (by first | rfl | (simp; done) | (simp [*]; done)), H', ⟨by have := HK1.out; omega⟩, ⟨by (with_reducible repeat (first | apply Kd.R_alloc | apply Kd.R_drewN | apply Kd.R_drew)); exact HO106.out⟩, ⟨by repeat (first | (with_reducible first | exact HB.out | apply below_alloc | apply pw_below_drewN | apply below_drew1) | exact HB.out)⟩⟩
            · rw [if_neg c7] at H
              exact absurd H (by simp)
          · rw [if_neg c6] at H
            exact absurd H (by simp)
        · rw [if_neg c5] at H
          exact absurd H (by simp)
      · rw [if_neg c4] at H
        have c4b0 : decide (96 < (x0_1.size : Int)) = false := decide_eq_false c4
        have c4b1 : decide (96 < x0_1.size) = false := decide_eq_false (by omega)
        clear c4
        by_cases c10 : x3_1.length < 8796093022208
        · rw [if_pos c10] at H
          have LMc10 := Aside0.mk c10
          clear c10
          obtain ⟨y107, hy107⟩ : ∃ y_ : List ByteArray, y_ = (x3_1 ++ [x0_1]) := ⟨_, rfl⟩
          replace H : (some y107) = some r := by first | (rw [hy107]; with_reducible exact H) | (have H2_ := (Option.bind_some _ _).symm.trans H; rw [hy107]; with_reducible exact H2_) | (have H2_ := (Option.bind_some _ _).symm.trans H; with_reducible exact H2_) | with_reducible exact H | (rw [hy107]; exact H) | exact H
          have Ny107 := Aside0.mk hy107
          clear hy107
          obtain rfl := Option.some.inj H
          go_wp2_with (first | ((with_reducible refine gate_builtin (b := .append) (xs := #[.tmp 15, .tmp 17]) rfl ?_); at_builtin; refine Kd.R_append Kd.string (w0 := w) w.heap.size rfl (.tmp 15) (.tmp 17) 22 9 (.string ⟨#[]⟩) 16 rfl Try.underlying22 info9 rfl (by decide) (by omega) u3 x3_1 x0_1 [.string x0_1] (fun _ => True) (fun _ => False) rfl rfl ?aP (fun _ hk => hk.elim) ?aF ?aO ?aB ?aS ?aL ?_; (case aP => exact rfl); (case aB => exact (by repeat (first | (with_reducible first | exact HB.out | apply below_alloc | apply pw_below_drewN | apply below_drew1) | exact HB.out))); (case aF => exact (fun _ _ => trivial)); (case aO => exact (by (with_reducible repeat (first | apply Kd.R_alloc | apply Kd.R_drewN | apply Kd.R_drew)); exact HO_3.out)); (case aS => exact (below_size (by repeat (first | (with_reducible first | exact HB.out | apply below_alloc | apply pw_below_drewN | apply below_drew1) | exact HB.out)))); (case aL => have := LMc10.out; omega); intro v108 w11 ho hb hg hat; rw [← Ny107.out] at ho; have n0_ := Aside0.mk (hb); have n1_ := Aside0.mk (ho); clear HB; clear HO_3; have HB := n0_; have HO109 := n1_; clear n0_ n1_; clear ho hb hg hat))
          go_ret
          exact ⟨_, by first | rfl | (simp [errW_none, errW_some] <;> rfl) | (simp [*, errW_none, errW_some] <;> rfl), by (with_reducible repeat (first | apply Kd.R_alloc | apply Kd.R_drewN | apply Kd.R_drew)); exact HO109.out, by repeat (first | (with_reducible first | exact HB.out | apply below_alloc | apply pw_below_drewN | apply below_drew1) | exact HB.out)⟩
        · rw [if_neg c10] at H
          exact absurd H (by simp)

/-! ### cubbylaw04_ChunkCuts: function 3 -/
mutual
def cubbylaw04_ChunkCuts.j0 : Nat → ByteArray → List ByteArray → List ByteArray → Bool → Option (Bool)
  | 0, _, _, _, _ => none
  | k + 1, x0, x3, x4, x23 => if x23 = true then (some false) else (cubbylaw04_ChunkCuts.l0 k x0 x3 x4 (⟨#[]⟩ : ByteArray) 0)
def cubbylaw04_ChunkCuts.l0 : Nat → ByteArray → List ByteArray → List ByteArray → ByteArray → Int → Option (Bool)
  | 0, _, _, _, _, _ => none
  | k + 1, x0, x3, x4, x5, x6 => if x6 < (x3.length : Int) then (if 0 ≤ x6 then (if x6 < (x4.length : Int) then (if (rdOf ByteArray.empty x3 x6).toList = (rdOf ByteArray.empty x4 x6).toList then (if (wrap64 (x6 + 1)) < (x3.length : Int) then (if ((rdOf ByteArray.empty x3 x6).size : Int) = 96 then (if ((rdOf ByteArray.empty x3 x6).size : Int) > 96 then (some false) else (if x5.size + (rdOf ByteArray.empty x3 x6).size ≤ 9223372036854775807 then (cubbylaw04_ChunkCuts.l0 k x0 x3 x4 (x5 ++ (rdOf ByteArray.empty x3 x6)) (wrap64 (x6 + 1))) else (none))) else (some false)) else (if ((rdOf ByteArray.empty x3 x6).size : Int) > 96 then (some false) else (if x5.size + (rdOf ByteArray.empty x3 x6).size ≤ 9223372036854775807 then (cubbylaw04_ChunkCuts.l0 k x0 x3 x4 (x5 ++ (rdOf ByteArray.empty x3 x6)) (wrap64 (x6 + 1))) else (none)))) else (some false)) else (none)) else (none)) else (some (x5.toList == x0.toList))
end
def cubbylaw04_ChunkCuts.f (k : Nat) (a0 : ByteArray) : Option (Bool) := if (a0.size : Int) > 4096 then (some true) else ((chunk_Cut.f a0).bind fun t110 => ((cubbyref04_Cut.f k a0).bind fun t113 => (if (t110.length : Int) = (t113.length : Int) then (cubbylaw04_ChunkCuts.j0 k a0 t110 t113 ((t110.length : Int) == 0)) else (cubbylaw04_ChunkCuts.j0 k a0 t110 t113 true))))
theorem cubbylaw04_ChunkCuts.mono_l : ∀ k, (∀ y0 y1 y2 y3, LeO (cubbylaw04_ChunkCuts.j0 k y0 y1 y2 y3) (cubbylaw04_ChunkCuts.j0 (k + 1) y0 y1 y2 y3)) ∧ (∀ y0 y1 y2 y3 y4, LeO (cubbylaw04_ChunkCuts.l0 k y0 y1 y2 y3 y4) (cubbylaw04_ChunkCuts.l0 (k + 1) y0 y1 y2 y3 y4))
  | 0 => ⟨fun _ _ _ _ r h => by simp [cubbylaw04_ChunkCuts.j0] at h, fun _ _ _ _ _ r h => by simp [cubbylaw04_ChunkCuts.l0] at h⟩
  | k + 1 => by
    obtain ⟨ih0, ih1⟩ := cubbylaw04_ChunkCuts.mono_l k
    refine ⟨?_, ?_⟩
    · intro y0 y1 y2 y3
      unfold cubbylaw04_ChunkCuts.j0
      repeat' first
      | (with_reducible exact ih0 _ _ _ _)
      | (with_reducible exact ih1 _ _ _ _ _)
      | (with_reducible exact cubbyref04_Cut.mono _ _)
      | (with_reducible exact LeO.refl _)
      | (with_reducible exact LeO.none _)
      | (with_reducible refine LeO.ite ?_ ?_)
      | (with_reducible refine LeO.bind ?_ (fun _ => ?_))
      | exact ih0 _ _ _ _
      | exact ih1 _ _ _ _ _
      | exact cubbyref04_Cut.mono _ _
      | exact LeO.none _
      | refine LeO.ite ?_ ?_
      | refine LeO.bind ?_ (fun _ => ?_)
    · intro y0 y1 y2 y3 y4
      unfold cubbylaw04_ChunkCuts.l0
      repeat' first
      | (with_reducible exact ih0 _ _ _ _)
      | (with_reducible exact ih1 _ _ _ _ _)
      | (with_reducible exact cubbyref04_Cut.mono _ _)
      | (with_reducible exact LeO.refl _)
      | (with_reducible exact LeO.none _)
      | (with_reducible refine LeO.ite ?_ ?_)
      | (with_reducible refine LeO.bind ?_ (fun _ => ?_))
      | exact ih0 _ _ _ _
      | exact ih1 _ _ _ _ _
      | exact cubbyref04_Cut.mono _ _
      | exact LeO.none _
      | refine LeO.ite ?_ ?_
      | refine LeO.bind ?_ (fun _ => ?_)
theorem cubbylaw04_ChunkCuts.mono : ∀ a0 k, LeO (cubbylaw04_ChunkCuts.f k a0) (cubbylaw04_ChunkCuts.f (k + 1) a0) := by
  intro a0 k
  obtain ⟨ih0, ih1⟩ := cubbylaw04_ChunkCuts.mono_l k
  unfold cubbylaw04_ChunkCuts.f
  repeat' first
      | (with_reducible exact ih0 _ _ _ _)
      | (with_reducible exact ih1 _ _ _ _ _)
      | (with_reducible exact cubbyref04_Cut.mono _ _)
      | (with_reducible exact LeO.refl _)
      | (with_reducible exact LeO.none _)
      | (with_reducible refine LeO.ite ?_ ?_)
      | (with_reducible refine LeO.bind ?_ (fun _ => ?_))
      | exact ih0 _ _ _ _
      | exact ih1 _ _ _ _ _
      | exact cubbyref04_Cut.mono _ _
      | exact LeO.none _
      | refine LeO.ite ?_ ?_
      | refine LeO.bind ?_ (fun _ => ?_)
set_option maxHeartbeats 8000000 in
set_option maxRecDepth 100000 in
theorem cubbylaw04_ChunkCuts.calls (k : Nat) (a0 : ByteArray) (r : Bool) (w : World) (h : cubbylaw04_ChunkCuts.f k a0 = some r) :
    Calls Try.prog 3 #[.string a0] w fun e w' => e = .returned (.bool r) ∧ Below w.heap.size w w' := by
  have HB := Aside0.mk (Below.refl w.heap.size w)
  have H : (if (a0.size : Int) > 4096 then (some true) else ((chunk_Cut.f a0).bind fun t110 => ((cubbyref04_Cut.f k a0).bind fun t113 => (if (t110.length : Int) = (t113.length : Int) then (cubbylaw04_ChunkCuts.j0 k a0 t110 t113 ((t110.length : Int) == 0)) else (cubbylaw04_ChunkCuts.j0 k a0 t110 t113 true))))) = some r := h
  clear h
  by_cases c2 : (a0.size : Int) > 4096
  · rw [if_pos c2] at H
    have c2b0 : decide (4096 < (a0.size : Int)) = true := decide_eq_true c2
    have c2b1 : decide (4096 < a0.size) = true := decide_eq_true (by omega)
    clear c2
    obtain rfl := Option.some.inj H
    go_enter Try.func3, Try.ntmps3
    go_wp2
    repeat (go_quiet (fail); try go_wp2)
    go_ret
    exact ⟨by first | rfl | (simp [errW_none, errW_some] <;> rfl) | (simp [*, errW_none, errW_some] <;> rfl), by repeat (first | (with_reducible first | exact HB.out | apply below_alloc | apply pw_below_drewN | apply below_drew1) | exact HB.out)⟩
  · rw [if_neg c2] at H
    have c2b0 : decide (4096 < (a0.size : Int)) = false := decide_eq_false c2
    have c2b1 : decide (4096 < a0.size) = false := decide_eq_false (by omega)
    clear c2
    replace H := Option.bind_eq_some_iff.mp H
    obtain ⟨t110, A30, H⟩ := H
    replace H : ((cubbyref04_Cut.f k a0).bind fun t113 => (if (t110.length : Int) = (t113.length : Int) then (cubbylaw04_ChunkCuts.j0 k a0 t110 t113 ((t110.length : Int) == 0)) else (cubbylaw04_ChunkCuts.j0 k a0 t110 t113 true))) = some r := H
    have A3 := Aside0.mk A30
    clear A30
    replace H := Option.bind_eq_some_iff.mp H
    obtain ⟨t113, A40, H⟩ := H
    replace H : (if (t110.length : Int) = (t113.length : Int) then (cubbylaw04_ChunkCuts.j0 k a0 t110 t113 ((t110.length : Int) == 0)) else (cubbylaw04_ChunkCuts.j0 k a0 t110 t113 true)) = some r := H
    have A4 := Aside0.mk A40
    clear A40
    have HC5 := Aside0.mk H
    clear H
    go_enter Try.func3, Try.ntmps3
    go_upto_region 5 with (first | (go_at_call 9; (with_reducible refine (chunk_Cut.calls a0 t110 _ A3.out).mono ?_); rintro e w6 ⟨v111, rfl, ho0, hb⟩; have n0_ := Aside0.mk (Kd.R_lower ho0 (below_size (by repeat (first | (with_reducible first | exact HB.out | apply below_alloc | apply pw_below_drewN | apply below_drew1) | exact HB.out)))); have n1_ := Aside0.mk (below_step (by repeat (first | (with_reducible first | exact HB.out | apply below_alloc | apply pw_below_drewN | apply below_drew1) | exact HB.out)) hb); clear HB; have HO112 := n0_; have HB := n1_; clear n0_ n1_; (try clear hb); (try clear hb2); (try clear hk); (try clear hi); (try clear ho0)) | (go_at_call 10; (with_reducible refine (cubbyref04_Cut.calls k a0 t113 _ A4.out).mono ?_); rintro e w7 ⟨v114, rfl, ho0, hb⟩; have n0_ := Aside0.mk (Kd.R_elder' (by (with_reducible repeat (first | apply Kd.R_alloc | apply Kd.R_drewN | apply Kd.R_drew)); exact HO112.out) (Kd.R_base ho0) hb); have n1_ := Aside0.mk (Kd.R_lower (Kd.R_new' ho0 (Kd.R_lt (by (with_reducible repeat (first | apply Kd.R_alloc | apply Kd.R_drewN | apply Kd.R_drew)); exact HO112.out))) (below_size (by repeat (first | (with_reducible first | exact HB.out | apply below_alloc | apply pw_below_drewN | apply below_drew1) | exact HB.out)))); have n2_ := Aside0.mk (below_step (by repeat (first | (with_reducible first | exact HB.out | apply below_alloc | apply pw_below_drewN | apply below_drew1) | exact HB.out)) hb); clear HO112; clear HB; have HO112 := n0_; have HO115 := n1_; have HB := n2_; clear n0_ n1_ n2_; (try clear hb); (try clear hb2); (try clear hk); (try clear hi); (try clear ho0)))
    repeat (go_quiet (first | (go_at_call 9; (with_reducible refine (chunk_Cut.calls a0 t110 _ A3.out).mono ?_); rintro e w6 ⟨v111, rfl, ho0, hb⟩; have n0_ := Aside0.mk (Kd.R_lower ho0 (below_size (by repeat (first | (with_reducible first | exact HB.out | apply below_alloc | apply pw_below_drewN | apply below_drew1) | exact HB.out)))); have n1_ := Aside0.mk (below_step (by repeat (first | (with_reducible first | exact HB.out | apply below_alloc | apply pw_below_drewN | apply below_drew1) | exact HB.out)) hb); clear HB; have HO112 := n0_; have HB := n1_; clear n0_ n1_; (try clear hb); (try clear hb2); (try clear hk); (try clear hi); (try clear ho0)) | (go_at_call 10; (with_reducible refine (cubbyref04_Cut.calls k a0 t113 _ A4.out).mono ?_); rintro e w7 ⟨v114, rfl, ho0, hb⟩; have n0_ := Aside0.mk (Kd.R_elder' (by (with_reducible repeat (first | apply Kd.R_alloc | apply Kd.R_drewN | apply Kd.R_drew)); exact HO112.out) (Kd.R_base ho0) hb); have n1_ := Aside0.mk (Kd.R_lower (Kd.R_new' ho0 (Kd.R_lt (by (with_reducible repeat (first | apply Kd.R_alloc | apply Kd.R_drewN | apply Kd.R_drew)); exact HO112.out))) (below_size (by repeat (first | (with_reducible first | exact HB.out | apply below_alloc | apply pw_below_drewN | apply below_drew1) | exact HB.out)))); have n2_ := Aside0.mk (below_step (by repeat (first | (with_reducible first | exact HB.out | apply below_alloc | apply pw_below_drewN | apply below_drew1) | exact HB.out)) hb); clear HO112; clear HB; have HO112 := n0_; have HO115 := n1_; have HB := n2_; clear n0_ n1_ n2_; (try clear hb); (try clear hb2); (try clear hk); (try clear hi); (try clear ho0))); go_upto_region 5 with (first | (go_at_call 9; (with_reducible refine (chunk_Cut.calls a0 t110 _ A3.out).mono ?_); rintro e w6 ⟨v111, rfl, ho0, hb⟩; have n0_ := Aside0.mk (Kd.R_lower ho0 (below_size (by repeat (first | (with_reducible first | exact HB.out | apply below_alloc | apply pw_below_drewN | apply below_drew1) | exact HB.out)))); have n1_ := Aside0.mk (below_step (by repeat (first | (with_reducible first | exact HB.out | apply below_alloc | apply pw_below_drewN | apply below_drew1) | exact HB.out)) hb); clear HB; have HO112 := n0_; have HB := n1_; clear n0_ n1_; (try clear hb); (try clear hb2); (try clear hk); (try clear hi); (try clear ho0)) | (go_at_call 10; (with_reducible refine (cubbyref04_Cut.calls k a0 t113 _ A4.out).mono ?_); rintro e w7 ⟨v114, rfl, ho0, hb⟩; have n0_ := Aside0.mk (Kd.R_elder' (by (with_reducible repeat (first | apply Kd.R_alloc | apply Kd.R_drewN | apply Kd.R_drew)); exact HO112.out) (Kd.R_base ho0) hb); have n1_ := Aside0.mk (Kd.R_lower (Kd.R_new' ho0 (Kd.R_lt (by (with_reducible repeat (first | apply Kd.R_alloc | apply Kd.R_drewN | apply Kd.R_drew)); exact HO112.out))) (below_size (by repeat (first | (with_reducible first | exact HB.out | apply below_alloc | apply pw_below_drewN | apply below_drew1) | exact HB.out)))); have n2_ := Aside0.mk (below_step (by repeat (first | (with_reducible first | exact HB.out | apply below_alloc | apply pw_below_drewN | apply below_drew1) | exact HB.out)) hb); clear HO112; clear HB; have HO112 := n0_; have HO115 := n1_; have HB := n2_; clear n0_ n1_ n2_; (try clear hb); (try clear hb2); (try clear hk); (try clear hi); (try clear ho0))))
    (try simp only [Act.put, List.setIfInBounds_toArray, List.set_cons_zero, List.set_cons_succ])
    go_cut [23] (fun v23 wc => ∃ (kq : Nat) (x23_4 : Bool), v23 = .bool x23_4 ∧ Aside0 (cubbylaw04_ChunkCuts.j0 kq a0 t110 t113 x23_4 = some r) ∧ Aside0 (kq ≤ k) ∧ Aside0 (Kd.R Kd.string 9 wc w.heap.size (fun k_ => some k_ ≠ (v114 : Value).ownBlock) v111 t110) ∧ Aside0 (Kd.R Kd.string 9 wc w.heap.size (fun k_ => some k_ ≠ (v111 : Value).ownBlock) v114 t113) ∧ Aside0 (Below w.heap.size w wc))
    case first =>
      have H := HC5.out
      clear HC5
      by_cases c8 : (t110.length : Int) = (t113.length : Int)
      · rw [if_pos c8] at H
        have c8b0 : ((t110.length : Int) == (t113.length : Int)) = true := beq_iff_eq.mpr c8
        have c8b1 : ((t110.length : Int) != (t113.length : Int)) = false := bne_eq_false_iff_eq.mpr c8
        have c8b2 : (t110.length == t113.length) = true := by first | simpa using c8 | (simp at c8 ⊢; omega)
        clear c8
        (first | rw [c8b0] | (simp only [i64_w, i32_w]; rw [c8b0]) | skip)
        have H' := Aside0.mk H
        clear H
        obtain ⟨Ao9, co9, eo9⟩ := Kd.R_slice HO112.out
        subst eo9
        obtain ⟨Ao10, co10, eo10⟩ := Kd.R_slice HO115.out
        subst eo10
        go_wp2
        repeat (go_quiet (fail); try go_wp2)
        go_meet
        case rel => exact ⟨_, (((t110.length : Int) == 0)), (by first | rfl | (simp; done) | (simp [*]; done)), H', ⟨by first | omega | exact Nat.le_refl _⟩, ⟨by (with_reducible repeat (first | apply Kd.R_alloc | apply Kd.R_drewN | apply Kd.R_drew)); exact Kd.R_mono HO112.out (fun _ hk => hk.2)⟩, ⟨by (with_reducible repeat (first | apply Kd.R_alloc | apply Kd.R_drewN | apply Kd.R_drew)); exact Kd.R_mono HO115.out (fun _ hk => hk.2)⟩, ⟨by repeat (first | (with_reducible first | exact HB.out | apply below_alloc | apply pw_below_drewN | apply below_drew1) | exact HB.out)⟩⟩
      · rw [if_neg c8] at H
        have c8b0 : ((t110.length : Int) == (t113.length : Int)) = false := beq_eq_false_iff_ne.mpr c8
        have c8b1 : ((t110.length : Int) != (t113.length : Int)) = true := bne_iff_ne.mpr c8
        have c8b2 : (t110.length == t113.length) = false := by first | simpa using c8 | (simp at c8 ⊢; omega)
        (first | rw [c8b0] | (simp only [i64_w, i32_w]; rw [c8b0]) | skip)
        have H' := Aside0.mk H
        clear H
        obtain ⟨Ao11, co11, eo11⟩ := Kd.R_slice HO112.out
        subst eo11
        obtain ⟨Ao12, co12, eo12⟩ := Kd.R_slice HO115.out
        subst eo12
        go_wp2
        repeat (go_quiet (fail); try go_wp2)
        go_meet
        case rel => exact ⟨_, (true), (by first | rfl | (simp; done) | (simp [*]; done)), H', ⟨by first | omega | exact Nat.le_refl _⟩, ⟨by (with_reducible repeat (first | apply Kd.R_alloc | apply Kd.R_drewN | apply Kd.R_drew)); exact Kd.R_mono HO112.out (fun _ hk => hk.2)⟩, ⟨by (with_reducible repeat (first | apply Kd.R_alloc | apply Kd.R_drewN | apply Kd.R_drew)); exact Kd.R_mono HO115.out (fun _ hk => hk.2)⟩, ⟨by repeat (first | (with_reducible first | exact HB.out | apply below_alloc | apply pw_below_drewN | apply below_drew1) | exact HB.out)⟩⟩
    case rest =>
      clear HC5
      try clear c2
      try clear c2b0
      try clear c2b1
      try clear p2
      try clear c3
      try clear c8
      try clear c8b0
      try clear c8b1
      try clear c8b2
      obtain ⟨kq, x23_4, rfl, HA, HJ4, HO_3, HO_4, HB⟩ := hcut
      cases kq with
      | zero => exact absurd HA.out (by simp [cubbylaw04_ChunkCuts.j0])
      | succ kj4 =>
        have H := HA.out
        clear HA
        simp only [cubbylaw04_ChunkCuts.j0] at H
        by_cases c13 : x23_4 = true
        · subst c13
          have H1 : (some false) = some r := by rw [if_pos rfl] at H; exact H
          clear H
          have H := H1
          clear H1
          obtain rfl := Option.some.inj H
          go_wp2
          repeat (go_quiet (fail); try go_wp2)
          go_ret
          exact ⟨by first | rfl | (simp [errW_none, errW_some] <;> rfl) | (simp [*, errW_none, errW_some] <;> rfl), by repeat (first | (with_reducible first | exact HB.out | apply below_alloc | apply pw_below_drewN | apply below_drew1) | exact HB.out)⟩
        · replace c13 := Bool.eq_false_iff.mpr c13
          subst c13
          have H1 : (cubbylaw04_ChunkCuts.l0 kj4 a0 t110 t113 (⟨#[]⟩ : ByteArray) 0) = some r := by rw [if_neg (show ¬ (false = true) by decide)] at H; exact H
          clear H
          have H := H1
          clear H1
          have H' := Aside0.mk H
          clear H
          go_wp2
          repeat (go_quiet (fail); try go_wp2)
          go_loopg [5, 6] kj4 (fun kq v5 v6 w' => ∃ (x5_2 : ByteArray) (x6_2 : Int), v5 = .string x5_2 ∧ v6 = .int .i64 x6_2 ∧ Aside0 (cubbylaw04_ChunkCuts.l0 kq a0 t110 t113 x5_2 x6_2 = some r) ∧ Aside0 (kq ≤ kj4) ∧ Aside0 (Kd.R Kd.string 9 w' w.heap.size (fun k_ => some k_ ≠ (v114 : Value).ownBlock) v111 t110) ∧ Aside0 (Kd.R Kd.string 9 w' w.heap.size (fun k_ => some k_ ≠ (v111 : Value).ownBlock) v114 t113) ∧ Aside0 (Below w.heap.size w w'))
          case atStart => exact ⟨((⟨#[]⟩ : ByteArray)), (0), (by first | rfl | (simp; done) | (simp [*]; done)), (by first | rfl | (simp; done) | (simp [*]; done)), H', ⟨Nat.le_refl _⟩, ⟨by (with_reducible repeat (first | apply Kd.R_alloc | apply Kd.R_drewN | apply Kd.R_drew)); exact HO_3.out⟩, ⟨by (with_reducible repeat (first | apply Kd.R_alloc | apply Kd.R_drewN | apply Kd.R_drew)); exact HO_4.out⟩, ⟨by repeat (first | (with_reducible first | exact HB.out | apply below_alloc | apply pw_below_drewN | apply below_drew1) | exact HB.out)⟩⟩
          case round =>
            clear H'
            try clear c1
            try clear c2
            try clear c2b0
            try clear c2b1
            try clear p2
            try clear c3
            try clear c8
            try clear c8b0
            try clear c8b1
            try clear c8b2
            try clear c13
            try clear p2
            obtain ⟨x5_2, x6_2, rfl, rfl, HA, HK2, HO_3, HO_4, HB⟩ := hrel
            cases gk with
            | zero => exact absurd HA.out (by simp [cubbylaw04_ChunkCuts.l0])
            | succ k2 =>
              have H := HA.out
              clear HA
              simp only [cubbylaw04_ChunkCuts.l0] at H
              by_cases c14 : x6_2 < (t110.length : Int)
              · rw [if_pos c14] at H
                have c14b0 : decide (x6_2 < (t110.length : Int)) = true := decide_eq_true c14
                clear c14
                by_cases c15 : 0 ≤ x6_2
                · rw [if_pos c15] at H
                  have c15b0 : decide (0 ≤ x6_2) = true := decide_eq_true c15
                  clear c15
                  by_cases c16 : x6_2 < (t113.length : Int)
                  · rw [if_pos c16] at H
                    have c16b0 : decide (x6_2 < (t113.length : Int)) = true := decide_eq_true c16
                    clear c16
                    by_cases c17 : (rdOf ByteArray.empty t110 x6_2).toList = (rdOf ByteArray.empty t113 x6_2).toList
                    · rw [if_pos c17] at H
                      have c17b0 : ((rdOf ByteArray.empty t110 x6_2).toList == (rdOf ByteArray.empty t113 x6_2).toList) = true := beq_iff_eq.mpr c17
                      have c17b1 : ((rdOf ByteArray.empty t110 x6_2).toList != (rdOf ByteArray.empty t113 x6_2).toList) = false := bne_eq_false_iff_eq.mpr c17
                      clear c17
                      by_cases c18 : (wrap64 (x6_2 + 1)) < (t110.length : Int)
                      · rw [if_pos c18] at H
                        have c18b0 : decide ((wrap64 (x6_2 + 1)) < (t110.length : Int)) = true := decide_eq_true c18
                        clear c18
                        by_cases c19 : ((rdOf ByteArray.empty t110 x6_2).size : Int) = 96
                        · rw [if_pos c19] at H
                          have c19b0 : (((rdOf ByteArray.empty t110 x6_2).size : Int) == 96) = true := beq_iff_eq.mpr c19
                          have c19b1 : (((rdOf ByteArray.empty t110 x6_2).size : Int) != 96) = false := bne_eq_false_iff_eq.mpr c19
                          clear c19
                          by_cases c20 : ((rdOf ByteArray.empty t110 x6_2).size : Int) > 96
                          · rw [if_pos c20] at H
                            have c20b0 : decide (96 < ((rdOf ByteArray.empty t110 x6_2).size : Int)) = true := decide_eq_true c20
                            have c20b1 : decide (96 < (rdOf ByteArray.empty t110 x6_2).size) = true := decide_eq_true (by omega)
                            clear c20
                            obtain rfl := Option.some.inj H
                            obtain ⟨Ao21, co21, eo21⟩ := Kd.R_slice HO_3.out
                            subst eo21
                            have p116 : 0 ≤ (x6_2 : Int) := of_decide_eq_true (by first | (with_reducible assumption) | assumption)
                            have q116 : x6_2 < (t110.length : Int) := of_decide_eq_true (by first | (with_reducible assumption) | assumption)
                            obtain ⟨ad116, e116, hx116_0⟩ := Kd.at_string (Kd.R_reads' HO_3.out).2.2 x6_2 p116 q116
                            cases e116
                            replace p116 := eq_true p116
                            replace q116 := eq_true q116
                            obtain ⟨Ao22, co22, eo22⟩ := Kd.R_slice HO_4.out
                            subst eo22
                            have p117 : 0 ≤ (x6_2 : Int) := of_decide_eq_true (by first | (with_reducible assumption) | assumption)
                            have q117 : x6_2 < (t113.length : Int) := of_decide_eq_true (by first | (with_reducible assumption) | assumption)
                            obtain ⟨ad117, e117, hx117_0⟩ := Kd.at_string (Kd.R_reads' HO_4.out).2.2 x6_2 p117 q117
                            cases e117
                            replace p117 := eq_true p117
                            replace q117 := eq_true q117
                            have p118 : 0 ≤ (x6_2 : Int) := of_decide_eq_true (by first | (with_reducible assumption) | assumption)
                            have q118 : x6_2 < (t110.length : Int) := of_decide_eq_true (by first | (with_reducible assumption) | assumption)
                            obtain ⟨ad118, e118, hx118_0⟩ := Kd.at_string (Kd.R_reads' HO_3.out).2.2 x6_2 p118 q118
                            obtain rfl : ad116 = ad118 := (by injection e118)
                            replace p118 := eq_true p118
                            replace q118 := eq_true q118
                            have p119 : 0 ≤ (x6_2 : Int) := of_decide_eq_true (by first | (with_reducible assumption) | assumption)
                            have q119 : x6_2 < (t110.length : Int) := of_decide_eq_true (by first | (with_reducible assumption) | assumption)
                            obtain ⟨ad119, e119, hx119_0⟩ := Kd.at_string (Kd.R_reads' HO_3.out).2.2 x6_2 p119 q119
                            obtain rfl : ad116 = ad119 := (by injection e119)
                            replace p119 := eq_true p119
                            replace q119 := eq_true q119
                            go_wp2
                            repeat (go_quiet (fail); try go_wp2)
                            go_ret
                            exact ⟨by first | rfl | (simp [errW_none, errW_some] <;> rfl) | (simp [*, errW_none, errW_some] <;> rfl), by repeat (first | (with_reducible first | exact HB.out | apply below_alloc | apply pw_below_drewN | apply below_drew1) | exact HB.out)⟩
                          · rw [if_neg c20] at H
                            have c20b0 : decide (96 < ((rdOf ByteArray.empty t110 x6_2).size : Int)) = false := decide_eq_false c20
                            have c20b1 : decide (96 < (rdOf ByteArray.empty t110 x6_2).size) = false := decide_eq_false (by omega)
                            clear c20
                            by_cases c23 : x5_2.size + (rdOf ByteArray.empty t110 x6_2).size ≤ 9223372036854775807
                            · rw [if_pos c23] at H
                              have c23b0 := eq_true c23
                              have c23b1 : decide (x5_2.size + (rdOf ByteArray.empty t110 x6_2).size ≤ 9223372036854775807) = true := decide_eq_true c23
                              try have c23b2 : (9223372036854775807 < x5_2.size + (rdOf ByteArray.empty t110 x6_2).size) = False := eq_false (Nat.not_lt.2 c23)
                              try (have c23b3 := c23; simp only [ByteArray.size_append] at c23b3; have c23b4 := eq_false (Nat.not_lt.2 c23b3))
                              have H' := Aside0.mk H
                              clear H
                              obtain ⟨Ao24, co24, eo24⟩ := Kd.R_slice HO_3.out
                              subst eo24
                              have p116 : 0 ≤ (x6_2 : Int) := of_decide_eq_true (by first | (with_reducible assumption) | assumption)
                              have q116 : x6_2 < (t110.length : Int) := of_decide_eq_true (by first | (with_reducible assumption) | assumption)
                              obtain ⟨ad116, e116, hx116_0⟩ := Kd.at_string (Kd.R_reads' HO_3.out).2.2 x6_2 p116 q116
                              cases e116
                              replace p116 := eq_true p116
                              replace q116 := eq_true q116
                              obtain ⟨Ao25, co25, eo25⟩ := Kd.R_slice HO_4.out
                              subst eo25
                              have p117 : 0 ≤ (x6_2 : Int) := of_decide_eq_true (by first | (with_reducible assumption) | assumption)
                              have q117 : x6_2 < (t113.length : Int) := of_decide_eq_true (by first | (with_reducible assumption) | assumption)
                              obtain ⟨ad117, e117, hx117_0⟩ := Kd.at_string (Kd.R_reads' HO_4.out).2.2 x6_2 p117 q117
                              cases e117
                              replace p117 := eq_true p117
                              replace q117 := eq_true q117
                              have p118 : 0 ≤ (x6_2 : Int) := of_decide_eq_true (by first | (with_reducible assumption) | assumption)
                              have q118 : x6_2 < (t110.length : Int) := of_decide_eq_true (by first | (with_reducible assumption) | assumption)
                              obtain ⟨ad118, e118, hx118_0⟩ := Kd.at_string (Kd.R_reads' HO_3.out).2.2 x6_2 p118 q118
                              obtain rfl : ad116 = ad118 := (by injection e118)
                              replace p118 := eq_true p118
                              replace q118 := eq_true q118
                              have p119 : 0 ≤ (x6_2 : Int) := of_decide_eq_true (by first | (with_reducible assumption) | assumption)
                              have q119 : x6_2 < (t110.length : Int) := of_decide_eq_true (by first | (with_reducible assumption) | assumption)
                              obtain ⟨ad119, e119, hx119_0⟩ := Kd.at_string (Kd.R_reads' HO_3.out).2.2 x6_2 p119 q119
                              obtain rfl : ad116 = ad119 := (by injection e119)
                              replace p119 := eq_true p119
                              replace q119 := eq_true q119
                              have p120 : 0 ≤ (x6_2 : Int) := of_decide_eq_true (by first | (with_reducible assumption) | assumption)
                              have q120 : x6_2 < (t110.length : Int) := of_decide_eq_true (by first | (with_reducible assumption) | assumption)
                              obtain ⟨ad120, e120, hx120_0⟩ := Kd.at_string (Kd.R_reads' HO_3.out).2.2 x6_2 p120 q120
                              obtain rfl : ad116 = ad120 := (by injection e120)
                              replace p120 := eq_true p120
                              replace q120 := eq_true q120
                              go_wp2
                              repeat (go_quiet (fail); try go_wp2)
                              go_roundg k2
                              case measure => have := HJ4.out; have := HK2.out; omega
                              case rel => exact ⟨(x5_2 ++ (rdOf ByteArray.empty t110 x6_2)), (wrap64 (x6_2 + 1)), (by first | rfl | (simp; done) | (simp [*]; done)), (by first | rfl | (simp; done) | (simp [*]; done)), H', ⟨by have := HJ4.out; have := HK2.out; omega⟩, ⟨by (with_reducible repeat (first | apply Kd.R_alloc | apply Kd.R_drewN | apply Kd.R_drew)); exact HO_3.out⟩, ⟨by (with_reducible repeat (first | apply Kd.R_alloc | apply Kd.R_drewN | apply Kd.R_drew)); exact HO_4.out⟩, ⟨by repeat (first | (with_reducible first | exact HB.out | apply below_alloc | apply pw_below_drewN | apply below_drew1) | exact HB.out)⟩⟩
                            · rw [if_neg c23] at H
                              exact absurd H (by simp)
                        · rw [if_neg c19] at H
                          have c19b0 : (((rdOf ByteArray.empty t110 x6_2).size : Int) == 96) = false := beq_eq_false_iff_ne.mpr c19
                          have c19b1 : (((rdOf ByteArray.empty t110 x6_2).size : Int) != 96) = true := bne_iff_ne.mpr c19
                          obtain rfl := Option.some.inj H
                          obtain ⟨Ao26, co26, eo26⟩ := Kd.R_slice HO_3.out
                          subst eo26
                          have p116 : 0 ≤ (x6_2 : Int) := of_decide_eq_true (by first | (with_reducible assumption) | assumption)
                          have q116 : x6_2 < (t110.length : Int) := of_decide_eq_true (by first | (with_reducible assumption) | assumption)
                          obtain ⟨ad116, e116, hx116_0⟩ := Kd.at_string (Kd.R_reads' HO_3.out).2.2 x6_2 p116 q116
                          cases e116
                          replace p116 := eq_true p116
                          replace q116 := eq_true q116
                          obtain ⟨Ao27, co27, eo27⟩ := Kd.R_slice HO_4.out
                          subst eo27
                          have p117 : 0 ≤ (x6_2 : Int) := of_decide_eq_true (by first | (with_reducible assumption) | assumption)
                          have q117 : x6_2 < (t113.length : Int) := of_decide_eq_true (by first | (with_reducible assumption) | assumption)
                          obtain ⟨ad117, e117, hx117_0⟩ := Kd.at_string (Kd.R_reads' HO_4.out).2.2 x6_2 p117 q117
                          cases e117
                          replace p117 := eq_true p117
                          replace q117 := eq_true q117
                          have p118 : 0 ≤ (x6_2 : Int) := of_decide_eq_true (by first | (with_reducible assumption) | assumption)
                          have q118 : x6_2 < (t110.length : Int) := of_decide_eq_true (by first | (with_reducible assumption) | assumption)
                          obtain ⟨ad118, e118, hx118_0⟩ := Kd.at_string (Kd.R_reads' HO_3.out).2.2 x6_2 p118 q118
                          obtain rfl : ad116 = ad118 := (by injection e118)
                          replace p118 := eq_true p118
                          replace q118 := eq_true q118
                          go_wp2
                          repeat (go_quiet (fail); try go_wp2)
                          go_ret
                          exact ⟨by first | rfl | (simp [errW_none, errW_some] <;> rfl) | (simp [*, errW_none, errW_some] <;> rfl), by repeat (first | (with_reducible first | exact HB.out | apply below_alloc | apply pw_below_drewN | apply below_drew1) | exact HB.out)⟩
                      · rw [if_neg c18] at H
                        have c18b0 : decide ((wrap64 (x6_2 + 1)) < (t110.length : Int)) = false := decide_eq_false c18
                        clear c18
                        by_cases c28 : ((rdOf ByteArray.empty t110 x6_2).size : Int) > 96
                        · rw [if_pos c28] at H
                          have c28b0 : decide (96 < ((rdOf ByteArray.empty t110 x6_2).size : Int)) = true := decide_eq_true c28
                          have c28b1 : decide (96 < (rdOf ByteArray.empty t110 x6_2).size) = true := decide_eq_true (by omega)
                          clear c28
                          obtain rfl := Option.some.inj H
                          obtain ⟨Ao29, co29, eo29⟩ := Kd.R_slice HO_3.out
                          subst eo29
                          have p116 : 0 ≤ (x6_2 : Int) := of_decide_eq_true (by first | (with_reducible assumption) | assumption)
                          have q116 : x6_2 < (t110.length : Int) := of_decide_eq_true (by first | (with_reducible assumption) | assumption)
                          obtain ⟨ad116, e116, hx116_0⟩ := Kd.at_string (Kd.R_reads' HO_3.out).2.2 x6_2 p116 q116
                          cases e116
                          replace p116 := eq_true p116
                          replace q116 := eq_true q116
                          obtain ⟨Ao30, co30, eo30⟩ := Kd.R_slice HO_4.out
                          subst eo30
                          have p117 : 0 ≤ (x6_2 : Int) := of_decide_eq_true (by first | (with_reducible assumption) | assumption)
                          have q117 : x6_2 < (t113.length : Int) := of_decide_eq_true (by first | (with_reducible assumption) | assumption)
                          obtain ⟨ad117, e117, hx117_0⟩ := Kd.at_string (Kd.R_reads' HO_4.out).2.2 x6_2 p117 q117
                          cases e117
                          replace p117 := eq_true p117
                          replace q117 := eq_true q117
                          have p121 : 0 ≤ (x6_2 : Int) := of_decide_eq_true (by first | (with_reducible assumption) | assumption)
                          have q121 : x6_2 < (t110.length : Int) := of_decide_eq_true (by first | (with_reducible assumption) | assumption)
                          obtain ⟨ad121, e121, hx121_0⟩ := Kd.at_string (Kd.R_reads' HO_3.out).2.2 x6_2 p121 q121
                          obtain rfl : ad116 = ad121 := (by injection e121)
                          replace p121 := eq_true p121
                          replace q121 := eq_true q121
                          go_wp2
                          repeat (go_quiet (fail); try go_wp2)
                          go_ret
                          exact ⟨by first | rfl | (simp [errW_none, errW_some] <;> rfl) | (simp [*, errW_none, errW_some] <;> rfl), by repeat (first | (with_reducible first | exact HB.out | apply below_alloc | apply pw_below_drewN | apply below_drew1) | exact HB.out)⟩
                        · rw [if_neg c28] at H
                          have c28b0 : decide (96 < ((rdOf ByteArray.empty t110 x6_2).size : Int)) = false := decide_eq_false c28
                          have c28b1 : decide (96 < (rdOf ByteArray.empty t110 x6_2).size) = false := decide_eq_false (by omega)
                          clear c28
                          by_cases c31 : x5_2.size + (rdOf ByteArray.empty t110 x6_2).size ≤ 9223372036854775807
                          · rw [if_pos c31] at H
                            have c31b0 := eq_true c31
                            have c31b1 : decide (x5_2.size + (rdOf ByteArray.empty t110 x6_2).size ≤ 9223372036854775807) = true := decide_eq_true c31
                            try have c31b2 : (9223372036854775807 < x5_2.size + (rdOf ByteArray.empty t110 x6_2).size) = False := eq_false (Nat.not_lt.2 c31)
                            try (have c31b3 := c31; simp only [ByteArray.size_append] at c31b3; have c31b4 := eq_false (Nat.not_lt.2 c31b3))
                            have H' := Aside0.mk H
                            clear H
                            obtain ⟨Ao32, co32, eo32⟩ := Kd.R_slice HO_3.out
                            subst eo32
                            have p116 : 0 ≤ (x6_2 : Int) := of_decide_eq_true (by first | (with_reducible assumption) | assumption)
                            have q116 : x6_2 < (t110.length : Int) := of_decide_eq_true (by first | (with_reducible assumption) | assumption)
                            obtain ⟨ad116, e116, hx116_0⟩ := Kd.at_string (Kd.R_reads' HO_3.out).2.2 x6_2 p116 q116
                            cases e116
                            replace p116 := eq_true p116
                            replace q116 := eq_true q116
                            obtain ⟨Ao33, co33, eo33⟩ := Kd.R_slice HO_4.out
                            subst eo33
                            have p117 : 0 ≤ (x6_2 : Int) := of_decide_eq_true (by first | (with_reducible assumption) | assumption)
                            have q117 : x6_2 < (t113.length : Int) := of_decide_eq_true (by first | (with_reducible assumption) | assumption)
                            obtain ⟨ad117, e117, hx117_0⟩ := Kd.at_string (Kd.R_reads' HO_4.out).2.2 x6_2 p117 q117
                            cases e117
                            replace p117 := eq_true p117
                            replace q117 := eq_true q117
                            have p121 : 0 ≤ (x6_2 : Int) := of_decide_eq_true (by first | (with_reducible assumption) | assumption)
                            have q121 : x6_2 < (t110.length : Int) := of_decide_eq_true (by first | (with_reducible assumption) | assumption)
                            obtain ⟨ad121, e121, hx121_0⟩ := Kd.at_string (Kd.R_reads' HO_3.out).2.2 x6_2 p121 q121
                            obtain rfl : ad116 = ad121 := (by injection e121)
                            replace p121 := eq_true p121
                            replace q121 := eq_true q121
                            have p122 : 0 ≤ (x6_2 : Int) := of_decide_eq_true (by first | (with_reducible assumption) | assumption)
                            have q122 : x6_2 < (t110.length : Int) := of_decide_eq_true (by first | (with_reducible assumption) | assumption)
                            obtain ⟨ad122, e122, hx122_0⟩ := Kd.at_string (Kd.R_reads' HO_3.out).2.2 x6_2 p122 q122
                            obtain rfl : ad116 = ad122 := (by injection e122)
                            replace p122 := eq_true p122
                            replace q122 := eq_true q122
                            go_wp2
                            repeat (go_quiet (fail); try go_wp2)
                            go_roundg k2
                            case measure => have := HJ4.out; have := HK2.out; omega
                            case rel => exact ⟨(x5_2 ++ (rdOf ByteArray.empty t110 x6_2)), (wrap64 (x6_2 + 1)), (by first | rfl | (simp; done) | (simp [*]; done)), (by first | rfl | (simp; done) | (simp [*]; done)), H', ⟨by have := HJ4.out; have := HK2.out; omega⟩, ⟨by (with_reducible repeat (first | apply Kd.R_alloc | apply Kd.R_drewN | apply Kd.R_drew)); exact HO_3.out⟩, ⟨by (with_reducible repeat (first | apply Kd.R_alloc | apply Kd.R_drewN | apply Kd.R_drew)); exact HO_4.out⟩, ⟨by repeat (first | (with_reducible first | exact HB.out | apply below_alloc | apply pw_below_drewN | apply below_drew1) | exact HB.out)⟩⟩
                          · rw [if_neg c31] at H
                            exact absurd H (by simp)
                    · rw [if_neg c17] at H
                      have c17b0 : ((rdOf ByteArray.empty t110 x6_2).toList == (rdOf ByteArray.empty t113 x6_2).toList) = false := beq_eq_false_iff_ne.mpr c17
                      have c17b1 : ((rdOf ByteArray.empty t110 x6_2).toList != (rdOf ByteArray.empty t113 x6_2).toList) = true := bne_iff_ne.mpr c17
                      obtain rfl := Option.some.inj H
                      obtain ⟨Ao34, co34, eo34⟩ := Kd.R_slice HO_3.out
                      subst eo34
                      have p116 : 0 ≤ (x6_2 : Int) := of_decide_eq_true (by first | (with_reducible assumption) | assumption)
                      have q116 : x6_2 < (t110.length : Int) := of_decide_eq_true (by first | (with_reducible assumption) | assumption)
                      obtain ⟨ad116, e116, hx116_0⟩ := Kd.at_string (Kd.R_reads' HO_3.out).2.2 x6_2 p116 q116
                      cases e116
                      replace p116 := eq_true p116
                      replace q116 := eq_true q116
                      obtain ⟨Ao35, co35, eo35⟩ := Kd.R_slice HO_4.out
                      subst eo35
                      have p117 : 0 ≤ (x6_2 : Int) := of_decide_eq_true (by first | (with_reducible assumption) | assumption)
                      have q117 : x6_2 < (t113.length : Int) := of_decide_eq_true (by first | (with_reducible assumption) | assumption)
                      obtain ⟨ad117, e117, hx117_0⟩ := Kd.at_string (Kd.R_reads' HO_4.out).2.2 x6_2 p117 q117
                      cases e117
                      replace p117 := eq_true p117
                      replace q117 := eq_true q117
                      go_wp2
                      repeat (go_quiet (fail); try go_wp2)
                      go_ret
                      exact ⟨by first | rfl | (simp [errW_none, errW_some] <;> rfl) | (simp [*, errW_none, errW_some] <;> rfl), by repeat (first | (with_reducible first | exact HB.out | apply below_alloc | apply pw_below_drewN | apply below_drew1) | exact HB.out)⟩
                  · rw [if_neg c16] at H
                    exact absurd H (by simp)
                · rw [if_neg c15] at H
                  exact absurd H (by simp)
              · rw [if_neg c14] at H
                have c14b0 : decide (x6_2 < (t110.length : Int)) = false := decide_eq_false c14
                clear c14
                obtain rfl := Option.some.inj H
                obtain ⟨Ao36, co36, eo36⟩ := Kd.R_slice HO_3.out
                subst eo36
                go_wp2
                repeat (go_quiet (fail); try go_wp2)
                go_ret
                exact ⟨by first | rfl | (simp [errW_none, errW_some] <;> rfl) | (simp [*, errW_none, errW_some] <;> rfl), by repeat (first | (with_reducible first | exact HB.out | apply below_alloc | apply pw_below_drewN | apply below_drew1) | exact HB.out)⟩

/-- THE ONE PURE STATEMENT of cubbylaw04_ChunkCuts: yours. -/
def cubbylaw04_ChunkCuts.Pure : Prop := ∀ (a0 : ByteArray), a0.size ≤ 140737488351232 → ∃ k, cubbylaw04_ChunkCuts.f k a0 = some true
theorem cubbylaw04_ChunkCuts.walk (P : cubbylaw04_ChunkCuts.Pure) (a0 : ByteArray) (w : World) (w0 : a0.size ≤ 140737488351232) :
    Calls Try.prog 3 #[.string a0] w fun e w' => e = .returned (.bool true) ∧ Below w.heap.size w w' := by
  obtain ⟨k, h⟩ := P a0 w0
  refine (cubbylaw04_ChunkCuts.calls k a0 true w h).mono ?_
  rintro e w' ⟨rfl, hd⟩
  exact ⟨rfl, hd⟩

end Go.Proofs.Ytndmfbaffkekgaa.PChunkCuts
