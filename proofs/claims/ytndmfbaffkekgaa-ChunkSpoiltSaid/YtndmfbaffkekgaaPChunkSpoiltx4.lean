-- By a program of this session (wip/tools/mkprint.py), for this claim.
import Derived.Test.YtndmfbaffkekgaaPChunkSpoiltx0
import Derived.Test.YtndmfbaffkekgaaPChunkSpoiltx2
import Derived.Test.YtndmfbaffkekgaaPChunkSpoiltx3
namespace Go.Proofs.Ytndmfbaffkekgaa.PChunkSpoilt
open Go.RowKit Go.Proofs.YtndmfbaffkekgaaW.PrintWords Go.Proofs.YtndmfbaffkekgaaW.PrintLast Go.Proofs.YtndmfbaffkekgaaW.PrintMore
attribute [local go_sem] max2_int min2_int max_two min_two max_three min_three max_four min_four   -- for this text's walks alone
set_option linter.unusedVariables false
set_option linter.unusedSimpArgs false

/-! ### cubbyref04_Encode: function 12 -/
mutual
def cubbyref04_Encode.j0 : Nat → Bool → Int → Int → Bool → Bool → ByteArray → Option (ByteArray × Int)
  | 0, _, _, _, _, _, _ => none
  | k + 1, x26, x118000, x118001, x118002, x118003, x118004 => if x26 = true then (some ((⟨#[]⟩ : ByteArray), 1)) else (if (x118004.size : Int) > 96 then (some ((⟨#[]⟩ : ByteArray), 31)) else (if x118002 = true then (cubbyref04_Encode.j1 k 1 x118000 x118001 x118002 x118003 x118004) else (cubbyref04_Encode.j1 k 0 x118000 x118001 x118002 x118003 x118004)))
def cubbyref04_Encode.j1 : Nat → Int → Int → Int → Bool → Bool → ByteArray → Option (ByteArray × Int)
  | 0, _, _, _, _, _, _ => none
  | k + 1, x4, x118000, x118001, x118002, x118003, x118004 => if x118003 = true then (cubbyref04_Encode.j2 k (wrap64 (x4 + 2)) x118000 x118001 x118002 x118003 x118004) else (cubbyref04_Encode.j2 k x4 x118000 x118001 x118002 x118003 x118004)
def cubbyref04_Encode.j2 : Nat → Int → Int → Int → Bool → Bool → ByteArray → Option (ByteArray × Int)
  | 0, _, _, _, _, _, _ => none
  | k + 1, x4, x118000, x118001, x118002, x118003, x118004 => (cubbyref02_Code.f k x118000).bind fun t118 => ((cubbyref02_Code.f k x118001).bind fun t119 => (if t118.size + t119.size ≤ 9223372036854775807 then ((cubbyref02_Code.f k x4).bind fun t120 => (if (t118 ++ t119).size + t120.size ≤ 9223372036854775807 then ((cubbyref02_Texted.f k x118004).bind fun t121 => (if ((t118 ++ t119) ++ t120).size + t121.size ≤ 9223372036854775807 then ((cubbyref01_Crc.f k (((t118 ++ t119) ++ t120) ++ t121)).bind fun t122 => (cubbyref04_Encode.l0 k (((t118 ++ t119) ++ t120) ++ t121) t122 (([] : List Int)) 0)) else (none))) else (none))) else (none)))
def cubbyref04_Encode.l0 : Nat → ByteArray → Int → List Int → Int → Option (ByteArray × Int)
  | 0, _, _, _, _ => none
  | k + 1, x5, x6, x7, x8 => if x8 < 4 then (if x7.length < 140737488355328 then (cubbyref04_Encode.l0 k x5 ((Int.tdiv x6 256) % 4294967296) (x7 ++ [(Int.tmod x6 256) % 256]) (wrap64 (x8 + 1))) else (none)) else (if x5.size + (strOfNums x7).size ≤ 9223372036854775807 then (some (x5 ++ (strOfNums x7), 0)) else (none))
end
def cubbyref04_Encode.f (k : Nat) (a0_0 : Int) (a0_1 : Int) (a0_2 : Bool) (a0_3 : Bool) (a0_4 : ByteArray) : Option (ByteArray × Int) := if a0_0 < 0 then (cubbyref04_Encode.j0 k true a0_0 a0_1 a0_2 a0_3 a0_4) else (if a0_0 > 1099511627776 then (cubbyref04_Encode.j0 k true a0_0 a0_1 a0_2 a0_3 a0_4) else (if a0_1 < 0 then (cubbyref04_Encode.j0 k true a0_0 a0_1 a0_2 a0_3 a0_4) else (cubbyref04_Encode.j0 k (decide (a0_1 > 1099511627776)) a0_0 a0_1 a0_2 a0_3 a0_4)))
theorem cubbyref04_Encode.mono_l : ∀ k, (∀ y0 y1 y2 y3 y4 y5, LeO (cubbyref04_Encode.j0 k y0 y1 y2 y3 y4 y5) (cubbyref04_Encode.j0 (k + 1) y0 y1 y2 y3 y4 y5)) ∧ (∀ y0 y1 y2 y3 y4 y5, LeO (cubbyref04_Encode.j1 k y0 y1 y2 y3 y4 y5) (cubbyref04_Encode.j1 (k + 1) y0 y1 y2 y3 y4 y5)) ∧ (∀ y0 y1 y2 y3 y4 y5, LeO (cubbyref04_Encode.j2 k y0 y1 y2 y3 y4 y5) (cubbyref04_Encode.j2 (k + 1) y0 y1 y2 y3 y4 y5)) ∧ (∀ y0 y1 y2 y3, LeO (cubbyref04_Encode.l0 k y0 y1 y2 y3) (cubbyref04_Encode.l0 (k + 1) y0 y1 y2 y3))
  | 0 => ⟨fun _ _ _ _ _ _ r h => by simp [cubbyref04_Encode.j0] at h, fun _ _ _ _ _ _ r h => by simp [cubbyref04_Encode.j1] at h, fun _ _ _ _ _ _ r h => by simp [cubbyref04_Encode.j2] at h, fun _ _ _ _ r h => by simp [cubbyref04_Encode.l0] at h⟩
  | k + 1 => by
    obtain ⟨ih0, ih1, ih2, ih3⟩ := cubbyref04_Encode.mono_l k
    refine ⟨?_, ?_, ?_, ?_⟩
    · intro y0 y1 y2 y3 y4 y5
      unfold cubbyref04_Encode.j0
      repeat' first
      | (with_reducible exact ih0 _ _ _ _ _ _)
      | (with_reducible exact ih1 _ _ _ _ _ _)
      | (with_reducible exact ih2 _ _ _ _ _ _)
      | (with_reducible exact ih3 _ _ _ _)
      | (with_reducible exact cubbyref01_Crc.mono _ _)
      | (with_reducible exact cubbyref02_Code.mono _ _)
      | (with_reducible exact cubbyref02_Texted.mono _ _)
      | (with_reducible exact LeO.refl _)
      | (with_reducible exact LeO.none _)
      | (with_reducible refine LeO.ite ?_ ?_)
      | (with_reducible refine LeO.bind ?_ (fun _ => ?_))
      | exact ih0 _ _ _ _ _ _
      | exact ih1 _ _ _ _ _ _
      | exact ih2 _ _ _ _ _ _
      | exact ih3 _ _ _ _
      | exact cubbyref01_Crc.mono _ _
      | exact cubbyref02_Code.mono _ _
      | exact cubbyref02_Texted.mono _ _
      | exact LeO.none _
      | refine LeO.ite ?_ ?_
      | refine LeO.bind ?_ (fun _ => ?_)
    · intro y0 y1 y2 y3 y4 y5
      unfold cubbyref04_Encode.j1
      repeat' first
      | (with_reducible exact ih0 _ _ _ _ _ _)
      | (with_reducible exact ih1 _ _ _ _ _ _)
      | (with_reducible exact ih2 _ _ _ _ _ _)
      | (with_reducible exact ih3 _ _ _ _)
      | (with_reducible exact cubbyref01_Crc.mono _ _)
      | (with_reducible exact cubbyref02_Code.mono _ _)
      | (with_reducible exact cubbyref02_Texted.mono _ _)
      | (with_reducible exact LeO.refl _)
      | (with_reducible exact LeO.none _)
      | (with_reducible refine LeO.ite ?_ ?_)
      | (with_reducible refine LeO.bind ?_ (fun _ => ?_))
      | exact ih0 _ _ _ _ _ _
      | exact ih1 _ _ _ _ _ _
      | exact ih2 _ _ _ _ _ _
      | exact ih3 _ _ _ _
      | exact cubbyref01_Crc.mono _ _
      | exact cubbyref02_Code.mono _ _
      | exact cubbyref02_Texted.mono _ _
      | exact LeO.none _
      | refine LeO.ite ?_ ?_
      | refine LeO.bind ?_ (fun _ => ?_)
    · intro y0 y1 y2 y3 y4 y5
      unfold cubbyref04_Encode.j2
      repeat' first
      | (with_reducible exact ih0 _ _ _ _ _ _)
      | (with_reducible exact ih1 _ _ _ _ _ _)
      | (with_reducible exact ih2 _ _ _ _ _ _)
      | (with_reducible exact ih3 _ _ _ _)
      | (with_reducible exact cubbyref01_Crc.mono _ _)
      | (with_reducible exact cubbyref02_Code.mono _ _)
      | (with_reducible exact cubbyref02_Texted.mono _ _)
      | (with_reducible exact LeO.refl _)
      | (with_reducible exact LeO.none _)
      | (with_reducible refine LeO.ite ?_ ?_)
      | (with_reducible refine LeO.bind ?_ (fun _ => ?_))
      | exact ih0 _ _ _ _ _ _
      | exact ih1 _ _ _ _ _ _
      | exact ih2 _ _ _ _ _ _
      | exact ih3 _ _ _ _
      | exact cubbyref01_Crc.mono _ _
      | exact cubbyref02_Code.mono _ _
      | exact cubbyref02_Texted.mono _ _
      | exact LeO.none _
      | refine LeO.ite ?_ ?_
      | refine LeO.bind ?_ (fun _ => ?_)
    · intro y0 y1 y2 y3
      unfold cubbyref04_Encode.l0
      repeat' first
      | (with_reducible exact ih0 _ _ _ _ _ _)
      | (with_reducible exact ih1 _ _ _ _ _ _)
      | (with_reducible exact ih2 _ _ _ _ _ _)
      | (with_reducible exact ih3 _ _ _ _)
      | (with_reducible exact cubbyref01_Crc.mono _ _)
      | (with_reducible exact cubbyref02_Code.mono _ _)
      | (with_reducible exact cubbyref02_Texted.mono _ _)
      | (with_reducible exact LeO.refl _)
      | (with_reducible exact LeO.none _)
      | (with_reducible refine LeO.ite ?_ ?_)
      | (with_reducible refine LeO.bind ?_ (fun _ => ?_))
      | exact ih0 _ _ _ _ _ _
      | exact ih1 _ _ _ _ _ _
      | exact ih2 _ _ _ _ _ _
      | exact ih3 _ _ _ _
      | exact cubbyref01_Crc.mono _ _
      | exact cubbyref02_Code.mono _ _
      | exact cubbyref02_Texted.mono _ _
      | exact LeO.none _
      | refine LeO.ite ?_ ?_
      | refine LeO.bind ?_ (fun _ => ?_)
theorem cubbyref04_Encode.mono : ∀ a0 a1 a2 a3 a4 k, LeO (cubbyref04_Encode.f k a0 a1 a2 a3 a4) (cubbyref04_Encode.f (k + 1) a0 a1 a2 a3 a4) := by
  intro a0 a1 a2 a3 a4 k
  obtain ⟨ih0, ih1, ih2, ih3⟩ := cubbyref04_Encode.mono_l k
  unfold cubbyref04_Encode.f
  repeat' first
      | (with_reducible exact ih0 _ _ _ _ _ _)
      | (with_reducible exact ih1 _ _ _ _ _ _)
      | (with_reducible exact ih2 _ _ _ _ _ _)
      | (with_reducible exact ih3 _ _ _ _)
      | (with_reducible exact cubbyref01_Crc.mono _ _)
      | (with_reducible exact cubbyref02_Code.mono _ _)
      | (with_reducible exact cubbyref02_Texted.mono _ _)
      | (with_reducible exact LeO.refl _)
      | (with_reducible exact LeO.none _)
      | (with_reducible refine LeO.ite ?_ ?_)
      | (with_reducible refine LeO.bind ?_ (fun _ => ?_))
      | exact ih0 _ _ _ _ _ _
      | exact ih1 _ _ _ _ _ _
      | exact ih2 _ _ _ _ _ _
      | exact ih3 _ _ _ _
      | exact cubbyref01_Crc.mono _ _
      | exact cubbyref02_Code.mono _ _
      | exact cubbyref02_Texted.mono _ _
      | exact LeO.none _
      | refine LeO.ite ?_ ?_
      | refine LeO.bind ?_ (fun _ => ?_)
def cubbyref04_Encode.T10 : Bool × List (List Nat × List Nat) := (true, [([], []), ([0], [0]), ([1], [1]), ([], []), ([3], [3]), ([4, 2], [4]), ([2, 5], [2, 5]), ([], []), ([7, 5], [7]), ([6, 8], [6, 8]), ([], []), ([10], [10]), ([11, 8], [11]), ([9, 12], [9, 12]), ([13, 12, 0, 1, 2, 3, 4, 5, 6, 7, 8, 9, 10, 11, 12, 13], [13])])
def cubbyref04_Encode.B10 : List Nat := [0, 1, 3, 0, 8, 31, 63, 0, 191, 511, 0, 1024, 3519, 8191, 16383]
theorem cubbyref04_Encode.tab10 : rtab .any (opsOf Try.f12 10) = cubbyref04_Encode.T10 := by kernel_rfl
theorem cubbyref04_Encode.bits10 : waitsOk cubbyref04_Encode.T10.2 cubbyref04_Encode.B10 = true := by kernel_rfl
set_option maxHeartbeats 8000000 in
set_option maxRecDepth 100000 in
theorem cubbyref04_Encode.calls (k : Nat) (a0_0 : Int) (a0_1 : Int) (a0_2 : Bool) (a0_3 : Bool) (a0_4 : ByteArray) (r1 : ByteArray) (r2 : Int) (w : World) (h : cubbyref04_Encode.f k a0_0 a0_1 a0_2 a0_3 a0_4 = some (r1, r2)) :
    Calls Try.prog 12 #[.agg #[.int .i64 a0_0, .int .i64 a0_1, .bool a0_2, .bool a0_3, .string a0_4]] w fun e w' => e = .returned (.tuple #[.string r1, .int .i64 r2]) ∧ Below w.heap.size w w' := by
  have hu29 := Try.underlying29
  have HB := Aside0.mk (Below.refl w.heap.size w)
  have H : (if a0_0 < 0 then (cubbyref04_Encode.j0 k true a0_0 a0_1 a0_2 a0_3 a0_4) else (if a0_0 > 1099511627776 then (cubbyref04_Encode.j0 k true a0_0 a0_1 a0_2 a0_3 a0_4) else (if a0_1 < 0 then (cubbyref04_Encode.j0 k true a0_0 a0_1 a0_2 a0_3 a0_4) else (cubbyref04_Encode.j0 k (decide (a0_1 > 1099511627776)) a0_0 a0_1 a0_2 a0_3 a0_4)))) = some (r1, r2) := h
  clear h
  have HC2 := Aside0.mk H
  clear H
  go_enter Try.func12, Try.ntmps12
  go_upto_region 1 with (first | ((with_reducible refine gate_dst (N := 1) rfl ?_); refine box_event ?hg (N := 1) ?hd (cs := #[.int .i64 a0_0, .int .i64 a0_1, .bool a0_2, .bool a0_3, .string a0_4]) (t := 29) ?hr ?_; (case hd => rfl); (case hg => rfl); (case hr => first | (go_simp; done) | (go_simp; rfl)); intro gb117 hg w3 hbox hb; have n0_ := Aside0.mk (below_step (by repeat (first | (with_reducible first | exact HB.out | apply below_alloc | apply pw_below_drewN | apply below_drew1) | exact HB.out)) hb); have n1_ := Aside0.mk (hbox); have n2_ := Aside0.mk ((by rw [hg]; exact (below_size (by repeat (first | (with_reducible first | exact HB.out | apply below_alloc | apply pw_below_drewN | apply below_drew1) | exact HB.out))) : w.heap.size ≤ gb117)); have n3_ := Aside0.mk ((by rw [hg]; exact (below_size (by repeat (first | (with_reducible first | exact HB.out | apply below_alloc | apply pw_below_drewN | apply below_drew1) | exact HB.out))) : w.heap.size ≤ gb117)); clear HB; have HB := n0_; have BK117 := n1_; have GW117 := n2_; have GE117 := n3_; clear n0_ n1_ n2_ n3_; clear hb hbox hg))
  (try simp only [Act.put, List.setIfInBounds_toArray, List.set_cons_zero, List.set_cons_succ])
  go_cut [26] (fun v26 wc => ∃ (kq : Nat) (x26_1 : Bool), v26 = .bool x26_1 ∧ Aside0 (cubbyref04_Encode.j0 kq x26_1 a0_0 a0_1 a0_2 a0_3 a0_4 = some (r1, r2)) ∧ Aside0 (kq ≤ k) ∧ Aside0 (wc.heap[gb117]? = some (.cells #[.int .i64 a0_0, .int .i64 a0_1, .bool a0_2, .bool a0_3, .string a0_4] 29 (0, 0))) ∧ Aside0 (Below w.heap.size w wc))
  case first =>
    have H := HC2.out
    clear HC2
    by_cases c4 : a0_0 < 0
    · rw [if_pos c4] at H
      have c4b0 : decide (a0_0 < 0) = true := decide_eq_true c4
      clear c4
      (first | rw [c4b0] | (simp only [i64_w, i32_w]; rw [c4b0]) | skip)
      have H' := Aside0.mk H
      clear H
      have hcz5_0 : w3.cell? ⟨gb117, 0, none⟩ = some (.int .i64 a0_0) := (blk_cell BK117.out 0).trans rfl
      have hcz5_1 : w3.cell? ⟨gb117, 1, none⟩ = some (.int .i64 a0_1) := (blk_cell BK117.out 1).trans rfl
      have hcz5_2 : w3.cell? ⟨gb117, 2, none⟩ = some (.bool a0_2) := (blk_cell BK117.out 2).trans rfl
      have hcz5_3 : w3.cell? ⟨gb117, 3, none⟩ = some (.bool a0_3) := (blk_cell BK117.out 3).trans rfl
      have hcz5_4 : w3.cell? ⟨gb117, 4, none⟩ = some (.string a0_4) := (blk_cell BK117.out 4).trans rfl
      have hfz5_0 := blk_frozen BK117.out 0
      have hfz5_1 := blk_frozen BK117.out 1
      have hfz5_2 := blk_frozen BK117.out 2
      have hfz5_3 := blk_frozen BK117.out 3
      have hfz5_4 := blk_frozen BK117.out 4
      have hdz5_0 : ∀ y0_ y1_ y2_ y3_ y4_ : Value, ((((((w3.setCell ⟨gb117, 0, none⟩ y0_).setCell ⟨gb117, 1, none⟩ y1_).setCell ⟨gb117, 2, none⟩ y2_).setCell ⟨gb117, 3, none⟩ y3_).setCell ⟨gb117, 4, none⟩ y4_)).cell? ⟨gb117, 0, none⟩ = some y0_ := fun y0_ y1_ y2_ y3_ y4_ => (blk_cell ((blk_put (blk_put (blk_put (blk_put (blk_put BK117.out 0 y0_ rfl) 1 y1_ rfl) 2 y2_ rfl) 3 y3_ rfl) 4 y4_ rfl)) 0).trans rfl
      have hdz5_1 : ∀ y0_ y1_ y2_ y3_ y4_ : Value, ((((((w3.setCell ⟨gb117, 0, none⟩ y0_).setCell ⟨gb117, 1, none⟩ y1_).setCell ⟨gb117, 2, none⟩ y2_).setCell ⟨gb117, 3, none⟩ y3_).setCell ⟨gb117, 4, none⟩ y4_)).cell? ⟨gb117, 1, none⟩ = some y1_ := fun y0_ y1_ y2_ y3_ y4_ => (blk_cell ((blk_put (blk_put (blk_put (blk_put (blk_put BK117.out 0 y0_ rfl) 1 y1_ rfl) 2 y2_ rfl) 3 y3_ rfl) 4 y4_ rfl)) 1).trans rfl
      have hdz5_2 : ∀ y0_ y1_ y2_ y3_ y4_ : Value, ((((((w3.setCell ⟨gb117, 0, none⟩ y0_).setCell ⟨gb117, 1, none⟩ y1_).setCell ⟨gb117, 2, none⟩ y2_).setCell ⟨gb117, 3, none⟩ y3_).setCell ⟨gb117, 4, none⟩ y4_)).cell? ⟨gb117, 2, none⟩ = some y2_ := fun y0_ y1_ y2_ y3_ y4_ => (blk_cell ((blk_put (blk_put (blk_put (blk_put (blk_put BK117.out 0 y0_ rfl) 1 y1_ rfl) 2 y2_ rfl) 3 y3_ rfl) 4 y4_ rfl)) 2).trans rfl
      have hdz5_3 : ∀ y0_ y1_ y2_ y3_ y4_ : Value, ((((((w3.setCell ⟨gb117, 0, none⟩ y0_).setCell ⟨gb117, 1, none⟩ y1_).setCell ⟨gb117, 2, none⟩ y2_).setCell ⟨gb117, 3, none⟩ y3_).setCell ⟨gb117, 4, none⟩ y4_)).cell? ⟨gb117, 3, none⟩ = some y3_ := fun y0_ y1_ y2_ y3_ y4_ => (blk_cell ((blk_put (blk_put (blk_put (blk_put (blk_put BK117.out 0 y0_ rfl) 1 y1_ rfl) 2 y2_ rfl) 3 y3_ rfl) 4 y4_ rfl)) 3).trans rfl
      have hdz5_4 : ∀ y0_ y1_ y2_ y3_ y4_ : Value, ((((((w3.setCell ⟨gb117, 0, none⟩ y0_).setCell ⟨gb117, 1, none⟩ y1_).setCell ⟨gb117, 2, none⟩ y2_).setCell ⟨gb117, 3, none⟩ y3_).setCell ⟨gb117, 4, none⟩ y4_)).cell? ⟨gb117, 4, none⟩ = some y4_ := fun y0_ y1_ y2_ y3_ y4_ => (blk_cell ((blk_put (blk_put (blk_put (blk_put (blk_put BK117.out 0 y0_ rfl) 1 y1_ rfl) 2 y2_ rfl) 3 y3_ rfl) 4 y4_ rfl)) 4).trans rfl
      go_wp2
      go_meet
      case rel => exact ⟨_, (true), (by first | rfl | (simp; done) | (simp [*]; done)), H', ⟨by first | omega | exact Nat.le_refl _⟩, ⟨by (with_reducible repeat (first | refine blk_drewN ?_ _ | refine blk_drew ?_ | refine blk_alloc ?_ _)); exact BK117.out⟩, ⟨by repeat (first | (with_reducible first | exact HB.out | apply below_alloc | apply pw_below_drewN | apply below_drew1 | refine below_set ?_ GE117.out) | exact HB.out)⟩⟩
    · rw [if_neg c4] at H
      have c4b0 : decide (a0_0 < 0) = false := decide_eq_false c4
      clear c4
      (first | rw [c4b0] | (simp only [i64_w, i32_w]; rw [c4b0]) | skip)
      by_cases c6 : a0_0 > 1099511627776
      · rw [if_pos c6] at H
        have c6b0 : decide (1099511627776 < a0_0) = true := decide_eq_true c6
        clear c6
        have H' := Aside0.mk H
        clear H
        have hcz7_0 : w3.cell? ⟨gb117, 0, none⟩ = some (.int .i64 a0_0) := (blk_cell BK117.out 0).trans rfl
        have hcz7_1 : w3.cell? ⟨gb117, 1, none⟩ = some (.int .i64 a0_1) := (blk_cell BK117.out 1).trans rfl
        have hcz7_2 : w3.cell? ⟨gb117, 2, none⟩ = some (.bool a0_2) := (blk_cell BK117.out 2).trans rfl
        have hcz7_3 : w3.cell? ⟨gb117, 3, none⟩ = some (.bool a0_3) := (blk_cell BK117.out 3).trans rfl
        have hcz7_4 : w3.cell? ⟨gb117, 4, none⟩ = some (.string a0_4) := (blk_cell BK117.out 4).trans rfl
        have hfz7_0 := blk_frozen BK117.out 0
        have hfz7_1 := blk_frozen BK117.out 1
        have hfz7_2 := blk_frozen BK117.out 2
        have hfz7_3 := blk_frozen BK117.out 3
        have hfz7_4 := blk_frozen BK117.out 4
        have hdz7_0 : ∀ y0_ y1_ y2_ y3_ y4_ : Value, ((((((w3.setCell ⟨gb117, 0, none⟩ y0_).setCell ⟨gb117, 1, none⟩ y1_).setCell ⟨gb117, 2, none⟩ y2_).setCell ⟨gb117, 3, none⟩ y3_).setCell ⟨gb117, 4, none⟩ y4_)).cell? ⟨gb117, 0, none⟩ = some y0_ := fun y0_ y1_ y2_ y3_ y4_ => (blk_cell ((blk_put (blk_put (blk_put (blk_put (blk_put BK117.out 0 y0_ rfl) 1 y1_ rfl) 2 y2_ rfl) 3 y3_ rfl) 4 y4_ rfl)) 0).trans rfl
        have hdz7_1 : ∀ y0_ y1_ y2_ y3_ y4_ : Value, ((((((w3.setCell ⟨gb117, 0, none⟩ y0_).setCell ⟨gb117, 1, none⟩ y1_).setCell ⟨gb117, 2, none⟩ y2_).setCell ⟨gb117, 3, none⟩ y3_).setCell ⟨gb117, 4, none⟩ y4_)).cell? ⟨gb117, 1, none⟩ = some y1_ := fun y0_ y1_ y2_ y3_ y4_ => (blk_cell ((blk_put (blk_put (blk_put (blk_put (blk_put BK117.out 0 y0_ rfl) 1 y1_ rfl) 2 y2_ rfl) 3 y3_ rfl) 4 y4_ rfl)) 1).trans rfl
        have hdz7_2 : ∀ y0_ y1_ y2_ y3_ y4_ : Value, ((((((w3.setCell ⟨gb117, 0, none⟩ y0_).setCell ⟨gb117, 1, none⟩ y1_).setCell ⟨gb117, 2, none⟩ y2_).setCell ⟨gb117, 3, none⟩ y3_).setCell ⟨gb117, 4, none⟩ y4_)).cell? ⟨gb117, 2, none⟩ = some y2_ := fun y0_ y1_ y2_ y3_ y4_ => (blk_cell ((blk_put (blk_put (blk_put (blk_put (blk_put BK117.out 0 y0_ rfl) 1 y1_ rfl) 2 y2_ rfl) 3 y3_ rfl) 4 y4_ rfl)) 2).trans rfl
        have hdz7_3 : ∀ y0_ y1_ y2_ y3_ y4_ : Value, ((((((w3.setCell ⟨gb117, 0, none⟩ y0_).setCell ⟨gb117, 1, none⟩ y1_).setCell ⟨gb117, 2, none⟩ y2_).setCell ⟨gb117, 3, none⟩ y3_).setCell ⟨gb117, 4, none⟩ y4_)).cell? ⟨gb117, 3, none⟩ = some y3_ := fun y0_ y1_ y2_ y3_ y4_ => (blk_cell ((blk_put (blk_put (blk_put (blk_put (blk_put BK117.out 0 y0_ rfl) 1 y1_ rfl) 2 y2_ rfl) 3 y3_ rfl) 4 y4_ rfl)) 3).trans rfl
        have hdz7_4 : ∀ y0_ y1_ y2_ y3_ y4_ : Value, ((((((w3.setCell ⟨gb117, 0, none⟩ y0_).setCell ⟨gb117, 1, none⟩ y1_).setCell ⟨gb117, 2, none⟩ y2_).setCell ⟨gb117, 3, none⟩ y3_).setCell ⟨gb117, 4, none⟩ y4_)).cell? ⟨gb117, 4, none⟩ = some y4_ := fun y0_ y1_ y2_ y3_ y4_ => (blk_cell ((blk_put (blk_put (blk_put (blk_put (blk_put BK117.out 0 y0_ rfl) 1 y1_ rfl) 2 y2_ rfl) 3 y3_ rfl) 4 y4_ rfl)) 4).trans rfl
        go_wp2
        go_meet
        case rel => exact ⟨_, (true), (by first | rfl | (simp; done) | (simp [*]; done)), H', ⟨by first | omega | exact Nat.le_refl _⟩, ⟨by (with_reducible repeat (first | refine blk_drewN ?_ _ | refine blk_drew ?_ | refine blk_alloc ?_ _)); exact BK117.out⟩, ⟨by repeat (first | (with_reducible first | exact HB.out | apply below_alloc | apply pw_below_drewN | apply below_drew1 | refine below_set ?_ GE117.out) | exact HB.out)⟩⟩
      · rw [if_neg c6] at H
        have c6b0 : decide (1099511627776 < a0_0) = false := decide_eq_false c6
        clear c6
        by_cases c8 : a0_1 < 0
        · rw [if_pos c8] at H
          have c8b0 : decide (a0_1 < 0) = true := decide_eq_true c8
          clear c8
          have H' := Aside0.mk H
          clear H
          have hcz9_0 : w3.cell? ⟨gb117, 0, none⟩ = some (.int .i64 a0_0) := (blk_cell BK117.out 0).trans rfl
          have hcz9_1 : w3.cell? ⟨gb117, 1, none⟩ = some (.int .i64 a0_1) := (blk_cell BK117.out 1).trans rfl
          have hcz9_2 : w3.cell? ⟨gb117, 2, none⟩ = some (.bool a0_2) := (blk_cell BK117.out 2).trans rfl
          have hcz9_3 : w3.cell? ⟨gb117, 3, none⟩ = some (.bool a0_3) := (blk_cell BK117.out 3).trans rfl
          have hcz9_4 : w3.cell? ⟨gb117, 4, none⟩ = some (.string a0_4) := (blk_cell BK117.out 4).trans rfl
          have hfz9_0 := blk_frozen BK117.out 0
          have hfz9_1 := blk_frozen BK117.out 1
          have hfz9_2 := blk_frozen BK117.out 2
          have hfz9_3 := blk_frozen BK117.out 3
          have hfz9_4 := blk_frozen BK117.out 4
          have hdz9_0 : ∀ y0_ y1_ y2_ y3_ y4_ : Value, ((((((w3.setCell ⟨gb117, 0, none⟩ y0_).setCell ⟨gb117, 1, none⟩ y1_).setCell ⟨gb117, 2, none⟩ y2_).setCell ⟨gb117, 3, none⟩ y3_).setCell ⟨gb117, 4, none⟩ y4_)).cell? ⟨gb117, 0, none⟩ = some y0_ := fun y0_ y1_ y2_ y3_ y4_ => (blk_cell ((blk_put (blk_put (blk_put (blk_put (blk_put BK117.out 0 y0_ rfl) 1 y1_ rfl) 2 y2_ rfl) 3 y3_ rfl) 4 y4_ rfl)) 0).trans rfl
          have hdz9_1 : ∀ y0_ y1_ y2_ y3_ y4_ : Value, ((((((w3.setCell ⟨gb117, 0, none⟩ y0_).setCell ⟨gb117, 1, none⟩ y1_).setCell ⟨gb117, 2, none⟩ y2_).setCell ⟨gb117, 3, none⟩ y3_).setCell ⟨gb117, 4, none⟩ y4_)).cell? ⟨gb117, 1, none⟩ = some y1_ := fun y0_ y1_ y2_ y3_ y4_ => (blk_cell ((blk_put (blk_put (blk_put (blk_put (blk_put BK117.out 0 y0_ rfl) 1 y1_ rfl) 2 y2_ rfl) 3 y3_ rfl) 4 y4_ rfl)) 1).trans rfl
          have hdz9_2 : ∀ y0_ y1_ y2_ y3_ y4_ : Value, ((((((w3.setCell ⟨gb117, 0, none⟩ y0_).setCell ⟨gb117, 1, none⟩ y1_).setCell ⟨gb117, 2, none⟩ y2_).setCell ⟨gb117, 3, none⟩ y3_).setCell ⟨gb117, 4, none⟩ y4_)).cell? ⟨gb117, 2, none⟩ = some y2_ := fun y0_ y1_ y2_ y3_ y4_ => (blk_cell ((blk_put (blk_put (blk_put (blk_put (blk_put BK117.out 0 y0_ rfl) 1 y1_ rfl) 2 y2_ rfl) 3 y3_ rfl) 4 y4_ rfl)) 2).trans rfl
          have hdz9_3 : ∀ y0_ y1_ y2_ y3_ y4_ : Value, ((((((w3.setCell ⟨gb117, 0, none⟩ y0_).setCell ⟨gb117, 1, none⟩ y1_).setCell ⟨gb117, 2, none⟩ y2_).setCell ⟨gb117, 3, none⟩ y3_).setCell ⟨gb117, 4, none⟩ y4_)).cell? ⟨gb117, 3, none⟩ = some y3_ := fun y0_ y1_ y2_ y3_ y4_ => (blk_cell ((blk_put (blk_put (blk_put (blk_put (blk_put BK117.out 0 y0_ rfl) 1 y1_ rfl) 2 y2_ rfl) 3 y3_ rfl) 4 y4_ rfl)) 3).trans rfl
          have hdz9_4 : ∀ y0_ y1_ y2_ y3_ y4_ : Value, ((((((w3.setCell ⟨gb117, 0, none⟩ y0_).setCell ⟨gb117, 1, none⟩ y1_).setCell ⟨gb117, 2, none⟩ y2_).setCell ⟨gb117, 3, none⟩ y3_).setCell ⟨gb117, 4, none⟩ y4_)).cell? ⟨gb117, 4, none⟩ = some y4_ := fun y0_ y1_ y2_ y3_ y4_ => (blk_cell ((blk_put (blk_put (blk_put (blk_put (blk_put BK117.out 0 y0_ rfl) 1 y1_ rfl) 2 y2_ rfl) 3 y3_ rfl) 4 y4_ rfl)) 4).trans rfl
          go_wp2
          go_meet
          case rel => exact ⟨_, (true), (by first | rfl | (simp; done) | (simp [*]; done)), H', ⟨by first | omega | exact Nat.le_refl _⟩, ⟨by (with_reducible repeat (first | refine blk_drewN ?_ _ | refine blk_drew ?_ | refine blk_alloc ?_ _)); exact BK117.out⟩, ⟨by repeat (first | (with_reducible first | exact HB.out | apply below_alloc | apply pw_below_drewN | apply below_drew1 | refine below_set ?_ GE117.out) | exact HB.out)⟩⟩
        · rw [if_neg c8] at H
          have c8b0 : decide (a0_1 < 0) = false := decide_eq_false c8
          clear c8
          have H' := Aside0.mk H
          clear H
          have hcz10_0 : w3.cell? ⟨gb117, 0, none⟩ = some (.int .i64 a0_0) := (blk_cell BK117.out 0).trans rfl
          have hcz10_1 : w3.cell? ⟨gb117, 1, none⟩ = some (.int .i64 a0_1) := (blk_cell BK117.out 1).trans rfl
          have hcz10_2 : w3.cell? ⟨gb117, 2, none⟩ = some (.bool a0_2) := (blk_cell BK117.out 2).trans rfl
          have hcz10_3 : w3.cell? ⟨gb117, 3, none⟩ = some (.bool a0_3) := (blk_cell BK117.out 3).trans rfl
          have hcz10_4 : w3.cell? ⟨gb117, 4, none⟩ = some (.string a0_4) := (blk_cell BK117.out 4).trans rfl
          have hfz10_0 := blk_frozen BK117.out 0
          have hfz10_1 := blk_frozen BK117.out 1
          have hfz10_2 := blk_frozen BK117.out 2
          have hfz10_3 := blk_frozen BK117.out 3
          have hfz10_4 := blk_frozen BK117.out 4
          have hdz10_0 : ∀ y0_ y1_ y2_ y3_ y4_ : Value, ((((((w3.setCell ⟨gb117, 0, none⟩ y0_).setCell ⟨gb117, 1, none⟩ y1_).setCell ⟨gb117, 2, none⟩ y2_).setCell ⟨gb117, 3, none⟩ y3_).setCell ⟨gb117, 4, none⟩ y4_)).cell? ⟨gb117, 0, none⟩ = some y0_ := fun y0_ y1_ y2_ y3_ y4_ => (blk_cell ((blk_put (blk_put (blk_put (blk_put (blk_put BK117.out 0 y0_ rfl) 1 y1_ rfl) 2 y2_ rfl) 3 y3_ rfl) 4 y4_ rfl)) 0).trans rfl
          have hdz10_1 : ∀ y0_ y1_ y2_ y3_ y4_ : Value, ((((((w3.setCell ⟨gb117, 0, none⟩ y0_).setCell ⟨gb117, 1, none⟩ y1_).setCell ⟨gb117, 2, none⟩ y2_).setCell ⟨gb117, 3, none⟩ y3_).setCell ⟨gb117, 4, none⟩ y4_)).cell? ⟨gb117, 1, none⟩ = some y1_ := fun y0_ y1_ y2_ y3_ y4_ => (blk_cell ((blk_put (blk_put (blk_put (blk_put (blk_put BK117.out 0 y0_ rfl) 1 y1_ rfl) 2 y2_ rfl) 3 y3_ rfl) 4 y4_ rfl)) 1).trans rfl
          have hdz10_2 : ∀ y0_ y1_ y2_ y3_ y4_ : Value, ((((((w3.setCell ⟨gb117, 0, none⟩ y0_).setCell ⟨gb117, 1, none⟩ y1_).setCell ⟨gb117, 2, none⟩ y2_).setCell ⟨gb117, 3, none⟩ y3_).setCell ⟨gb117, 4, none⟩ y4_)).cell? ⟨gb117, 2, none⟩ = some y2_ := fun y0_ y1_ y2_ y3_ y4_ => (blk_cell ((blk_put (blk_put (blk_put (blk_put (blk_put BK117.out 0 y0_ rfl) 1 y1_ rfl) 2 y2_ rfl) 3 y3_ rfl) 4 y4_ rfl)) 2).trans rfl
          have hdz10_3 : ∀ y0_ y1_ y2_ y3_ y4_ : Value, ((((((w3.setCell ⟨gb117, 0, none⟩ y0_).setCell ⟨gb117, 1, none⟩ y1_).setCell ⟨gb117, 2, none⟩ y2_).setCell ⟨gb117, 3, none⟩ y3_).setCell ⟨gb117, 4, none⟩ y4_)).cell? ⟨gb117, 3, none⟩ = some y3_ := fun y0_ y1_ y2_ y3_ y4_ => (blk_cell ((blk_put (blk_put (blk_put (blk_put (blk_put BK117.out 0 y0_ rfl) 1 y1_ rfl) 2 y2_ rfl) 3 y3_ rfl) 4 y4_ rfl)) 3).trans rfl
          have hdz10_4 : ∀ y0_ y1_ y2_ y3_ y4_ : Value, ((((((w3.setCell ⟨gb117, 0, none⟩ y0_).setCell ⟨gb117, 1, none⟩ y1_).setCell ⟨gb117, 2, none⟩ y2_).setCell ⟨gb117, 3, none⟩ y3_).setCell ⟨gb117, 4, none⟩ y4_)).cell? ⟨gb117, 4, none⟩ = some y4_ := fun y0_ y1_ y2_ y3_ y4_ => (blk_cell ((blk_put (blk_put (blk_put (blk_put (blk_put BK117.out 0 y0_ rfl) 1 y1_ rfl) 2 y2_ rfl) 3 y3_ rfl) 4 y4_ rfl)) 4).trans rfl
          go_wp2
          go_meet
          case rel => exact ⟨_, (decide (a0_1 > 1099511627776)), (by first | rfl | (simp; done) | (simp [*]; done)), H', ⟨by first | omega | exact Nat.le_refl _⟩, ⟨by (with_reducible repeat (first | refine blk_drewN ?_ _ | refine blk_drew ?_ | refine blk_alloc ?_ _)); exact BK117.out⟩, ⟨by repeat (first | (with_reducible first | exact HB.out | apply below_alloc | apply pw_below_drewN | apply below_drew1 | refine below_set ?_ GE117.out) | exact HB.out)⟩⟩
  case rest =>
    clear HC2
    try clear c1
    try clear p2
    try clear c4
    try clear c4b0
    try clear c6
    try clear c6b0
    try clear c8
    try clear c8b0
    try clear hcz10_0
    try clear hcz10_1
    try clear hcz10_2
    try clear hcz10_3
    try clear hcz10_4
    try clear hcz5_0
    try clear hcz5_1
    try clear hcz5_2
    try clear hcz5_3
    try clear hcz5_4
    try clear hcz7_0
    try clear hcz7_1
    try clear hcz7_2
    try clear hcz7_3
    try clear hcz7_4
    try clear hcz9_0
    try clear hcz9_1
    try clear hcz9_2
    try clear hcz9_3
    try clear hcz9_4
    try clear hfz10_0
    try clear hfz10_1
    try clear hfz10_2
    try clear hfz10_3
    try clear hfz10_4
    try clear hfz5_0
    try clear hfz5_1
    try clear hfz5_2
    try clear hfz5_3
    try clear hfz5_4
    try clear hfz7_0
    try clear hfz7_1
    try clear hfz7_2
    try clear hfz7_3
    try clear hfz7_4
    try clear hfz9_0
    try clear hfz9_1
    try clear hfz9_2
    try clear hfz9_3
    try clear hfz9_4
    obtain ⟨kq, x26_1, rfl, HA, HJ1, BK117, HB⟩ := hcut
    cases kq with
    | zero => exact absurd HA.out (by simp [cubbyref04_Encode.j0])
    | succ kj1 =>
      have H := HA.out
      clear HA
      simp only [cubbyref04_Encode.j0] at H
      by_cases c11 : x26_1 = true
      · subst c11
        have H1 : (some ((⟨#[]⟩ : ByteArray), 1)) = some (r1, r2) := by rw [if_pos rfl] at H; exact H
        clear H
        have H := H1
        clear H1
        simp only [Option.some.injEq, Prod.mk.injEq] at H
        obtain ⟨rfl, rfl⟩ := H
        go_wp2
        go_ret2
        exact ⟨by first | rfl | (simp [errW_none, errW_some] <;> rfl) | (simp [*, errW_none, errW_some] <;> rfl), by repeat (first | (with_reducible first | exact HB.out | apply below_alloc | apply pw_below_drewN | apply below_drew1 | refine below_set ?_ GE117.out) | exact HB.out)⟩
      · replace c11 := Bool.eq_false_iff.mpr c11
        subst c11
        have H1 : (if (a0_4.size : Int) > 96 then (some ((⟨#[]⟩ : ByteArray), 31)) else (if a0_2 = true then (cubbyref04_Encode.j1 kj1 1 a0_0 a0_1 a0_2 a0_3 a0_4) else (cubbyref04_Encode.j1 kj1 0 a0_0 a0_1 a0_2 a0_3 a0_4))) = some (r1, r2) := by rw [if_neg (show ¬ (false = true) by decide)] at H; exact H
        clear H
        have H := H1
        clear H1
        by_cases c12 : (a0_4.size : Int) > 96
        · rw [if_pos c12] at H
          have c12b0 : decide (96 < (a0_4.size : Int)) = true := decide_eq_true c12
          have c12b1 : decide (96 < a0_4.size) = true := decide_eq_true (by omega)
          clear c12
          simp only [Option.some.injEq, Prod.mk.injEq] at H
          obtain ⟨rfl, rfl⟩ := H
          have hcz13_0 : wc.cell? ⟨gb117, 0, none⟩ = some (.int .i64 a0_0) := (blk_cell BK117.out 0).trans rfl
          have hcz13_1 : wc.cell? ⟨gb117, 1, none⟩ = some (.int .i64 a0_1) := (blk_cell BK117.out 1).trans rfl
          have hcz13_2 : wc.cell? ⟨gb117, 2, none⟩ = some (.bool a0_2) := (blk_cell BK117.out 2).trans rfl
          have hcz13_3 : wc.cell? ⟨gb117, 3, none⟩ = some (.bool a0_3) := (blk_cell BK117.out 3).trans rfl
          have hcz13_4 : wc.cell? ⟨gb117, 4, none⟩ = some (.string a0_4) := (blk_cell BK117.out 4).trans rfl
          have hfz13_0 := blk_frozen BK117.out 0
          have hfz13_1 := blk_frozen BK117.out 1
          have hfz13_2 := blk_frozen BK117.out 2
          have hfz13_3 := blk_frozen BK117.out 3
          have hfz13_4 := blk_frozen BK117.out 4
          have hdz13_0 : ∀ y0_ y1_ y2_ y3_ y4_ : Value, ((((((wc.setCell ⟨gb117, 0, none⟩ y0_).setCell ⟨gb117, 1, none⟩ y1_).setCell ⟨gb117, 2, none⟩ y2_).setCell ⟨gb117, 3, none⟩ y3_).setCell ⟨gb117, 4, none⟩ y4_)).cell? ⟨gb117, 0, none⟩ = some y0_ := fun y0_ y1_ y2_ y3_ y4_ => (blk_cell ((blk_put (blk_put (blk_put (blk_put (blk_put BK117.out 0 y0_ rfl) 1 y1_ rfl) 2 y2_ rfl) 3 y3_ rfl) 4 y4_ rfl)) 0).trans rfl
          have hdz13_1 : ∀ y0_ y1_ y2_ y3_ y4_ : Value, ((((((wc.setCell ⟨gb117, 0, none⟩ y0_).setCell ⟨gb117, 1, none⟩ y1_).setCell ⟨gb117, 2, none⟩ y2_).setCell ⟨gb117, 3, none⟩ y3_).setCell ⟨gb117, 4, none⟩ y4_)).cell? ⟨gb117, 1, none⟩ = some y1_ := fun y0_ y1_ y2_ y3_ y4_ => (blk_cell ((blk_put (blk_put (blk_put (blk_put (blk_put BK117.out 0 y0_ rfl) 1 y1_ rfl) 2 y2_ rfl) 3 y3_ rfl) 4 y4_ rfl)) 1).trans rfl
          have hdz13_2 : ∀ y0_ y1_ y2_ y3_ y4_ : Value, ((((((wc.setCell ⟨gb117, 0, none⟩ y0_).setCell ⟨gb117, 1, none⟩ y1_).setCell ⟨gb117, 2, none⟩ y2_).setCell ⟨gb117, 3, none⟩ y3_).setCell ⟨gb117, 4, none⟩ y4_)).cell? ⟨gb117, 2, none⟩ = some y2_ := fun y0_ y1_ y2_ y3_ y4_ => (blk_cell ((blk_put (blk_put (blk_put (blk_put (blk_put BK117.out 0 y0_ rfl) 1 y1_ rfl) 2 y2_ rfl) 3 y3_ rfl) 4 y4_ rfl)) 2).trans rfl
          have hdz13_3 : ∀ y0_ y1_ y2_ y3_ y4_ : Value, ((((((wc.setCell ⟨gb117, 0, none⟩ y0_).setCell ⟨gb117, 1, none⟩ y1_).setCell ⟨gb117, 2, none⟩ y2_).setCell ⟨gb117, 3, none⟩ y3_).setCell ⟨gb117, 4, none⟩ y4_)).cell? ⟨gb117, 3, none⟩ = some y3_ := fun y0_ y1_ y2_ y3_ y4_ => (blk_cell ((blk_put (blk_put (blk_put (blk_put (blk_put BK117.out 0 y0_ rfl) 1 y1_ rfl) 2 y2_ rfl) 3 y3_ rfl) 4 y4_ rfl)) 3).trans rfl
          have hdz13_4 : ∀ y0_ y1_ y2_ y3_ y4_ : Value, ((((((wc.setCell ⟨gb117, 0, none⟩ y0_).setCell ⟨gb117, 1, none⟩ y1_).setCell ⟨gb117, 2, none⟩ y2_).setCell ⟨gb117, 3, none⟩ y3_).setCell ⟨gb117, 4, none⟩ y4_)).cell? ⟨gb117, 4, none⟩ = some y4_ := fun y0_ y1_ y2_ y3_ y4_ => (blk_cell ((blk_put (blk_put (blk_put (blk_put (blk_put BK117.out 0 y0_ rfl) 1 y1_ rfl) 2 y2_ rfl) 3 y3_ rfl) 4 y4_ rfl)) 4).trans rfl
          go_wp2
          go_ret2
          exact ⟨by first | rfl | (simp [errW_none, errW_some] <;> rfl) | (simp [*, errW_none, errW_some] <;> rfl), by repeat (first | (with_reducible first | exact HB.out | apply below_alloc | apply pw_below_drewN | apply below_drew1 | refine below_set ?_ GE117.out) | exact HB.out)⟩
        · rw [if_neg c12] at H
          have c12b0 : decide (96 < (a0_4.size : Int)) = false := decide_eq_false c12
          have c12b1 : decide (96 < a0_4.size) = false := decide_eq_false (by omega)
          clear c12
          have HC14 := Aside0.mk H
          clear H
          have hcz15_0 : wc.cell? ⟨gb117, 0, none⟩ = some (.int .i64 a0_0) := (blk_cell BK117.out 0).trans rfl
          have hcz15_1 : wc.cell? ⟨gb117, 1, none⟩ = some (.int .i64 a0_1) := (blk_cell BK117.out 1).trans rfl
          have hcz15_2 : wc.cell? ⟨gb117, 2, none⟩ = some (.bool a0_2) := (blk_cell BK117.out 2).trans rfl
          have hcz15_3 : wc.cell? ⟨gb117, 3, none⟩ = some (.bool a0_3) := (blk_cell BK117.out 3).trans rfl
          have hcz15_4 : wc.cell? ⟨gb117, 4, none⟩ = some (.string a0_4) := (blk_cell BK117.out 4).trans rfl
          have hfz15_0 := blk_frozen BK117.out 0
          have hfz15_1 := blk_frozen BK117.out 1
          have hfz15_2 := blk_frozen BK117.out 2
          have hfz15_3 := blk_frozen BK117.out 3
          have hfz15_4 := blk_frozen BK117.out 4
          have hdz15_0 : ∀ y0_ y1_ y2_ y3_ y4_ : Value, ((((((wc.setCell ⟨gb117, 0, none⟩ y0_).setCell ⟨gb117, 1, none⟩ y1_).setCell ⟨gb117, 2, none⟩ y2_).setCell ⟨gb117, 3, none⟩ y3_).setCell ⟨gb117, 4, none⟩ y4_)).cell? ⟨gb117, 0, none⟩ = some y0_ := fun y0_ y1_ y2_ y3_ y4_ => (blk_cell ((blk_put (blk_put (blk_put (blk_put (blk_put BK117.out 0 y0_ rfl) 1 y1_ rfl) 2 y2_ rfl) 3 y3_ rfl) 4 y4_ rfl)) 0).trans rfl
          have hdz15_1 : ∀ y0_ y1_ y2_ y3_ y4_ : Value, ((((((wc.setCell ⟨gb117, 0, none⟩ y0_).setCell ⟨gb117, 1, none⟩ y1_).setCell ⟨gb117, 2, none⟩ y2_).setCell ⟨gb117, 3, none⟩ y3_).setCell ⟨gb117, 4, none⟩ y4_)).cell? ⟨gb117, 1, none⟩ = some y1_ := fun y0_ y1_ y2_ y3_ y4_ => (blk_cell ((blk_put (blk_put (blk_put (blk_put (blk_put BK117.out 0 y0_ rfl) 1 y1_ rfl) 2 y2_ rfl) 3 y3_ rfl) 4 y4_ rfl)) 1).trans rfl
          have hdz15_2 : ∀ y0_ y1_ y2_ y3_ y4_ : Value, ((((((wc.setCell ⟨gb117, 0, none⟩ y0_).setCell ⟨gb117, 1, none⟩ y1_).setCell ⟨gb117, 2, none⟩ y2_).setCell ⟨gb117, 3, none⟩ y3_).setCell ⟨gb117, 4, none⟩ y4_)).cell? ⟨gb117, 2, none⟩ = some y2_ := fun y0_ y1_ y2_ y3_ y4_ => (blk_cell ((blk_put (blk_put (blk_put (blk_put (blk_put BK117.out 0 y0_ rfl) 1 y1_ rfl) 2 y2_ rfl) 3 y3_ rfl) 4 y4_ rfl)) 2).trans rfl
          have hdz15_3 : ∀ y0_ y1_ y2_ y3_ y4_ : Value, ((((((wc.setCell ⟨gb117, 0, none⟩ y0_).setCell ⟨gb117, 1, none⟩ y1_).setCell ⟨gb117, 2, none⟩ y2_).setCell ⟨gb117, 3, none⟩ y3_).setCell ⟨gb117, 4, none⟩ y4_)).cell? ⟨gb117, 3, none⟩ = some y3_ := fun y0_ y1_ y2_ y3_ y4_ => (blk_cell ((blk_put (blk_put (blk_put (blk_put (blk_put BK117.out 0 y0_ rfl) 1 y1_ rfl) 2 y2_ rfl) 3 y3_ rfl) 4 y4_ rfl)) 3).trans rfl
          have hdz15_4 : ∀ y0_ y1_ y2_ y3_ y4_ : Value, ((((((wc.setCell ⟨gb117, 0, none⟩ y0_).setCell ⟨gb117, 1, none⟩ y1_).setCell ⟨gb117, 2, none⟩ y2_).setCell ⟨gb117, 3, none⟩ y3_).setCell ⟨gb117, 4, none⟩ y4_)).cell? ⟨gb117, 4, none⟩ = some y4_ := fun y0_ y1_ y2_ y3_ y4_ => (blk_cell ((blk_put (blk_put (blk_put (blk_put (blk_put BK117.out 0 y0_ rfl) 1 y1_ rfl) 2 y2_ rfl) 3 y3_ rfl) 4 y4_ rfl)) 4).trans rfl
          go_upto_if 32 with (fail)
          go_cut [4] (fun v4 wc => ∃ (kq : Nat) (x4_13 : Int), v4 = .int .i64 x4_13 ∧ Aside0 (cubbyref04_Encode.j1 kq x4_13 a0_0 a0_1 a0_2 a0_3 a0_4 = some (r1, r2)) ∧ Aside0 (kq ≤ kj1) ∧ Aside0 (wc.heap[gb117]? = some (.cells #[.int .i64 a0_0, .int .i64 a0_1, .bool a0_2, .bool a0_3, .string a0_4] 29 (0, 0))) ∧ Aside0 (Below w.heap.size w wc))
          case first =>
            have H := HC14.out
            clear HC14
            by_cases c16 : a0_2 = true
            · subst c16
              have H1 : (cubbyref04_Encode.j1 kj1 1 a0_0 a0_1 true a0_3 a0_4) = some (r1, r2) := by rw [if_pos rfl] at H; exact H
              clear H
              have H := H1
              clear H1
              have H' := Aside0.mk H
              clear H
              go_wp2
              go_meet
              case rel => exact ⟨_, (1), (by first | rfl | (simp; done) | (simp [*]; done)), H', ⟨by have := HJ1.out; first | omega | exact Nat.le_refl _⟩, ⟨by (with_reducible repeat (first | refine blk_drewN ?_ _ | refine blk_drew ?_ | refine blk_alloc ?_ _)); exact BK117.out⟩, ⟨by repeat (first | (with_reducible first | exact HB.out | apply below_alloc | apply pw_below_drewN | apply below_drew1 | refine below_set ?_ GE117.out) | exact HB.out)⟩⟩
            · replace c16 := Bool.eq_false_iff.mpr c16
              subst c16
              have H1 : (cubbyref04_Encode.j1 kj1 0 a0_0 a0_1 false a0_3 a0_4) = some (r1, r2) := by rw [if_neg (show ¬ (false = true) by decide)] at H; exact H
              clear H
              have H := H1
              clear H1
              have H' := Aside0.mk H
              clear H
              go_wp2
              go_meet
              case rel => exact ⟨_, (0), (by first | rfl | (simp; done) | (simp [*]; done)), H', ⟨by have := HJ1.out; first | omega | exact Nat.le_refl _⟩, ⟨by (with_reducible repeat (first | refine blk_drewN ?_ _ | refine blk_drew ?_ | refine blk_alloc ?_ _)); exact BK117.out⟩, ⟨by repeat (first | (with_reducible first | exact HB.out | apply below_alloc | apply pw_below_drewN | apply below_drew1 | refine below_set ?_ GE117.out) | exact HB.out)⟩⟩
          case rest =>
            clear HC14
            try clear c1
            try clear p2
            try clear c4
            try clear c4b0
            try clear c6
            try clear c6b0
            try clear c8
            try clear c8b0
            try clear c11
            try clear c12
            try clear c12b0
            try clear c12b1
            try clear c16
            try clear hcz10_0
            try clear hcz10_1
            try clear hcz10_2
            try clear hcz10_3
            try clear hcz10_4
            try clear hcz13_0
            try clear hcz13_1
            try clear hcz13_2
            try clear hcz13_3
            try clear hcz13_4
            try clear hcz15_0
            try clear hcz15_1
            try clear hcz15_2
            try clear hcz15_3
            try clear hcz15_4
            try clear hcz5_0
            try clear hcz5_1
            try clear hcz5_2
            try clear hcz5_3
            try clear hcz5_4
            try clear hcz7_0
            try clear hcz7_1
            try clear hcz7_2
            try clear hcz7_3
            try clear hcz7_4
            try clear hcz9_0
            try clear hcz9_1
            try clear hcz9_2
            try clear hcz9_3
            try clear hcz9_4
            try clear hfz10_0
            try clear hfz10_1
            try clear hfz10_2
            try clear hfz10_3
            try clear hfz10_4
            try clear hfz13_0
            try clear hfz13_1
            try clear hfz13_2
            try clear hfz13_3
            try clear hfz13_4
            try clear hfz15_0
            try clear hfz15_1
            try clear hfz15_2
            try clear hfz15_3
            try clear hfz15_4
            try clear hfz5_0
            try clear hfz5_1
            try clear hfz5_2
            try clear hfz5_3
            try clear hfz5_4
            try clear hfz7_0
            try clear hfz7_1
            try clear hfz7_2
            try clear hfz7_3
            try clear hfz7_4
            try clear hfz9_0
            try clear hfz9_1
            try clear hfz9_2
            try clear hfz9_3
            try clear hfz9_4
            try clear p2
            obtain ⟨kq, x4_13, rfl, HA, HJ13, BK117, HB⟩ := hcut
            cases kq with
            | zero => exact absurd HA.out (by simp [cubbyref04_Encode.j1])
            | succ kj13 =>
              have H := HA.out
              clear HA
              simp only [cubbyref04_Encode.j1] at H
              have HC17 := Aside0.mk H
              clear H
              have hcz18_0 : wc.cell? ⟨gb117, 0, none⟩ = some (.int .i64 a0_0) := (blk_cell BK117.out 0).trans rfl
              have hcz18_1 : wc.cell? ⟨gb117, 1, none⟩ = some (.int .i64 a0_1) := (blk_cell BK117.out 1).trans rfl
              have hcz18_2 : wc.cell? ⟨gb117, 2, none⟩ = some (.bool a0_2) := (blk_cell BK117.out 2).trans rfl
              have hcz18_3 : wc.cell? ⟨gb117, 3, none⟩ = some (.bool a0_3) := (blk_cell BK117.out 3).trans rfl
              have hcz18_4 : wc.cell? ⟨gb117, 4, none⟩ = some (.string a0_4) := (blk_cell BK117.out 4).trans rfl
              have hfz18_0 := blk_frozen BK117.out 0
              have hfz18_1 := blk_frozen BK117.out 1
              have hfz18_2 := blk_frozen BK117.out 2
              have hfz18_3 := blk_frozen BK117.out 3
              have hfz18_4 := blk_frozen BK117.out 4
              have hdz18_0 : ∀ y0_ y1_ y2_ y3_ y4_ : Value, ((((((wc.setCell ⟨gb117, 0, none⟩ y0_).setCell ⟨gb117, 1, none⟩ y1_).setCell ⟨gb117, 2, none⟩ y2_).setCell ⟨gb117, 3, none⟩ y3_).setCell ⟨gb117, 4, none⟩ y4_)).cell? ⟨gb117, 0, none⟩ = some y0_ := fun y0_ y1_ y2_ y3_ y4_ => (blk_cell ((blk_put (blk_put (blk_put (blk_put (blk_put BK117.out 0 y0_ rfl) 1 y1_ rfl) 2 y2_ rfl) 3 y3_ rfl) 4 y4_ rfl)) 0).trans rfl
              have hdz18_1 : ∀ y0_ y1_ y2_ y3_ y4_ : Value, ((((((wc.setCell ⟨gb117, 0, none⟩ y0_).setCell ⟨gb117, 1, none⟩ y1_).setCell ⟨gb117, 2, none⟩ y2_).setCell ⟨gb117, 3, none⟩ y3_).setCell ⟨gb117, 4, none⟩ y4_)).cell? ⟨gb117, 1, none⟩ = some y1_ := fun y0_ y1_ y2_ y3_ y4_ => (blk_cell ((blk_put (blk_put (blk_put (blk_put (blk_put BK117.out 0 y0_ rfl) 1 y1_ rfl) 2 y2_ rfl) 3 y3_ rfl) 4 y4_ rfl)) 1).trans rfl
              have hdz18_2 : ∀ y0_ y1_ y2_ y3_ y4_ : Value, ((((((wc.setCell ⟨gb117, 0, none⟩ y0_).setCell ⟨gb117, 1, none⟩ y1_).setCell ⟨gb117, 2, none⟩ y2_).setCell ⟨gb117, 3, none⟩ y3_).setCell ⟨gb117, 4, none⟩ y4_)).cell? ⟨gb117, 2, none⟩ = some y2_ := fun y0_ y1_ y2_ y3_ y4_ => (blk_cell ((blk_put (blk_put (blk_put (blk_put (blk_put BK117.out 0 y0_ rfl) 1 y1_ rfl) 2 y2_ rfl) 3 y3_ rfl) 4 y4_ rfl)) 2).trans rfl
              have hdz18_3 : ∀ y0_ y1_ y2_ y3_ y4_ : Value, ((((((wc.setCell ⟨gb117, 0, none⟩ y0_).setCell ⟨gb117, 1, none⟩ y1_).setCell ⟨gb117, 2, none⟩ y2_).setCell ⟨gb117, 3, none⟩ y3_).setCell ⟨gb117, 4, none⟩ y4_)).cell? ⟨gb117, 3, none⟩ = some y3_ := fun y0_ y1_ y2_ y3_ y4_ => (blk_cell ((blk_put (blk_put (blk_put (blk_put (blk_put BK117.out 0 y0_ rfl) 1 y1_ rfl) 2 y2_ rfl) 3 y3_ rfl) 4 y4_ rfl)) 3).trans rfl
              have hdz18_4 : ∀ y0_ y1_ y2_ y3_ y4_ : Value, ((((((wc.setCell ⟨gb117, 0, none⟩ y0_).setCell ⟨gb117, 1, none⟩ y1_).setCell ⟨gb117, 2, none⟩ y2_).setCell ⟨gb117, 3, none⟩ y3_).setCell ⟨gb117, 4, none⟩ y4_)).cell? ⟨gb117, 4, none⟩ = some y4_ := fun y0_ y1_ y2_ y3_ y4_ => (blk_cell ((blk_put (blk_put (blk_put (blk_put (blk_put BK117.out 0 y0_ rfl) 1 y1_ rfl) 2 y2_ rfl) 3 y3_ rfl) 4 y4_ rfl)) 4).trans rfl
              go_upto_if 34 with (fail)
              go_cut [4] (fun v4 wc => ∃ (kq : Nat) (x4_16 : Int), v4 = .int .i64 x4_16 ∧ Aside0 (cubbyref04_Encode.j2 kq x4_16 a0_0 a0_1 a0_2 a0_3 a0_4 = some (r1, r2)) ∧ Aside0 (kq ≤ kj13) ∧ Aside0 (wc.heap[gb117]? = some (.cells #[.int .i64 a0_0, .int .i64 a0_1, .bool a0_2, .bool a0_3, .string a0_4] 29 (0, 0))) ∧ Aside0 (Below w.heap.size w wc))
              case first =>
                have H := HC17.out
                clear HC17
                by_cases c19 : a0_3 = true
                · subst c19
                  have H1 : (cubbyref04_Encode.j2 kj13 (wrap64 (x4_13 + 2)) a0_0 a0_1 a0_2 true a0_4) = some (r1, r2) := by rw [if_pos rfl] at H; exact H
                  clear H
                  have H := H1
                  clear H1
                  have H' := Aside0.mk H
                  clear H
                  go_wp2
                  go_meet
                  case rel => exact ⟨_, (wrap64 (x4_13 + 2)), (by first | rfl | (simp; done) | (simp [*]; done)), H', ⟨by have := HJ1.out; have := HJ13.out; first | omega | exact Nat.le_refl _⟩, ⟨by (with_reducible repeat (first | refine blk_drewN ?_ _ | refine blk_drew ?_ | refine blk_alloc ?_ _)); exact BK117.out⟩, ⟨by repeat (first | (with_reducible first | exact HB.out | apply below_alloc | apply pw_below_drewN | apply below_drew1 | refine below_set ?_ GE117.out) | exact HB.out)⟩⟩
                · replace c19 := Bool.eq_false_iff.mpr c19
                  subst c19
                  have H1 : (cubbyref04_Encode.j2 kj13 x4_13 a0_0 a0_1 a0_2 false a0_4) = some (r1, r2) := by rw [if_neg (show ¬ (false = true) by decide)] at H; exact H
                  clear H
                  have H := H1
                  clear H1
                  have H' := Aside0.mk H
                  clear H
                  go_wp2
                  go_meet
                  case rel => exact ⟨_, (x4_13), (by first | rfl | (simp; done) | (simp [*]; done)), H', ⟨by have := HJ1.out; have := HJ13.out; first | omega | exact Nat.le_refl _⟩, ⟨by (with_reducible repeat (first | refine blk_drewN ?_ _ | refine blk_drew ?_ | refine blk_alloc ?_ _)); exact BK117.out⟩, ⟨by repeat (first | (with_reducible first | exact HB.out | apply below_alloc | apply pw_below_drewN | apply below_drew1 | refine below_set ?_ GE117.out) | exact HB.out)⟩⟩
              case rest =>
                clear HC17
                try clear c1
                try clear p2
                try clear c4
                try clear c4b0
                try clear c6
                try clear c6b0
                try clear p6
                try clear c8
                try clear c8b0
                try clear c11
                try clear c12
                try clear c12b0
                try clear c12b1
                try clear c16
                try clear c19
                try clear hcz10_0
                try clear hcz10_1
                try clear hcz10_2
                try clear hcz10_3
                try clear hcz10_4
                try clear hcz13_0
                try clear hcz13_1
                try clear hcz13_2
                try clear hcz13_3
                try clear hcz13_4
                try clear hcz15_0
                try clear hcz15_1
                try clear hcz15_2
                try clear hcz15_3
                try clear hcz15_4
                try clear hcz18_0
                try clear hcz18_1
                try clear hcz18_2
                try clear hcz18_3
                try clear hcz18_4
                try clear hcz5_0
                try clear hcz5_1
                try clear hcz5_2
                try clear hcz5_3
                try clear hcz5_4
                try clear hcz7_0
                try clear hcz7_1
                try clear hcz7_2
                try clear hcz7_3
                try clear hcz7_4
                try clear hcz9_0
                try clear hcz9_1
                try clear hcz9_2
                try clear hcz9_3
                try clear hcz9_4
                try clear hfz10_0
                try clear hfz10_1
                try clear hfz10_2
                try clear hfz10_3
                try clear hfz10_4
                try clear hfz13_0
                try clear hfz13_1
                try clear hfz13_2
                try clear hfz13_3
                try clear hfz13_4
                try clear hfz15_0
                try clear hfz15_1
                try clear hfz15_2
                try clear hfz15_3
                try clear hfz15_4
                try clear hfz18_0
                try clear hfz18_1
                try clear hfz18_2
                try clear hfz18_3
                try clear hfz18_4
                try clear hfz5_0
                try clear hfz5_1
                try clear hfz5_2
                try clear hfz5_3
                try clear hfz5_4
                try clear hfz7_0
                try clear hfz7_1
                try clear hfz7_2
                try clear hfz7_3
                try clear hfz7_4
                try clear hfz9_0
                try clear hfz9_1
                try clear hfz9_2
                try clear hfz9_3
                try clear hfz9_4
                try clear p2
                obtain ⟨kq, x4_16, rfl, HA, HJ16, BK117, HB⟩ := hcut
                cases kq with
                | zero => exact absurd HA.out (by simp [cubbyref04_Encode.j2])
                | succ kj16 =>
                  have H := HA.out
                  clear HA
                  simp only [cubbyref04_Encode.j2] at H
                  replace H := Option.bind_eq_some_iff.mp H
                  obtain ⟨t118, A200, H⟩ := H
                  replace H : ((cubbyref02_Code.f kj16 a0_1).bind fun t119 => (if t118.size + t119.size ≤ 9223372036854775807 then ((cubbyref02_Code.f kj16 x4_16).bind fun t120 => (if (t118 ++ t119).size + t120.size ≤ 9223372036854775807 then ((cubbyref02_Texted.f kj16 a0_4).bind fun t121 => (if ((t118 ++ t119) ++ t120).size + t121.size ≤ 9223372036854775807 then ((cubbyref01_Crc.f kj16 (((t118 ++ t119) ++ t120) ++ t121)).bind fun t122 => (cubbyref04_Encode.l0 kj16 (((t118 ++ t119) ++ t120) ++ t121) t122 (([] : List Int)) 0)) else (none))) else (none))) else (none))) = some (r1, r2) := H
                  have A20 := Aside0.mk A200
                  clear A200
                  replace H := Option.bind_eq_some_iff.mp H
                  obtain ⟨t119, A210, H⟩ := H
                  replace H : (if t118.size + t119.size ≤ 9223372036854775807 then ((cubbyref02_Code.f kj16 x4_16).bind fun t120 => (if (t118 ++ t119).size + t120.size ≤ 9223372036854775807 then ((cubbyref02_Texted.f kj16 a0_4).bind fun t121 => (if ((t118 ++ t119) ++ t120).size + t121.size ≤ 9223372036854775807 then ((cubbyref01_Crc.f kj16 (((t118 ++ t119) ++ t120) ++ t121)).bind fun t122 => (cubbyref04_Encode.l0 kj16 (((t118 ++ t119) ++ t120) ++ t121) t122 (([] : List Int)) 0)) else (none))) else (none))) else (none)) = some (r1, r2) := H
                  have A21 := Aside0.mk A210
                  clear A210
                  by_cases c22 : t118.size + t119.size ≤ 9223372036854775807
                  · rw [if_pos c22] at H
                    have c22b0 := eq_true c22
                    have c22b1 : decide (t118.size + t119.size ≤ 9223372036854775807) = true := decide_eq_true c22
                    try have c22b2 : (9223372036854775807 < t118.size + t119.size) = False := eq_false (Nat.not_lt.2 c22)
                    try (have c22b3 := c22; simp only [ByteArray.size_append] at c22b3; have c22b4 := eq_false (Nat.not_lt.2 c22b3))
                    replace H := Option.bind_eq_some_iff.mp H
                    obtain ⟨t120, A230, H⟩ := H
                    replace H : (if (t118 ++ t119).size + t120.size ≤ 9223372036854775807 then ((cubbyref02_Texted.f kj16 a0_4).bind fun t121 => (if ((t118 ++ t119) ++ t120).size + t121.size ≤ 9223372036854775807 then ((cubbyref01_Crc.f kj16 (((t118 ++ t119) ++ t120) ++ t121)).bind fun t122 => (cubbyref04_Encode.l0 kj16 (((t118 ++ t119) ++ t120) ++ t121) t122 (([] : List Int)) 0)) else (none))) else (none)) = some (r1, r2) := H
                    have A23 := Aside0.mk A230
                    clear A230
                    by_cases c24 : (t118 ++ t119).size + t120.size ≤ 9223372036854775807
                    · rw [if_pos c24] at H
                      have c24b0 := eq_true c24
                      have c24b1 : decide ((t118 ++ t119).size + t120.size ≤ 9223372036854775807) = true := decide_eq_true c24
                      try have c24b2 : (9223372036854775807 < (t118 ++ t119).size + t120.size) = False := eq_false (Nat.not_lt.2 c24)
                      try (have c24b3 := c24; simp only [ByteArray.size_append] at c24b3; have c24b4 := eq_false (Nat.not_lt.2 c24b3))
                      replace H := Option.bind_eq_some_iff.mp H
                      obtain ⟨t121, A250, H⟩ := H
                      replace H : (if ((t118 ++ t119) ++ t120).size + t121.size ≤ 9223372036854775807 then ((cubbyref01_Crc.f kj16 (((t118 ++ t119) ++ t120) ++ t121)).bind fun t122 => (cubbyref04_Encode.l0 kj16 (((t118 ++ t119) ++ t120) ++ t121) t122 (([] : List Int)) 0)) else (none)) = some (r1, r2) := H
                      have A25 := Aside0.mk A250
                      clear A250
                      by_cases c26 : ((t118 ++ t119) ++ t120).size + t121.size ≤ 9223372036854775807
                      · rw [if_pos c26] at H
                        have c26b0 := eq_true c26
                        have c26b1 : decide (((t118 ++ t119) ++ t120).size + t121.size ≤ 9223372036854775807) = true := decide_eq_true c26
                        try have c26b2 : (9223372036854775807 < ((t118 ++ t119) ++ t120).size + t121.size) = False := eq_false (Nat.not_lt.2 c26)
                        try (have c26b3 := c26; simp only [ByteArray.size_append] at c26b3; have c26b4 := eq_false (Nat.not_lt.2 c26b3))
                        replace H := Option.bind_eq_some_iff.mp H
                        obtain ⟨t122, A270, H⟩ := H
                        replace H : (cubbyref04_Encode.l0 kj16 (((t118 ++ t119) ++ t120) ++ t121) t122 (([] : List Int)) 0) = some (r1, r2) := H
                        have A27 := Aside0.mk A270
                        clear A270
                        obtain ⟨y123, hy123⟩ : ∃ y_ : List Int, y_ = (([] : List Int)) := ⟨_, rfl⟩
                        replace H : (cubbyref04_Encode.l0 kj16 (((t118 ++ t119) ++ t120) ++ t121) t122 y123 0) = some (r1, r2) := by first | (rw [hy123]; with_reducible exact H) | (have H2_ := (Option.bind_some _ _).symm.trans H; rw [hy123]; with_reducible exact H2_) | (have H2_ := (Option.bind_some _ _).symm.trans H; with_reducible exact H2_) | with_reducible exact H | (rw [hy123]; exact H) | exact H
                        have Ny123 := Aside0.mk hy123
                        clear hy123
                        have H' := Aside0.mk H
                        clear H
                        try go_wp2
                        have n0_ := Aside0.mk (blk_drew BK117.out)
                        have n1_ := Aside0.mk (below_drew1 HB.out)
                        clear BK117
                        clear HB
                        have BK117 := n0_
                        have HB := n1_
                        clear n0_ n1_
                        refine start_ (n := 15) (S := fun w' => w'.cell? ⟨gb117, 0, none⟩ = some (.int .i64 a0_0) ∧ w'.cell? ⟨gb117, 1, none⟩ = some (.int .i64 a0_1) ∧ w'.cell? ⟨gb117, 2, none⟩ = some (.bool a0_2) ∧ w'.cell? ⟨gb117, 3, none⟩ = some (.bool a0_3) ∧ w'.cell? ⟨gb117, 4, none⟩ = some (.string a0_4)) (ds := []) #[false, false, false, false, false, false, false, false, false, false, false, false, false, false, false] (by kernel_rfl) rfl rfl ⟨(blk_cell BK117.out 0).trans rfl, (blk_cell BK117.out 1).trans rfl, (blk_cell BK117.out 2).trans rfl, (blk_cell BK117.out 3).trans rfl, (blk_cell BK117.out 4).trans rfl⟩ (fun hHeld => ?_); refine with_tabW cubbyref04_Encode.tab10 cubbyref04_Encode.bits10 (fun HT_ HW_ => ?_)
                        generalize wc.drew = w28 at BK117 HB hHeld ⊢
                        refine pure_ (i := 0) (N := some 37) (v := ?_) (a' := ?_) #[true, false, false, false, false, false, false, false, false, false, false, false, false, false, false] rfl rfl (any_of HT_.out (by kernel_rfl)) (fun _ _ _ h => h) (Or.inl ⟨by rfl, ?_⟩) ?_ ?_
                        rotate_left
                        · intro w'
                          go_simp
                          first | with_reducible rfl | (rw [if_neg (by (try simp only [ByteArray.size_extract, ByteArray.size_append] at *); (try simp only [eq_iff_iff, iff_true, iff_false] at *); omega)] <;> with_reducible rfl)
                        rotate_left
                        · simp only [Act.put, List.setIfInBounds_toArray, List.set_cons_zero, List.set_cons_succ, i64_w, i32_w]
                          rfl
                        refine pure_ (i := 3) (N := some 40) (v := ?_) (a' := ?_) #[true, false, false, true, false, false, false, false, false, false, false, false, false, false, false] rfl rfl (any_of HT_.out (by kernel_rfl)) (fun _ _ _ h => h) (Or.inl ⟨by rfl, ?_⟩) ?_ ?_
                        rotate_left
                        · intro w'
                          go_simp
                          first | with_reducible rfl | (rw [if_neg (by (try simp only [ByteArray.size_extract, ByteArray.size_append] at *); (try simp only [eq_iff_iff, iff_true, iff_false] at *); omega)] <;> with_reducible rfl)
                        rotate_left
                        · simp only [Act.put, List.setIfInBounds_toArray, List.set_cons_zero, List.set_cons_succ, i64_w, i32_w]
                          rfl
                        refine pure_ (i := 7) (N := some 44) (v := ?_) (a' := ?_) #[true, false, false, true, false, false, false, true, false, false, false, false, false, false, false] rfl rfl (any_of HT_.out (by kernel_rfl)) (fun _ _ _ h => h) (Or.inl ⟨by rfl, ?_⟩) ?_ ?_
                        rotate_left
                        · intro w'
                          go_simp
                          first | with_reducible rfl | (rw [if_neg (by (try simp only [ByteArray.size_extract, ByteArray.size_append] at *); (try simp only [eq_iff_iff, iff_true, iff_false] at *); omega)] <;> with_reducible rfl)
                        rotate_left
                        · simp only [Act.put, List.setIfInBounds_toArray, List.set_cons_zero, List.set_cons_succ, i64_w, i32_w]
                          rfl
                        refine pure_ (i := 10) (N := some 47) (v := ?_) (a' := ?_) #[true, false, false, true, false, false, false, true, false, false, true, false, false, false, false] rfl rfl (any_of HT_.out (by kernel_rfl)) (fun _ _ _ h => h) (Or.inl ⟨by rfl, ?_⟩) ?_ ?_
                        rotate_left
                        · intro w'
                          go_simp
                          first | with_reducible rfl | (rw [if_neg (by (try simp only [ByteArray.size_extract, ByteArray.size_append] at *); (try simp only [eq_iff_iff, iff_true, iff_false] at *); omega)] <;> with_reducible rfl)
                        rotate_left
                        · simp only [Act.put, List.setIfInBounds_toArray, List.set_cons_zero, List.set_cons_succ, i64_w, i32_w]
                          rfl
                        refine take_ (i := 1) (N := some 38) (v := ?_) (a' := ?_) #[true, true, false, true, false, false, false, true, false, false, true, false, false, false, false] rfl rfl (take_ofW HT_.out HW_.out (by kernel_rfl)) (fun _ _ _ h => h) (Or.inl ⟨by rfl, ?_⟩) hHeld ?_ ?_
                        rotate_left
                        · rintro w' ⟨s0, s1, s2, s3, s4⟩
                          go_simp
                          first | with_reducible rfl | (rw [if_neg (by (try simp only [ByteArray.size_extract, ByteArray.size_append] at *); (try simp only [eq_iff_iff, iff_true, iff_false] at *); omega)] <;> with_reducible rfl)
                        rotate_left
                        · simp only [Act.put, List.setIfInBounds_toArray, List.set_cons_zero, List.set_cons_succ, i64_w, i32_w]
                          rfl
                        refine take_ (i := 4) (N := some 41) (v := ?_) (a' := ?_) #[true, true, false, true, true, false, false, true, false, false, true, false, false, false, false] rfl rfl (take_ofW HT_.out HW_.out (by kernel_rfl)) (fun _ _ _ h => h) (Or.inl ⟨by rfl, ?_⟩) hHeld ?_ ?_
                        rotate_left
                        · rintro w' ⟨s0, s1, s2, s3, s4⟩
                          go_simp
                          first | with_reducible rfl | (rw [if_neg (by (try simp only [ByteArray.size_extract, ByteArray.size_append] at *); (try simp only [eq_iff_iff, iff_true, iff_false] at *); omega)] <;> with_reducible rfl)
                        rotate_left
                        · simp only [Act.put, List.setIfInBounds_toArray, List.set_cons_zero, List.set_cons_succ, i64_w, i32_w]
                          rfl
                        refine take_ (i := 11) (N := some 48) (v := ?_) (a' := ?_) #[true, true, false, true, true, false, false, true, false, false, true, true, false, false, false] rfl rfl (take_ofW HT_.out HW_.out (by kernel_rfl)) (fun _ _ _ h => h) (Or.inl ⟨by rfl, ?_⟩) hHeld ?_ ?_
                        rotate_left
                        · rintro w' ⟨s0, s1, s2, s3, s4⟩
                          go_simp
                          first | with_reducible rfl | (rw [if_neg (by (try simp only [ByteArray.size_extract, ByteArray.size_append] at *); (try simp only [eq_iff_iff, iff_true, iff_false] at *); omega)] <;> with_reducible rfl)
                        rotate_left
                        · simp only [Act.put, List.setIfInBounds_toArray, List.set_cons_zero, List.set_cons_succ, i64_w, i32_w]
                          rfl
                        refine one_ (i := 2) (N := some 39) #[true, true, true, true, true, false, false, true, false, false, true, true, false, false, false] rfl rfl (one_of HT_.out (by kernel_rfl)) (by decide) (fun K hK => ?_)
                        refine goes_ Try.func20 (by kernel_rfl) rfl #[.int .i64 a0_0] (by rfl) rfl rfl (by (try simp only [List.map_toArray, List.map_cons, List.map_nil]); first | done | rfl | (simp only [List.length_drop, List.length_take]; rfl)) ?_
                        with_reducible refine (cubbyref02_Code.calls kj16 a0_0 t118 _ A20.out).mono ?_
                        rintro e w29 ⟨rfl, hb⟩
                        refine ⟨_, rfl, ?_⟩
                        have n0_ := Aside0.mk (blk_below (g := gb117) (o := .cells #[.int .i64 a0_0, .int .i64 a0_1, .bool a0_2, .bool a0_3, .string a0_4] 29 (0, 0)) (by (with_reducible repeat (first | refine blk_drewN ?_ _ | refine blk_drew ?_ | refine blk_alloc ?_ _)); exact BK117.out) hb)
                        have n1_ := Aside0.mk (below_step (by repeat (first | (with_reducible first | exact HB.out | apply below_alloc | apply pw_below_drewN | apply below_drew1 | refine below_set ?_ GE117.out) | exact HB.out)) hb)
                        clear BK117
                        clear HB
                        have BK117 := n0_
                        have HB := n1_
                        clear n0_ n1_
                        (try clear hb)
                        (try clear hb2)
                        (try clear hk)
                        (try clear hi)
                        refine hK.out _ _ ⟨(blk_cell BK117.out 0).trans rfl, (blk_cell BK117.out 1).trans rfl, (blk_cell BK117.out 2).trans rfl, (blk_cell BK117.out 3).trans rfl, (blk_cell BK117.out 4).trans rfl⟩ (fun hHeld => ?_)
                        clear hK K
                        refine norm_ (a' := ?_) ?_ ?_
                        rotate_left
                        · show Act.put _ (some 39) _ = _
                          simp only [Act.put, List.setIfInBounds_toArray, List.set_cons_zero, List.set_cons_succ, i64_w, i32_w]
                          rfl
                        refine one_ (i := 5) (N := some 42) #[true, true, true, true, true, true, false, true, false, false, true, true, false, false, false] rfl rfl (one_of HT_.out (by kernel_rfl)) (by decide) (fun K hK => ?_)
                        refine goes_ Try.func20 (by kernel_rfl) rfl #[.int .i64 a0_1] (by rfl) rfl rfl (by (try simp only [List.map_toArray, List.map_cons, List.map_nil]); first | done | rfl | (simp only [List.length_drop, List.length_take]; rfl)) ?_
                        with_reducible refine (cubbyref02_Code.calls kj16 a0_1 t119 _ A21.out).mono ?_
                        rintro e w30 ⟨rfl, hb⟩
                        refine ⟨_, rfl, ?_⟩
                        have n0_ := Aside0.mk (blk_below (g := gb117) (o := .cells #[.int .i64 a0_0, .int .i64 a0_1, .bool a0_2, .bool a0_3, .string a0_4] 29 (0, 0)) (by (with_reducible repeat (first | refine blk_drewN ?_ _ | refine blk_drew ?_ | refine blk_alloc ?_ _)); exact BK117.out) hb)
                        have n1_ := Aside0.mk (below_step (by repeat (first | (with_reducible first | exact HB.out | apply below_alloc | apply pw_below_drewN | apply below_drew1 | refine below_set ?_ GE117.out) | exact HB.out)) hb)
                        clear BK117
                        clear HB
                        have BK117 := n0_
                        have HB := n1_
                        clear n0_ n1_
                        (try clear hb)
                        (try clear hb2)
                        (try clear hk)
                        (try clear hi)
                        refine hK.out _ _ ⟨(blk_cell BK117.out 0).trans rfl, (blk_cell BK117.out 1).trans rfl, (blk_cell BK117.out 2).trans rfl, (blk_cell BK117.out 3).trans rfl, (blk_cell BK117.out 4).trans rfl⟩ (fun hHeld => ?_)
                        clear hK K
                        refine norm_ (a' := ?_) ?_ ?_
                        rotate_left
                        · show Act.put _ (some 42) _ = _
                          simp only [Act.put, List.setIfInBounds_toArray, List.set_cons_zero, List.set_cons_succ, i64_w, i32_w]
                          rfl
                        refine pure_ (i := 6) (N := some 43) (v := ?_) (a' := ?_) #[true, true, true, true, true, true, true, true, false, false, true, true, false, false, false] rfl rfl (any_of HT_.out (by kernel_rfl)) (fun _ _ _ h => h) (Or.inl ⟨by rfl, ?_⟩) ?_ ?_
                        rotate_left
                        · intro w'
                          go_simp
                          first | with_reducible rfl | (rw [if_neg (by (try simp only [ByteArray.size_extract, ByteArray.size_append] at *); (try simp only [eq_iff_iff, iff_true, iff_false] at *); omega)] <;> with_reducible rfl)
                        rotate_left
                        · simp only [Act.put, List.setIfInBounds_toArray, List.set_cons_zero, List.set_cons_succ, i64_w, i32_w]
                          rfl
                        refine one_ (i := 8) (N := some 45) #[true, true, true, true, true, true, true, true, true, false, true, true, false, false, false] rfl rfl (one_of HT_.out (by kernel_rfl)) (by decide) (fun K hK => ?_)
                        refine goes_ Try.func20 (by kernel_rfl) rfl #[.int .i64 x4_16] (by rfl) rfl rfl (by (try simp only [List.map_toArray, List.map_cons, List.map_nil]); first | done | rfl | (simp only [List.length_drop, List.length_take]; rfl)) ?_
                        with_reducible refine (cubbyref02_Code.calls kj16 x4_16 t120 _ A23.out).mono ?_
                        rintro e w31 ⟨rfl, hb⟩
                        refine ⟨_, rfl, ?_⟩
                        have n0_ := Aside0.mk (blk_below (g := gb117) (o := .cells #[.int .i64 a0_0, .int .i64 a0_1, .bool a0_2, .bool a0_3, .string a0_4] 29 (0, 0)) (by (with_reducible repeat (first | refine blk_drewN ?_ _ | refine blk_drew ?_ | refine blk_alloc ?_ _)); exact BK117.out) hb)
                        have n1_ := Aside0.mk (below_step (by repeat (first | (with_reducible first | exact HB.out | apply below_alloc | apply pw_below_drewN | apply below_drew1 | refine below_set ?_ GE117.out) | exact HB.out)) hb)
                        clear BK117
                        clear HB
                        have BK117 := n0_
                        have HB := n1_
                        clear n0_ n1_
                        (try clear hb)
                        (try clear hb2)
                        (try clear hk)
                        (try clear hi)
                        refine hK.out _ _ ⟨(blk_cell BK117.out 0).trans rfl, (blk_cell BK117.out 1).trans rfl, (blk_cell BK117.out 2).trans rfl, (blk_cell BK117.out 3).trans rfl, (blk_cell BK117.out 4).trans rfl⟩ (fun hHeld => ?_)
                        clear hK K
                        refine norm_ (a' := ?_) ?_ ?_
                        rotate_left
                        · show Act.put _ (some 45) _ = _
                          simp only [Act.put, List.setIfInBounds_toArray, List.set_cons_zero, List.set_cons_succ, i64_w, i32_w]
                          rfl
                        refine pure_ (i := 9) (N := some 46) (v := ?_) (a' := ?_) #[true, true, true, true, true, true, true, true, true, true, true, true, false, false, false] rfl rfl (any_of HT_.out (by kernel_rfl)) (fun _ _ _ h => h) (Or.inl ⟨by rfl, ?_⟩) ?_ ?_
                        rotate_left
                        · intro w'
                          go_simp
                          first | with_reducible rfl | (rw [if_neg (by (try simp only [ByteArray.size_extract, ByteArray.size_append] at *); (try simp only [eq_iff_iff, iff_true, iff_false] at *); omega)] <;> with_reducible rfl)
                        rotate_left
                        · simp only [Act.put, List.setIfInBounds_toArray, List.set_cons_zero, List.set_cons_succ, i64_w, i32_w]
                          rfl
                        refine one_ (i := 12) (N := some 49) #[true, true, true, true, true, true, true, true, true, true, true, true, true, false, false] rfl rfl (one_of HT_.out (by kernel_rfl)) (by decide) (fun K hK => ?_)
                        refine goes_ Try.func21 (by kernel_rfl) rfl #[.string a0_4] (by rfl) rfl rfl (by (try simp only [List.map_toArray, List.map_cons, List.map_nil]); first | done | rfl | (simp only [List.length_drop, List.length_take]; rfl)) ?_
                        with_reducible refine (cubbyref02_Texted.calls kj16 a0_4 t121 _ A25.out).mono ?_
                        rintro e w32 ⟨rfl, hb⟩
                        refine ⟨_, rfl, ?_⟩
                        have n0_ := Aside0.mk (blk_below (g := gb117) (o := .cells #[.int .i64 a0_0, .int .i64 a0_1, .bool a0_2, .bool a0_3, .string a0_4] 29 (0, 0)) (by (with_reducible repeat (first | refine blk_drewN ?_ _ | refine blk_drew ?_ | refine blk_alloc ?_ _)); exact BK117.out) hb)
                        have n1_ := Aside0.mk (below_step (by repeat (first | (with_reducible first | exact HB.out | apply below_alloc | apply pw_below_drewN | apply below_drew1 | refine below_set ?_ GE117.out) | exact HB.out)) hb)
                        clear BK117
                        clear HB
                        have BK117 := n0_
                        have HB := n1_
                        clear n0_ n1_
                        (try clear hb)
                        (try clear hb2)
                        (try clear hk)
                        (try clear hi)
                        refine hK.out _ _ ⟨(blk_cell BK117.out 0).trans rfl, (blk_cell BK117.out 1).trans rfl, (blk_cell BK117.out 2).trans rfl, (blk_cell BK117.out 3).trans rfl, (blk_cell BK117.out 4).trans rfl⟩ (fun hHeld => ?_)
                        clear hK K
                        refine norm_ (a' := ?_) ?_ ?_
                        rotate_left
                        · show Act.put _ (some 49) _ = _
                          simp only [Act.put, List.setIfInBounds_toArray, List.set_cons_zero, List.set_cons_succ, i64_w, i32_w]
                          rfl
                        refine pure_ (i := 13) (N := some 50) (v := ?_) (a' := ?_) #[true, true, true, true, true, true, true, true, true, true, true, true, true, true, false] rfl rfl (any_of HT_.out (by kernel_rfl)) (fun _ _ _ h => h) (Or.inl ⟨by rfl, ?_⟩) ?_ ?_
                        rotate_left
                        · intro w'
                          go_simp
                          first | with_reducible rfl | (rw [if_neg (by (try simp only [ByteArray.size_extract, ByteArray.size_append] at *); (try simp only [eq_iff_iff, iff_true, iff_false] at *); omega)] <;> with_reducible rfl)
                        rotate_left
                        · simp only [Act.put, List.setIfInBounds_toArray, List.set_cons_zero, List.set_cons_succ, i64_w, i32_w]
                          rfl
                        refine pure_ (i := 14) (N := some 5) (v := ?_) (a' := ?_) #[true, true, true, true, true, true, true, true, true, true, true, true, true, true, true] rfl rfl (any_of HT_.out (by kernel_rfl)) (fun _ _ _ h => h) (Or.inl ⟨by rfl, ?_⟩) ?_ ?_
                        rotate_left
                        · intro w'
                          go_simp
                          first | with_reducible rfl | (rw [if_neg (by (try simp only [ByteArray.size_extract, ByteArray.size_append] at *); (try simp only [eq_iff_iff, iff_true, iff_false] at *); omega)] <;> with_reducible rfl)
                        rotate_left
                        · simp only [Act.put, List.setIfInBounds_toArray, List.set_cons_zero, List.set_cons_succ, i64_w, i32_w]
                          rfl
                        refine done_ (done_of HT_.out (by kernel_rfl)) ?_
                        try go_wp2_with (first | ((with_reducible refine gate_callee (f := 22) rfl ?_); refine goesL_ (some 52) rfl rfl Try.func22 (by kernel_rfl) rfl #[.string (((t118 ++ t119) ++ t120) ++ t121)] rfl (by (try simp only [List.map_toArray, List.map_cons, List.map_nil]); first | done | rfl | (simp only [List.length_drop, List.length_take]; rfl)) ?_; (with_reducible refine (cubbyref01_Crc.calls kj16 (((t118 ++ t119) ++ t120) ++ t121) t122 _ A27.out).mono ?_); rintro e w' ⟨rfl, ⟨nd, rfl⟩⟩; refine ⟨_, rfl, ?_⟩) | ((with_reducible refine gate_dst (N := 53) rfl ?_); refine Kd.R_lit (Kd.int .u8) _ 5 ?hg (N := 53) ?hd (xs := ([] : List Int)) (inner := []) (ok := fun _ => True) (okp := fun _ => True) ?hr ?hp (fun _ hk => hk) trivial (Below.refl _ _) (Nat.le_refl _) (by simp) ?_; (case hd => rfl); (case hg => rfl); (case hr => first | (go_simp; done) | (go_simp; rfl)); (case hp => exact (Reps.none _ _)); intro v124 w33 ho34 hb hg_ hnew_; clear hg_ hnew_; (first | rw [← Ny123.out] at ho34 | (simp only [Int.reduceToNat] at ho34; rw [← Ny123.out] at ho34)); have n0_ := Aside0.mk (Kd.R_lower ho34 (below_size (by repeat (first | (with_reducible first | exact HB.out | apply below_alloc | apply pw_below_drewN | apply below_drew1 | refine below_set ?_ GE117.out) | exact HB.out)))); have n1_ := Aside0.mk (blk_below (g := gb117) (o := .cells #[.int .i64 a0_0, .int .i64 a0_1, .bool a0_2, .bool a0_3, .string a0_4] 29 (0, 0)) (by (with_reducible repeat (first | refine blk_drewN ?_ _ | refine blk_drew ?_ | refine blk_alloc ?_ _)); exact BK117.out) hb); have n2_ := Aside0.mk (below_step (by repeat (first | (with_reducible first | exact HB.out | apply below_alloc | apply pw_below_drewN | apply below_drew1 | refine below_set ?_ GE117.out) | exact HB.out)) hb); clear BK117; clear HB; have HO125 := n0_; have BK117 := n1_; have HB := n2_; clear n0_ n1_ n2_; clear hb ho34))
                        go_loopg [6, 7, 8] kj16 (fun kq v6 v7 v8 w' => ∃ (x6_4 : Int) (x7_4 : List Int) (x8_4 : Int), v6 = .int .u32 x6_4 ∧ v8 = .int .i64 x8_4 ∧ Aside0 (cubbyref04_Encode.l0 kq (((t118 ++ t119) ++ t120) ++ t121) x6_4 x7_4 x8_4 = some (r1, r2)) ∧ Aside0 (kq ≤ kj16) ∧ Aside0 (Kd.R (Kd.int .u8) 5 w' w.heap.size (fun _ => True) v7 x7_4) ∧ Aside0 (w'.heap[gb117]? = some (.cells #[.int .i64 a0_0, .int .i64 a0_1, .bool a0_2, .bool a0_3, .string a0_4] 29 (0, 0))) ∧ Aside0 (Below w.heap.size w w'))
                        case atStart => exact ⟨(t122), (y123), (0), (by first | rfl | (simp; done) | (simp [*]; done)), (by first | rfl | (simp; done) | (simp [*]; done)), H', ⟨Nat.le_refl _⟩, ⟨by (with_reducible repeat (first | apply Kd.R_alloc | apply Kd.R_drewN | apply Kd.R_drew)); exact HO125.out⟩, ⟨by (with_reducible repeat (first | refine blk_drewN ?_ _ | refine blk_drew ?_ | refine blk_alloc ?_ _)); exact BK117.out⟩, ⟨by repeat (first | (with_reducible first | exact HB.out | apply below_alloc | apply pw_below_drewN | apply below_drew1 | refine below_set ?_ GE117.out) | exact HB.out)⟩⟩
                        case round =>
                          clear H'
                          try clear c1
                          try clear c2
                          try clear p2
                          try clear c4
                          try clear c4b0
                          try clear c6
                          try clear c6b0
                          try clear p6
                          try clear c8
                          try clear c8b0
                          try clear c11
                          try clear c12
                          try clear c12b0
                          try clear c12b1
                          try clear c16
                          try clear c19
                          try clear c20
                          try clear c21
                          try clear c22
                          try clear c22b0
                          try clear c22b1
                          try clear c22b2
                          try clear c24
                          try clear c24b0
                          try clear c24b1
                          try clear c24b2
                          try clear c26
                          try clear c26b0
                          try clear c26b1
                          try clear c26b2
                          try clear hcz10_0
                          try clear hcz10_1
                          try clear hcz10_2
                          try clear hcz10_3
                          try clear hcz10_4
                          try clear hcz13_0
                          try clear hcz13_1
                          try clear hcz13_2
                          try clear hcz13_3
                          try clear hcz13_4
                          try clear hcz15_0
                          try clear hcz15_1
                          try clear hcz15_2
                          try clear hcz15_3
                          try clear hcz15_4
                          try clear hcz18_0
                          try clear hcz18_1
                          try clear hcz18_2
                          try clear hcz18_3
                          try clear hcz18_4
                          try clear hcz5_0
                          try clear hcz5_1
                          try clear hcz5_2
                          try clear hcz5_3
                          try clear hcz5_4
                          try clear hcz7_0
                          try clear hcz7_1
                          try clear hcz7_2
                          try clear hcz7_3
                          try clear hcz7_4
                          try clear hcz9_0
                          try clear hcz9_1
                          try clear hcz9_2
                          try clear hcz9_3
                          try clear hcz9_4
                          try clear hfz10_0
                          try clear hfz10_1
                          try clear hfz10_2
                          try clear hfz10_3
                          try clear hfz10_4
                          try clear hfz13_0
                          try clear hfz13_1
                          try clear hfz13_2
                          try clear hfz13_3
                          try clear hfz13_4
                          try clear hfz15_0
                          try clear hfz15_1
                          try clear hfz15_2
                          try clear hfz15_3
                          try clear hfz15_4
                          try clear hfz18_0
                          try clear hfz18_1
                          try clear hfz18_2
                          try clear hfz18_3
                          try clear hfz18_4
                          try clear hfz5_0
                          try clear hfz5_1
                          try clear hfz5_2
                          try clear hfz5_3
                          try clear hfz5_4
                          try clear hfz7_0
                          try clear hfz7_1
                          try clear hfz7_2
                          try clear hfz7_3
                          try clear hfz7_4
                          try clear hfz9_0
                          try clear hfz9_1
                          try clear hfz9_2
                          try clear hfz9_3
                          try clear hfz9_4
                          try clear p2
                          try clear p6
                          obtain ⟨x6_4, x7_4, x8_4, rfl, rfl, HA, HK4, HO_7, BK117, HB⟩ := hrel
                          cases gk with
                          | zero => exact absurd HA.out (by simp [cubbyref04_Encode.l0])
                          | succ k4 =>
                            have H := HA.out
                            clear HA
                            simp only [cubbyref04_Encode.l0] at H
                            by_cases c35 : x8_4 < 4
                            · rw [if_pos c35] at H
                              have c35b0 : decide (x8_4 < 4) = true := decide_eq_true c35
                              clear c35
                              by_cases c36 : x7_4.length < 140737488355328
                              · rw [if_pos c36] at H
                                have LMc36 := Aside0.mk c36
                                clear c36
                                obtain ⟨y126, hy126⟩ : ∃ y_ : List Int, y_ = (x7_4 ++ [(Int.tmod x6_4 256) % 256]) := ⟨_, rfl⟩
                                replace H : (cubbyref04_Encode.l0 k4 (((t118 ++ t119) ++ t120) ++ t121) ((Int.tdiv x6_4 256) % 4294967296) y126 (wrap64 (x8_4 + 1))) = some (r1, r2) := by first | (rw [hy126]; with_reducible exact H) | (have H2_ := (Option.bind_some _ _).symm.trans H; rw [hy126]; with_reducible exact H2_) | (have H2_ := (Option.bind_some _ _).symm.trans H; with_reducible exact H2_) | with_reducible exact H | (rw [hy126]; exact H) | exact H
                                have Ny126 := Aside0.mk hy126
                                clear hy126
                                have H' := Aside0.mk H
                                clear H
                                go_wp2_with (first | ((with_reducible refine gate_builtin (b := .append) (xs := #[.tmp 58, .tmp 62]) rfl ?_); at_builtin; refine Kd.R_append (Kd.int .u8) (w0 := w) w.heap.size rfl (.tmp 58) (.tmp 62) 35 5 (.int .u8 0) 1 rfl Try.underlying35 info5 rfl (by decide) (by omega) u7 x7_4 ((Int.tmod x6_4 256) % 256) [.int .u8 ((Int.tmod x6_4 256) % 256)] (fun _ => True) (fun _ => False) rfl rfl ?aP (fun _ hk => hk.elim) ?aF ?aO ?aB ?aS ?aL ?_; (case aP => exact rfl); (case aB => exact (by repeat (first | (with_reducible first | exact HB.out | apply below_alloc | apply pw_below_drewN | apply below_drew1 | refine below_set ?_ GE117.out) | exact HB.out))); (case aF => exact (fun _ _ => trivial)); (case aO => exact (by (with_reducible repeat (first | apply Kd.R_alloc | apply Kd.R_drewN | apply Kd.R_drew)); exact HO_7.out)); (case aS => exact (below_size (by repeat (first | (with_reducible first | exact HB.out | apply below_alloc | apply pw_below_drewN | apply below_drew1 | refine below_set ?_ GE117.out) | exact HB.out)))); (case aL => have := LMc36.out; omega); intro v127 w37 ho hb hg hat; rw [← Ny126.out] at ho; have n0_ := Aside0.mk (blk_grown (g := gb117) (o := .cells #[.int .i64 a0_0, .int .i64 a0_1, .bool a0_2, .bool a0_3, .string a0_4] 29 (0, 0)) (by (with_reducible repeat (first | refine blk_drewN ?_ _ | refine blk_drew ?_ | refine blk_alloc ?_ _)); exact BK117.out) hg (Kd.R_ne HO_7.out BK117.out (by decide))); have n1_ := Aside0.mk (hb); have n2_ := Aside0.mk (ho); clear BK117; clear HB; clear HO_7; have BK117 := n0_; have HB := n1_; have HO128 := n2_; clear n0_ n1_ n2_; clear ho hb hg hat))
                                go_roundg k4
                                case measure => have := HJ1.out; have := HJ13.out; have := HJ16.out; have := HK4.out; omega
                                case rel => exact ⟨((Int.tdiv x6_4 256) % 4294967296), (y126), (wrap64 (x8_4 + 1)), (by first | rfl | (simp; done) | (simp [*]; done)), (by first | rfl | (simp; done) | (simp [*]; done)), H', ⟨by have := HJ1.out; have := HJ13.out; have := HJ16.out; have := HK4.out; omega⟩, ⟨by (with_reducible repeat (first | apply Kd.R_alloc | apply Kd.R_drewN | apply Kd.R_drew)); exact HO128.out⟩, ⟨by (with_reducible repeat (first | refine blk_drewN ?_ _ | refine blk_drew ?_ | refine blk_alloc ?_ _)); exact BK117.out⟩, ⟨by repeat (first | (with_reducible first | exact HB.out | apply below_alloc | apply pw_below_drewN | apply below_drew1 | refine below_set ?_ GE117.out) | exact HB.out)⟩⟩
                              · rw [if_neg c36] at H
                                exact absurd H (by simp)
                            · rw [if_neg c35] at H
                              have c35b0 : decide (x8_4 < 4) = false := decide_eq_false c35
                              clear c35
                              by_cases c38 : (((t118 ++ t119) ++ t120) ++ t121).size + (strOfNums x7_4).size ≤ 9223372036854775807
                              · rw [if_pos c38] at H
                                have c38b0 := eq_true c38
                                have c38b1 : decide ((((t118 ++ t119) ++ t120) ++ t121).size + (strOfNums x7_4).size ≤ 9223372036854775807) = true := decide_eq_true c38
                                try have c38b2 : (9223372036854775807 < (((t118 ++ t119) ++ t120) ++ t121).size + (strOfNums x7_4).size) = False := eq_false (Nat.not_lt.2 c38)
                                try (have c38b3 := c38; simp only [ByteArray.size_append] at c38b3; have c38b4 := eq_false (Nat.not_lt.2 c38b3))
                                simp only [Option.some.injEq, Prod.mk.injEq] at H
                                obtain ⟨rfl, rfl⟩ := H
                                have hcv39 := own_string (P := Try.prog) Try.underlying35 Try.underlying5 Try.underlying9 (Kd.own_of_R HO_7.out)
                                go_wp2
                                go_ret2
                                exact ⟨by first | rfl | (simp [errW_none, errW_some] <;> rfl) | (simp [*, errW_none, errW_some] <;> rfl), by repeat (first | (with_reducible first | exact HB.out | apply below_alloc | apply pw_below_drewN | apply below_drew1 | refine below_set ?_ GE117.out) | exact HB.out)⟩
                              · rw [if_neg c38] at H
                                exact absurd H (by simp)
                      · rw [if_neg c26] at H
                        exact absurd H (by simp)
                    · rw [if_neg c24] at H
                      exact absurd H (by simp)
                  · rw [if_neg c22] at H
                    exact absurd H (by simp)

end Go.Proofs.Ytndmfbaffkekgaa.PChunkSpoilt
