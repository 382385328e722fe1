-- By a program of this session (wip/tools/mkprint.py), for this claim.
import Derived.Test.YtndmfbaffkekgaaPChunkSpoiltx0
import Derived.Test.YtndmfbaffkekgaaPChunkSpoiltx1
import Derived.Test.YtndmfbaffkekgaaPChunkSpoiltx2
import Derived.Test.YtndmfbaffkekgaaPChunkSpoiltx4
import Derived.Test.YtndmfbaffkekgaaPChunkSpoiltx6
namespace Go.Proofs.Ytndmfbaffkekgaa.PChunkSpoilt
open Go.RowKit Go.Proofs.YtndmfbaffkekgaaW.PrintWords Go.Proofs.YtndmfbaffkekgaaW.PrintLast Go.Proofs.YtndmfbaffkekgaaW.PrintMore
attribute [local go_sem] max2_int min2_int max_two min_two max_three min_three max_four min_four   -- for this text's walks alone
set_option linter.unusedVariables false
set_option linter.unusedSimpArgs false

attribute [local go_sem high] eqA29
theorem str_of_toList {a b : ByteArray} (h : a.toList = b.toList) : a = b := by
  rw [ByteArray.toList_eq, ByteArray.toList_eq] at h
  exact ByteArray.ext (Array.toList_inj.1 h)
/-! ### cubbylaw04_ChunkSpoilt: function 8 -/
def cubbylaw04_ChunkSpoilt.j0 : Nat → Int → Int → Int → Int → Bool → Bool → ByteArray → Option (Bool)
  | 0, _, _, _, _, _, _, _ => none
  | k + 1, x1, x2, x131000, x131001, x131002, x131003, x131004 => (chunk_Encode.f k x131000 x131001 x131002 x131003 x131004).bind fun bt131 => ((cubbyref04_Encode.f k x131000 x131001 x131002 x131003 x131004).bind fun bt133 => (if bt131.2 = bt133.2 then (if bt131.2 = 0 then (if (bt131.1.size : Int) = 0 then (some (bt131.2 == 1)) else (if 0 ≤ (Int.tmod (wrap64 ((Int.tmod x1 (bt131.1.size : Int)) + (bt131.1.size : Int))) (bt131.1.size : Int)) then (if (Int.tmod (wrap64 ((Int.tmod x1 (bt131.1.size : Int)) + (bt131.1.size : Int))) (bt131.1.size : Int)) ≤ (bt131.1.size : Int) then ((some (([x2] : List Int) : List Int)).bind fun y135 => (if (bt131.1.extract 0 ((Int.tmod (wrap64 ((Int.tmod x1 (bt131.1.size : Int)) + (bt131.1.size : Int))) (bt131.1.size : Int)) : Int).toNat).size + (strOfNums y135).size ≤ 9223372036854775807 then (if 0 ≤ (wrap64 ((Int.tmod (wrap64 ((Int.tmod x1 (bt131.1.size : Int)) + (bt131.1.size : Int))) (bt131.1.size : Int)) + 1)) then (if (wrap64 ((Int.tmod (wrap64 ((Int.tmod x1 (bt131.1.size : Int)) + (bt131.1.size : Int))) (bt131.1.size : Int)) + 1)) ≤ (bt131.1.size : Int) then (if ((bt131.1.extract 0 ((Int.tmod (wrap64 ((Int.tmod x1 (bt131.1.size : Int)) + (bt131.1.size : Int))) (bt131.1.size : Int)) : Int).toNat) ++ (strOfNums y135)).size + (bt131.1.extract ((wrap64 ((Int.tmod (wrap64 ((Int.tmod x1 (bt131.1.size : Int)) + (bt131.1.size : Int))) (bt131.1.size : Int)) + 1)) : Int).toNat bt131.1.size).size ≤ 9223372036854775807 then ((chunk_Decode.f k (((bt131.1.extract 0 ((Int.tmod (wrap64 ((Int.tmod x1 (bt131.1.size : Int)) + (bt131.1.size : Int))) (bt131.1.size : Int)) : Int).toNat) ++ (strOfNums y135)) ++ (bt131.1.extract ((wrap64 ((Int.tmod (wrap64 ((Int.tmod x1 (bt131.1.size : Int)) + (bt131.1.size : Int))) (bt131.1.size : Int)) + 1)) : Int).toNat bt131.1.size))).bind fun bt138 => (if (Int.tmod (wrap64 ((Int.tmod x1 (bt131.1.size : Int)) + (bt131.1.size : Int))) (bt131.1.size : Int)) < (bt131.1.size : Int) then (if ((bt138.2.2.2.2.2 == 0) == ((bt bt131.1 (Int.tmod (wrap64 ((Int.tmod x1 (bt131.1.size : Int)) + (bt131.1.size : Int))) (bt131.1.size : Int))) == x2)) = true then (if (bt138.1 == x131000 && (bt138.2.1 == x131001 && (bt138.2.2.1 == x131002 && (bt138.2.2.2.1 == x131003 && (bt138.2.2.2.2.1.toList == x131004.toList))))) = true then (some ((bt138.2.2.2.2.2 == 0) == ((((bt131.1.extract 0 ((Int.tmod (wrap64 ((Int.tmod x1 (bt131.1.size : Int)) + (bt131.1.size : Int))) (bt131.1.size : Int)) : Int).toNat) ++ (strOfNums y135)) ++ (bt131.1.extract ((wrap64 ((Int.tmod (wrap64 ((Int.tmod x1 (bt131.1.size : Int)) + (bt131.1.size : Int))) (bt131.1.size : Int)) + 1)) : Int).toNat bt131.1.size)).toList == bt131.1.toList))) else (some ((bt138.2.2.2.2.2 == 0) == false))) else (some false)) else (none))) else (none)) else (none)) else (none)) else (none))) else (none)) else (none))) else (some (bt131.2 == 1))) else (some false)))
def cubbylaw04_ChunkSpoilt.f (k : Nat) (a0_0 : Int) (a0_1 : Int) (a0_2 : Bool) (a0_3 : Bool) (a0_4 : ByteArray) (a1 : Int) (a2 : Int) : Option (Bool) := if (a0_4.size : Int) > 96 then (if 0 ≤ 96 then (if 96 ≤ (a0_4.size : Int) then (cubbylaw04_ChunkSpoilt.j0 k a1 a2 a0_0 a0_1 a0_2 a0_3 (a0_4.extract 0 96)) else (none)) else (none)) else (cubbylaw04_ChunkSpoilt.j0 k a1 a2 a0_0 a0_1 a0_2 a0_3 a0_4)
theorem cubbylaw04_ChunkSpoilt.mono_l : ∀ k, (∀ y0 y1 y2 y3 y4 y5 y6, LeO (cubbylaw04_ChunkSpoilt.j0 k y0 y1 y2 y3 y4 y5 y6) (cubbylaw04_ChunkSpoilt.j0 (k + 1) y0 y1 y2 y3 y4 y5 y6))
  | 0 => fun _ _ _ _ _ _ _ r h => by simp [cubbylaw04_ChunkSpoilt.j0] at h
  | k + 1 => by
    have ih0 := cubbylaw04_ChunkSpoilt.mono_l k
    · intro y0 y1 y2 y3 y4 y5 y6
      unfold cubbylaw04_ChunkSpoilt.j0
      repeat' first
      | (with_reducible exact ih0 _ _ _ _ _ _ _)
      | (with_reducible exact chunk_Decode.mono _ _)
      | (with_reducible exact chunk_Encode.mono _ _ _ _ _ _)
      | (with_reducible exact cubbyref04_Encode.mono _ _ _ _ _ _)
      | (with_reducible exact LeO.refl _)
      | (with_reducible exact LeO.none _)
      | (with_reducible refine LeO.ite ?_ ?_)
      | (with_reducible refine LeO.bind ?_ (fun _ => ?_))
      | exact ih0 _ _ _ _ _ _ _
      | exact chunk_Decode.mono _ _
      | exact chunk_Encode.mono _ _ _ _ _ _
      | exact cubbyref04_Encode.mono _ _ _ _ _ _
      | exact LeO.none _
      | refine LeO.ite ?_ ?_
      | refine LeO.bind ?_ (fun _ => ?_)
theorem cubbylaw04_ChunkSpoilt.mono : ∀ a0 a1 a2 a3 a4 a5 a6 k, LeO (cubbylaw04_ChunkSpoilt.f k a0 a1 a2 a3 a4 a5 a6) (cubbylaw04_ChunkSpoilt.f (k + 1) a0 a1 a2 a3 a4 a5 a6) := by
  intro a0 a1 a2 a3 a4 a5 a6 k
  have ih0 := cubbylaw04_ChunkSpoilt.mono_l k
  unfold cubbylaw04_ChunkSpoilt.f
  repeat' first
      | (with_reducible exact ih0 _ _ _ _ _ _ _)
      | (with_reducible exact chunk_Decode.mono _ _)
      | (with_reducible exact chunk_Encode.mono _ _ _ _ _ _)
      | (with_reducible exact cubbyref04_Encode.mono _ _ _ _ _ _)
      | (with_reducible exact LeO.refl _)
      | (with_reducible exact LeO.none _)
      | (with_reducible refine LeO.ite ?_ ?_)
      | (with_reducible refine LeO.bind ?_ (fun _ => ?_))
      | exact ih0 _ _ _ _ _ _ _
      | exact chunk_Decode.mono _ _
      | exact chunk_Encode.mono _ _ _ _ _ _
      | exact cubbyref04_Encode.mono _ _ _ _ _ _
      | exact LeO.none _
      | refine LeO.ite ?_ ?_
      | refine LeO.bind ?_ (fun _ => ?_)
def cubbylaw04_ChunkSpoilt.T10 : Bool × List (List Nat × List Nat) := (true, [([], []), ([], []), ([0, 1], [0, 1]), ([], []), ([3], [3]), ([4], [4]), ([2, 5], [2, 5]), ([], []), ([], []), ([8], [8]), ([7, 9], [7, 9]), ([6, 10], [6, 10]), ([11, 0, 1, 2, 3, 4, 5, 6, 7, 8, 9, 10, 11], [11])])
def cubbylaw04_ChunkSpoilt.B10 : List Nat := [0, 0, 3, 0, 8, 24, 63, 0, 0, 256, 896, 2047, 4095]
theorem cubbylaw04_ChunkSpoilt.tab10 : rtab .any (opsOf Try.f8 10) = cubbylaw04_ChunkSpoilt.T10 := by kernel_rfl
theorem cubbylaw04_ChunkSpoilt.bits10 : waitsOk cubbylaw04_ChunkSpoilt.T10.2 cubbylaw04_ChunkSpoilt.B10 = true := by kernel_rfl
set_option maxHeartbeats 8000000 in
set_option maxRecDepth 100000 in
theorem cubbylaw04_ChunkSpoilt.calls (k : Nat) (a0_0 : Int) (a0_1 : Int) (a0_2 : Bool) (a0_3 : Bool) (a0_4 : ByteArray) (a1 : Int) (a2 : Int) (r : Bool) (w : World) (h : cubbylaw04_ChunkSpoilt.f k a0_0 a0_1 a0_2 a0_3 a0_4 a1 a2 = some r) :
    Calls Try.prog 8 #[.agg #[.int .i64 a0_0, .int .i64 a0_1, .bool a0_2, .bool a0_3, .string a0_4], .int .i64 a1, .int .u8 a2] w fun e w' => e = .returned (.bool r) ∧ Below w.heap.size w w' := by
  have hu29 := Try.underlying29
  have HB := Aside0.mk (Below.refl w.heap.size w)
  have H : (if (a0_4.size : Int) > 96 then (if 0 ≤ 96 then (if 96 ≤ (a0_4.size : Int) then (cubbylaw04_ChunkSpoilt.j0 k a1 a2 a0_0 a0_1 a0_2 a0_3 (a0_4.extract 0 96)) else (none)) else (none)) else (cubbylaw04_ChunkSpoilt.j0 k a1 a2 a0_0 a0_1 a0_2 a0_3 a0_4)) = some r := h
  clear h
  have HC4 := Aside0.mk H
  clear H
  go_enter Try.func8, Try.ntmps8
  go_upto_if 18 with (first | ((with_reducible refine gate_dst (N := 3) rfl ?_); (try (refine gate_guard (by rfl) ?_; dsimp only)); refine box_event ?hg (N := 3) ?hd (cs := #[.int .i64 a0_0, .int .i64 a0_1, .bool a0_2, .bool a0_3, .string a0_4]) (t := 29) ?hr ?_; (case hd => rfl); (case hg => rfl); (case hr => first | (go_simp; done) | (go_simp; rfl)); intro gb130 hg w5 hbox hb; have n0_ := Aside0.mk (below_step (by repeat (first | (with_reducible first | exact HB.out | apply below_alloc | apply pw_below_drewN | apply below_drew1) | exact HB.out)) hb); have n1_ := Aside0.mk (hbox); have n2_ := Aside0.mk ((by rw [hg]; exact (below_size (by repeat (first | (with_reducible first | exact HB.out | apply below_alloc | apply pw_below_drewN | apply below_drew1) | exact HB.out))) : w.heap.size ≤ gb130)); have n3_ := Aside0.mk ((by rw [hg]; exact (below_size (by repeat (first | (with_reducible first | exact HB.out | apply below_alloc | apply pw_below_drewN | apply below_drew1) | exact HB.out))) : w.heap.size ≤ gb130)); clear HB; have HB := n0_; have BK130 := n1_; have GW130 := n2_; have GE130 := n3_; clear n0_ n1_ n2_ n3_; clear hb hbox hg; have hcz6_0 : w5.cell? ⟨gb130, 0, none⟩ = some (.int .i64 a0_0) := (blk_cell BK130.out 0).trans rfl; have hcz6_1 : w5.cell? ⟨gb130, 1, none⟩ = some (.int .i64 a0_1) := (blk_cell BK130.out 1).trans rfl; have hcz6_2 : w5.cell? ⟨gb130, 2, none⟩ = some (.bool a0_2) := (blk_cell BK130.out 2).trans rfl; have hcz6_3 : w5.cell? ⟨gb130, 3, none⟩ = some (.bool a0_3) := (blk_cell BK130.out 3).trans rfl; have hcz6_4 : w5.cell? ⟨gb130, 4, none⟩ = some (.string a0_4) := (blk_cell BK130.out 4).trans rfl; have hfz6_0 := blk_frozen BK130.out 0; have hfz6_1 := blk_frozen BK130.out 1; have hfz6_2 := blk_frozen BK130.out 2; have hfz6_3 := blk_frozen BK130.out 3; have hfz6_4 := blk_frozen BK130.out 4; have hdz6_0 : ∀ y0_ y1_ y2_ y3_ y4_ : Value, ((((((w5.setCell ⟨gb130, 0, none⟩ y0_).setCell ⟨gb130, 1, none⟩ y1_).setCell ⟨gb130, 2, none⟩ y2_).setCell ⟨gb130, 3, none⟩ y3_).setCell ⟨gb130, 4, none⟩ y4_)).cell? ⟨gb130, 0, none⟩ = some y0_ := fun y0_ y1_ y2_ y3_ y4_ => (blk_cell ((blk_put (blk_put (blk_put (blk_put (blk_put BK130.out 0 y0_ rfl) 1 y1_ rfl) 2 y2_ rfl) 3 y3_ rfl) 4 y4_ rfl)) 0).trans rfl; have hdz6_1 : ∀ y0_ y1_ y2_ y3_ y4_ : Value, ((((((w5.setCell ⟨gb130, 0, none⟩ y0_).setCell ⟨gb130, 1, none⟩ y1_).setCell ⟨gb130, 2, none⟩ y2_).setCell ⟨gb130, 3, none⟩ y3_).setCell ⟨gb130, 4, none⟩ y4_)).cell? ⟨gb130, 1, none⟩ = some y1_ := fun y0_ y1_ y2_ y3_ y4_ => (blk_cell ((blk_put (blk_put (blk_put (blk_put (blk_put BK130.out 0 y0_ rfl) 1 y1_ rfl) 2 y2_ rfl) 3 y3_ rfl) 4 y4_ rfl)) 1).trans rfl; have hdz6_2 : ∀ y0_ y1_ y2_ y3_ y4_ : Value, ((((((w5.setCell ⟨gb130, 0, none⟩ y0_).setCell ⟨gb130, 1, none⟩ y1_).setCell ⟨gb130, 2, none⟩ y2_).setCell ⟨gb130, 3, none⟩ y3_).setCell ⟨gb130, 4, none⟩ y4_)).cell? ⟨gb130, 2, none⟩ = some y2_ := fun y0_ y1_ y2_ y3_ y4_ => (blk_cell ((blk_put (blk_put (blk_put (blk_put (blk_put BK130.out 0 y0_ rfl) 1 y1_ rfl) 2 y2_ rfl) 3 y3_ rfl) 4 y4_ rfl)) 2).trans rfl; have hdz6_3 : ∀ y0_ y1_ y2_ y3_ y4_ : Value, ((((((w5.setCell ⟨gb130, 0, none⟩ y0_).setCell ⟨gb130, 1, none⟩ y1_).setCell ⟨gb130, 2, none⟩ y2_).setCell ⟨gb130, 3, none⟩ y3_).setCell ⟨gb130, 4, none⟩ y4_)).cell? ⟨gb130, 3, none⟩ = some y3_ := fun y0_ y1_ y2_ y3_ y4_ => (blk_cell ((blk_put (blk_put (blk_put (blk_put (blk_put BK130.out 0 y0_ rfl) 1 y1_ rfl) 2 y2_ rfl) 3 y3_ rfl) 4 y4_ rfl)) 3).trans rfl; have hdz6_4 : ∀ y0_ y1_ y2_ y3_ y4_ : Value, ((((((w5.setCell ⟨gb130, 0, none⟩ y0_).setCell ⟨gb130, 1, none⟩ y1_).setCell ⟨gb130, 2, none⟩ y2_).setCell ⟨gb130, 3, none⟩ y3_).setCell ⟨gb130, 4, none⟩ y4_)).cell? ⟨gb130, 4, none⟩ = some y4_ := fun y0_ y1_ y2_ y3_ y4_ => (blk_cell ((blk_put (blk_put (blk_put (blk_put (blk_put BK130.out 0 y0_ rfl) 1 y1_ rfl) 2 y2_ rfl) 3 y3_ rfl) 4 y4_ rfl)) 4).trans rfl))
  (try simp only [Act.put, List.setIfInBounds_toArray, List.set_cons_zero, List.set_cons_succ])
  go_cut [] (fun wc => ∃ (kq : Nat) (x131004_3 : ByteArray), Aside0 (cubbylaw04_ChunkSpoilt.j0 kq a1 a2 a0_0 a0_1 a0_2 a0_3 x131004_3 = some r) ∧ Aside0 (kq ≤ k) ∧ Aside0 (wc.heap[gb130]? = some (.cells #[.int .i64 a0_0, .int .i64 a0_1, .bool a0_2, .bool a0_3, .string x131004_3] 29 (0, 0))) ∧ Aside0 (Below w.heap.size w wc))
  case first =>
    have H := HC4.out
    clear HC4
    by_cases c7 : (a0_4.size : Int) > 96
    · rw [if_pos c7] at H
      have c7b0 : decide (96 < (a0_4.size : Int)) = true := decide_eq_true c7
      have c7b1 : decide (96 < a0_4.size) = true := decide_eq_true (by omega)
      clear c7
      (first | rw [c7b0] | (simp only [i64_w, i32_w]; rw [c7b0]) | skip)
      by_cases c8 : 0 ≤ 96
      · rw [if_pos c8] at H
        have c8b0 := eq_true c8
        have c8b1 : decide (0 ≤ 96) = true := decide_eq_true c8
        clear c8
        by_cases c9 : 96 ≤ (a0_4.size : Int)
        · rw [if_pos c9] at H
          have c9b0 := eq_true c9
          have c9b1 : decide (96 ≤ (a0_4.size : Int)) = true := decide_eq_true c9
          clear c9
          have H' := Aside0.mk H
          clear H
          have hcz10_0 : w5.cell? ⟨gb130, 0, none⟩ = some (.int .i64 a0_0) := (blk_cell BK130.out 0).trans rfl
          have hcz10_1 : w5.cell? ⟨gb130, 1, none⟩ = some (.int .i64 a0_1) := (blk_cell BK130.out 1).trans rfl
          have hcz10_2 : w5.cell? ⟨gb130, 2, none⟩ = some (.bool a0_2) := (blk_cell BK130.out 2).trans rfl
          have hcz10_3 : w5.cell? ⟨gb130, 3, none⟩ = some (.bool a0_3) := (blk_cell BK130.out 3).trans rfl
          have hcz10_4 : w5.cell? ⟨gb130, 4, none⟩ = some (.string a0_4) := (blk_cell BK130.out 4).trans rfl
          have hfz10_0 := blk_frozen BK130.out 0
          have hfz10_1 := blk_frozen BK130.out 1
          have hfz10_2 := blk_frozen BK130.out 2
          have hfz10_3 := blk_frozen BK130.out 3
          have hfz10_4 := blk_frozen BK130.out 4
          have hdz10_0 : ∀ y0_ y1_ y2_ y3_ y4_ : Value, ((((((w5.setCell ⟨gb130, 0, none⟩ y0_).setCell ⟨gb130, 1, none⟩ y1_).setCell ⟨gb130, 2, none⟩ y2_).setCell ⟨gb130, 3, none⟩ y3_).setCell ⟨gb130, 4, none⟩ y4_)).cell? ⟨gb130, 0, none⟩ = some y0_ := fun y0_ y1_ y2_ y3_ y4_ => (blk_cell ((blk_put (blk_put (blk_put (blk_put (blk_put BK130.out 0 y0_ rfl) 1 y1_ rfl) 2 y2_ rfl) 3 y3_ rfl) 4 y4_ rfl)) 0).trans rfl
          have hdz10_1 : ∀ y0_ y1_ y2_ y3_ y4_ : Value, ((((((w5.setCell ⟨gb130, 0, none⟩ y0_).setCell ⟨gb130, 1, none⟩ y1_).setCell ⟨gb130, 2, none⟩ y2_).setCell ⟨gb130, 3, none⟩ y3_).setCell ⟨gb130, 4, none⟩ y4_)).cell? ⟨gb130, 1, none⟩ = some y1_ := fun y0_ y1_ y2_ y3_ y4_ => (blk_cell ((blk_put (blk_put (blk_put (blk_put (blk_put BK130.out 0 y0_ rfl) 1 y1_ rfl) 2 y2_ rfl) 3 y3_ rfl) 4 y4_ rfl)) 1).trans rfl
          have hdz10_2 : ∀ y0_ y1_ y2_ y3_ y4_ : Value, ((((((w5.setCell ⟨gb130, 0, none⟩ y0_).setCell ⟨gb130, 1, none⟩ y1_).setCell ⟨gb130, 2, none⟩ y2_).setCell ⟨gb130, 3, none⟩ y3_).setCell ⟨gb130, 4, none⟩ y4_)).cell? ⟨gb130, 2, none⟩ = some y2_ := fun y0_ y1_ y2_ y3_ y4_ => (blk_cell ((blk_put (blk_put (blk_put (blk_put (blk_put BK130.out 0 y0_ rfl) 1 y1_ rfl) 2 y2_ rfl) 3 y3_ rfl) 4 y4_ rfl)) 2).trans rfl
          have hdz10_3 : ∀ y0_ y1_ y2_ y3_ y4_ : Value, ((((((w5.setCell ⟨gb130, 0, none⟩ y0_).setCell ⟨gb130, 1, none⟩ y1_).setCell ⟨gb130, 2, none⟩ y2_).setCell ⟨gb130, 3, none⟩ y3_).setCell ⟨gb130, 4, none⟩ y4_)).cell? ⟨gb130, 3, none⟩ = some y3_ := fun y0_ y1_ y2_ y3_ y4_ => (blk_cell ((blk_put (blk_put (blk_put (blk_put (blk_put BK130.out 0 y0_ rfl) 1 y1_ rfl) 2 y2_ rfl) 3 y3_ rfl) 4 y4_ rfl)) 3).trans rfl
          have hdz10_4 : ∀ y0_ y1_ y2_ y3_ y4_ : Value, ((((((w5.setCell ⟨gb130, 0, none⟩ y0_).setCell ⟨gb130, 1, none⟩ y1_).setCell ⟨gb130, 2, none⟩ y2_).setCell ⟨gb130, 3, none⟩ y3_).setCell ⟨gb130, 4, none⟩ y4_)).cell? ⟨gb130, 4, none⟩ = some y4_ := fun y0_ y1_ y2_ y3_ y4_ => (blk_cell ((blk_put (blk_put (blk_put (blk_put (blk_put BK130.out 0 y0_ rfl) 1 y1_ rfl) 2 y2_ rfl) 3 y3_ rfl) 4 y4_ rfl)) 4).trans rfl
          go_wp2
          go_meet
          case rel => exact ⟨_, (a0_4.extract 0 96), H', ⟨by first | omega | exact Nat.le_refl _⟩, ⟨by (with_reducible repeat (first | refine blk_drewN ?_ _ | refine blk_drew ?_ | refine blk_alloc ?_ _)); refine blk_put (cs := #[.int .i64 a0_0, .int .i64 a0_1, .bool a0_2, .bool a0_3, .string a0_4]) ?_ 4 _ rfl; (with_reducible repeat (first | refine blk_drewN ?_ _ | refine blk_drew ?_ | refine blk_alloc ?_ _)); exact BK130.out⟩, ⟨by repeat (first | (with_reducible first | exact HB.out | apply below_alloc | apply pw_below_drewN | apply below_drew1 | refine below_set ?_ GE130.out) | exact HB.out)⟩⟩
        · rw [if_neg c9] at H
          exact absurd H (by simp)
      · rw [if_neg c8] at H
        exact absurd H (by simp)
    · rw [if_neg c7] at H
      have c7b0 : decide (96 < (a0_4.size : Int)) = false := decide_eq_false c7
      have c7b1 : decide (96 < a0_4.size) = false := decide_eq_false (by omega)
      clear c7
      (first | rw [c7b0] | (simp only [i64_w, i32_w]; rw [c7b0]) | skip)
      have H' := Aside0.mk H
      clear H
      go_wp2
      go_meet
      case rel => exact ⟨_, (a0_4), H', ⟨by first | omega | exact Nat.le_refl _⟩, ⟨by (with_reducible repeat (first | refine blk_drewN ?_ _ | refine blk_drew ?_ | refine blk_alloc ?_ _)); exact BK130.out⟩, ⟨by repeat (first | (with_reducible first | exact HB.out | apply below_alloc | apply pw_below_drewN | apply below_drew1 | refine below_set ?_ GE130.out) | exact HB.out)⟩⟩
  case rest =>
    clear HC4
    try clear p2
    try clear c7
    try clear c7b0
    try clear c7b1
    try clear c8
    try clear c8b0
    try clear c8b1
    try clear c9
    try clear c9b0
    try clear c9b1
    try clear hcz10_0
    try clear hcz10_1
    try clear hcz10_2
    try clear hcz10_3
    try clear hcz10_4
    try clear hcz6_0
    try clear hcz6_1
    try clear hcz6_2
    try clear hcz6_3
    try clear hcz6_4
    try clear hfz10_0
    try clear hfz10_1
    try clear hfz10_2
    try clear hfz10_3
    try clear hfz10_4
    try clear hfz6_0
    try clear hfz6_1
    try clear hfz6_2
    try clear hfz6_3
    try clear hfz6_4
    obtain ⟨kq, x131004_3, HA, HJ3, BK130, HB⟩ := hcut
    cases kq with
    | zero => exact absurd HA.out (by simp [cubbylaw04_ChunkSpoilt.j0])
    | succ kj3 =>
      have H := HA.out
      clear HA
      simp only [cubbylaw04_ChunkSpoilt.j0] at H
      replace H := Option.bind_eq_some_iff.mp H
      obtain ⟨⟨t131, t132⟩, A110, H⟩ := H
      replace H : ((cubbyref04_Encode.f kj3 a0_0 a0_1 a0_2 a0_3 x131004_3).bind fun bt133 => (if t132 = bt133.2 then (if t132 = 0 then (if (t131.size : Int) = 0 then (some (t132 == 1)) else (if 0 ≤ (Int.tmod (wrap64 ((Int.tmod a1 (t131.size : Int)) + (t131.size : Int))) (t131.size : Int)) then (if (Int.tmod (wrap64 ((Int.tmod a1 (t131.size : Int)) + (t131.size : Int))) (t131.size : Int)) ≤ (t131.size : Int) then ((some (([a2] : List Int) : List Int)).bind fun y135 => (if (t131.extract 0 ((Int.tmod (wrap64 ((Int.tmod a1 (t131.size : Int)) + (t131.size : Int))) (t131.size : Int)) : Int).toNat).size + (strOfNums y135).size ≤ 9223372036854775807 then (if 0 ≤ (wrap64 ((Int.tmod (wrap64 ((Int.tmod a1 (t131.size : Int)) + (t131.size : Int))) (t131.size : Int)) + 1)) then (if (wrap64 ((Int.tmod (wrap64 ((Int.tmod a1 (t131.size : Int)) + (t131.size : Int))) (t131.size : Int)) + 1)) ≤ (t131.size : Int) then (if ((t131.extract 0 ((Int.tmod (wrap64 ((Int.tmod a1 (t131.size : Int)) + (t131.size : Int))) (t131.size : Int)) : Int).toNat) ++ (strOfNums y135)).size + (t131.extract ((wrap64 ((Int.tmod (wrap64 ((Int.tmod a1 (t131.size : Int)) + (t131.size : Int))) (t131.size : Int)) + 1)) : Int).toNat t131.size).size ≤ 9223372036854775807 then ((chunk_Decode.f kj3 (((t131.extract 0 ((Int.tmod (wrap64 ((Int.tmod a1 (t131.size : Int)) + (t131.size : Int))) (t131.size : Int)) : Int).toNat) ++ (strOfNums y135)) ++ (t131.extract ((wrap64 ((Int.tmod (wrap64 ((Int.tmod a1 (t131.size : Int)) + (t131.size : Int))) (t131.size : Int)) + 1)) : Int).toNat t131.size))).bind fun bt138 => (if (Int.tmod (wrap64 ((Int.tmod a1 (t131.size : Int)) + (t131.size : Int))) (t131.size : Int)) < (t131.size : Int) then (if ((bt138.2.2.2.2.2 == 0) == ((bt t131 (Int.tmod (wrap64 ((Int.tmod a1 (t131.size : Int)) + (t131.size : Int))) (t131.size : Int))) == a2)) = true then (if (bt138.1 == a0_0 && (bt138.2.1 == a0_1 && (bt138.2.2.1 == a0_2 && (bt138.2.2.2.1 == a0_3 && (bt138.2.2.2.2.1.toList == x131004_3.toList))))) = true then (some ((bt138.2.2.2.2.2 == 0) == ((((t131.extract 0 ((Int.tmod (wrap64 ((Int.tmod a1 (t131.size : Int)) + (t131.size : Int))) (t131.size : Int)) : Int).toNat) ++ (strOfNums y135)) ++ (t131.extract ((wrap64 ((Int.tmod (wrap64 ((Int.tmod a1 (t131.size : Int)) + (t131.size : Int))) (t131.size : Int)) + 1)) : Int).toNat t131.size)).toList == t131.toList))) else (some ((bt138.2.2.2.2.2 == 0) == false))) else (some false)) else (none))) else (none)) else (none)) else (none)) else (none))) else (none)) else (none))) else (some (t132 == 1))) else (some false))) = some r := H
      have A11 := Aside0.mk A110
      clear A110
      replace H := Option.bind_eq_some_iff.mp H
      obtain ⟨⟨t133, t134⟩, A120, H⟩ := H
      replace H : (if t132 = t134 then (if t132 = 0 then (if (t131.size : Int) = 0 then (some (t132 == 1)) else (if 0 ≤ (Int.tmod (wrap64 ((Int.tmod a1 (t131.size : Int)) + (t131.size : Int))) (t131.size : Int)) then (if (Int.tmod (wrap64 ((Int.tmod a1 (t131.size : Int)) + (t131.size : Int))) (t131.size : Int)) ≤ (t131.size : Int) then ((some (([a2] : List Int) : List Int)).bind fun y135 => (if (t131.extract 0 ((Int.tmod (wrap64 ((Int.tmod a1 (t131.size : Int)) + (t131.size : Int))) (t131.size : Int)) : Int).toNat).size + (strOfNums y135).size ≤ 9223372036854775807 then (if 0 ≤ (wrap64 ((Int.tmod (wrap64 ((Int.tmod a1 (t131.size : Int)) + (t131.size : Int))) (t131.size : Int)) + 1)) then (if (wrap64 ((Int.tmod (wrap64 ((Int.tmod a1 (t131.size : Int)) + (t131.size : Int))) (t131.size : Int)) + 1)) ≤ (t131.size : Int) then (if ((t131.extract 0 ((Int.tmod (wrap64 ((Int.tmod a1 (t131.size : Int)) + (t131.size : Int))) (t131.size : Int)) : Int).toNat) ++ (strOfNums y135)).size + (t131.extract ((wrap64 ((Int.tmod (wrap64 ((Int.tmod a1 (t131.size : Int)) + (t131.size : Int))) (t131.size : Int)) + 1)) : Int).toNat t131.size).size ≤ 9223372036854775807 then ((chunk_Decode.f kj3 (((t131.extract 0 ((Int.tmod (wrap64 ((Int.tmod a1 (t131.size : Int)) + (t131.size : Int))) (t131.size : Int)) : Int).toNat) ++ (strOfNums y135)) ++ (t131.extract ((wrap64 ((Int.tmod (wrap64 ((Int.tmod a1 (t131.size : Int)) + (t131.size : Int))) (t131.size : Int)) + 1)) : Int).toNat t131.size))).bind fun bt138 => (if (Int.tmod (wrap64 ((Int.tmod a1 (t131.size : Int)) + (t131.size : Int))) (t131.size : Int)) < (t131.size : Int) then (if ((bt138.2.2.2.2.2 == 0) == ((bt t131 (Int.tmod (wrap64 ((Int.tmod a1 (t131.size : Int)) + (t131.size : Int))) (t131.size : Int))) == a2)) = true then (if (bt138.1 == a0_0 && (bt138.2.1 == a0_1 && (bt138.2.2.1 == a0_2 && (bt138.2.2.2.1 == a0_3 && (bt138.2.2.2.2.1.toList == x131004_3.toList))))) = true then (some ((bt138.2.2.2.2.2 == 0) == ((((t131.extract 0 ((Int.tmod (wrap64 ((Int.tmod a1 (t131.size : Int)) + (t131.size : Int))) (t131.size : Int)) : Int).toNat) ++ (strOfNums y135)) ++ (t131.extract ((wrap64 ((Int.tmod (wrap64 ((Int.tmod a1 (t131.size : Int)) + (t131.size : Int))) (t131.size : Int)) + 1)) : Int).toNat t131.size)).toList == t131.toList))) else (some ((bt138.2.2.2.2.2 == 0) == false))) else (some false)) else (none))) else (none)) else (none)) else (none)) else (none))) else (none)) else (none))) else (some (t132 == 1))) else (some false)) = some r := H
      have A12 := Aside0.mk A120
      clear A120
      by_cases c13 : t132 = t134
      · rw [if_pos c13] at H
        have c13b0 : (t132 == t134) = true := beq_iff_eq.mpr c13
        have c13b1 : (t132 != t134) = false := bne_eq_false_iff_eq.mpr c13
        clear c13
        by_cases c14 : t132 = 0
        · rw [if_pos c14] at H
          have c14b0 : (t132 == 0) = true := beq_iff_eq.mpr c14
          have c14b1 : (t132 != 0) = false := bne_eq_false_iff_eq.mpr c14
          clear c14
          by_cases c15 : (t131.size : Int) = 0
          · rw [if_pos c15] at H
            have c15b0 : ((t131.size : Int) == 0) = true := beq_iff_eq.mpr c15
            have c15b1 : ((t131.size : Int) != 0) = false := bne_eq_false_iff_eq.mpr c15
            clear c15
            obtain rfl := Option.some.inj H
            have hcz16_0 : wc.cell? ⟨gb130, 0, none⟩ = some (.int .i64 a0_0) := (blk_cell BK130.out 0).trans rfl
            have hcz16_1 : wc.cell? ⟨gb130, 1, none⟩ = some (.int .i64 a0_1) := (blk_cell BK130.out 1).trans rfl
            have hcz16_2 : wc.cell? ⟨gb130, 2, none⟩ = some (.bool a0_2) := (blk_cell BK130.out 2).trans rfl
            have hcz16_3 : wc.cell? ⟨gb130, 3, none⟩ = some (.bool a0_3) := (blk_cell BK130.out 3).trans rfl
            have hcz16_4 : wc.cell? ⟨gb130, 4, none⟩ = some (.string x131004_3) := (blk_cell BK130.out 4).trans rfl
            have hfz16_0 := blk_frozen BK130.out 0
            have hfz16_1 := blk_frozen BK130.out 1
            have hfz16_2 := blk_frozen BK130.out 2
            have hfz16_3 := blk_frozen BK130.out 3
            have hfz16_4 := blk_frozen BK130.out 4
            have hdz16_0 : ∀ y0_ y1_ y2_ y3_ y4_ : Value, ((((((wc.setCell ⟨gb130, 0, none⟩ y0_).setCell ⟨gb130, 1, none⟩ y1_).setCell ⟨gb130, 2, none⟩ y2_).setCell ⟨gb130, 3, none⟩ y3_).setCell ⟨gb130, 4, none⟩ y4_)).cell? ⟨gb130, 0, none⟩ = some y0_ := fun y0_ y1_ y2_ y3_ y4_ => (blk_cell ((blk_put (blk_put (blk_put (blk_put (blk_put BK130.out 0 y0_ rfl) 1 y1_ rfl) 2 y2_ rfl) 3 y3_ rfl) 4 y4_ rfl)) 0).trans rfl
            have hdz16_1 : ∀ y0_ y1_ y2_ y3_ y4_ : Value, ((((((wc.setCell ⟨gb130, 0, none⟩ y0_).setCell ⟨gb130, 1, none⟩ y1_).setCell ⟨gb130, 2, none⟩ y2_).setCell ⟨gb130, 3, none⟩ y3_).setCell ⟨gb130, 4, none⟩ y4_)).cell? ⟨gb130, 1, none⟩ = some y1_ := fun y0_ y1_ y2_ y3_ y4_ => (blk_cell ((blk_put (blk_put (blk_put (blk_put (blk_put BK130.out 0 y0_ rfl) 1 y1_ rfl) 2 y2_ rfl) 3 y3_ rfl) 4 y4_ rfl)) 1).trans rfl
            have hdz16_2 : ∀ y0_ y1_ y2_ y3_ y4_ : Value, ((((((wc.setCell ⟨gb130, 0, none⟩ y0_).setCell ⟨gb130, 1, none⟩ y1_).setCell ⟨gb130, 2, none⟩ y2_).setCell ⟨gb130, 3, none⟩ y3_).setCell ⟨gb130, 4, none⟩ y4_)).cell? ⟨gb130, 2, none⟩ = some y2_ := fun y0_ y1_ y2_ y3_ y4_ => (blk_cell ((blk_put (blk_put (blk_put (blk_put (blk_put BK130.out 0 y0_ rfl) 1 y1_ rfl) 2 y2_ rfl) 3 y3_ rfl) 4 y4_ rfl)) 2).trans rfl
            have hdz16_3 : ∀ y0_ y1_ y2_ y3_ y4_ : Value, ((((((wc.setCell ⟨gb130, 0, none⟩ y0_).setCell ⟨gb130, 1, none⟩ y1_).setCell ⟨gb130, 2, none⟩ y2_).setCell ⟨gb130, 3, none⟩ y3_).setCell ⟨gb130, 4, none⟩ y4_)).cell? ⟨gb130, 3, none⟩ = some y3_ := fun y0_ y1_ y2_ y3_ y4_ => (blk_cell ((blk_put (blk_put (blk_put (blk_put (blk_put BK130.out 0 y0_ rfl) 1 y1_ rfl) 2 y2_ rfl) 3 y3_ rfl) 4 y4_ rfl)) 3).trans rfl
            have hdz16_4 : ∀ y0_ y1_ y2_ y3_ y4_ : Value, ((((((wc.setCell ⟨gb130, 0, none⟩ y0_).setCell ⟨gb130, 1, none⟩ y1_).setCell ⟨gb130, 2, none⟩ y2_).setCell ⟨gb130, 3, none⟩ y3_).setCell ⟨gb130, 4, none⟩ y4_)).cell? ⟨gb130, 4, none⟩ = some y4_ := fun y0_ y1_ y2_ y3_ y4_ => (blk_cell ((blk_put (blk_put (blk_put (blk_put (blk_put BK130.out 0 y0_ rfl) 1 y1_ rfl) 2 y2_ rfl) 3 y3_ rfl) 4 y4_ rfl)) 4).trans rfl
            go_wp2_with (first | ((with_reducible refine gate_callee (f := 11) rfl ?_); refine goesL_ (some 25) rfl rfl Try.func11 (by kernel_rfl) rfl #[.agg #[.int .i64 a0_0, .int .i64 a0_1, .bool a0_2, .bool a0_3, .string x131004_3]] rfl (by (try simp only [List.map_toArray, List.map_cons, List.map_nil]); first | done | rfl | (simp only [List.length_drop, List.length_take]; rfl)) ?_; (with_reducible refine (chunk_Encode.calls kj3 a0_0 a0_1 a0_2 a0_3 x131004_3 t131 t132 _ A11.out).mono ?_); rintro e w17 ⟨rfl, hb⟩; refine ⟨_, rfl, ?_⟩; have n0_ := Aside0.mk (blk_below (g := gb130) (o := .cells #[.int .i64 a0_0, .int .i64 a0_1, .bool a0_2, .bool a0_3, .string x131004_3] 29 (0, 0)) (by (with_reducible repeat (first | refine blk_drewN ?_ _ | refine blk_drew ?_ | refine blk_alloc ?_ _)); exact BK130.out) hb); have n1_ := Aside0.mk (below_step (by repeat (first | (with_reducible first | exact HB.out | apply below_alloc | apply pw_below_drewN | apply below_drew1 | refine below_set ?_ GE130.out) | exact HB.out)) hb); clear BK130; clear HB; have BK130 := n0_; have HB := n1_; clear n0_ n1_; (try clear hb); (try clear hb2); (try clear hk); (try clear hi); have hcz18_0 : w17.cell? ⟨gb130, 0, none⟩ = some (.int .i64 a0_0) := (blk_cell BK130.out 0).trans rfl; have hcz18_1 : w17.cell? ⟨gb130, 1, none⟩ = some (.int .i64 a0_1) := (blk_cell BK130.out 1).trans rfl; have hcz18_2 : w17.cell? ⟨gb130, 2, none⟩ = some (.bool a0_2) := (blk_cell BK130.out 2).trans rfl; have hcz18_3 : w17.cell? ⟨gb130, 3, none⟩ = some (.bool a0_3) := (blk_cell BK130.out 3).trans rfl; have hcz18_4 : w17.cell? ⟨gb130, 4, none⟩ = some (.string x131004_3) := (blk_cell BK130.out 4).trans rfl; have hfz18_0 := blk_frozen BK130.out 0; have hfz18_1 := blk_frozen BK130.out 1; have hfz18_2 := blk_frozen BK130.out 2; have hfz18_3 := blk_frozen BK130.out 3; have hfz18_4 := blk_frozen BK130.out 4; have hdz18_0 : ∀ y0_ y1_ y2_ y3_ y4_ : Value, ((((((w17.setCell ⟨gb130, 0, none⟩ y0_).setCell ⟨gb130, 1, none⟩ y1_).setCell ⟨gb130, 2, none⟩ y2_).setCell ⟨gb130, 3, none⟩ y3_).setCell ⟨gb130, 4, none⟩ y4_)).cell? ⟨gb130, 0, none⟩ = some y0_ := fun y0_ y1_ y2_ y3_ y4_ => (blk_cell ((blk_put (blk_put (blk_put (blk_put (blk_put BK130.out 0 y0_ rfl) 1 y1_ rfl) 2 y2_ rfl) 3 y3_ rfl) 4 y4_ rfl)) 0).trans rfl; have hdz18_1 : ∀ y0_ y1_ y2_ y3_ y4_ : Value, ((((((w17.setCell ⟨gb130, 0, none⟩ y0_).setCell ⟨gb130, 1, none⟩ y1_).setCell ⟨gb130, 2, none⟩ y2_).setCell ⟨gb130, 3, none⟩ y3_).setCell ⟨gb130, 4, none⟩ y4_)).cell? ⟨gb130, 1, none⟩ = some y1_ := fun y0_ y1_ y2_ y3_ y4_ => (blk_cell ((blk_put (blk_put (blk_put (blk_put (blk_put BK130.out 0 y0_ rfl) 1 y1_ rfl) 2 y2_ rfl) 3 y3_ rfl) 4 y4_ rfl)) 1).trans rfl; have hdz18_2 : ∀ y0_ y1_ y2_ y3_ y4_ : Value, ((((((w17.setCell ⟨gb130, 0, none⟩ y0_).setCell ⟨gb130, 1, none⟩ y1_).setCell ⟨gb130, 2, none⟩ y2_).setCell ⟨gb130, 3, none⟩ y3_).setCell ⟨gb130, 4, none⟩ y4_)).cell? ⟨gb130, 2, none⟩ = some y2_ := fun y0_ y1_ y2_ y3_ y4_ => (blk_cell ((blk_put (blk_put (blk_put (blk_put (blk_put BK130.out 0 y0_ rfl) 1 y1_ rfl) 2 y2_ rfl) 3 y3_ rfl) 4 y4_ rfl)) 2).trans rfl; have hdz18_3 : ∀ y0_ y1_ y2_ y3_ y4_ : Value, ((((((w17.setCell ⟨gb130, 0, none⟩ y0_).setCell ⟨gb130, 1, none⟩ y1_).setCell ⟨gb130, 2, none⟩ y2_).setCell ⟨gb130, 3, none⟩ y3_).setCell ⟨gb130, 4, none⟩ y4_)).cell? ⟨gb130, 3, none⟩ = some y3_ := fun y0_ y1_ y2_ y3_ y4_ => (blk_cell ((blk_put (blk_put (blk_put (blk_put (blk_put BK130.out 0 y0_ rfl) 1 y1_ rfl) 2 y2_ rfl) 3 y3_ rfl) 4 y4_ rfl)) 3).trans rfl; have hdz18_4 : ∀ y0_ y1_ y2_ y3_ y4_ : Value, ((((((w17.setCell ⟨gb130, 0, none⟩ y0_).setCell ⟨gb130, 1, none⟩ y1_).setCell ⟨gb130, 2, none⟩ y2_).setCell ⟨gb130, 3, none⟩ y3_).setCell ⟨gb130, 4, none⟩ y4_)).cell? ⟨gb130, 4, none⟩ = some y4_ := fun y0_ y1_ y2_ y3_ y4_ => (blk_cell ((blk_put (blk_put (blk_put (blk_put (blk_put BK130.out 0 y0_ rfl) 1 y1_ rfl) 2 y2_ rfl) 3 y3_ rfl) 4 y4_ rfl)) 4).trans rfl) | ((with_reducible refine gate_callee (f := 12) rfl ?_); refine goesL_ (some 30) rfl rfl Try.func12 (by kernel_rfl) rfl #[.agg #[.int .i64 a0_0, .int .i64 a0_1, .bool a0_2, .bool a0_3, .string x131004_3]] rfl (by (try simp only [List.map_toArray, List.map_cons, List.map_nil]); first | done | rfl | (simp only [List.length_drop, List.length_take]; rfl)) ?_; (with_reducible refine (cubbyref04_Encode.calls kj3 a0_0 a0_1 a0_2 a0_3 x131004_3 t133 t134 _ A12.out).mono ?_); rintro e w19 ⟨rfl, hb⟩; refine ⟨_, rfl, ?_⟩; have n0_ := Aside0.mk (blk_below (g := gb130) (o := .cells #[.int .i64 a0_0, .int .i64 a0_1, .bool a0_2, .bool a0_3, .string x131004_3] 29 (0, 0)) (by (with_reducible repeat (first | refine blk_drewN ?_ _ | refine blk_drew ?_ | refine blk_alloc ?_ _)); exact BK130.out) hb); have n1_ := Aside0.mk (below_step (by repeat (first | (with_reducible first | exact HB.out | apply below_alloc | apply pw_below_drewN | apply below_drew1 | refine below_set ?_ GE130.out) | exact HB.out)) hb); clear BK130; clear HB; have BK130 := n0_; have HB := n1_; clear n0_ n1_; (try clear hb); (try clear hb2); (try clear hk); (try clear hi)))
            go_ret
            exact ⟨by first | rfl | (simp [errW_none, errW_some] <;> rfl) | (simp [*, errW_none, errW_some] <;> rfl), by repeat (first | (with_reducible first | exact HB.out | apply below_alloc | apply pw_below_drewN | apply below_drew1 | refine below_set ?_ GE130.out) | exact HB.out)⟩
          · rw [if_neg c15] at H
            have c15b0 : ((t131.size : Int) == 0) = false := beq_eq_false_iff_ne.mpr c15
            have c15b1 : ((t131.size : Int) != 0) = true := bne_iff_ne.mpr c15
            obtain ⟨ji20, hji20⟩ : ∃ j_ : Int, (Int.tmod (wrap64 ((Int.tmod a1 (t131.size : Int)) + (t131.size : Int))) (t131.size : Int)) = j_ := ⟨_, rfl⟩
            replace H : (if 0 ≤ (ji20) then (if (ji20) ≤ (t131.size : Int) then ((some (([a2] : List Int) : List Int)).bind fun y135 => (if (t131.extract 0 ((ji20) : Int).toNat).size + (strOfNums y135).size ≤ 9223372036854775807 then (if 0 ≤ (wrap64 ((ji20) + 1)) then (if (wrap64 ((ji20) + 1)) ≤ (t131.size : Int) then (if ((t131.extract 0 ((ji20) : Int).toNat) ++ (strOfNums y135)).size + (t131.extract ((wrap64 ((ji20) + 1)) : Int).toNat t131.size).size ≤ 9223372036854775807 then ((chunk_Decode.f kj3 (((t131.extract 0 ((ji20) : Int).toNat) ++ (strOfNums y135)) ++ (t131.extract ((wrap64 ((ji20) + 1)) : Int).toNat t131.size))).bind fun bt138 => (if (ji20) < (t131.size : Int) then (if ((bt138.2.2.2.2.2 == 0) == ((bt t131 (ji20)) == a2)) = true then (if (bt138.1 == a0_0 && (bt138.2.1 == a0_1 && (bt138.2.2.1 == a0_2 && (bt138.2.2.2.1 == a0_3 && (bt138.2.2.2.2.1.toList == x131004_3.toList))))) = true then (some ((bt138.2.2.2.2.2 == 0) == ((((t131.extract 0 ((ji20) : Int).toNat) ++ (strOfNums y135)) ++ (t131.extract ((wrap64 ((ji20) + 1)) : Int).toNat t131.size)).toList == t131.toList))) else (some ((bt138.2.2.2.2.2 == 0) == false))) else (some false)) else (none))) else (none)) else (none)) else (none)) else (none))) else (none)) else (none)) = some r := by first | (rw [hji20] at H; exact H) | (simp only [hji20] at H ⊢; exact H)
            (try rw [hji20] at A11)
            (try rw [hji20] at A12)
            by_cases c21 : 0 ≤ (ji20)
            · rw [if_pos c21] at H
              have c21b0 := eq_true c21
              have c21b1 : decide (0 ≤ (ji20)) = true := decide_eq_true c21
              clear c21
              by_cases c22 : (ji20) ≤ (t131.size : Int)
              · rw [if_pos c22] at H
                have c22b0 := eq_true c22
                have c22b1 : decide ((ji20) ≤ (t131.size : Int)) = true := decide_eq_true c22
                clear c22
                obtain ⟨y135, hy135⟩ : ∃ y_ : List Int, y_ = (([a2] : List Int)) := ⟨_, rfl⟩
                replace H : (if (t131.extract 0 ((ji20) : Int).toNat).size + (strOfNums y135).size ≤ 9223372036854775807 then (if 0 ≤ (wrap64 ((ji20) + 1)) then (if (wrap64 ((ji20) + 1)) ≤ (t131.size : Int) then (if ((t131.extract 0 ((ji20) : Int).toNat) ++ (strOfNums y135)).size + (t131.extract ((wrap64 ((ji20) + 1)) : Int).toNat t131.size).size ≤ 9223372036854775807 then ((chunk_Decode.f kj3 (((t131.extract 0 ((ji20) : Int).toNat) ++ (strOfNums y135)) ++ (t131.extract ((wrap64 ((ji20) + 1)) : Int).toNat t131.size))).bind fun bt138 => (if (ji20) < (t131.size : Int) then (if ((bt138.2.2.2.2.2 == 0) == ((bt t131 (ji20)) == a2)) = true then (if (bt138.1 == a0_0 && (bt138.2.1 == a0_1 && (bt138.2.2.1 == a0_2 && (bt138.2.2.2.1 == a0_3 && (bt138.2.2.2.2.1.toList == x131004_3.toList))))) = true then (some ((bt138.2.2.2.2.2 == 0) == ((((t131.extract 0 ((ji20) : Int).toNat) ++ (strOfNums y135)) ++ (t131.extract ((wrap64 ((ji20) + 1)) : Int).toNat t131.size)).toList == t131.toList))) else (some ((bt138.2.2.2.2.2 == 0) == false))) else (some false)) else (none))) else (none)) else (none)) else (none)) else (none)) = some r := by first | (rw [hy135]; with_reducible exact H) | (have H2_ := (Option.bind_some _ _).symm.trans H; rw [hy135]; with_reducible exact H2_) | (have H2_ := (Option.bind_some _ _).symm.trans H; with_reducible exact H2_) | with_reducible exact H | (rw [hy135]; exact H) | exact H
                have Ny135 := Aside0.mk hy135
                clear hy135
                by_cases c23 : (t131.extract 0 ((ji20) : Int).toNat).size + (strOfNums y135).size ≤ 9223372036854775807
                · rw [if_pos c23] at H
                  have c23b0 := eq_true c23
                  have c23b1 : decide ((t131.extract 0 ((ji20) : Int).toNat).size + (strOfNums y135).size ≤ 9223372036854775807) = true := decide_eq_true c23
                  try have c23b2 : (9223372036854775807 < (t131.extract 0 ((ji20) : Int).toNat).size + (strOfNums y135).size) = False := eq_false (Nat.not_lt.2 c23)
                  try (have c23b3 := c23; simp only [ByteArray.size_append] at c23b3; have c23b4 := eq_false (Nat.not_lt.2 c23b3))
                  obtain ⟨ji24, hji24⟩ : ∃ j_ : Int, (wrap64 ((ji20) + 1)) = j_ := ⟨_, rfl⟩
                  replace H : (if 0 ≤ (ji24) then (if (ji24) ≤ (t131.size : Int) then (if ((t131.extract 0 ((ji20) : Int).toNat) ++ (strOfNums y135)).size + (t131.extract ((ji24) : Int).toNat t131.size).size ≤ 9223372036854775807 then ((chunk_Decode.f kj3 (((t131.extract 0 ((ji20) : Int).toNat) ++ (strOfNums y135)) ++ (t131.extract ((ji24) : Int).toNat t131.size))).bind fun bt138 => (if (ji20) < (t131.size : Int) then (if ((bt138.2.2.2.2.2 == 0) == ((bt t131 (ji20)) == a2)) = true then (if (bt138.1 == a0_0 && (bt138.2.1 == a0_1 && (bt138.2.2.1 == a0_2 && (bt138.2.2.2.1 == a0_3 && (bt138.2.2.2.2.1.toList == x131004_3.toList))))) = true then (some ((bt138.2.2.2.2.2 == 0) == ((((t131.extract 0 ((ji20) : Int).toNat) ++ (strOfNums y135)) ++ (t131.extract ((ji24) : Int).toNat t131.size)).toList == t131.toList))) else (some ((bt138.2.2.2.2.2 == 0) == false))) else (some false)) else (none))) else (none)) else (none)) else (none)) = some r := by first | (rw [hji24] at H; exact H) | (simp only [hji24] at H ⊢; exact H)
                  (try rw [hji24] at A11)
                  (try rw [hji24] at A12)
                  have hji24w : (IntKind.i64.wrap ((ji20) + 1)) = ji24 := (i64_w _).trans hji24
                  by_cases c25 : 0 ≤ (ji24)
                  · rw [if_pos c25] at H
                    have c25b0 := eq_true c25
                    have c25b1 : decide (0 ≤ (ji24)) = true := decide_eq_true c25
                    clear c25
                    by_cases c26 : (ji24) ≤ (t131.size : Int)
                    · rw [if_pos c26] at H
                      have c26b0 := eq_true c26
                      have c26b1 : decide ((ji24) ≤ (t131.size : Int)) = true := decide_eq_true c26
                      clear c26
                      by_cases c27 : ((t131.extract 0 ((ji20) : Int).toNat) ++ (strOfNums y135)).size + (t131.extract ((ji24) : Int).toNat t131.size).size ≤ 9223372036854775807
                      · rw [if_pos c27] at H
                        have c27b0 := eq_true c27
                        have c27b1 : decide (((t131.extract 0 ((ji20) : Int).toNat) ++ (strOfNums y135)).size + (t131.extract ((ji24) : Int).toNat t131.size).size ≤ 9223372036854775807) = true := decide_eq_true c27
                        try have c27b2 : (9223372036854775807 < ((t131.extract 0 ((ji20) : Int).toNat) ++ (strOfNums y135)).size + (t131.extract ((ji24) : Int).toNat t131.size).size) = False := eq_false (Nat.not_lt.2 c27)
                        try (have c27b3 := c27; simp only [ByteArray.size_append] at c27b3; have c27b4 := eq_false (Nat.not_lt.2 c27b3))
                        replace H := Option.bind_eq_some_iff.mp H
                        obtain ⟨⟨t138, t139, t140, t141, t142, t143⟩, A280, H⟩ := H
                        replace H : (if (ji20) < (t131.size : Int) then (if ((t143 == 0) == ((bt t131 (ji20)) == a2)) = true then (if (t138 == a0_0 && (t139 == a0_1 && (t140 == a0_2 && (t141 == a0_3 && (t142.toList == x131004_3.toList))))) = true then (some ((t143 == 0) == ((((t131.extract 0 ((ji20) : Int).toNat) ++ (strOfNums y135)) ++ (t131.extract ((ji24) : Int).toNat t131.size)).toList == t131.toList))) else (some ((t143 == 0) == false))) else (some false)) else (none)) = some r := H
                        have A28 := Aside0.mk A280
                        clear A280
                        by_cases c29 : (ji20) < (t131.size : Int)
                        · rw [if_pos c29] at H
                          have c29b0 : decide ((ji20) < (t131.size : Int)) = true := decide_eq_true c29
                          clear c29
                          by_cases c31 : ((t143 == 0) == ((bt t131 (ji20)) == a2)) = true
                          · rw [if_pos c31] at H
                            have c31b0 : ((t143 == 0) == ((bt t131 (ji20)) == a2)) = true := c31
                            (try (have c31b1 : decide ((t143 == 0) = ((bt t131 (ji20)) == a2)) = true := by simpa using c31))
                            (try (have c31b2 : ((t143 == 0) == ((bt t131 (ji20)) == a2)) = true := by simpa using c31))
                            clear c31
                            by_cases c32 : (t138 == a0_0 && (t139 == a0_1 && (t140 == a0_2 && (t141 == a0_3 && (t142.toList == x131004_3.toList))))) = true
                            · rw [if_pos c32] at H
                              have c32b0 : (t138 == a0_0 && (t139 == a0_1 && (t140 == a0_2 && (t141 == a0_3 && (t142.toList == x131004_3.toList))))) = true := c32
                              (try (have c32b1 : decide (t138 = a0_0 && (t139 == a0_1 && (t140 == a0_2 && (t141 == a0_3 && (t142.toList == x131004_3.toList))))) = true := by simpa using c32))
                              (try (have c32b2 : (t138 == a0_0 && (t139 == a0_1 && (t140 == a0_2 && (t141 == a0_3 && (t142.toList == x131004_3.toList))))) = true := by simpa using c32))
                              have hc32_ := c32b0
                              simp only [Bool.and_eq_true, beq_iff_eq] at hc32_
                              have sc32_0 : a0_0 = t138 := (hc32_.1).symm
                              have sc32_1 : a0_1 = t139 := (hc32_.2.1).symm
                              have sc32_2 : a0_2 = t140 := (hc32_.2.2.1).symm
                              have sc32_3 : a0_3 = t141 := (hc32_.2.2.2.1).symm
                              have sc32_4 : x131004_3 = t142 := (str_of_toList hc32_.2.2.2.2).symm
                              clear hc32_
                              subst sc32_0
                              subst sc32_1
                              subst sc32_2
                              subst sc32_3
                              subst sc32_4
                              clear c32
                              obtain rfl := Option.some.inj H
                              have hcz33_0 : wc.cell? ⟨gb130, 0, none⟩ = some (.int .i64 a0_0) := (blk_cell BK130.out 0).trans rfl
                              have hcz33_1 : wc.cell? ⟨gb130, 1, none⟩ = some (.int .i64 a0_1) := (blk_cell BK130.out 1).trans rfl
                              have hcz33_2 : wc.cell? ⟨gb130, 2, none⟩ = some (.bool a0_2) := (blk_cell BK130.out 2).trans rfl
                              have hcz33_3 : wc.cell? ⟨gb130, 3, none⟩ = some (.bool a0_3) := (blk_cell BK130.out 3).trans rfl
                              have hcz33_4 : wc.cell? ⟨gb130, 4, none⟩ = some (.string x131004_3) := (blk_cell BK130.out 4).trans rfl
                              have hfz33_0 := blk_frozen BK130.out 0
                              have hfz33_1 := blk_frozen BK130.out 1
                              have hfz33_2 := blk_frozen BK130.out 2
                              have hfz33_3 := blk_frozen BK130.out 3
                              have hfz33_4 := blk_frozen BK130.out 4
                              have hdz33_0 : ∀ y0_ y1_ y2_ y3_ y4_ : Value, ((((((wc.setCell ⟨gb130, 0, none⟩ y0_).setCell ⟨gb130, 1, none⟩ y1_).setCell ⟨gb130, 2, none⟩ y2_).setCell ⟨gb130, 3, none⟩ y3_).setCell ⟨gb130, 4, none⟩ y4_)).cell? ⟨gb130, 0, none⟩ = some y0_ := fun y0_ y1_ y2_ y3_ y4_ => (blk_cell ((blk_put (blk_put (blk_put (blk_put (blk_put BK130.out 0 y0_ rfl) 1 y1_ rfl) 2 y2_ rfl) 3 y3_ rfl) 4 y4_ rfl)) 0).trans rfl
                              have hdz33_1 : ∀ y0_ y1_ y2_ y3_ y4_ : Value, ((((((wc.setCell ⟨gb130, 0, none⟩ y0_).setCell ⟨gb130, 1, none⟩ y1_).setCell ⟨gb130, 2, none⟩ y2_).setCell ⟨gb130, 3, none⟩ y3_).setCell ⟨gb130, 4, none⟩ y4_)).cell? ⟨gb130, 1, none⟩ = some y1_ := fun y0_ y1_ y2_ y3_ y4_ => (blk_cell ((blk_put (blk_put (blk_put (blk_put (blk_put BK130.out 0 y0_ rfl) 1 y1_ rfl) 2 y2_ rfl) 3 y3_ rfl) 4 y4_ rfl)) 1).trans rfl
                              have hdz33_2 : ∀ y0_ y1_ y2_ y3_ y4_ : Value, ((((((wc.setCell ⟨gb130, 0, none⟩ y0_).setCell ⟨gb130, 1, none⟩ y1_).setCell ⟨gb130, 2, none⟩ y2_).setCell ⟨gb130, 3, none⟩ y3_).setCell ⟨gb130, 4, none⟩ y4_)).cell? ⟨gb130, 2, none⟩ = some y2_ := fun y0_ y1_ y2_ y3_ y4_ => (blk_cell ((blk_put (blk_put (blk_put (blk_put (blk_put BK130.out 0 y0_ rfl) 1 y1_ rfl) 2 y2_ rfl) 3 y3_ rfl) 4 y4_ rfl)) 2).trans rfl
                              have hdz33_3 : ∀ y0_ y1_ y2_ y3_ y4_ : Value, ((((((wc.setCell ⟨gb130, 0, none⟩ y0_).setCell ⟨gb130, 1, none⟩ y1_).setCell ⟨gb130, 2, none⟩ y2_).setCell ⟨gb130, 3, none⟩ y3_).setCell ⟨gb130, 4, none⟩ y4_)).cell? ⟨gb130, 3, none⟩ = some y3_ := fun y0_ y1_ y2_ y3_ y4_ => (blk_cell ((blk_put (blk_put (blk_put (blk_put (blk_put BK130.out 0 y0_ rfl) 1 y1_ rfl) 2 y2_ rfl) 3 y3_ rfl) 4 y4_ rfl)) 3).trans rfl
                              have hdz33_4 : ∀ y0_ y1_ y2_ y3_ y4_ : Value, ((((((wc.setCell ⟨gb130, 0, none⟩ y0_).setCell ⟨gb130, 1, none⟩ y1_).setCell ⟨gb130, 2, none⟩ y2_).setCell ⟨gb130, 3, none⟩ y3_).setCell ⟨gb130, 4, none⟩ y4_)).cell? ⟨gb130, 4, none⟩ = some y4_ := fun y0_ y1_ y2_ y3_ y4_ => (blk_cell ((blk_put (blk_put (blk_put (blk_put (blk_put BK130.out 0 y0_ rfl) 1 y1_ rfl) 2 y2_ rfl) 3 y3_ rfl) 4 y4_ rfl)) 4).trans rfl
                              try go_wp2_with (first | ((with_reducible refine gate_callee (f := 11) rfl ?_); refine goesL_ (some 25) rfl rfl Try.func11 (by kernel_rfl) rfl #[.agg #[.int .i64 a0_0, .int .i64 a0_1, .bool a0_2, .bool a0_3, .string x131004_3]] rfl (by (try simp only [List.map_toArray, List.map_cons, List.map_nil]); first | done | rfl | (simp only [List.length_drop, List.length_take]; rfl)) ?_; (with_reducible refine (chunk_Encode.calls kj3 a0_0 a0_1 a0_2 a0_3 x131004_3 t131 t132 _ A11.out).mono ?_); rintro e w34 ⟨rfl, hb⟩; refine ⟨_, rfl, ?_⟩; have n0_ := Aside0.mk (blk_below (g := gb130) (o := .cells #[.int .i64 a0_0, .int .i64 a0_1, .bool a0_2, .bool a0_3, .string x131004_3] 29 (0, 0)) (by (with_reducible repeat (first | refine blk_drewN ?_ _ | refine blk_drew ?_ | refine blk_alloc ?_ _)); exact BK130.out) hb); have n1_ := Aside0.mk (below_step (by repeat (first | (with_reducible first | exact HB.out | apply below_alloc | apply pw_below_drewN | apply below_drew1 | refine below_set ?_ GE130.out) | exact HB.out)) hb); clear BK130; clear HB; have BK130 := n0_; have HB := n1_; clear n0_ n1_; (try clear hb); (try clear hb2); (try clear hk); (try clear hi); have hcz35_0 : w34.cell? ⟨gb130, 0, none⟩ = some (.int .i64 a0_0) := (blk_cell BK130.out 0).trans rfl; have hcz35_1 : w34.cell? ⟨gb130, 1, none⟩ = some (.int .i64 a0_1) := (blk_cell BK130.out 1).trans rfl; have hcz35_2 : w34.cell? ⟨gb130, 2, none⟩ = some (.bool a0_2) := (blk_cell BK130.out 2).trans rfl; have hcz35_3 : w34.cell? ⟨gb130, 3, none⟩ = some (.bool a0_3) := (blk_cell BK130.out 3).trans rfl; have hcz35_4 : w34.cell? ⟨gb130, 4, none⟩ = some (.string x131004_3) := (blk_cell BK130.out 4).trans rfl; have hfz35_0 := blk_frozen BK130.out 0; have hfz35_1 := blk_frozen BK130.out 1; have hfz35_2 := blk_frozen BK130.out 2; have hfz35_3 := blk_frozen BK130.out 3; have hfz35_4 := blk_frozen BK130.out 4; have hdz35_0 : ∀ y0_ y1_ y2_ y3_ y4_ : Value, ((((((w34.setCell ⟨gb130, 0, none⟩ y0_).setCell ⟨gb130, 1, none⟩ y1_).setCell ⟨gb130, 2, none⟩ y2_).setCell ⟨gb130, 3, none⟩ y3_).setCell ⟨gb130, 4, none⟩ y4_)).cell? ⟨gb130, 0, none⟩ = some y0_ := fun y0_ y1_ y2_ y3_ y4_ => (blk_cell ((blk_put (blk_put (blk_put (blk_put (blk_put BK130.out 0 y0_ rfl) 1 y1_ rfl) 2 y2_ rfl) 3 y3_ rfl) 4 y4_ rfl)) 0).trans rfl; have hdz35_1 : ∀ y0_ y1_ y2_ y3_ y4_ : Value, ((((((w34.setCell ⟨gb130, 0, none⟩ y0_).setCell ⟨gb130, 1, none⟩ y1_).setCell ⟨gb130, 2, none⟩ y2_).setCell ⟨gb130, 3, none⟩ y3_).setCell ⟨gb130, 4, none⟩ y4_)).cell? ⟨gb130, 1, none⟩ = some y1_ := fun y0_ y1_ y2_ y3_ y4_ => (blk_cell ((blk_put (blk_put (blk_put (blk_put (blk_put BK130.out 0 y0_ rfl) 1 y1_ rfl) 2 y2_ rfl) 3 y3_ rfl) 4 y4_ rfl)) 1).trans rfl; have hdz35_2 : ∀ y0_ y1_ y2_ y3_ y4_ : Value, ((((((w34.setCell ⟨gb130, 0, none⟩ y0_).setCell ⟨gb130, 1, none⟩ y1_).setCell ⟨gb130, 2, none⟩ y2_).setCell ⟨gb130, 3, none⟩ y3_).setCell ⟨gb130, 4, none⟩ y4_)).cell? ⟨gb130, 2, none⟩ = some y2_ := fun y0_ y1_ y2_ y3_ y4_ => (blk_cell ((blk_put (blk_put (blk_put (blk_put (blk_put BK130.out 0 y0_ rfl) 1 y1_ rfl) 2 y2_ rfl) 3 y3_ rfl) 4 y4_ rfl)) 2).trans rfl; have hdz35_3 : ∀ y0_ y1_ y2_ y3_ y4_ : Value, ((((((w34.setCell ⟨gb130, 0, none⟩ y0_).setCell ⟨gb130, 1, none⟩ y1_).setCell ⟨gb130, 2, none⟩ y2_).setCell ⟨gb130, 3, none⟩ y3_).setCell ⟨gb130, 4, none⟩ y4_)).cell? ⟨gb130, 3, none⟩ = some y3_ := fun y0_ y1_ y2_ y3_ y4_ => (blk_cell ((blk_put (blk_put (blk_put (blk_put (blk_put BK130.out 0 y0_ rfl) 1 y1_ rfl) 2 y2_ rfl) 3 y3_ rfl) 4 y4_ rfl)) 3).trans rfl; have hdz35_4 : ∀ y0_ y1_ y2_ y3_ y4_ : Value, ((((((w34.setCell ⟨gb130, 0, none⟩ y0_).setCell ⟨gb130, 1, none⟩ y1_).setCell ⟨gb130, 2, none⟩ y2_).setCell ⟨gb130, 3, none⟩ y3_).setCell ⟨gb130, 4, none⟩ y4_)).cell? ⟨gb130, 4, none⟩ = some y4_ := fun y0_ y1_ y2_ y3_ y4_ => (blk_cell ((blk_put (blk_put (blk_put (blk_put (blk_put BK130.out 0 y0_ rfl) 1 y1_ rfl) 2 y2_ rfl) 3 y3_ rfl) 4 y4_ rfl)) 4).trans rfl) | ((with_reducible refine gate_callee (f := 12) rfl ?_); refine goesL_ (some 30) rfl rfl Try.func12 (by kernel_rfl) rfl #[.agg #[.int .i64 a0_0, .int .i64 a0_1, .bool a0_2, .bool a0_3, .string x131004_3]] rfl (by (try simp only [List.map_toArray, List.map_cons, List.map_nil]); first | done | rfl | (simp only [List.length_drop, List.length_take]; rfl)) ?_; (with_reducible refine (cubbyref04_Encode.calls kj3 a0_0 a0_1 a0_2 a0_3 x131004_3 t133 t134 _ A12.out).mono ?_); rintro e w36 ⟨rfl, hb⟩; refine ⟨_, rfl, ?_⟩; have n0_ := Aside0.mk (blk_below (g := gb130) (o := .cells #[.int .i64 a0_0, .int .i64 a0_1, .bool a0_2, .bool a0_3, .string x131004_3] 29 (0, 0)) (by (with_reducible repeat (first | refine blk_drewN ?_ _ | refine blk_drew ?_ | refine blk_alloc ?_ _)); exact BK130.out) hb); have n1_ := Aside0.mk (below_step (by repeat (first | (with_reducible first | exact HB.out | apply below_alloc | apply pw_below_drewN | apply below_drew1 | refine below_set ?_ GE130.out) | exact HB.out)) hb); clear BK130; clear HB; have BK130 := n0_; have HB := n1_; clear n0_ n1_; (try clear hb); (try clear hb2); (try clear hk); (try clear hi)))
                              have n0_ := Aside0.mk (blk_drew BK130.out)
                              have n1_ := Aside0.mk (below_drew1 HB.out)
                              clear BK130
                              clear HB
                              have BK130 := n0_
                              have HB := n1_
                              clear n0_ n1_
                              refine start_ (n := 13) (S := fun w' => True) (ds := []) #[false, false, false, false, false, false, false, false, false, false, false, false, false] (by kernel_rfl) rfl rfl trivial (fun hHeld => ?_); refine with_tabW cubbylaw04_ChunkSpoilt.tab10 cubbylaw04_ChunkSpoilt.bits10 (fun HT_ HW_ => ?_)
                              generalize w36.drew = w37 at BK130 HB hHeld ⊢
                              refine pure_ (i := 0) (N := some 55) (v := ?_) (a' := ?_) #[true, false, false, false, false, false, false, false, false, false, false, false, false] rfl rfl (any_of HT_.out (by kernel_rfl)) (fun _ _ _ h => h) (Or.inl ⟨by rfl, ?_⟩) ?_ ?_
                              rotate_left
                              · intro w'
                                go_simp
                                first | with_reducible rfl | (rw [if_neg (by (try simp only [ByteArray.size_extract, ByteArray.size_append] at *); (try simp only [eq_iff_iff, iff_true, iff_false] at *); omega)] <;> with_reducible rfl)
                              rotate_left
                              · simp only [Act.put, List.setIfInBounds_toArray, List.set_cons_zero, List.set_cons_succ, i64_w, i32_w]
                                rfl
                              refine pure_ (i := 1) (N := some 56) (v := ?_) (a' := ?_) #[true, true, false, false, false, false, false, false, false, false, false, false, false] rfl rfl (any_of HT_.out (by kernel_rfl)) (fun _ _ _ h => h) (Or.inl ⟨by rfl, ?_⟩) ?_ ?_
                              rotate_left
                              · intro w'
                                go_simp
                                first | with_reducible rfl | (rw [if_neg (by (try simp only [ByteArray.size_extract, ByteArray.size_append] at *); (try simp only [eq_iff_iff, iff_true, iff_false] at *); omega)] <;> with_reducible rfl)
                              rotate_left
                              · simp only [Act.put, List.setIfInBounds_toArray, List.set_cons_zero, List.set_cons_succ, i64_w, i32_w]
                                rfl
                              refine pure_ (i := 2) (N := some 57) (v := ?_) (a' := ?_) #[true, true, true, false, false, false, false, false, false, false, false, false, false] rfl rfl (any_of HT_.out (by kernel_rfl)) (fun _ _ _ h => h) (Or.inl ⟨by rfl, ?_⟩) ?_ ?_
                              rotate_left
                              · intro w'
                                go_simp
                                first | with_reducible rfl | (rw [if_neg (by (try simp only [ByteArray.size_extract, ByteArray.size_append] at *); (try simp only [eq_iff_iff, iff_true, iff_false] at *); omega)] <;> with_reducible rfl)
                              rotate_left
                              · simp only [Act.put, List.setIfInBounds_toArray, List.set_cons_zero, List.set_cons_succ, i64_w, i32_w]
                                rfl
                              refine pure_ (i := 3) (N := some 58) (v := ?_) (a' := ?_) #[true, true, true, true, false, false, false, false, false, false, false, false, false] rfl rfl (any_of HT_.out (by kernel_rfl)) (fun _ _ _ h => h) (Or.inl ⟨by rfl, ?_⟩) ?_ ?_
                              rotate_left
                              · intro w'
                                go_simp
                                first | with_reducible rfl | (rw [if_neg (by (try simp only [ByteArray.size_extract, ByteArray.size_append] at *); (try simp only [eq_iff_iff, iff_true, iff_false] at *); omega)] <;> with_reducible rfl)
                              rotate_left
                              · simp only [Act.put, List.setIfInBounds_toArray, List.set_cons_zero, List.set_cons_succ, i64_w, i32_w]
                                rfl
                              refine pure_ (i := 7) (N := some 62) (v := ?_) (a' := ?_) #[true, true, true, true, false, false, false, true, false, false, false, false, false] rfl rfl (any_of HT_.out (by kernel_rfl)) (fun _ _ _ h => h) (Or.inl ⟨by rfl, ?_⟩) ?_ ?_
                              rotate_left
                              · intro w'
                                go_simp
                                first | with_reducible rfl | (rw [if_neg (by (try simp only [ByteArray.size_extract, ByteArray.size_append] at *); (try simp only [eq_iff_iff, iff_true, iff_false] at *); omega)] <;> with_reducible rfl)
                              rotate_left
                              · simp only [Act.put, List.setIfInBounds_toArray, List.set_cons_zero, List.set_cons_succ, i64_w, i32_w]
                                rfl
                              refine pure_ (i := 8) (N := some 63) (v := ?_) (a' := ?_) #[true, true, true, true, false, false, false, true, true, false, false, false, false] rfl rfl (any_of HT_.out (by kernel_rfl)) (fun _ _ _ h => h) (Or.inl ⟨by rfl, ?_⟩) ?_ ?_
                              rotate_left
                              · intro w'
                                go_simp
                                first | with_reducible rfl | (rw [if_neg (by (try simp only [ByteArray.size_extract, ByteArray.size_append] at *); (try simp only [eq_iff_iff, iff_true, iff_false] at *); omega)] <;> with_reducible rfl)
                              rotate_left
                              · simp only [Act.put, List.setIfInBounds_toArray, List.set_cons_zero, List.set_cons_succ, i64_w, i32_w]
                                rfl
                              refine pure_ (i := 9) (N := some 64) (v := ?_) (a' := ?_) #[true, true, true, true, false, false, false, true, true, true, false, false, false] rfl rfl (any_of HT_.out (by kernel_rfl)) (fun _ _ _ h => h) (Or.inl ⟨by rfl, ?_⟩) ?_ ?_
                              rotate_left
                              · intro w'
                                go_simp
                                first | with_reducible rfl | (rw [if_neg (by (try simp only [ByteArray.size_extract, ByteArray.size_append] at *); (try simp only [eq_iff_iff, iff_true, iff_false] at *); omega)] <;> with_reducible rfl)
                              rotate_left
                              · simp only [Act.put, List.setIfInBounds_toArray, List.set_cons_zero, List.set_cons_succ, i64_w, i32_w]
                                rfl
                              refine pure_ (i := 10) (N := some 65) (v := ?_) (a' := ?_) #[true, true, true, true, false, false, false, true, true, true, true, false, false] rfl rfl (any_of HT_.out (by kernel_rfl)) (fun _ _ _ h => h) (Or.inl ⟨by rfl, ?_⟩) ?_ ?_
                              rotate_left
                              · intro w'
                                go_simp
                                first | with_reducible rfl | (rw [if_neg (by (try simp only [ByteArray.size_extract, ByteArray.size_append] at *); (try simp only [eq_iff_iff, iff_true, iff_false] at *); omega)] <;> with_reducible rfl)
                              rotate_left
                              · simp only [Act.put, List.setIfInBounds_toArray, List.set_cons_zero, List.set_cons_succ, i64_w, i32_w]
                                rfl
                              refine one_ (i := 4) (N := some 59) #[true, true, true, true, true, false, false, true, true, true, true, false, false] rfl rfl (one_of HT_.out (by kernel_rfl)) (by decide) (fun K hK => ?_)
                              refine Kd.R_lit_step (Kd.int .u8) _ 5 ?hg (N := 59) ?hd (xs := ([a2] : List Int)) (inner := [.int .u8 a2]) (ok := fun _ => True) (okp := fun _ => True) ?hr ?hp (fun _ hk => hk) trivial (Below.refl _ _) (Nat.le_refl _) (by simp) ?_; (case hd => rfl); (case hg => rfl); (case hr => first | (go_simp; done) | (go_simp; rfl)); (case hp => exact (Reps.one (show Kd.M (Kd.int .u8) _ _ _ a2 [.int .u8 a2] from rfl) (Reps.none _ _)))
                              intro v136 w38 ho39 hb hg_ hnew_
                              clear hg_ hnew_
                              (first | rw [← Ny135.out] at ho39 | (simp only [Int.reduceToNat] at ho39; rw [← Ny135.out] at ho39))
                              have n0_ := Aside0.mk (Kd.R_lower ho39 (below_size (by repeat (first | (with_reducible first | exact HB.out | apply below_alloc | apply pw_below_drewN | apply below_drew1 | refine below_set ?_ GE130.out) | exact HB.out))))
                              have n1_ := Aside0.mk (blk_below (g := gb130) (o := .cells #[.int .i64 a0_0, .int .i64 a0_1, .bool a0_2, .bool a0_3, .string x131004_3] 29 (0, 0)) (by (with_reducible repeat (first | refine blk_drewN ?_ _ | refine blk_drew ?_ | refine blk_alloc ?_ _)); exact BK130.out) hb)
                              have n2_ := Aside0.mk (below_step (by repeat (first | (with_reducible first | exact HB.out | apply below_alloc | apply pw_below_drewN | apply below_drew1 | refine below_set ?_ GE130.out) | exact HB.out)) hb)
                              clear BK130
                              clear HB
                              have HO137 := n0_
                              have BK130 := n1_
                              have HB := n2_
                              clear n0_ n1_ n2_
                              clear hb ho39
                              refine hK.out _ _ trivial (fun hHeld => ?_)
                              clear hK K
                              refine norm_ (a' := ?_) ?_ ?_
                              rotate_left
                              · show Act.put _ (some 59) _ = _
                                simp only [Act.put, List.setIfInBounds_toArray, List.set_cons_zero, List.set_cons_succ, i64_w, i32_w]
                                rfl
                              refine one_ (i := 5) (N := some 60) #[true, true, true, true, true, true, false, true, true, true, true, false, false] rfl rfl (one_of HT_.out (by kernel_rfl)) (by decide) (fun K hK => ?_)
                              have hcv40 := own_string (P := Try.prog) Try.underlying35 Try.underlying5 Try.underlying9 (Kd.own_of_R HO137.out)
                              refine value_ (w1 := ?_) (v := ?_) (by rfl) rfl ?_ ?_
                              rotate_left 2
                              · go_simp
                                constructor
                                · rfl
                                · rfl
                              clear hcv40
                              refine hK.out _ _ trivial (fun hHeld => ?_)
                              clear hK K
                              refine norm_ (a' := ?_) ?_ ?_
                              rotate_left
                              · show Act.put _ (some 60) _ = _
                                simp only [Act.put, List.setIfInBounds_toArray, List.set_cons_zero, List.set_cons_succ, i64_w, i32_w]
                                rfl
                              refine pure_ (i := 6) (N := some 61) (v := ?_) (a' := ?_) #[true, true, true, true, true, true, true, true, true, true, true, false, false] rfl rfl (any_of HT_.out (by kernel_rfl)) (fun _ _ _ h => h) (Or.inl ⟨by rfl, ?_⟩) ?_ ?_
                              rotate_left
                              · intro w'
                                go_simp
                                first | with_reducible rfl | (rw [if_neg (by (try simp only [ByteArray.size_extract, ByteArray.size_append] at *); (try simp only [eq_iff_iff, iff_true, iff_false] at *); omega)] <;> with_reducible rfl)
                              rotate_left
                              · simp only [Act.put, List.setIfInBounds_toArray, List.set_cons_zero, List.set_cons_succ, i64_w, i32_w]
                                rfl
                              refine pure_ (i := 11) (N := some 66) (v := ?_) (a' := ?_) #[true, true, true, true, true, true, true, true, true, true, true, true, false] rfl rfl (any_of HT_.out (by kernel_rfl)) (fun _ _ _ h => h) (Or.inl ⟨by rfl, ?_⟩) ?_ ?_
                              rotate_left
                              · intro w'
                                go_simp
                                first | with_reducible rfl | (rw [if_neg (by (try simp only [ByteArray.size_extract, ByteArray.size_append] at *); (try simp only [eq_iff_iff, iff_true, iff_false] at *); omega)] <;> with_reducible rfl)
                              rotate_left
                              · simp only [Act.put, List.setIfInBounds_toArray, List.set_cons_zero, List.set_cons_succ, i64_w, i32_w]
                                rfl
                              refine pure_ (i := 12) (N := some 12) (v := ?_) (a' := ?_) #[true, true, true, true, true, true, true, true, true, true, true, true, true] rfl rfl (any_of HT_.out (by kernel_rfl)) (fun _ _ _ h => h) (Or.inl ⟨by rfl, ?_⟩) ?_ ?_
                              rotate_left
                              · intro w'
                                go_simp
                                first | with_reducible rfl | (rw [if_neg (by (try simp only [ByteArray.size_extract, ByteArray.size_append] at *); (try simp only [eq_iff_iff, iff_true, iff_false] at *); omega)] <;> with_reducible rfl)
                              rotate_left
                              · simp only [Act.put, List.setIfInBounds_toArray, List.set_cons_zero, List.set_cons_succ, i64_w, i32_w]
                                rfl
                              refine done_ (done_of HT_.out (by kernel_rfl)) ?_
                              try go_wp2_with (first | ((with_reducible refine gate_callee (f := 13) rfl ?_); refine goesL_ (some 69) rfl rfl Try.func13 (by kernel_rfl) rfl #[.string (((t131.extract 0 ((ji20) : Int).toNat) ++ (strOfNums y135)) ++ (t131.extract ((ji24) : Int).toNat t131.size))] rfl (by (try simp only [List.map_toArray, List.map_cons, List.map_nil]); first | done | (simp only [hji20, hji24]; rfl) | rfl | (simp only [List.length_drop, List.length_take]; rfl)) ?_; (with_reducible refine (chunk_Decode.calls kj3 (((t131.extract 0 ((ji20) : Int).toNat) ++ (strOfNums y135)) ++ (t131.extract ((ji24) : Int).toNat t131.size)) a0_0 a0_1 a0_2 a0_3 x131004_3 t143 _ A28.out).mono ?_); rintro e w41 ⟨rfl, hb⟩; refine ⟨_, rfl, ?_⟩; have n0_ := Aside0.mk (Kd.R_below (by (with_reducible repeat (first | apply Kd.R_alloc | apply Kd.R_drewN | apply Kd.R_drew)); exact HO137.out) hb); have n1_ := Aside0.mk (blk_below (g := gb130) (o := .cells #[.int .i64 a0_0, .int .i64 a0_1, .bool a0_2, .bool a0_3, .string x131004_3] 29 (0, 0)) (by (with_reducible repeat (first | refine blk_drewN ?_ _ | refine blk_drew ?_ | refine blk_alloc ?_ _)); exact BK130.out) hb); have n2_ := Aside0.mk (below_step (by repeat (first | (with_reducible first | exact HB.out | apply below_alloc | apply pw_below_drewN | apply below_drew1 | refine below_set ?_ GE130.out) | exact HB.out)) hb); clear HO137; clear BK130; clear HB; have HO137 := n0_; have BK130 := n1_; have HB := n2_; clear n0_ n1_ n2_; (try clear hb); (try clear hb2); (try clear hk); (try clear hi)) | ((with_reducible refine gate_dst (N := 13) rfl ?_); (try (refine gate_guard (by rfl) ?_; dsimp only)); refine box_event ?hg (N := 13) ?hd (cs := #[.int .i64 0, .int .i64 0, .bool false, .bool false, .string (⟨#[]⟩ : ByteArray)]) (t := 29) ?hr ?_; (case hd => rfl); (case hg => rfl); (case hr => first | (go_simp; done) | (go_simp; rfl)); intro gb144 hg w42 hbox hb; have n0_ := Aside0.mk (Kd.R_below (by (with_reducible repeat (first | apply Kd.R_alloc | apply Kd.R_drewN | apply Kd.R_drew)); exact HO137.out) hb); have n1_ := Aside0.mk (blk_below (g := gb130) (o := .cells #[.int .i64 a0_0, .int .i64 a0_1, .bool a0_2, .bool a0_3, .string x131004_3] 29 (0, 0)) (by (with_reducible repeat (first | refine blk_drewN ?_ _ | refine blk_drew ?_ | refine blk_alloc ?_ _)); exact BK130.out) hb); have n2_ := Aside0.mk (below_step (by repeat (first | (with_reducible first | exact HB.out | apply below_alloc | apply pw_below_drewN | apply below_drew1 | refine below_set ?_ GE130.out) | exact HB.out)) hb); have n3_ := Aside0.mk (hbox); have n4_ := Aside0.mk ((by rw [hg]; exact (below_size (by repeat (first | (with_reducible first | exact HB.out | apply below_alloc | apply pw_below_drewN | apply below_drew1 | refine below_set ?_ GE130.out) | exact HB.out))) : w.heap.size ≤ gb144)); have n5_ := Aside0.mk ((by rw [hg]; exact (below_size (by repeat (first | (with_reducible first | exact HB.out | apply below_alloc | apply pw_below_drewN | apply below_drew1 | refine below_set ?_ GE130.out) | exact HB.out))) : w.heap.size ≤ gb144)); have n6_ := Aside0.mk ((by rw [hg]; exact Nat.ne_of_lt (blk_lt (g := gb130) (o := .cells #[.int .i64 a0_0, .int .i64 a0_1, .bool a0_2, .bool a0_3, .string x131004_3] 29 (0, 0)) (by (with_reducible repeat (first | refine blk_drewN ?_ _ | refine blk_drew ?_ | refine blk_alloc ?_ _)); exact BK130.out)) : gb130 ≠ gb144)); have n7_ := Aside0.mk ((by rw [hg]; exact Nat.ne_of_gt (blk_lt (g := gb130) (o := .cells #[.int .i64 a0_0, .int .i64 a0_1, .bool a0_2, .bool a0_3, .string x131004_3] 29 (0, 0)) (by (with_reducible repeat (first | refine blk_drewN ?_ _ | refine blk_drew ?_ | refine blk_alloc ?_ _)); exact BK130.out)) : gb144 ≠ gb130)); clear HO137; clear BK130; clear HB; have HO137 := n0_; have BK130 := n1_; have HB := n2_; have BK144 := n3_; have GW144 := n4_; have GE144 := n5_; have NB130_144 := n6_; have NB144_130 := n7_; clear n0_ n1_ n2_ n3_ n4_ n5_ n6_ n7_; clear hb hbox hg; have hnb43 := NB144_130.out; have hnc43 := NB130_144.out; have hcz44_0 : w42.cell? ⟨gb144, 0, none⟩ = some (.int .i64 0) := (blk_cell BK144.out 0).trans rfl; have hcz44_1 : w42.cell? ⟨gb144, 1, none⟩ = some (.int .i64 0) := (blk_cell BK144.out 1).trans rfl; have hcz44_2 : w42.cell? ⟨gb144, 2, none⟩ = some (.bool false) := (blk_cell BK144.out 2).trans rfl; have hcz44_3 : w42.cell? ⟨gb144, 3, none⟩ = some (.bool false) := (blk_cell BK144.out 3).trans rfl; have hcz44_4 : w42.cell? ⟨gb144, 4, none⟩ = some (.string (⟨#[]⟩ : ByteArray)) := (blk_cell BK144.out 4).trans rfl; have hfz44_0 := blk_frozen BK144.out 0; have hfz44_1 := blk_frozen BK144.out 1; have hfz44_2 := blk_frozen BK144.out 2; have hfz44_3 := blk_frozen BK144.out 3; have hfz44_4 := blk_frozen BK144.out 4; have hdz44_0 : ∀ y0_ y1_ y2_ y3_ y4_ : Value, ((((((w42.setCell ⟨gb144, 0, none⟩ y0_).setCell ⟨gb144, 1, none⟩ y1_).setCell ⟨gb144, 2, none⟩ y2_).setCell ⟨gb144, 3, none⟩ y3_).setCell ⟨gb144, 4, none⟩ y4_)).cell? ⟨gb144, 0, none⟩ = some y0_ := fun y0_ y1_ y2_ y3_ y4_ => (blk_cell ((blk_put (blk_put (blk_put (blk_put (blk_put BK144.out 0 y0_ rfl) 1 y1_ rfl) 2 y2_ rfl) 3 y3_ rfl) 4 y4_ rfl)) 0).trans rfl; have hdz44_1 : ∀ y0_ y1_ y2_ y3_ y4_ : Value, ((((((w42.setCell ⟨gb144, 0, none⟩ y0_).setCell ⟨gb144, 1, none⟩ y1_).setCell ⟨gb144, 2, none⟩ y2_).setCell ⟨gb144, 3, none⟩ y3_).setCell ⟨gb144, 4, none⟩ y4_)).cell? ⟨gb144, 1, none⟩ = some y1_ := fun y0_ y1_ y2_ y3_ y4_ => (blk_cell ((blk_put (blk_put (blk_put (blk_put (blk_put BK144.out 0 y0_ rfl) 1 y1_ rfl) 2 y2_ rfl) 3 y3_ rfl) 4 y4_ rfl)) 1).trans rfl; have hdz44_2 : ∀ y0_ y1_ y2_ y3_ y4_ : Value, ((((((w42.setCell ⟨gb144, 0, none⟩ y0_).setCell ⟨gb144, 1, none⟩ y1_).setCell ⟨gb144, 2, none⟩ y2_).setCell ⟨gb144, 3, none⟩ y3_).setCell ⟨gb144, 4, none⟩ y4_)).cell? ⟨gb144, 2, none⟩ = some y2_ := fun y0_ y1_ y2_ y3_ y4_ => (blk_cell ((blk_put (blk_put (blk_put (blk_put (blk_put BK144.out 0 y0_ rfl) 1 y1_ rfl) 2 y2_ rfl) 3 y3_ rfl) 4 y4_ rfl)) 2).trans rfl; have hdz44_3 : ∀ y0_ y1_ y2_ y3_ y4_ : Value, ((((((w42.setCell ⟨gb144, 0, none⟩ y0_).setCell ⟨gb144, 1, none⟩ y1_).setCell ⟨gb144, 2, none⟩ y2_).setCell ⟨gb144, 3, none⟩ y3_).setCell ⟨gb144, 4, none⟩ y4_)).cell? ⟨gb144, 3, none⟩ = some y3_ := fun y0_ y1_ y2_ y3_ y4_ => (blk_cell ((blk_put (blk_put (blk_put (blk_put (blk_put BK144.out 0 y0_ rfl) 1 y1_ rfl) 2 y2_ rfl) 3 y3_ rfl) 4 y4_ rfl)) 3).trans rfl; have hdz44_4 : ∀ y0_ y1_ y2_ y3_ y4_ : Value, ((((((w42.setCell ⟨gb144, 0, none⟩ y0_).setCell ⟨gb144, 1, none⟩ y1_).setCell ⟨gb144, 2, none⟩ y2_).setCell ⟨gb144, 3, none⟩ y3_).setCell ⟨gb144, 4, none⟩ y4_)).cell? ⟨gb144, 4, none⟩ = some y4_ := fun y0_ y1_ y2_ y3_ y4_ => (blk_cell ((blk_put (blk_put (blk_put (blk_put (blk_put BK144.out 0 y0_ rfl) 1 y1_ rfl) 2 y2_ rfl) 3 y3_ rfl) 4 y4_ rfl)) 4).trans rfl; have p30 : 0 ≤ ((ji20) : Int) := of_decide_eq_true (by first | (with_reducible assumption) | assumption); have q30 : (ji20) < (t131.size : Int) := of_decide_eq_true (by first | (with_reducible assumption) | assumption); have hx30 := bt_at t131 (ji20); replace p30 := eq_true p30; replace q30 := eq_true q30; have hcz45_0 : w42.cell? ⟨gb130, 0, none⟩ = some (.int .i64 a0_0) := (blk_cell BK130.out 0).trans rfl; have hcz45_1 : w42.cell? ⟨gb130, 1, none⟩ = some (.int .i64 a0_1) := (blk_cell BK130.out 1).trans rfl; have hcz45_2 : w42.cell? ⟨gb130, 2, none⟩ = some (.bool a0_2) := (blk_cell BK130.out 2).trans rfl; have hcz45_3 : w42.cell? ⟨gb130, 3, none⟩ = some (.bool a0_3) := (blk_cell BK130.out 3).trans rfl; have hcz45_4 : w42.cell? ⟨gb130, 4, none⟩ = some (.string x131004_3) := (blk_cell BK130.out 4).trans rfl; have hfz45_0 := blk_frozen BK130.out 0; have hfz45_1 := blk_frozen BK130.out 1; have hfz45_2 := blk_frozen BK130.out 2; have hfz45_3 := blk_frozen BK130.out 3; have hfz45_4 := blk_frozen BK130.out 4; have hdz45_0 : ∀ y0_ y1_ y2_ y3_ y4_ : Value, ((((((w42.setCell ⟨gb130, 0, none⟩ y0_).setCell ⟨gb130, 1, none⟩ y1_).setCell ⟨gb130, 2, none⟩ y2_).setCell ⟨gb130, 3, none⟩ y3_).setCell ⟨gb130, 4, none⟩ y4_)).cell? ⟨gb130, 0, none⟩ = some y0_ := fun y0_ y1_ y2_ y3_ y4_ => (blk_cell ((blk_put (blk_put (blk_put (blk_put (blk_put BK130.out 0 y0_ rfl) 1 y1_ rfl) 2 y2_ rfl) 3 y3_ rfl) 4 y4_ rfl)) 0).trans rfl; have hdz45_1 : ∀ y0_ y1_ y2_ y3_ y4_ : Value, ((((((w42.setCell ⟨gb130, 0, none⟩ y0_).setCell ⟨gb130, 1, none⟩ y1_).setCell ⟨gb130, 2, none⟩ y2_).setCell ⟨gb130, 3, none⟩ y3_).setCell ⟨gb130, 4, none⟩ y4_)).cell? ⟨gb130, 1, none⟩ = some y1_ := fun y0_ y1_ y2_ y3_ y4_ => (blk_cell ((blk_put (blk_put (blk_put (blk_put (blk_put BK130.out 0 y0_ rfl) 1 y1_ rfl) 2 y2_ rfl) 3 y3_ rfl) 4 y4_ rfl)) 1).trans rfl; have hdz45_2 : ∀ y0_ y1_ y2_ y3_ y4_ : Value, ((((((w42.setCell ⟨gb130, 0, none⟩ y0_).setCell ⟨gb130, 1, none⟩ y1_).setCell ⟨gb130, 2, none⟩ y2_).setCell ⟨gb130, 3, none⟩ y3_).setCell ⟨gb130, 4, none⟩ y4_)).cell? ⟨gb130, 2, none⟩ = some y2_ := fun y0_ y1_ y2_ y3_ y4_ => (blk_cell ((blk_put (blk_put (blk_put (blk_put (blk_put BK130.out 0 y0_ rfl) 1 y1_ rfl) 2 y2_ rfl) 3 y3_ rfl) 4 y4_ rfl)) 2).trans rfl; have hdz45_3 : ∀ y0_ y1_ y2_ y3_ y4_ : Value, ((((((w42.setCell ⟨gb130, 0, none⟩ y0_).setCell ⟨gb130, 1, none⟩ y1_).setCell ⟨gb130, 2, none⟩ y2_).setCell ⟨gb130, 3, none⟩ y3_).setCell ⟨gb130, 4, none⟩ y4_)).cell? ⟨gb130, 3, none⟩ = some y3_ := fun y0_ y1_ y2_ y3_ y4_ => (blk_cell ((blk_put (blk_put (blk_put (blk_put (blk_put BK130.out 0 y0_ rfl) 1 y1_ rfl) 2 y2_ rfl) 3 y3_ rfl) 4 y4_ rfl)) 3).trans rfl; have hdz45_4 : ∀ y0_ y1_ y2_ y3_ y4_ : Value, ((((((w42.setCell ⟨gb130, 0, none⟩ y0_).setCell ⟨gb130, 1, none⟩ y1_).setCell ⟨gb130, 2, none⟩ y2_).setCell ⟨gb130, 3, none⟩ y3_).setCell ⟨gb130, 4, none⟩ y4_)).cell? ⟨gb130, 4, none⟩ = some y4_ := fun y0_ y1_ y2_ y3_ y4_ => (blk_cell ((blk_put (blk_put (blk_put (blk_put (blk_put BK130.out 0 y0_ rfl) 1 y1_ rfl) 2 y2_ rfl) 3 y3_ rfl) 4 y4_ rfl)) 4).trans rfl))
                              go_ret
                              exact ⟨by first | rfl | (simp [errW_none, errW_some] <;> rfl) | (simp only [← hji20, ← hji24]; first | rfl | (simp [errW_none, errW_some] <;> rfl)) | (simp [*, errW_none, errW_some] <;> rfl), by repeat (first | (with_reducible first | exact HB.out | apply below_alloc | apply pw_below_drewN | apply below_drew1 | refine below_set ?_ GE130.out | refine below_set ?_ GE144.out) | exact HB.out)⟩
                            · rw [if_neg c32] at H
                              have c32b0 : (t138 == a0_0 && (t139 == a0_1 && (t140 == a0_2 && (t141 == a0_3 && (t142.toList == x131004_3.toList))))) = false := by simpa using c32
                              (try (have c32b1 : decide (t138 = a0_0 && (t139 == a0_1 && (t140 == a0_2 && (t141 == a0_3 && (t142.toList == x131004_3.toList))))) = false := by simpa using c32))
                              (try (have c32b2 : (t138 == a0_0 && (t139 == a0_1 && (t140 == a0_2 && (t141 == a0_3 && (t142.toList == x131004_3.toList))))) = false := by simpa using c32))
                              (try (have c32b3 : ¬ (t138 = a0_0 && (t139 == a0_1 && (t140 == a0_2 && (t141 == a0_3 && (t142.toList == x131004_3.toList))))) := by simpa using c32))
                              clear c32
                              obtain rfl := Option.some.inj H
                              have hcz46_0 : wc.cell? ⟨gb130, 0, none⟩ = some (.int .i64 a0_0) := (blk_cell BK130.out 0).trans rfl
                              have hcz46_1 : wc.cell? ⟨gb130, 1, none⟩ = some (.int .i64 a0_1) := (blk_cell BK130.out 1).trans rfl
                              have hcz46_2 : wc.cell? ⟨gb130, 2, none⟩ = some (.bool a0_2) := (blk_cell BK130.out 2).trans rfl
                              have hcz46_3 : wc.cell? ⟨gb130, 3, none⟩ = some (.bool a0_3) := (blk_cell BK130.out 3).trans rfl
                              have hcz46_4 : wc.cell? ⟨gb130, 4, none⟩ = some (.string x131004_3) := (blk_cell BK130.out 4).trans rfl
                              have hfz46_0 := blk_frozen BK130.out 0
                              have hfz46_1 := blk_frozen BK130.out 1
                              have hfz46_2 := blk_frozen BK130.out 2
                              have hfz46_3 := blk_frozen BK130.out 3
                              have hfz46_4 := blk_frozen BK130.out 4
                              have hdz46_0 : ∀ y0_ y1_ y2_ y3_ y4_ : Value, ((((((wc.setCell ⟨gb130, 0, none⟩ y0_).setCell ⟨gb130, 1, none⟩ y1_).setCell ⟨gb130, 2, none⟩ y2_).setCell ⟨gb130, 3, none⟩ y3_).setCell ⟨gb130, 4, none⟩ y4_)).cell? ⟨gb130, 0, none⟩ = some y0_ := fun y0_ y1_ y2_ y3_ y4_ => (blk_cell ((blk_put (blk_put (blk_put (blk_put (blk_put BK130.out 0 y0_ rfl) 1 y1_ rfl) 2 y2_ rfl) 3 y3_ rfl) 4 y4_ rfl)) 0).trans rfl
                              have hdz46_1 : ∀ y0_ y1_ y2_ y3_ y4_ : Value, ((((((wc.setCell ⟨gb130, 0, none⟩ y0_).setCell ⟨gb130, 1, none⟩ y1_).setCell ⟨gb130, 2, none⟩ y2_).setCell ⟨gb130, 3, none⟩ y3_).setCell ⟨gb130, 4, none⟩ y4_)).cell? ⟨gb130, 1, none⟩ = some y1_ := fun y0_ y1_ y2_ y3_ y4_ => (blk_cell ((blk_put (blk_put (blk_put (blk_put (blk_put BK130.out 0 y0_ rfl) 1 y1_ rfl) 2 y2_ rfl) 3 y3_ rfl) 4 y4_ rfl)) 1).trans rfl
                              have hdz46_2 : ∀ y0_ y1_ y2_ y3_ y4_ : Value, ((((((wc.setCell ⟨gb130, 0, none⟩ y0_).setCell ⟨gb130, 1, none⟩ y1_).setCell ⟨gb130, 2, none⟩ y2_).setCell ⟨gb130, 3, none⟩ y3_).setCell ⟨gb130, 4, none⟩ y4_)).cell? ⟨gb130, 2, none⟩ = some y2_ := fun y0_ y1_ y2_ y3_ y4_ => (blk_cell ((blk_put (blk_put (blk_put (blk_put (blk_put BK130.out 0 y0_ rfl) 1 y1_ rfl) 2 y2_ rfl) 3 y3_ rfl) 4 y4_ rfl)) 2).trans rfl
                              have hdz46_3 : ∀ y0_ y1_ y2_ y3_ y4_ : Value, ((((((wc.setCell ⟨gb130, 0, none⟩ y0_).setCell ⟨gb130, 1, none⟩ y1_).setCell ⟨gb130, 2, none⟩ y2_).setCell ⟨gb130, 3, none⟩ y3_).setCell ⟨gb130, 4, none⟩ y4_)).cell? ⟨gb130, 3, none⟩ = some y3_ := fun y0_ y1_ y2_ y3_ y4_ => (blk_cell ((blk_put (blk_put (blk_put (blk_put (blk_put BK130.out 0 y0_ rfl) 1 y1_ rfl) 2 y2_ rfl) 3 y3_ rfl) 4 y4_ rfl)) 3).trans rfl
                              have hdz46_4 : ∀ y0_ y1_ y2_ y3_ y4_ : Value, ((((((wc.setCell ⟨gb130, 0, none⟩ y0_).setCell ⟨gb130, 1, none⟩ y1_).setCell ⟨gb130, 2, none⟩ y2_).setCell ⟨gb130, 3, none⟩ y3_).setCell ⟨gb130, 4, none⟩ y4_)).cell? ⟨gb130, 4, none⟩ = some y4_ := fun y0_ y1_ y2_ y3_ y4_ => (blk_cell ((blk_put (blk_put (blk_put (blk_put (blk_put BK130.out 0 y0_ rfl) 1 y1_ rfl) 2 y2_ rfl) 3 y3_ rfl) 4 y4_ rfl)) 4).trans rfl
                              try go_wp2_with (first | ((with_reducible refine gate_callee (f := 11) rfl ?_); refine goesL_ (some 25) rfl rfl Try.func11 (by kernel_rfl) rfl #[.agg #[.int .i64 a0_0, .int .i64 a0_1, .bool a0_2, .bool a0_3, .string x131004_3]] rfl (by (try simp only [List.map_toArray, List.map_cons, List.map_nil]); first | done | rfl | (simp only [List.length_drop, List.length_take]; rfl)) ?_; (with_reducible refine (chunk_Encode.calls kj3 a0_0 a0_1 a0_2 a0_3 x131004_3 t131 t132 _ A11.out).mono ?_); rintro e w47 ⟨rfl, hb⟩; refine ⟨_, rfl, ?_⟩; have n0_ := Aside0.mk (blk_below (g := gb130) (o := .cells #[.int .i64 a0_0, .int .i64 a0_1, .bool a0_2, .bool a0_3, .string x131004_3] 29 (0, 0)) (by (with_reducible repeat (first | refine blk_drewN ?_ _ | refine blk_drew ?_ | refine blk_alloc ?_ _)); exact BK130.out) hb); have n1_ := Aside0.mk (below_step (by repeat (first | (with_reducible first | exact HB.out | apply below_alloc | apply pw_below_drewN | apply below_drew1 | refine below_set ?_ GE130.out) | exact HB.out)) hb); clear BK130; clear HB; have BK130 := n0_; have HB := n1_; clear n0_ n1_; (try clear hb); (try clear hb2); (try clear hk); (try clear hi); have hcz48_0 : w47.cell? ⟨gb130, 0, none⟩ = some (.int .i64 a0_0) := (blk_cell BK130.out 0).trans rfl; have hcz48_1 : w47.cell? ⟨gb130, 1, none⟩ = some (.int .i64 a0_1) := (blk_cell BK130.out 1).trans rfl; have hcz48_2 : w47.cell? ⟨gb130, 2, none⟩ = some (.bool a0_2) := (blk_cell BK130.out 2).trans rfl; have hcz48_3 : w47.cell? ⟨gb130, 3, none⟩ = some (.bool a0_3) := (blk_cell BK130.out 3).trans rfl; have hcz48_4 : w47.cell? ⟨gb130, 4, none⟩ = some (.string x131004_3) := (blk_cell BK130.out 4).trans rfl; have hfz48_0 := blk_frozen BK130.out 0; have hfz48_1 := blk_frozen BK130.out 1; have hfz48_2 := blk_frozen BK130.out 2; have hfz48_3 := blk_frozen BK130.out 3; have hfz48_4 := blk_frozen BK130.out 4; have hdz48_0 : ∀ y0_ y1_ y2_ y3_ y4_ : Value, ((((((w47.setCell ⟨gb130, 0, none⟩ y0_).setCell ⟨gb130, 1, none⟩ y1_).setCell ⟨gb130, 2, none⟩ y2_).setCell ⟨gb130, 3, none⟩ y3_).setCell ⟨gb130, 4, none⟩ y4_)).cell? ⟨gb130, 0, none⟩ = some y0_ := fun y0_ y1_ y2_ y3_ y4_ => (blk_cell ((blk_put (blk_put (blk_put (blk_put (blk_put BK130.out 0 y0_ rfl) 1 y1_ rfl) 2 y2_ rfl) 3 y3_ rfl) 4 y4_ rfl)) 0).trans rfl; have hdz48_1 : ∀ y0_ y1_ y2_ y3_ y4_ : Value, ((((((w47.setCell ⟨gb130, 0, none⟩ y0_).setCell ⟨gb130, 1, none⟩ y1_).setCell ⟨gb130, 2, none⟩ y2_).setCell ⟨gb130, 3, none⟩ y3_).setCell ⟨gb130, 4, none⟩ y4_)).cell? ⟨gb130, 1, none⟩ = some y1_ := fun y0_ y1_ y2_ y3_ y4_ => (blk_cell ((blk_put (blk_put (blk_put (blk_put (blk_put BK130.out 0 y0_ rfl) 1 y1_ rfl) 2 y2_ rfl) 3 y3_ rfl) 4 y4_ rfl)) 1).trans rfl; have hdz48_2 : ∀ y0_ y1_ y2_ y3_ y4_ : Value, ((((((w47.setCell ⟨gb130, 0, none⟩ y0_).setCell ⟨gb130, 1, none⟩ y1_).setCell ⟨gb130, 2, none⟩ y2_).setCell ⟨gb130, 3, none⟩ y3_).setCell ⟨gb130, 4, none⟩ y4_)).cell? ⟨gb130, 2, none⟩ = some y2_ := fun y0_ y1_ y2_ y3_ y4_ => (blk_cell ((blk_put (blk_put (blk_put (blk_put (blk_put BK130.out 0 y0_ rfl) 1 y1_ rfl) 2 y2_ rfl) 3 y3_ rfl) 4 y4_ rfl)) 2).trans rfl; have hdz48_3 : ∀ y0_ y1_ y2_ y3_ y4_ : Value, ((((((w47.setCell ⟨gb130, 0, none⟩ y0_).setCell ⟨gb130, 1, none⟩ y1_).setCell ⟨gb130, 2, none⟩ y2_).setCell ⟨gb130, 3, none⟩ y3_).setCell ⟨gb130, 4, none⟩ y4_)).cell? ⟨gb130, 3, none⟩ = some y3_ := fun y0_ y1_ y2_ y3_ y4_ => (blk_cell ((blk_put (blk_put (blk_put (blk_put (blk_put BK130.out 0 y0_ rfl) 1 y1_ rfl) 2 y2_ rfl) 3 y3_ rfl) 4 y4_ rfl)) 3).trans rfl; have hdz48_4 : ∀ y0_ y1_ y2_ y3_ y4_ : Value, ((((((w47.setCell ⟨gb130, 0, none⟩ y0_).setCell ⟨gb130, 1, none⟩ y1_).setCell ⟨gb130, 2, none⟩ y2_).setCell ⟨gb130, 3, none⟩ y3_).setCell ⟨gb130, 4, none⟩ y4_)).cell? ⟨gb130, 4, none⟩ = some y4_ := fun y0_ y1_ y2_ y3_ y4_ => (blk_cell ((blk_put (blk_put (blk_put (blk_put (blk_put BK130.out 0 y0_ rfl) 1 y1_ rfl) 2 y2_ rfl) 3 y3_ rfl) 4 y4_ rfl)) 4).trans rfl) | ((with_reducible refine gate_callee (f := 12) rfl ?_); refine goesL_ (some 30) rfl rfl Try.func12 (by kernel_rfl) rfl #[.agg #[.int .i64 a0_0, .int .i64 a0_1, .bool a0_2, .bool a0_3, .string x131004_3]] rfl (by (try simp only [List.map_toArray, List.map_cons, List.map_nil]); first | done | rfl | (simp only [List.length_drop, List.length_take]; rfl)) ?_; (with_reducible refine (cubbyref04_Encode.calls kj3 a0_0 a0_1 a0_2 a0_3 x131004_3 t133 t134 _ A12.out).mono ?_); rintro e w49 ⟨rfl, hb⟩; refine ⟨_, rfl, ?_⟩; have n0_ := Aside0.mk (blk_below (g := gb130) (o := .cells #[.int .i64 a0_0, .int .i64 a0_1, .bool a0_2, .bool a0_3, .string x131004_3] 29 (0, 0)) (by (with_reducible repeat (first | refine blk_drewN ?_ _ | refine blk_drew ?_ | refine blk_alloc ?_ _)); exact BK130.out) hb); have n1_ := Aside0.mk (below_step (by repeat (first | (with_reducible first | exact HB.out | apply below_alloc | apply pw_below_drewN | apply below_drew1 | refine below_set ?_ GE130.out) | exact HB.out)) hb); clear BK130; clear HB; have BK130 := n0_; have HB := n1_; clear n0_ n1_; (try clear hb); (try clear hb2); (try clear hk); (try clear hi)))
                              have n0_ := Aside0.mk (blk_drew BK130.out)
                              have n1_ := Aside0.mk (below_drew1 HB.out)
                              clear BK130
                              clear HB
                              have BK130 := n0_
                              have HB := n1_
                              clear n0_ n1_
                              refine start_ (n := 13) (S := fun w' => True) (ds := []) #[false, false, false, false, false, false, false, false, false, false, false, false, false] (by kernel_rfl) rfl rfl trivial (fun hHeld => ?_); refine with_tabW cubbylaw04_ChunkSpoilt.tab10 cubbylaw04_ChunkSpoilt.bits10 (fun HT_ HW_ => ?_)
                              generalize w49.drew = w50 at BK130 HB hHeld ⊢
                              refine pure_ (i := 0) (N := some 55) (v := ?_) (a' := ?_) #[true, false, false, false, false, false, false, false, false, false, false, false, false] rfl rfl (any_of HT_.out (by kernel_rfl)) (fun _ _ _ h => h) (Or.inl ⟨by rfl, ?_⟩) ?_ ?_
                              rotate_left
                              · intro w'
                                go_simp
                                first | with_reducible rfl | (rw [if_neg (by (try simp only [ByteArray.size_extract, ByteArray.size_append] at *); (try simp only [eq_iff_iff, iff_true, iff_false] at *); omega)] <;> with_reducible rfl)
                              rotate_left
                              · simp only [Act.put, List.setIfInBounds_toArray, List.set_cons_zero, List.set_cons_succ, i64_w, i32_w]
                                rfl
                              refine pure_ (i := 1) (N := some 56) (v := ?_) (a' := ?_) #[true, true, false, false, false, false, false, false, false, false, false, false, false] rfl rfl (any_of HT_.out (by kernel_rfl)) (fun _ _ _ h => h) (Or.inl ⟨by rfl, ?_⟩) ?_ ?_
                              rotate_left
                              · intro w'
                                go_simp
                                first | with_reducible rfl | (rw [if_neg (by (try simp only [ByteArray.size_extract, ByteArray.size_append] at *); (try simp only [eq_iff_iff, iff_true, iff_false] at *); omega)] <;> with_reducible rfl)
                              rotate_left
                              · simp only [Act.put, List.setIfInBounds_toArray, List.set_cons_zero, List.set_cons_succ, i64_w, i32_w]
                                rfl
                              refine pure_ (i := 2) (N := some 57) (v := ?_) (a' := ?_) #[true, true, true, false, false, false, false, false, false, false, false, false, false] rfl rfl (any_of HT_.out (by kernel_rfl)) (fun _ _ _ h => h) (Or.inl ⟨by rfl, ?_⟩) ?_ ?_
                              rotate_left
                              · intro w'
                                go_simp
                                first | with_reducible rfl | (rw [if_neg (by (try simp only [ByteArray.size_extract, ByteArray.size_append] at *); (try simp only [eq_iff_iff, iff_true, iff_false] at *); omega)] <;> with_reducible rfl)
                              rotate_left
                              · simp only [Act.put, List.setIfInBounds_toArray, List.set_cons_zero, List.set_cons_succ, i64_w, i32_w]
                                rfl
                              refine pure_ (i := 3) (N := some 58) (v := ?_) (a' := ?_) #[true, true, true, true, false, false, false, false, false, false, false, false, false] rfl rfl (any_of HT_.out (by kernel_rfl)) (fun _ _ _ h => h) (Or.inl ⟨by rfl, ?_⟩) ?_ ?_
                              rotate_left
                              · intro w'
                                go_simp
                                first | with_reducible rfl | (rw [if_neg (by (try simp only [ByteArray.size_extract, ByteArray.size_append] at *); (try simp only [eq_iff_iff, iff_true, iff_false] at *); omega)] <;> with_reducible rfl)
                              rotate_left
                              · simp only [Act.put, List.setIfInBounds_toArray, List.set_cons_zero, List.set_cons_succ, i64_w, i32_w]
                                rfl
                              refine pure_ (i := 7) (N := some 62) (v := ?_) (a' := ?_) #[true, true, true, true, false, false, false, true, false, false, false, false, false] rfl rfl (any_of HT_.out (by kernel_rfl)) (fun _ _ _ h => h) (Or.inl ⟨by rfl, ?_⟩) ?_ ?_
                              rotate_left
                              · intro w'
                                go_simp
                                first | with_reducible rfl | (rw [if_neg (by (try simp only [ByteArray.size_extract, ByteArray.size_append] at *); (try simp only [eq_iff_iff, iff_true, iff_false] at *); omega)] <;> with_reducible rfl)
                              rotate_left
                              · simp only [Act.put, List.setIfInBounds_toArray, List.set_cons_zero, List.set_cons_succ, i64_w, i32_w]
                                rfl
                              refine pure_ (i := 8) (N := some 63) (v := ?_) (a' := ?_) #[true, true, true, true, false, false, false, true, true, false, false, false, false] rfl rfl (any_of HT_.out (by kernel_rfl)) (fun _ _ _ h => h) (Or.inl ⟨by rfl, ?_⟩) ?_ ?_
                              rotate_left
                              · intro w'
                                go_simp
                                first | with_reducible rfl | (rw [if_neg (by (try simp only [ByteArray.size_extract, ByteArray.size_append] at *); (try simp only [eq_iff_iff, iff_true, iff_false] at *); omega)] <;> with_reducible rfl)
                              rotate_left
                              · simp only [Act.put, List.setIfInBounds_toArray, List.set_cons_zero, List.set_cons_succ, i64_w, i32_w]
                                rfl
                              refine pure_ (i := 9) (N := some 64) (v := ?_) (a' := ?_) #[true, true, true, true, false, false, false, true, true, true, false, false, false] rfl rfl (any_of HT_.out (by kernel_rfl)) (fun _ _ _ h => h) (Or.inl ⟨by rfl, ?_⟩) ?_ ?_
                              rotate_left
                              · intro w'
                                go_simp
                                first | with_reducible rfl | (rw [if_neg (by (try simp only [ByteArray.size_extract, ByteArray.size_append] at *); (try simp only [eq_iff_iff, iff_true, iff_false] at *); omega)] <;> with_reducible rfl)
                              rotate_left
                              · simp only [Act.put, List.setIfInBounds_toArray, List.set_cons_zero, List.set_cons_succ, i64_w, i32_w]
                                rfl
                              refine pure_ (i := 10) (N := some 65) (v := ?_) (a' := ?_) #[true, true, true, true, false, false, false, true, true, true, true, false, false] rfl rfl (any_of HT_.out (by kernel_rfl)) (fun _ _ _ h => h) (Or.inl ⟨by rfl, ?_⟩) ?_ ?_
                              rotate_left
                              · intro w'
                                go_simp
                                first | with_reducible rfl | (rw [if_neg (by (try simp only [ByteArray.size_extract, ByteArray.size_append] at *); (try simp only [eq_iff_iff, iff_true, iff_false] at *); omega)] <;> with_reducible rfl)
                              rotate_left
                              · simp only [Act.put, List.setIfInBounds_toArray, List.set_cons_zero, List.set_cons_succ, i64_w, i32_w]
                                rfl
                              refine one_ (i := 4) (N := some 59) #[true, true, true, true, true, false, false, true, true, true, true, false, false] rfl rfl (one_of HT_.out (by kernel_rfl)) (by decide) (fun K hK => ?_)
                              refine Kd.R_lit_step (Kd.int .u8) _ 5 ?hg (N := 59) ?hd (xs := ([a2] : List Int)) (inner := [.int .u8 a2]) (ok := fun _ => True) (okp := fun _ => True) ?hr ?hp (fun _ hk => hk) trivial (Below.refl _ _) (Nat.le_refl _) (by simp) ?_; (case hd => rfl); (case hg => rfl); (case hr => first | (go_simp; done) | (go_simp; rfl)); (case hp => exact (Reps.one (show Kd.M (Kd.int .u8) _ _ _ a2 [.int .u8 a2] from rfl) (Reps.none _ _)))
                              intro v136 w51 ho52 hb hg_ hnew_
                              clear hg_ hnew_
                              (first | rw [← Ny135.out] at ho52 | (simp only [Int.reduceToNat] at ho52; rw [← Ny135.out] at ho52))
                              have n0_ := Aside0.mk (Kd.R_lower ho52 (below_size (by repeat (first | (with_reducible first | exact HB.out | apply below_alloc | apply pw_below_drewN | apply below_drew1 | refine below_set ?_ GE130.out) | exact HB.out))))
                              have n1_ := Aside0.mk (blk_below (g := gb130) (o := .cells #[.int .i64 a0_0, .int .i64 a0_1, .bool a0_2, .bool a0_3, .string x131004_3] 29 (0, 0)) (by (with_reducible repeat (first | refine blk_drewN ?_ _ | refine blk_drew ?_ | refine blk_alloc ?_ _)); exact BK130.out) hb)
                              have n2_ := Aside0.mk (below_step (by repeat (first | (with_reducible first | exact HB.out | apply below_alloc | apply pw_below_drewN | apply below_drew1 | refine below_set ?_ GE130.out) | exact HB.out)) hb)
                              clear BK130
                              clear HB
                              have HO137 := n0_
                              have BK130 := n1_
                              have HB := n2_
                              clear n0_ n1_ n2_
                              clear hb ho52
                              refine hK.out _ _ trivial (fun hHeld => ?_)
                              clear hK K
                              refine norm_ (a' := ?_) ?_ ?_
                              rotate_left
                              · show Act.put _ (some 59) _ = _
                                simp only [Act.put, List.setIfInBounds_toArray, List.set_cons_zero, List.set_cons_succ, i64_w, i32_w]
                                rfl
                              refine one_ (i := 5) (N := some 60) #[true, true, true, true, true, true, false, true, true, true, true, false, false] rfl rfl (one_of HT_.out (by kernel_rfl)) (by decide) (fun K hK => ?_)
                              have hcv53 := own_string (P := Try.prog) Try.underlying35 Try.underlying5 Try.underlying9 (Kd.own_of_R HO137.out)
                              refine value_ (w1 := ?_) (v := ?_) (by rfl) rfl ?_ ?_
                              rotate_left 2
                              · go_simp
                                constructor
                                · rfl
                                · rfl
                              clear hcv53
                              refine hK.out _ _ trivial (fun hHeld => ?_)
                              clear hK K
                              refine norm_ (a' := ?_) ?_ ?_
                              rotate_left
                              · show Act.put _ (some 60) _ = _
                                simp only [Act.put, List.setIfInBounds_toArray, List.set_cons_zero, List.set_cons_succ, i64_w, i32_w]
                                rfl
                              refine pure_ (i := 6) (N := some 61) (v := ?_) (a' := ?_) #[true, true, true, true, true, true, true, true, true, true, true, false, false] rfl rfl (any_of HT_.out (by kernel_rfl)) (fun _ _ _ h => h) (Or.inl ⟨by rfl, ?_⟩) ?_ ?_
                              rotate_left
                              · intro w'
                                go_simp
                                first | with_reducible rfl | (rw [if_neg (by (try simp only [ByteArray.size_extract, ByteArray.size_append] at *); (try simp only [eq_iff_iff, iff_true, iff_false] at *); omega)] <;> with_reducible rfl)
                              rotate_left
                              · simp only [Act.put, List.setIfInBounds_toArray, List.set_cons_zero, List.set_cons_succ, i64_w, i32_w]
                                rfl
                              refine pure_ (i := 11) (N := some 66) (v := ?_) (a' := ?_) #[true, true, true, true, true, true, true, true, true, true, true, true, false] rfl rfl (any_of HT_.out (by kernel_rfl)) (fun _ _ _ h => h) (Or.inl ⟨by rfl, ?_⟩) ?_ ?_
                              rotate_left
                              · intro w'
                                go_simp
                                first | with_reducible rfl | (rw [if_neg (by (try simp only [ByteArray.size_extract, ByteArray.size_append] at *); (try simp only [eq_iff_iff, iff_true, iff_false] at *); omega)] <;> with_reducible rfl)
                              rotate_left
                              · simp only [Act.put, List.setIfInBounds_toArray, List.set_cons_zero, List.set_cons_succ, i64_w, i32_w]
                                rfl
                              refine pure_ (i := 12) (N := some 12) (v := ?_) (a' := ?_) #[true, true, true, true, true, true, true, true, true, true, true, true, true] rfl rfl (any_of HT_.out (by kernel_rfl)) (fun _ _ _ h => h) (Or.inl ⟨by rfl, ?_⟩) ?_ ?_
                              rotate_left
                              · intro w'
                                go_simp
                                first | with_reducible rfl | (rw [if_neg (by (try simp only [ByteArray.size_extract, ByteArray.size_append] at *); (try simp only [eq_iff_iff, iff_true, iff_false] at *); omega)] <;> with_reducible rfl)
                              rotate_left
                              · simp only [Act.put, List.setIfInBounds_toArray, List.set_cons_zero, List.set_cons_succ, i64_w, i32_w]
                                rfl
                              refine done_ (done_of HT_.out (by kernel_rfl)) ?_
                              try go_wp2_with (first | ((with_reducible refine gate_callee (f := 13) rfl ?_); refine goesL_ (some 69) rfl rfl Try.func13 (by kernel_rfl) rfl #[.string (((t131.extract 0 ((ji20) : Int).toNat) ++ (strOfNums y135)) ++ (t131.extract ((ji24) : Int).toNat t131.size))] rfl (by (try simp only [List.map_toArray, List.map_cons, List.map_nil]); first | done | (simp only [hji20, hji24]; rfl) | rfl | (simp only [List.length_drop, List.length_take]; rfl)) ?_; (with_reducible refine (chunk_Decode.calls kj3 (((t131.extract 0 ((ji20) : Int).toNat) ++ (strOfNums y135)) ++ (t131.extract ((ji24) : Int).toNat t131.size)) t138 t139 t140 t141 t142 t143 _ A28.out).mono ?_); rintro e w54 ⟨rfl, hb⟩; refine ⟨_, rfl, ?_⟩; have n0_ := Aside0.mk (Kd.R_below (by (with_reducible repeat (first | apply Kd.R_alloc | apply Kd.R_drewN | apply Kd.R_drew)); exact HO137.out) hb); have n1_ := Aside0.mk (blk_below (g := gb130) (o := .cells #[.int .i64 a0_0, .int .i64 a0_1, .bool a0_2, .bool a0_3, .string x131004_3] 29 (0, 0)) (by (with_reducible repeat (first | refine blk_drewN ?_ _ | refine blk_drew ?_ | refine blk_alloc ?_ _)); exact BK130.out) hb); have n2_ := Aside0.mk (below_step (by repeat (first | (with_reducible first | exact HB.out | apply below_alloc | apply pw_below_drewN | apply below_drew1 | refine below_set ?_ GE130.out) | exact HB.out)) hb); clear HO137; clear BK130; clear HB; have HO137 := n0_; have BK130 := n1_; have HB := n2_; clear n0_ n1_ n2_; (try clear hb); (try clear hb2); (try clear hk); (try clear hi)) | ((with_reducible refine gate_dst (N := 13) rfl ?_); (try (refine gate_guard (by rfl) ?_; dsimp only)); refine box_event ?hg (N := 13) ?hd (cs := #[.int .i64 0, .int .i64 0, .bool false, .bool false, .string (⟨#[]⟩ : ByteArray)]) (t := 29) ?hr ?_; (case hd => rfl); (case hg => rfl); (case hr => first | (go_simp; done) | (go_simp; rfl)); intro gb144 hg w55 hbox hb; have n0_ := Aside0.mk (Kd.R_below (by (with_reducible repeat (first | apply Kd.R_alloc | apply Kd.R_drewN | apply Kd.R_drew)); exact HO137.out) hb); have n1_ := Aside0.mk (blk_below (g := gb130) (o := .cells #[.int .i64 a0_0, .int .i64 a0_1, .bool a0_2, .bool a0_3, .string x131004_3] 29 (0, 0)) (by (with_reducible repeat (first | refine blk_drewN ?_ _ | refine blk_drew ?_ | refine blk_alloc ?_ _)); exact BK130.out) hb); have n2_ := Aside0.mk (below_step (by repeat (first | (with_reducible first | exact HB.out | apply below_alloc | apply pw_below_drewN | apply below_drew1 | refine below_set ?_ GE130.out) | exact HB.out)) hb); have n3_ := Aside0.mk (hbox); have n4_ := Aside0.mk ((by rw [hg]; exact (below_size (by repeat (first | (with_reducible first | exact HB.out | apply below_alloc | apply pw_below_drewN | apply below_drew1 | refine below_set ?_ GE130.out) | exact HB.out))) : w.heap.size ≤ gb144)); have n5_ := Aside0.mk ((by rw [hg]; exact (below_size (by repeat (first | (with_reducible first | exact HB.out | apply below_alloc | apply pw_below_drewN | apply below_drew1 | refine below_set ?_ GE130.out) | exact HB.out))) : w.heap.size ≤ gb144)); have n6_ := Aside0.mk ((by rw [hg]; exact Nat.ne_of_lt (blk_lt (g := gb130) (o := .cells #[.int .i64 a0_0, .int .i64 a0_1, .bool a0_2, .bool a0_3, .string x131004_3] 29 (0, 0)) (by (with_reducible repeat (first | refine blk_drewN ?_ _ | refine blk_drew ?_ | refine blk_alloc ?_ _)); exact BK130.out)) : gb130 ≠ gb144)); have n7_ := Aside0.mk ((by rw [hg]; exact Nat.ne_of_gt (blk_lt (g := gb130) (o := .cells #[.int .i64 a0_0, .int .i64 a0_1, .bool a0_2, .bool a0_3, .string x131004_3] 29 (0, 0)) (by (with_reducible repeat (first | refine blk_drewN ?_ _ | refine blk_drew ?_ | refine blk_alloc ?_ _)); exact BK130.out)) : gb144 ≠ gb130)); clear HO137; clear BK130; clear HB; have HO137 := n0_; have BK130 := n1_; have HB := n2_; have BK144 := n3_; have GW144 := n4_; have GE144 := n5_; have NB130_144 := n6_; have NB144_130 := n7_; clear n0_ n1_ n2_ n3_ n4_ n5_ n6_ n7_; clear hb hbox hg; have hnb56 := NB144_130.out; have hnc56 := NB130_144.out; have hcz57_0 : w55.cell? ⟨gb144, 0, none⟩ = some (.int .i64 0) := (blk_cell BK144.out 0).trans rfl; have hcz57_1 : w55.cell? ⟨gb144, 1, none⟩ = some (.int .i64 0) := (blk_cell BK144.out 1).trans rfl; have hcz57_2 : w55.cell? ⟨gb144, 2, none⟩ = some (.bool false) := (blk_cell BK144.out 2).trans rfl; have hcz57_3 : w55.cell? ⟨gb144, 3, none⟩ = some (.bool false) := (blk_cell BK144.out 3).trans rfl; have hcz57_4 : w55.cell? ⟨gb144, 4, none⟩ = some (.string (⟨#[]⟩ : ByteArray)) := (blk_cell BK144.out 4).trans rfl; have hfz57_0 := blk_frozen BK144.out 0; have hfz57_1 := blk_frozen BK144.out 1; have hfz57_2 := blk_frozen BK144.out 2; have hfz57_3 := blk_frozen BK144.out 3; have hfz57_4 := blk_frozen BK144.out 4; have hdz57_0 : ∀ y0_ y1_ y2_ y3_ y4_ : Value, ((((((w55.setCell ⟨gb144, 0, none⟩ y0_).setCell ⟨gb144, 1, none⟩ y1_).setCell ⟨gb144, 2, none⟩ y2_).setCell ⟨gb144, 3, none⟩ y3_).setCell ⟨gb144, 4, none⟩ y4_)).cell? ⟨gb144, 0, none⟩ = some y0_ := fun y0_ y1_ y2_ y3_ y4_ => (blk_cell ((blk_put (blk_put (blk_put (blk_put (blk_put BK144.out 0 y0_ rfl) 1 y1_ rfl) 2 y2_ rfl) 3 y3_ rfl) 4 y4_ rfl)) 0).trans rfl; have hdz57_1 : ∀ y0_ y1_ y2_ y3_ y4_ : Value, ((((((w55.setCell ⟨gb144, 0, none⟩ y0_).setCell ⟨gb144, 1, none⟩ y1_).setCell ⟨gb144, 2, none⟩ y2_).setCell ⟨gb144, 3, none⟩ y3_).setCell ⟨gb144, 4, none⟩ y4_)).cell? ⟨gb144, 1, none⟩ = some y1_ := fun y0_ y1_ y2_ y3_ y4_ => (blk_cell ((blk_put (blk_put (blk_put (blk_put (blk_put BK144.out 0 y0_ rfl) 1 y1_ rfl) 2 y2_ rfl) 3 y3_ rfl) 4 y4_ rfl)) 1).trans rfl; have hdz57_2 : ∀ y0_ y1_ y2_ y3_ y4_ : Value, ((((((w55.setCell ⟨gb144, 0, none⟩ y0_).setCell ⟨gb144, 1, none⟩ y1_).setCell ⟨gb144, 2, none⟩ y2_).setCell ⟨gb144, 3, none⟩ y3_).setCell ⟨gb144, 4, none⟩ y4_)).cell? ⟨gb144, 2, none⟩ = some y2_ := fun y0_ y1_ y2_ y3_ y4_ => (blk_cell ((blk_put (blk_put (blk_put (blk_put (blk_put BK144.out 0 y0_ rfl) 1 y1_ rfl) 2 y2_ rfl) 3 y3_ rfl) 4 y4_ rfl)) 2).trans rfl; have hdz57_3 : ∀ y0_ y1_ y2_ y3_ y4_ : Value, ((((((w55.setCell ⟨gb144, 0, none⟩ y0_).setCell ⟨gb144, 1, none⟩ y1_).setCell ⟨gb144, 2, none⟩ y2_).setCell ⟨gb144, 3, none⟩ y3_).setCell ⟨gb144, 4, none⟩ y4_)).cell? ⟨gb144, 3, none⟩ = some y3_ := fun y0_ y1_ y2_ y3_ y4_ => (blk_cell ((blk_put (blk_put (blk_put (blk_put (blk_put BK144.out 0 y0_ rfl) 1 y1_ rfl) 2 y2_ rfl) 3 y3_ rfl) 4 y4_ rfl)) 3).trans rfl; have hdz57_4 : ∀ y0_ y1_ y2_ y3_ y4_ : Value, ((((((w55.setCell ⟨gb144, 0, none⟩ y0_).setCell ⟨gb144, 1, none⟩ y1_).setCell ⟨gb144, 2, none⟩ y2_).setCell ⟨gb144, 3, none⟩ y3_).setCell ⟨gb144, 4, none⟩ y4_)).cell? ⟨gb144, 4, none⟩ = some y4_ := fun y0_ y1_ y2_ y3_ y4_ => (blk_cell ((blk_put (blk_put (blk_put (blk_put (blk_put BK144.out 0 y0_ rfl) 1 y1_ rfl) 2 y2_ rfl) 3 y3_ rfl) 4 y4_ rfl)) 4).trans rfl; have p30 : 0 ≤ ((ji20) : Int) := of_decide_eq_true (by first | (with_reducible assumption) | assumption); have q30 : (ji20) < (t131.size : Int) := of_decide_eq_true (by first | (with_reducible assumption) | assumption); have hx30 := bt_at t131 (ji20); replace p30 := eq_true p30; replace q30 := eq_true q30; have hcz58_0 : w55.cell? ⟨gb130, 0, none⟩ = some (.int .i64 a0_0) := (blk_cell BK130.out 0).trans rfl; have hcz58_1 : w55.cell? ⟨gb130, 1, none⟩ = some (.int .i64 a0_1) := (blk_cell BK130.out 1).trans rfl; have hcz58_2 : w55.cell? ⟨gb130, 2, none⟩ = some (.bool a0_2) := (blk_cell BK130.out 2).trans rfl; have hcz58_3 : w55.cell? ⟨gb130, 3, none⟩ = some (.bool a0_3) := (blk_cell BK130.out 3).trans rfl; have hcz58_4 : w55.cell? ⟨gb130, 4, none⟩ = some (.string x131004_3) := (blk_cell BK130.out 4).trans rfl; have hfz58_0 := blk_frozen BK130.out 0; have hfz58_1 := blk_frozen BK130.out 1; have hfz58_2 := blk_frozen BK130.out 2; have hfz58_3 := blk_frozen BK130.out 3; have hfz58_4 := blk_frozen BK130.out 4; have hdz58_0 : ∀ y0_ y1_ y2_ y3_ y4_ : Value, ((((((w55.setCell ⟨gb130, 0, none⟩ y0_).setCell ⟨gb130, 1, none⟩ y1_).setCell ⟨gb130, 2, none⟩ y2_).setCell ⟨gb130, 3, none⟩ y3_).setCell ⟨gb130, 4, none⟩ y4_)).cell? ⟨gb130, 0, none⟩ = some y0_ := fun y0_ y1_ y2_ y3_ y4_ => (blk_cell ((blk_put (blk_put (blk_put (blk_put (blk_put BK130.out 0 y0_ rfl) 1 y1_ rfl) 2 y2_ rfl) 3 y3_ rfl) 4 y4_ rfl)) 0).trans rfl; have hdz58_1 : ∀ y0_ y1_ y2_ y3_ y4_ : Value, ((((((w55.setCell ⟨gb130, 0, none⟩ y0_).setCell ⟨gb130, 1, none⟩ y1_).setCell ⟨gb130, 2, none⟩ y2_).setCell ⟨gb130, 3, none⟩ y3_).setCell ⟨gb130, 4, none⟩ y4_)).cell? ⟨gb130, 1, none⟩ = some y1_ := fun y0_ y1_ y2_ y3_ y4_ => (blk_cell ((blk_put (blk_put (blk_put (blk_put (blk_put BK130.out 0 y0_ rfl) 1 y1_ rfl) 2 y2_ rfl) 3 y3_ rfl) 4 y4_ rfl)) 1).trans rfl; have hdz58_2 : ∀ y0_ y1_ y2_ y3_ y4_ : Value, ((((((w55.setCell ⟨gb130, 0, none⟩ y0_).setCell ⟨gb130, 1, none⟩ y1_).setCell ⟨gb130, 2, none⟩ y2_).setCell ⟨gb130, 3, none⟩ y3_).setCell ⟨gb130, 4, none⟩ y4_)).cell? ⟨gb130, 2, none⟩ = some y2_ := fun y0_ y1_ y2_ y3_ y4_ => (blk_cell ((blk_put (blk_put (blk_put (blk_put (blk_put BK130.out 0 y0_ rfl) 1 y1_ rfl) 2 y2_ rfl) 3 y3_ rfl) 4 y4_ rfl)) 2).trans rfl; have hdz58_3 : ∀ y0_ y1_ y2_ y3_ y4_ : Value, ((((((w55.setCell ⟨gb130, 0, none⟩ y0_).setCell ⟨gb130, 1, none⟩ y1_).setCell ⟨gb130, 2, none⟩ y2_).setCell ⟨gb130, 3, none⟩ y3_).setCell ⟨gb130, 4, none⟩ y4_)).cell? ⟨gb130, 3, none⟩ = some y3_ := fun y0_ y1_ y2_ y3_ y4_ => (blk_cell ((blk_put (blk_put (blk_put (blk_put (blk_put BK130.out 0 y0_ rfl) 1 y1_ rfl) 2 y2_ rfl) 3 y3_ rfl) 4 y4_ rfl)) 3).trans rfl; have hdz58_4 : ∀ y0_ y1_ y2_ y3_ y4_ : Value, ((((((w55.setCell ⟨gb130, 0, none⟩ y0_).setCell ⟨gb130, 1, none⟩ y1_).setCell ⟨gb130, 2, none⟩ y2_).setCell ⟨gb130, 3, none⟩ y3_).setCell ⟨gb130, 4, none⟩ y4_)).cell? ⟨gb130, 4, none⟩ = some y4_ := fun y0_ y1_ y2_ y3_ y4_ => (blk_cell ((blk_put (blk_put (blk_put (blk_put (blk_put BK130.out 0 y0_ rfl) 1 y1_ rfl) 2 y2_ rfl) 3 y3_ rfl) 4 y4_ rfl)) 4).trans rfl))
                              all_goals (first | (exfalso; rename_i h0_ h1_ h2_ h3_ h4_; rw [h0_, h1_, h2_, h3_, h4_] at c32b0; simp at c32b0; done) | (go_ret; exact ⟨by first | rfl | (simp [errW_none, errW_some] <;> rfl) | (simp only [← hji20, ← hji24]; first | rfl | (simp [errW_none, errW_some] <;> rfl)) | (simp [*, errW_none, errW_some] <;> rfl), by repeat (first | (with_reducible first | exact HB.out | apply below_alloc | apply pw_below_drewN | apply below_drew1 | refine below_set ?_ GE130.out | refine below_set ?_ GE144.out) | exact HB.out)⟩))
                          · rw [if_neg c31] at H
                            have c31b0 : ((t143 == 0) == ((bt t131 (ji20)) == a2)) = false := by simpa using c31
                            (try (have c31b1 : decide ((t143 == 0) = ((bt t131 (ji20)) == a2)) = false := by simpa using c31))
                            (try (have c31b2 : ((t143 == 0) == ((bt t131 (ji20)) == a2)) = false := by simpa using c31))
                            (try (have c31b3 : ¬ ((t143 == 0) = ((bt t131 (ji20)) == a2)) := by simpa using c31))
                            clear c31
                            obtain rfl := Option.some.inj H
                            have hcz59_0 : wc.cell? ⟨gb130, 0, none⟩ = some (.int .i64 a0_0) := (blk_cell BK130.out 0).trans rfl
                            have hcz59_1 : wc.cell? ⟨gb130, 1, none⟩ = some (.int .i64 a0_1) := (blk_cell BK130.out 1).trans rfl
                            have hcz59_2 : wc.cell? ⟨gb130, 2, none⟩ = some (.bool a0_2) := (blk_cell BK130.out 2).trans rfl
                            have hcz59_3 : wc.cell? ⟨gb130, 3, none⟩ = some (.bool a0_3) := (blk_cell BK130.out 3).trans rfl
                            have hcz59_4 : wc.cell? ⟨gb130, 4, none⟩ = some (.string x131004_3) := (blk_cell BK130.out 4).trans rfl
                            have hfz59_0 := blk_frozen BK130.out 0
                            have hfz59_1 := blk_frozen BK130.out 1
                            have hfz59_2 := blk_frozen BK130.out 2
                            have hfz59_3 := blk_frozen BK130.out 3
                            have hfz59_4 := blk_frozen BK130.out 4
                            have hdz59_0 : ∀ y0_ y1_ y2_ y3_ y4_ : Value, ((((((wc.setCell ⟨gb130, 0, none⟩ y0_).setCell ⟨gb130, 1, none⟩ y1_).setCell ⟨gb130, 2, none⟩ y2_).setCell ⟨gb130, 3, none⟩ y3_).setCell ⟨gb130, 4, none⟩ y4_)).cell? ⟨gb130, 0, none⟩ = some y0_ := fun y0_ y1_ y2_ y3_ y4_ => (blk_cell ((blk_put (blk_put (blk_put (blk_put (blk_put BK130.out 0 y0_ rfl) 1 y1_ rfl) 2 y2_ rfl) 3 y3_ rfl) 4 y4_ rfl)) 0).trans rfl
                            have hdz59_1 : ∀ y0_ y1_ y2_ y3_ y4_ : Value, ((((((wc.setCell ⟨gb130, 0, none⟩ y0_).setCell ⟨gb130, 1, none⟩ y1_).setCell ⟨gb130, 2, none⟩ y2_).setCell ⟨gb130, 3, none⟩ y3_).setCell ⟨gb130, 4, none⟩ y4_)).cell? ⟨gb130, 1, none⟩ = some y1_ := fun y0_ y1_ y2_ y3_ y4_ => (blk_cell ((blk_put (blk_put (blk_put (blk_put (blk_put BK130.out 0 y0_ rfl) 1 y1_ rfl) 2 y2_ rfl) 3 y3_ rfl) 4 y4_ rfl)) 1).trans rfl
                            have hdz59_2 : ∀ y0_ y1_ y2_ y3_ y4_ : Value, ((((((wc.setCell ⟨gb130, 0, none⟩ y0_).setCell ⟨gb130, 1, none⟩ y1_).setCell ⟨gb130, 2, none⟩ y2_).setCell ⟨gb130, 3, none⟩ y3_).setCell ⟨gb130, 4, none⟩ y4_)).cell? ⟨gb130, 2, none⟩ = some y2_ := fun y0_ y1_ y2_ y3_ y4_ => (blk_cell ((blk_put (blk_put (blk_put (blk_put (blk_put BK130.out 0 y0_ rfl) 1 y1_ rfl) 2 y2_ rfl) 3 y3_ rfl) 4 y4_ rfl)) 2).trans rfl
                            have hdz59_3 : ∀ y0_ y1_ y2_ y3_ y4_ : Value, ((((((wc.setCell ⟨gb130, 0, none⟩ y0_).setCell ⟨gb130, 1, none⟩ y1_).setCell ⟨gb130, 2, none⟩ y2_).setCell ⟨gb130, 3, none⟩ y3_).setCell ⟨gb130, 4, none⟩ y4_)).cell? ⟨gb130, 3, none⟩ = some y3_ := fun y0_ y1_ y2_ y3_ y4_ => (blk_cell ((blk_put (blk_put (blk_put (blk_put (blk_put BK130.out 0 y0_ rfl) 1 y1_ rfl) 2 y2_ rfl) 3 y3_ rfl) 4 y4_ rfl)) 3).trans rfl
                            have hdz59_4 : ∀ y0_ y1_ y2_ y3_ y4_ : Value, ((((((wc.setCell ⟨gb130, 0, none⟩ y0_).setCell ⟨gb130, 1, none⟩ y1_).setCell ⟨gb130, 2, none⟩ y2_).setCell ⟨gb130, 3, none⟩ y3_).setCell ⟨gb130, 4, none⟩ y4_)).cell? ⟨gb130, 4, none⟩ = some y4_ := fun y0_ y1_ y2_ y3_ y4_ => (blk_cell ((blk_put (blk_put (blk_put (blk_put (blk_put BK130.out 0 y0_ rfl) 1 y1_ rfl) 2 y2_ rfl) 3 y3_ rfl) 4 y4_ rfl)) 4).trans rfl
                            try go_wp2_with (first | ((with_reducible refine gate_callee (f := 11) rfl ?_); refine goesL_ (some 25) rfl rfl Try.func11 (by kernel_rfl) rfl #[.agg #[.int .i64 a0_0, .int .i64 a0_1, .bool a0_2, .bool a0_3, .string x131004_3]] rfl (by (try simp only [List.map_toArray, List.map_cons, List.map_nil]); first | done | rfl | (simp only [List.length_drop, List.length_take]; rfl)) ?_; (with_reducible refine (chunk_Encode.calls kj3 a0_0 a0_1 a0_2 a0_3 x131004_3 t131 t132 _ A11.out).mono ?_); rintro e w60 ⟨rfl, hb⟩; refine ⟨_, rfl, ?_⟩; have n0_ := Aside0.mk (blk_below (g := gb130) (o := .cells #[.int .i64 a0_0, .int .i64 a0_1, .bool a0_2, .bool a0_3, .string x131004_3] 29 (0, 0)) (by (with_reducible repeat (first | refine blk_drewN ?_ _ | refine blk_drew ?_ | refine blk_alloc ?_ _)); exact BK130.out) hb); have n1_ := Aside0.mk (below_step (by repeat (first | (with_reducible first | exact HB.out | apply below_alloc | apply pw_below_drewN | apply below_drew1 | refine below_set ?_ GE130.out) | exact HB.out)) hb); clear BK130; clear HB; have BK130 := n0_; have HB := n1_; clear n0_ n1_; (try clear hb); (try clear hb2); (try clear hk); (try clear hi); have hcz61_0 : w60.cell? ⟨gb130, 0, none⟩ = some (.int .i64 a0_0) := (blk_cell BK130.out 0).trans rfl; have hcz61_1 : w60.cell? ⟨gb130, 1, none⟩ = some (.int .i64 a0_1) := (blk_cell BK130.out 1).trans rfl; have hcz61_2 : w60.cell? ⟨gb130, 2, none⟩ = some (.bool a0_2) := (blk_cell BK130.out 2).trans rfl; have hcz61_3 : w60.cell? ⟨gb130, 3, none⟩ = some (.bool a0_3) := (blk_cell BK130.out 3).trans rfl; have hcz61_4 : w60.cell? ⟨gb130, 4, none⟩ = some (.string x131004_3) := (blk_cell BK130.out 4).trans rfl; have hfz61_0 := blk_frozen BK130.out 0; have hfz61_1 := blk_frozen BK130.out 1; have hfz61_2 := blk_frozen BK130.out 2; have hfz61_3 := blk_frozen BK130.out 3; have hfz61_4 := blk_frozen BK130.out 4; have hdz61_0 : ∀ y0_ y1_ y2_ y3_ y4_ : Value, ((((((w60.setCell ⟨gb130, 0, none⟩ y0_).setCell ⟨gb130, 1, none⟩ y1_).setCell ⟨gb130, 2, none⟩ y2_).setCell ⟨gb130, 3, none⟩ y3_).setCell ⟨gb130, 4, none⟩ y4_)).cell? ⟨gb130, 0, none⟩ = some y0_ := fun y0_ y1_ y2_ y3_ y4_ => (blk_cell ((blk_put (blk_put (blk_put (blk_put (blk_put BK130.out 0 y0_ rfl) 1 y1_ rfl) 2 y2_ rfl) 3 y3_ rfl) 4 y4_ rfl)) 0).trans rfl; have hdz61_1 : ∀ y0_ y1_ y2_ y3_ y4_ : Value, ((((((w60.setCell ⟨gb130, 0, none⟩ y0_).setCell ⟨gb130, 1, none⟩ y1_).setCell ⟨gb130, 2, none⟩ y2_).setCell ⟨gb130, 3, none⟩ y3_).setCell ⟨gb130, 4, none⟩ y4_)).cell? ⟨gb130, 1, none⟩ = some y1_ := fun y0_ y1_ y2_ y3_ y4_ => (blk_cell ((blk_put (blk_put (blk_put (blk_put (blk_put BK130.out 0 y0_ rfl) 1 y1_ rfl) 2 y2_ rfl) 3 y3_ rfl) 4 y4_ rfl)) 1).trans rfl; have hdz61_2 : ∀ y0_ y1_ y2_ y3_ y4_ : Value, ((((((w60.setCell ⟨gb130, 0, none⟩ y0_).setCell ⟨gb130, 1, none⟩ y1_).setCell ⟨gb130, 2, none⟩ y2_).setCell ⟨gb130, 3, none⟩ y3_).setCell ⟨gb130, 4, none⟩ y4_)).cell? ⟨gb130, 2, none⟩ = some y2_ := fun y0_ y1_ y2_ y3_ y4_ => (blk_cell ((blk_put (blk_put (blk_put (blk_put (blk_put BK130.out 0 y0_ rfl) 1 y1_ rfl) 2 y2_ rfl) 3 y3_ rfl) 4 y4_ rfl)) 2).trans rfl; have hdz61_3 : ∀ y0_ y1_ y2_ y3_ y4_ : Value, ((((((w60.setCell ⟨gb130, 0, none⟩ y0_).setCell ⟨gb130, 1, none⟩ y1_).setCell ⟨gb130, 2, none⟩ y2_).setCell ⟨gb130, 3, none⟩ y3_).setCell ⟨gb130, 4, none⟩ y4_)).cell? ⟨gb130, 3, none⟩ = some y3_ := fun y0_ y1_ y2_ y3_ y4_ => (blk_cell ((blk_put (blk_put (blk_put (blk_put (blk_put BK130.out 0 y0_ rfl) 1 y1_ rfl) 2 y2_ rfl) 3 y3_ rfl) 4 y4_ rfl)) 3).trans rfl; have hdz61_4 : ∀ y0_ y1_ y2_ y3_ y4_ : Value, ((((((w60.setCell ⟨gb130, 0, none⟩ y0_).setCell ⟨gb130, 1, none⟩ y1_).setCell ⟨gb130, 2, none⟩ y2_).setCell ⟨gb130, 3, none⟩ y3_).setCell ⟨gb130, 4, none⟩ y4_)).cell? ⟨gb130, 4, none⟩ = some y4_ := fun y0_ y1_ y2_ y3_ y4_ => (blk_cell ((blk_put (blk_put (blk_put (blk_put (blk_put BK130.out 0 y0_ rfl) 1 y1_ rfl) 2 y2_ rfl) 3 y3_ rfl) 4 y4_ rfl)) 4).trans rfl) | ((with_reducible refine gate_callee (f := 12) rfl ?_); refine goesL_ (some 30) rfl rfl Try.func12 (by kernel_rfl) rfl #[.agg #[.int .i64 a0_0, .int .i64 a0_1, .bool a0_2, .bool a0_3, .string x131004_3]] rfl (by (try simp only [List.map_toArray, List.map_cons, List.map_nil]); first | done | rfl | (simp only [List.length_drop, List.length_take]; rfl)) ?_; (with_reducible refine (cubbyref04_Encode.calls kj3 a0_0 a0_1 a0_2 a0_3 x131004_3 t133 t134 _ A12.out).mono ?_); rintro e w62 ⟨rfl, hb⟩; refine ⟨_, rfl, ?_⟩; have n0_ := Aside0.mk (blk_below (g := gb130) (o := .cells #[.int .i64 a0_0, .int .i64 a0_1, .bool a0_2, .bool a0_3, .string x131004_3] 29 (0, 0)) (by (with_reducible repeat (first | refine blk_drewN ?_ _ | refine blk_drew ?_ | refine blk_alloc ?_ _)); exact BK130.out) hb); have n1_ := Aside0.mk (below_step (by repeat (first | (with_reducible first | exact HB.out | apply below_alloc | apply pw_below_drewN | apply below_drew1 | refine below_set ?_ GE130.out) | exact HB.out)) hb); clear BK130; clear HB; have BK130 := n0_; have HB := n1_; clear n0_ n1_; (try clear hb); (try clear hb2); (try clear hk); (try clear hi)))
                            have n0_ := Aside0.mk (blk_drew BK130.out)
                            have n1_ := Aside0.mk (below_drew1 HB.out)
                            clear BK130
                            clear HB
                            have BK130 := n0_
                            have HB := n1_
                            clear n0_ n1_
                            refine start_ (n := 13) (S := fun w' => True) (ds := []) #[false, false, false, false, false, false, false, false, false, false, false, false, false] (by kernel_rfl) rfl rfl trivial (fun hHeld => ?_); refine with_tabW cubbylaw04_ChunkSpoilt.tab10 cubbylaw04_ChunkSpoilt.bits10 (fun HT_ HW_ => ?_)
                            generalize w62.drew = w63 at BK130 HB hHeld ⊢
                            refine pure_ (i := 0) (N := some 55) (v := ?_) (a' := ?_) #[true, false, false, false, false, false, false, false, false, false, false, false, false] rfl rfl (any_of HT_.out (by kernel_rfl)) (fun _ _ _ h => h) (Or.inl ⟨by rfl, ?_⟩) ?_ ?_
                            rotate_left
                            · intro w'
                              go_simp
                              first | with_reducible rfl | (rw [if_neg (by (try simp only [ByteArray.size_extract, ByteArray.size_append] at *); (try simp only [eq_iff_iff, iff_true, iff_false] at *); omega)] <;> with_reducible rfl)
                            rotate_left
                            · simp only [Act.put, List.setIfInBounds_toArray, List.set_cons_zero, List.set_cons_succ, i64_w, i32_w]
                              rfl
                            refine pure_ (i := 1) (N := some 56) (v := ?_) (a' := ?_) #[true, true, false, false, false, false, false, false, false, false, false, false, false] rfl rfl (any_of HT_.out (by kernel_rfl)) (fun _ _ _ h => h) (Or.inl ⟨by rfl, ?_⟩) ?_ ?_
                            rotate_left
                            · intro w'
                              go_simp
                              first | with_reducible rfl | (rw [if_neg (by (try simp only [ByteArray.size_extract, ByteArray.size_append] at *); (try simp only [eq_iff_iff, iff_true, iff_false] at *); omega)] <;> with_reducible rfl)
                            rotate_left
                            · simp only [Act.put, List.setIfInBounds_toArray, List.set_cons_zero, List.set_cons_succ, i64_w, i32_w]
                              rfl
                            refine pure_ (i := 2) (N := some 57) (v := ?_) (a' := ?_) #[true, true, true, false, false, false, false, false, false, false, false, false, false] rfl rfl (any_of HT_.out (by kernel_rfl)) (fun _ _ _ h => h) (Or.inl ⟨by rfl, ?_⟩) ?_ ?_
                            rotate_left
                            · intro w'
                              go_simp
                              first | with_reducible rfl | (rw [if_neg (by (try simp only [ByteArray.size_extract, ByteArray.size_append] at *); (try simp only [eq_iff_iff, iff_true, iff_false] at *); omega)] <;> with_reducible rfl)
                            rotate_left
                            · simp only [Act.put, List.setIfInBounds_toArray, List.set_cons_zero, List.set_cons_succ, i64_w, i32_w]
                              rfl
                            refine pure_ (i := 3) (N := some 58) (v := ?_) (a' := ?_) #[true, true, true, true, false, false, false, false, false, false, false, false, false] rfl rfl (any_of HT_.out (by kernel_rfl)) (fun _ _ _ h => h) (Or.inl ⟨by rfl, ?_⟩) ?_ ?_
                            rotate_left
                            · intro w'
                              go_simp
                              first | with_reducible rfl | (rw [if_neg (by (try simp only [ByteArray.size_extract, ByteArray.size_append] at *); (try simp only [eq_iff_iff, iff_true, iff_false] at *); omega)] <;> with_reducible rfl)
                            rotate_left
                            · simp only [Act.put, List.setIfInBounds_toArray, List.set_cons_zero, List.set_cons_succ, i64_w, i32_w]
                              rfl
                            refine pure_ (i := 7) (N := some 62) (v := ?_) (a' := ?_) #[true, true, true, true, false, false, false, true, false, false, false, false, false] rfl rfl (any_of HT_.out (by kernel_rfl)) (fun _ _ _ h => h) (Or.inl ⟨by rfl, ?_⟩) ?_ ?_
                            rotate_left
                            · intro w'
                              go_simp
                              first | with_reducible rfl | (rw [if_neg (by (try simp only [ByteArray.size_extract, ByteArray.size_append] at *); (try simp only [eq_iff_iff, iff_true, iff_false] at *); omega)] <;> with_reducible rfl)
                            rotate_left
                            · simp only [Act.put, List.setIfInBounds_toArray, List.set_cons_zero, List.set_cons_succ, i64_w, i32_w]
                              rfl
                            refine pure_ (i := 8) (N := some 63) (v := ?_) (a' := ?_) #[true, true, true, true, false, false, false, true, true, false, false, false, false] rfl rfl (any_of HT_.out (by kernel_rfl)) (fun _ _ _ h => h) (Or.inl ⟨by rfl, ?_⟩) ?_ ?_
                            rotate_left
                            · intro w'
                              go_simp
                              first | with_reducible rfl | (rw [if_neg (by (try simp only [ByteArray.size_extract, ByteArray.size_append] at *); (try simp only [eq_iff_iff, iff_true, iff_false] at *); omega)] <;> with_reducible rfl)
                            rotate_left
                            · simp only [Act.put, List.setIfInBounds_toArray, List.set_cons_zero, List.set_cons_succ, i64_w, i32_w]
                              rfl
                            refine pure_ (i := 9) (N := some 64) (v := ?_) (a' := ?_) #[true, true, true, true, false, false, false, true, true, true, false, false, false] rfl rfl (any_of HT_.out (by kernel_rfl)) (fun _ _ _ h => h) (Or.inl ⟨by rfl, ?_⟩) ?_ ?_
                            rotate_left
                            · intro w'
                              go_simp
                              first | with_reducible rfl | (rw [if_neg (by (try simp only [ByteArray.size_extract, ByteArray.size_append] at *); (try simp only [eq_iff_iff, iff_true, iff_false] at *); omega)] <;> with_reducible rfl)
                            rotate_left
                            · simp only [Act.put, List.setIfInBounds_toArray, List.set_cons_zero, List.set_cons_succ, i64_w, i32_w]
                              rfl
                            refine pure_ (i := 10) (N := some 65) (v := ?_) (a' := ?_) #[true, true, true, true, false, false, false, true, true, true, true, false, false] rfl rfl (any_of HT_.out (by kernel_rfl)) (fun _ _ _ h => h) (Or.inl ⟨by rfl, ?_⟩) ?_ ?_
                            rotate_left
                            · intro w'
                              go_simp
                              first | with_reducible rfl | (rw [if_neg (by (try simp only [ByteArray.size_extract, ByteArray.size_append] at *); (try simp only [eq_iff_iff, iff_true, iff_false] at *); omega)] <;> with_reducible rfl)
                            rotate_left
                            · simp only [Act.put, List.setIfInBounds_toArray, List.set_cons_zero, List.set_cons_succ, i64_w, i32_w]
                              rfl
                            refine one_ (i := 4) (N := some 59) #[true, true, true, true, true, false, false, true, true, true, true, false, false] rfl rfl (one_of HT_.out (by kernel_rfl)) (by decide) (fun K hK => ?_)
                            refine Kd.R_lit_step (Kd.int .u8) _ 5 ?hg (N := 59) ?hd (xs := ([a2] : List Int)) (inner := [.int .u8 a2]) (ok := fun _ => True) (okp := fun _ => True) ?hr ?hp (fun _ hk => hk) trivial (Below.refl _ _) (Nat.le_refl _) (by simp) ?_; (case hd => rfl); (case hg => rfl); (case hr => first | (go_simp; done) | (go_simp; rfl)); (case hp => exact (Reps.one (show Kd.M (Kd.int .u8) _ _ _ a2 [.int .u8 a2] from rfl) (Reps.none _ _)))
                            intro v136 w64 ho65 hb hg_ hnew_
                            clear hg_ hnew_
                            (first | rw [← Ny135.out] at ho65 | (simp only [Int.reduceToNat] at ho65; rw [← Ny135.out] at ho65))
                            have n0_ := Aside0.mk (Kd.R_lower ho65 (below_size (by repeat (first | (with_reducible first | exact HB.out | apply below_alloc | apply pw_below_drewN | apply below_drew1 | refine below_set ?_ GE130.out) | exact HB.out))))
                            have n1_ := Aside0.mk (blk_below (g := gb130) (o := .cells #[.int .i64 a0_0, .int .i64 a0_1, .bool a0_2, .bool a0_3, .string x131004_3] 29 (0, 0)) (by (with_reducible repeat (first | refine blk_drewN ?_ _ | refine blk_drew ?_ | refine blk_alloc ?_ _)); exact BK130.out) hb)
                            have n2_ := Aside0.mk (below_step (by repeat (first | (with_reducible first | exact HB.out | apply below_alloc | apply pw_below_drewN | apply below_drew1 | refine below_set ?_ GE130.out) | exact HB.out)) hb)
                            clear BK130
                            clear HB
                            have HO137 := n0_
                            have BK130 := n1_
                            have HB := n2_
                            clear n0_ n1_ n2_
                            clear hb ho65
                            refine hK.out _ _ trivial (fun hHeld => ?_)
                            clear hK K
                            refine norm_ (a' := ?_) ?_ ?_
                            rotate_left
                            · show Act.put _ (some 59) _ = _
                              simp only [Act.put, List.setIfInBounds_toArray, List.set_cons_zero, List.set_cons_succ, i64_w, i32_w]
                              rfl
                            refine one_ (i := 5) (N := some 60) #[true, true, true, true, true, true, false, true, true, true, true, false, false] rfl rfl (one_of HT_.out (by kernel_rfl)) (by decide) (fun K hK => ?_)
                            have hcv66 := own_string (P := Try.prog) Try.underlying35 Try.underlying5 Try.underlying9 (Kd.own_of_R HO137.out)
                            refine value_ (w1 := ?_) (v := ?_) (by rfl) rfl ?_ ?_
                            rotate_left 2
                            · go_simp
                              constructor
                              · rfl
                              · rfl
                            clear hcv66
                            refine hK.out _ _ trivial (fun hHeld => ?_)
                            clear hK K
                            refine norm_ (a' := ?_) ?_ ?_
                            rotate_left
                            · show Act.put _ (some 60) _ = _
                              simp only [Act.put, List.setIfInBounds_toArray, List.set_cons_zero, List.set_cons_succ, i64_w, i32_w]
                              rfl
                            refine pure_ (i := 6) (N := some 61) (v := ?_) (a' := ?_) #[true, true, true, true, true, true, true, true, true, true, true, false, false] rfl rfl (any_of HT_.out (by kernel_rfl)) (fun _ _ _ h => h) (Or.inl ⟨by rfl, ?_⟩) ?_ ?_
                            rotate_left
                            · intro w'
                              go_simp
                              first | with_reducible rfl | (rw [if_neg (by (try simp only [ByteArray.size_extract, ByteArray.size_append] at *); (try simp only [eq_iff_iff, iff_true, iff_false] at *); omega)] <;> with_reducible rfl)
                            rotate_left
                            · simp only [Act.put, List.setIfInBounds_toArray, List.set_cons_zero, List.set_cons_succ, i64_w, i32_w]
                              rfl
                            refine pure_ (i := 11) (N := some 66) (v := ?_) (a' := ?_) #[true, true, true, true, true, true, true, true, true, true, true, true, false] rfl rfl (any_of HT_.out (by kernel_rfl)) (fun _ _ _ h => h) (Or.inl ⟨by rfl, ?_⟩) ?_ ?_
                            rotate_left
                            · intro w'
                              go_simp
                              first | with_reducible rfl | (rw [if_neg (by (try simp only [ByteArray.size_extract, ByteArray.size_append] at *); (try simp only [eq_iff_iff, iff_true, iff_false] at *); omega)] <;> with_reducible rfl)
                            rotate_left
                            · simp only [Act.put, List.setIfInBounds_toArray, List.set_cons_zero, List.set_cons_succ, i64_w, i32_w]
                              rfl
                            refine pure_ (i := 12) (N := some 12) (v := ?_) (a' := ?_) #[true, true, true, true, true, true, true, true, true, true, true, true, true] rfl rfl (any_of HT_.out (by kernel_rfl)) (fun _ _ _ h => h) (Or.inl ⟨by rfl, ?_⟩) ?_ ?_
                            rotate_left
                            · intro w'
                              go_simp
                              first | with_reducible rfl | (rw [if_neg (by (try simp only [ByteArray.size_extract, ByteArray.size_append] at *); (try simp only [eq_iff_iff, iff_true, iff_false] at *); omega)] <;> with_reducible rfl)
                            rotate_left
                            · simp only [Act.put, List.setIfInBounds_toArray, List.set_cons_zero, List.set_cons_succ, i64_w, i32_w]
                              rfl
                            refine done_ (done_of HT_.out (by kernel_rfl)) ?_
                            try go_wp2_with (first | ((with_reducible refine gate_callee (f := 13) rfl ?_); refine goesL_ (some 69) rfl rfl Try.func13 (by kernel_rfl) rfl #[.string (((t131.extract 0 ((ji20) : Int).toNat) ++ (strOfNums y135)) ++ (t131.extract ((ji24) : Int).toNat t131.size))] rfl (by (try simp only [List.map_toArray, List.map_cons, List.map_nil]); first | done | (simp only [hji20, hji24]; rfl) | rfl | (simp only [List.length_drop, List.length_take]; rfl)) ?_; (with_reducible refine (chunk_Decode.calls kj3 (((t131.extract 0 ((ji20) : Int).toNat) ++ (strOfNums y135)) ++ (t131.extract ((ji24) : Int).toNat t131.size)) t138 t139 t140 t141 t142 t143 _ A28.out).mono ?_); rintro e w67 ⟨rfl, hb⟩; refine ⟨_, rfl, ?_⟩; have n0_ := Aside0.mk (Kd.R_below (by (with_reducible repeat (first | apply Kd.R_alloc | apply Kd.R_drewN | apply Kd.R_drew)); exact HO137.out) hb); have n1_ := Aside0.mk (blk_below (g := gb130) (o := .cells #[.int .i64 a0_0, .int .i64 a0_1, .bool a0_2, .bool a0_3, .string x131004_3] 29 (0, 0)) (by (with_reducible repeat (first | refine blk_drewN ?_ _ | refine blk_drew ?_ | refine blk_alloc ?_ _)); exact BK130.out) hb); have n2_ := Aside0.mk (below_step (by repeat (first | (with_reducible first | exact HB.out | apply below_alloc | apply pw_below_drewN | apply below_drew1 | refine below_set ?_ GE130.out) | exact HB.out)) hb); clear HO137; clear BK130; clear HB; have HO137 := n0_; have BK130 := n1_; have HB := n2_; clear n0_ n1_ n2_; (try clear hb); (try clear hb2); (try clear hk); (try clear hi)) | ((with_reducible refine gate_dst (N := 13) rfl ?_); (try (refine gate_guard (by rfl) ?_; dsimp only)); refine box_event ?hg (N := 13) ?hd (cs := #[.int .i64 0, .int .i64 0, .bool false, .bool false, .string (⟨#[]⟩ : ByteArray)]) (t := 29) ?hr ?_; (case hd => rfl); (case hg => rfl); (case hr => first | (go_simp; done) | (go_simp; rfl)); intro gb144 hg w68 hbox hb; have n0_ := Aside0.mk (Kd.R_below (by (with_reducible repeat (first | apply Kd.R_alloc | apply Kd.R_drewN | apply Kd.R_drew)); exact HO137.out) hb); have n1_ := Aside0.mk (blk_below (g := gb130) (o := .cells #[.int .i64 a0_0, .int .i64 a0_1, .bool a0_2, .bool a0_3, .string x131004_3] 29 (0, 0)) (by (with_reducible repeat (first | refine blk_drewN ?_ _ | refine blk_drew ?_ | refine blk_alloc ?_ _)); exact BK130.out) hb); have n2_ := Aside0.mk (below_step (by repeat (first | (with_reducible first | exact HB.out | apply below_alloc | apply pw_below_drewN | apply below_drew1 | refine below_set ?_ GE130.out) | exact HB.out)) hb); have n3_ := Aside0.mk (hbox); have n4_ := Aside0.mk ((by rw [hg]; exact (below_size (by repeat (first | (with_reducible first | exact HB.out | apply below_alloc | apply pw_below_drewN | apply below_drew1 | refine below_set ?_ GE130.out) | exact HB.out))) : w.heap.size ≤ gb144)); have n5_ := Aside0.mk ((by rw [hg]; exact (below_size (by repeat (first | (with_reducible first | exact HB.out | apply below_alloc | apply pw_below_drewN | apply below_drew1 | refine below_set ?_ GE130.out) | exact HB.out))) : w.heap.size ≤ gb144)); have n6_ := Aside0.mk ((by rw [hg]; exact Nat.ne_of_lt (blk_lt (g := gb130) (o := .cells #[.int .i64 a0_0, .int .i64 a0_1, .bool a0_2, .bool a0_3, .string x131004_3] 29 (0, 0)) (by (with_reducible repeat (first | refine blk_drewN ?_ _ | refine blk_drew ?_ | refine blk_alloc ?_ _)); exact BK130.out)) : gb130 ≠ gb144)); have n7_ := Aside0.mk ((by rw [hg]; exact Nat.ne_of_gt (blk_lt (g := gb130) (o := .cells #[.int .i64 a0_0, .int .i64 a0_1, .bool a0_2, .bool a0_3, .string x131004_3] 29 (0, 0)) (by (with_reducible repeat (first | refine blk_drewN ?_ _ | refine blk_drew ?_ | refine blk_alloc ?_ _)); exact BK130.out)) : gb144 ≠ gb130)); clear HO137; clear BK130; clear HB; have HO137 := n0_; have BK130 := n1_; have HB := n2_; have BK144 := n3_; have GW144 := n4_; have GE144 := n5_; have NB130_144 := n6_; have NB144_130 := n7_; clear n0_ n1_ n2_ n3_ n4_ n5_ n6_ n7_; clear hb hbox hg; have hnb69 := NB144_130.out; have hnc69 := NB130_144.out; have hcz70_0 : w68.cell? ⟨gb144, 0, none⟩ = some (.int .i64 0) := (blk_cell BK144.out 0).trans rfl; have hcz70_1 : w68.cell? ⟨gb144, 1, none⟩ = some (.int .i64 0) := (blk_cell BK144.out 1).trans rfl; have hcz70_2 : w68.cell? ⟨gb144, 2, none⟩ = some (.bool false) := (blk_cell BK144.out 2).trans rfl; have hcz70_3 : w68.cell? ⟨gb144, 3, none⟩ = some (.bool false) := (blk_cell BK144.out 3).trans rfl; have hcz70_4 : w68.cell? ⟨gb144, 4, none⟩ = some (.string (⟨#[]⟩ : ByteArray)) := (blk_cell BK144.out 4).trans rfl; have hfz70_0 := blk_frozen BK144.out 0; have hfz70_1 := blk_frozen BK144.out 1; have hfz70_2 := blk_frozen BK144.out 2; have hfz70_3 := blk_frozen BK144.out 3; have hfz70_4 := blk_frozen BK144.out 4; have hdz70_0 : ∀ y0_ y1_ y2_ y3_ y4_ : Value, ((((((w68.setCell ⟨gb144, 0, none⟩ y0_).setCell ⟨gb144, 1, none⟩ y1_).setCell ⟨gb144, 2, none⟩ y2_).setCell ⟨gb144, 3, none⟩ y3_).setCell ⟨gb144, 4, none⟩ y4_)).cell? ⟨gb144, 0, none⟩ = some y0_ := fun y0_ y1_ y2_ y3_ y4_ => (blk_cell ((blk_put (blk_put (blk_put (blk_put (blk_put BK144.out 0 y0_ rfl) 1 y1_ rfl) 2 y2_ rfl) 3 y3_ rfl) 4 y4_ rfl)) 0).trans rfl; have hdz70_1 : ∀ y0_ y1_ y2_ y3_ y4_ : Value, ((((((w68.setCell ⟨gb144, 0, none⟩ y0_).setCell ⟨gb144, 1, none⟩ y1_).setCell ⟨gb144, 2, none⟩ y2_).setCell ⟨gb144, 3, none⟩ y3_).setCell ⟨gb144, 4, none⟩ y4_)).cell? ⟨gb144, 1, none⟩ = some y1_ := fun y0_ y1_ y2_ y3_ y4_ => (blk_cell ((blk_put (blk_put (blk_put (blk_put (blk_put BK144.out 0 y0_ rfl) 1 y1_ rfl) 2 y2_ rfl) 3 y3_ rfl) 4 y4_ rfl)) 1).trans rfl; have hdz70_2 : ∀ y0_ y1_ y2_ y3_ y4_ : Value, ((((((w68.setCell ⟨gb144, 0, none⟩ y0_).setCell ⟨gb144, 1, none⟩ y1_).setCell ⟨gb144, 2, none⟩ y2_).setCell ⟨gb144, 3, none⟩ y3_).setCell ⟨gb144, 4, none⟩ y4_)).cell? ⟨gb144, 2, none⟩ = some y2_ := fun y0_ y1_ y2_ y3_ y4_ => (blk_cell ((blk_put (blk_put (blk_put (blk_put (blk_put BK144.out 0 y0_ rfl) 1 y1_ rfl) 2 y2_ rfl) 3 y3_ rfl) 4 y4_ rfl)) 2).trans rfl; have hdz70_3 : ∀ y0_ y1_ y2_ y3_ y4_ : Value, ((((((w68.setCell ⟨gb144, 0, none⟩ y0_).setCell ⟨gb144, 1, none⟩ y1_).setCell ⟨gb144, 2, none⟩ y2_).setCell ⟨gb144, 3, none⟩ y3_).setCell ⟨gb144, 4, none⟩ y4_)).cell? ⟨gb144, 3, none⟩ = some y3_ := fun y0_ y1_ y2_ y3_ y4_ => (blk_cell ((blk_put (blk_put (blk_put (blk_put (blk_put BK144.out 0 y0_ rfl) 1 y1_ rfl) 2 y2_ rfl) 3 y3_ rfl) 4 y4_ rfl)) 3).trans rfl; have hdz70_4 : ∀ y0_ y1_ y2_ y3_ y4_ : Value, ((((((w68.setCell ⟨gb144, 0, none⟩ y0_).setCell ⟨gb144, 1, none⟩ y1_).setCell ⟨gb144, 2, none⟩ y2_).setCell ⟨gb144, 3, none⟩ y3_).setCell ⟨gb144, 4, none⟩ y4_)).cell? ⟨gb144, 4, none⟩ = some y4_ := fun y0_ y1_ y2_ y3_ y4_ => (blk_cell ((blk_put (blk_put (blk_put (blk_put (blk_put BK144.out 0 y0_ rfl) 1 y1_ rfl) 2 y2_ rfl) 3 y3_ rfl) 4 y4_ rfl)) 4).trans rfl; have p30 : 0 ≤ ((ji20) : Int) := of_decide_eq_true (by first | (with_reducible assumption) | assumption); have q30 : (ji20) < (t131.size : Int) := of_decide_eq_true (by first | (with_reducible assumption) | assumption); have hx30 := bt_at t131 (ji20); replace p30 := eq_true p30; replace q30 := eq_true q30))
                            go_ret
                            exact ⟨by first | rfl | (simp [errW_none, errW_some] <;> rfl) | (simp only [← hji20, ← hji24]; first | rfl | (simp [errW_none, errW_some] <;> rfl)) | (simp [*, errW_none, errW_some] <;> rfl), by repeat (first | (with_reducible first | exact HB.out | apply below_alloc | apply pw_below_drewN | apply below_drew1 | refine below_set ?_ GE130.out | refine below_set ?_ GE144.out) | exact HB.out)⟩
                        · rw [if_neg c29] at H
                          exact absurd H (by simp)
                      · rw [if_neg c27] at H
                        exact absurd H (by simp)
                    · rw [if_neg c26] at H
                      exact absurd H (by simp)
                  · rw [if_neg c25] at H
                    exact absurd H (by simp)
                · rw [if_neg c23] at H
                  exact absurd H (by simp)
              · rw [if_neg c22] at H
                exact absurd H (by simp)
            · rw [if_neg c21] at H
              exact absurd H (by simp)
        · rw [if_neg c14] at H
          have c14b0 : (t132 == 0) = false := beq_eq_false_iff_ne.mpr c14
          have c14b1 : (t132 != 0) = true := bne_iff_ne.mpr c14
          obtain rfl := Option.some.inj H
          have hcz71_0 : wc.cell? ⟨gb130, 0, none⟩ = some (.int .i64 a0_0) := (blk_cell BK130.out 0).trans rfl
          have hcz71_1 : wc.cell? ⟨gb130, 1, none⟩ = some (.int .i64 a0_1) := (blk_cell BK130.out 1).trans rfl
          have hcz71_2 : wc.cell? ⟨gb130, 2, none⟩ = some (.bool a0_2) := (blk_cell BK130.out 2).trans rfl
          have hcz71_3 : wc.cell? ⟨gb130, 3, none⟩ = some (.bool a0_3) := (blk_cell BK130.out 3).trans rfl
          have hcz71_4 : wc.cell? ⟨gb130, 4, none⟩ = some (.string x131004_3) := (blk_cell BK130.out 4).trans rfl
          have hfz71_0 := blk_frozen BK130.out 0
          have hfz71_1 := blk_frozen BK130.out 1
          have hfz71_2 := blk_frozen BK130.out 2
          have hfz71_3 := blk_frozen BK130.out 3
          have hfz71_4 := blk_frozen BK130.out 4
          have hdz71_0 : ∀ y0_ y1_ y2_ y3_ y4_ : Value, ((((((wc.setCell ⟨gb130, 0, none⟩ y0_).setCell ⟨gb130, 1, none⟩ y1_).setCell ⟨gb130, 2, none⟩ y2_).setCell ⟨gb130, 3, none⟩ y3_).setCell ⟨gb130, 4, none⟩ y4_)).cell? ⟨gb130, 0, none⟩ = some y0_ := fun y0_ y1_ y2_ y3_ y4_ => (blk_cell ((blk_put (blk_put (blk_put (blk_put (blk_put BK130.out 0 y0_ rfl) 1 y1_ rfl) 2 y2_ rfl) 3 y3_ rfl) 4 y4_ rfl)) 0).trans rfl
          have hdz71_1 : ∀ y0_ y1_ y2_ y3_ y4_ : Value, ((((((wc.setCell ⟨gb130, 0, none⟩ y0_).setCell ⟨gb130, 1, none⟩ y1_).setCell ⟨gb130, 2, none⟩ y2_).setCell ⟨gb130, 3, none⟩ y3_).setCell ⟨gb130, 4, none⟩ y4_)).cell? ⟨gb130, 1, none⟩ = some y1_ := fun y0_ y1_ y2_ y3_ y4_ => (blk_cell ((blk_put (blk_put (blk_put (blk_put (blk_put BK130.out 0 y0_ rfl) 1 y1_ rfl) 2 y2_ rfl) 3 y3_ rfl) 4 y4_ rfl)) 1).trans rfl
          have hdz71_2 : ∀ y0_ y1_ y2_ y3_ y4_ : Value, ((((((wc.setCell ⟨gb130, 0, none⟩ y0_).setCell ⟨gb130, 1, none⟩ y1_).setCell ⟨gb130, 2, none⟩ y2_).setCell ⟨gb130, 3, none⟩ y3_).setCell ⟨gb130, 4, none⟩ y4_)).cell? ⟨gb130, 2, none⟩ = some y2_ := fun y0_ y1_ y2_ y3_ y4_ => (blk_cell ((blk_put (blk_put (blk_put (blk_put (blk_put BK130.out 0 y0_ rfl) 1 y1_ rfl) 2 y2_ rfl) 3 y3_ rfl) 4 y4_ rfl)) 2).trans rfl
          have hdz71_3 : ∀ y0_ y1_ y2_ y3_ y4_ : Value, ((((((wc.setCell ⟨gb130, 0, none⟩ y0_).setCell ⟨gb130, 1, none⟩ y1_).setCell ⟨gb130, 2, none⟩ y2_).setCell ⟨gb130, 3, none⟩ y3_).setCell ⟨gb130, 4, none⟩ y4_)).cell? ⟨gb130, 3, none⟩ = some y3_ := fun y0_ y1_ y2_ y3_ y4_ => (blk_cell ((blk_put (blk_put (blk_put (blk_put (blk_put BK130.out 0 y0_ rfl) 1 y1_ rfl) 2 y2_ rfl) 3 y3_ rfl) 4 y4_ rfl)) 3).trans rfl
          have hdz71_4 : ∀ y0_ y1_ y2_ y3_ y4_ : Value, ((((((wc.setCell ⟨gb130, 0, none⟩ y0_).setCell ⟨gb130, 1, none⟩ y1_).setCell ⟨gb130, 2, none⟩ y2_).setCell ⟨gb130, 3, none⟩ y3_).setCell ⟨gb130, 4, none⟩ y4_)).cell? ⟨gb130, 4, none⟩ = some y4_ := fun y0_ y1_ y2_ y3_ y4_ => (blk_cell ((blk_put (blk_put (blk_put (blk_put (blk_put BK130.out 0 y0_ rfl) 1 y1_ rfl) 2 y2_ rfl) 3 y3_ rfl) 4 y4_ rfl)) 4).trans rfl
          go_wp2_with (first | ((with_reducible refine gate_callee (f := 11) rfl ?_); refine goesL_ (some 25) rfl rfl Try.func11 (by kernel_rfl) rfl #[.agg #[.int .i64 a0_0, .int .i64 a0_1, .bool a0_2, .bool a0_3, .string x131004_3]] rfl (by (try simp only [List.map_toArray, List.map_cons, List.map_nil]); first | done | rfl | (simp only [List.length_drop, List.length_take]; rfl)) ?_; (with_reducible refine (chunk_Encode.calls kj3 a0_0 a0_1 a0_2 a0_3 x131004_3 t131 t132 _ A11.out).mono ?_); rintro e w72 ⟨rfl, hb⟩; refine ⟨_, rfl, ?_⟩; have n0_ := Aside0.mk (blk_below (g := gb130) (o := .cells #[.int .i64 a0_0, .int .i64 a0_1, .bool a0_2, .bool a0_3, .string x131004_3] 29 (0, 0)) (by (with_reducible repeat (first | refine blk_drewN ?_ _ | refine blk_drew ?_ | refine blk_alloc ?_ _)); exact BK130.out) hb); have n1_ := Aside0.mk (below_step (by repeat (first | (with_reducible first | exact HB.out | apply below_alloc | apply pw_below_drewN | apply below_drew1 | refine below_set ?_ GE130.out) | exact HB.out)) hb); clear BK130; clear HB; have BK130 := n0_; have HB := n1_; clear n0_ n1_; (try clear hb); (try clear hb2); (try clear hk); (try clear hi); have hcz73_0 : w72.cell? ⟨gb130, 0, none⟩ = some (.int .i64 a0_0) := (blk_cell BK130.out 0).trans rfl; have hcz73_1 : w72.cell? ⟨gb130, 1, none⟩ = some (.int .i64 a0_1) := (blk_cell BK130.out 1).trans rfl; have hcz73_2 : w72.cell? ⟨gb130, 2, none⟩ = some (.bool a0_2) := (blk_cell BK130.out 2).trans rfl; have hcz73_3 : w72.cell? ⟨gb130, 3, none⟩ = some (.bool a0_3) := (blk_cell BK130.out 3).trans rfl; have hcz73_4 : w72.cell? ⟨gb130, 4, none⟩ = some (.string x131004_3) := (blk_cell BK130.out 4).trans rfl; have hfz73_0 := blk_frozen BK130.out 0; have hfz73_1 := blk_frozen BK130.out 1; have hfz73_2 := blk_frozen BK130.out 2; have hfz73_3 := blk_frozen BK130.out 3; have hfz73_4 := blk_frozen BK130.out 4; have hdz73_0 : ∀ y0_ y1_ y2_ y3_ y4_ : Value, ((((((w72.setCell ⟨gb130, 0, none⟩ y0_).setCell ⟨gb130, 1, none⟩ y1_).setCell ⟨gb130, 2, none⟩ y2_).setCell ⟨gb130, 3, none⟩ y3_).setCell ⟨gb130, 4, none⟩ y4_)).cell? ⟨gb130, 0, none⟩ = some y0_ := fun y0_ y1_ y2_ y3_ y4_ => (blk_cell ((blk_put (blk_put (blk_put (blk_put (blk_put BK130.out 0 y0_ rfl) 1 y1_ rfl) 2 y2_ rfl) 3 y3_ rfl) 4 y4_ rfl)) 0).trans rfl; have hdz73_1 : ∀ y0_ y1_ y2_ y3_ y4_ : Value, ((((((w72.setCell ⟨gb130, 0, none⟩ y0_).setCell ⟨gb130, 1, none⟩ y1_).setCell ⟨gb130, 2, none⟩ y2_).setCell ⟨gb130, 3, none⟩ y3_).setCell ⟨gb130, 4, none⟩ y4_)).cell? ⟨gb130, 1, none⟩ = some y1_ := fun y0_ y1_ y2_ y3_ y4_ => (blk_cell ((blk_put (blk_put (blk_put (blk_put (blk_put BK130.out 0 y0_ rfl) 1 y1_ rfl) 2 y2_ rfl) 3 y3_ rfl) 4 y4_ rfl)) 1).trans rfl; have hdz73_2 : ∀ y0_ y1_ y2_ y3_ y4_ : Value, ((((((w72.setCell ⟨gb130, 0, none⟩ y0_).setCell ⟨gb130, 1, none⟩ y1_).setCell ⟨gb130, 2, none⟩ y2_).setCell ⟨gb130, 3, none⟩ y3_).setCell ⟨gb130, 4, none⟩ y4_)).cell? ⟨gb130, 2, none⟩ = some y2_ := fun y0_ y1_ y2_ y3_ y4_ => (blk_cell ((blk_put (blk_put (blk_put (blk_put (blk_put BK130.out 0 y0_ rfl) 1 y1_ rfl) 2 y2_ rfl) 3 y3_ rfl) 4 y4_ rfl)) 2).trans rfl; have hdz73_3 : ∀ y0_ y1_ y2_ y3_ y4_ : Value, ((((((w72.setCell ⟨gb130, 0, none⟩ y0_).setCell ⟨gb130, 1, none⟩ y1_).setCell ⟨gb130, 2, none⟩ y2_).setCell ⟨gb130, 3, none⟩ y3_).setCell ⟨gb130, 4, none⟩ y4_)).cell? ⟨gb130, 3, none⟩ = some y3_ := fun y0_ y1_ y2_ y3_ y4_ => (blk_cell ((blk_put (blk_put (blk_put (blk_put (blk_put BK130.out 0 y0_ rfl) 1 y1_ rfl) 2 y2_ rfl) 3 y3_ rfl) 4 y4_ rfl)) 3).trans rfl; have hdz73_4 : ∀ y0_ y1_ y2_ y3_ y4_ : Value, ((((((w72.setCell ⟨gb130, 0, none⟩ y0_).setCell ⟨gb130, 1, none⟩ y1_).setCell ⟨gb130, 2, none⟩ y2_).setCell ⟨gb130, 3, none⟩ y3_).setCell ⟨gb130, 4, none⟩ y4_)).cell? ⟨gb130, 4, none⟩ = some y4_ := fun y0_ y1_ y2_ y3_ y4_ => (blk_cell ((blk_put (blk_put (blk_put (blk_put (blk_put BK130.out 0 y0_ rfl) 1 y1_ rfl) 2 y2_ rfl) 3 y3_ rfl) 4 y4_ rfl)) 4).trans rfl) | ((with_reducible refine gate_callee (f := 12) rfl ?_); refine goesL_ (some 30) rfl rfl Try.func12 (by kernel_rfl) rfl #[.agg #[.int .i64 a0_0, .int .i64 a0_1, .bool a0_2, .bool a0_3, .string x131004_3]] rfl (by (try simp only [List.map_toArray, List.map_cons, List.map_nil]); first | done | rfl | (simp only [List.length_drop, List.length_take]; rfl)) ?_; (with_reducible refine (cubbyref04_Encode.calls kj3 a0_0 a0_1 a0_2 a0_3 x131004_3 t133 t134 _ A12.out).mono ?_); rintro e w74 ⟨rfl, hb⟩; refine ⟨_, rfl, ?_⟩; have n0_ := Aside0.mk (blk_below (g := gb130) (o := .cells #[.int .i64 a0_0, .int .i64 a0_1, .bool a0_2, .bool a0_3, .string x131004_3] 29 (0, 0)) (by (with_reducible repeat (first | refine blk_drewN ?_ _ | refine blk_drew ?_ | refine blk_alloc ?_ _)); exact BK130.out) hb); have n1_ := Aside0.mk (below_step (by repeat (first | (with_reducible first | exact HB.out | apply below_alloc | apply pw_below_drewN | apply below_drew1 | refine below_set ?_ GE130.out) | exact HB.out)) hb); clear BK130; clear HB; have BK130 := n0_; have HB := n1_; clear n0_ n1_; (try clear hb); (try clear hb2); (try clear hk); (try clear hi)))
          go_ret
          exact ⟨by first | rfl | (simp [errW_none, errW_some] <;> rfl) | (simp [*, errW_none, errW_some] <;> rfl), by repeat (first | (with_reducible first | exact HB.out | apply below_alloc | apply pw_below_drewN | apply below_drew1 | refine below_set ?_ GE130.out) | exact HB.out)⟩
      · rw [if_neg c13] at H
        have c13b0 : (t132 == t134) = false := beq_eq_false_iff_ne.mpr c13
        have c13b1 : (t132 != t134) = true := bne_iff_ne.mpr c13
        obtain rfl := Option.some.inj H
        have hcz75_0 : wc.cell? ⟨gb130, 0, none⟩ = some (.int .i64 a0_0) := (blk_cell BK130.out 0).trans rfl
        have hcz75_1 : wc.cell? ⟨gb130, 1, none⟩ = some (.int .i64 a0_1) := (blk_cell BK130.out 1).trans rfl
        have hcz75_2 : wc.cell? ⟨gb130, 2, none⟩ = some (.bool a0_2) := (blk_cell BK130.out 2).trans rfl
        have hcz75_3 : wc.cell? ⟨gb130, 3, none⟩ = some (.bool a0_3) := (blk_cell BK130.out 3).trans rfl
        have hcz75_4 : wc.cell? ⟨gb130, 4, none⟩ = some (.string x131004_3) := (blk_cell BK130.out 4).trans rfl
        have hfz75_0 := blk_frozen BK130.out 0
        have hfz75_1 := blk_frozen BK130.out 1
        have hfz75_2 := blk_frozen BK130.out 2
        have hfz75_3 := blk_frozen BK130.out 3
        have hfz75_4 := blk_frozen BK130.out 4
        have hdz75_0 : ∀ y0_ y1_ y2_ y3_ y4_ : Value, ((((((wc.setCell ⟨gb130, 0, none⟩ y0_).setCell ⟨gb130, 1, none⟩ y1_).setCell ⟨gb130, 2, none⟩ y2_).setCell ⟨gb130, 3, none⟩ y3_).setCell ⟨gb130, 4, none⟩ y4_)).cell? ⟨gb130, 0, none⟩ = some y0_ := fun y0_ y1_ y2_ y3_ y4_ => (blk_cell ((blk_put (blk_put (blk_put (blk_put (blk_put BK130.out 0 y0_ rfl) 1 y1_ rfl) 2 y2_ rfl) 3 y3_ rfl) 4 y4_ rfl)) 0).trans rfl
        have hdz75_1 : ∀ y0_ y1_ y2_ y3_ y4_ : Value, ((((((wc.setCell ⟨gb130, 0, none⟩ y0_).setCell ⟨gb130, 1, none⟩ y1_).setCell ⟨gb130, 2, none⟩ y2_).setCell ⟨gb130, 3, none⟩ y3_).setCell ⟨gb130, 4, none⟩ y4_)).cell? ⟨gb130, 1, none⟩ = some y1_ := fun y0_ y1_ y2_ y3_ y4_ => (blk_cell ((blk_put (blk_put (blk_put (blk_put (blk_put BK130.out 0 y0_ rfl) 1 y1_ rfl) 2 y2_ rfl) 3 y3_ rfl) 4 y4_ rfl)) 1).trans rfl
        have hdz75_2 : ∀ y0_ y1_ y2_ y3_ y4_ : Value, ((((((wc.setCell ⟨gb130, 0, none⟩ y0_).setCell ⟨gb130, 1, none⟩ y1_).setCell ⟨gb130, 2, none⟩ y2_).setCell ⟨gb130, 3, none⟩ y3_).setCell ⟨gb130, 4, none⟩ y4_)).cell? ⟨gb130, 2, none⟩ = some y2_ := fun y0_ y1_ y2_ y3_ y4_ => (blk_cell ((blk_put (blk_put (blk_put (blk_put (blk_put BK130.out 0 y0_ rfl) 1 y1_ rfl) 2 y2_ rfl) 3 y3_ rfl) 4 y4_ rfl)) 2).trans rfl
        have hdz75_3 : ∀ y0_ y1_ y2_ y3_ y4_ : Value, ((((((wc.setCell ⟨gb130, 0, none⟩ y0_).setCell ⟨gb130, 1, none⟩ y1_).setCell ⟨gb130, 2, none⟩ y2_).setCell ⟨gb130, 3, none⟩ y3_).setCell ⟨gb130, 4, none⟩ y4_)).cell? ⟨gb130, 3, none⟩ = some y3_ := fun y0_ y1_ y2_ y3_ y4_ => (blk_cell ((blk_put (blk_put (blk_put (blk_put (blk_put BK130.out 0 y0_ rfl) 1 y1_ rfl) 2 y2_ rfl) 3 y3_ rfl) 4 y4_ rfl)) 3).trans rfl
        have hdz75_4 : ∀ y0_ y1_ y2_ y3_ y4_ : Value, ((((((wc.setCell ⟨gb130, 0, none⟩ y0_).setCell ⟨gb130, 1, none⟩ y1_).setCell ⟨gb130, 2, none⟩ y2_).setCell ⟨gb130, 3, none⟩ y3_).setCell ⟨gb130, 4, none⟩ y4_)).cell? ⟨gb130, 4, none⟩ = some y4_ := fun y0_ y1_ y2_ y3_ y4_ => (blk_cell ((blk_put (blk_put (blk_put (blk_put (blk_put BK130.out 0 y0_ rfl) 1 y1_ rfl) 2 y2_ rfl) 3 y3_ rfl) 4 y4_ rfl)) 4).trans rfl
        go_wp2_with (first | ((with_reducible refine gate_callee (f := 11) rfl ?_); refine goesL_ (some 25) rfl rfl Try.func11 (by kernel_rfl) rfl #[.agg #[.int .i64 a0_0, .int .i64 a0_1, .bool a0_2, .bool a0_3, .string x131004_3]] rfl (by (try simp only [List.map_toArray, List.map_cons, List.map_nil]); first | done | rfl | (simp only [List.length_drop, List.length_take]; rfl)) ?_; (with_reducible refine (chunk_Encode.calls kj3 a0_0 a0_1 a0_2 a0_3 x131004_3 t131 t132 _ A11.out).mono ?_); rintro e w76 ⟨rfl, hb⟩; refine ⟨_, rfl, ?_⟩; have n0_ := Aside0.mk (blk_below (g := gb130) (o := .cells #[.int .i64 a0_0, .int .i64 a0_1, .bool a0_2, .bool a0_3, .string x131004_3] 29 (0, 0)) (by (with_reducible repeat (first | refine blk_drewN ?_ _ | refine blk_drew ?_ | refine blk_alloc ?_ _)); exact BK130.out) hb); have n1_ := Aside0.mk (below_step (by repeat (first | (with_reducible first | exact HB.out | apply below_alloc | apply pw_below_drewN | apply below_drew1 | refine below_set ?_ GE130.out) | exact HB.out)) hb); clear BK130; clear HB; have BK130 := n0_; have HB := n1_; clear n0_ n1_; (try clear hb); (try clear hb2); (try clear hk); (try clear hi); have hcz77_0 : w76.cell? ⟨gb130, 0, none⟩ = some (.int .i64 a0_0) := (blk_cell BK130.out 0).trans rfl; have hcz77_1 : w76.cell? ⟨gb130, 1, none⟩ = some (.int .i64 a0_1) := (blk_cell BK130.out 1).trans rfl; have hcz77_2 : w76.cell? ⟨gb130, 2, none⟩ = some (.bool a0_2) := (blk_cell BK130.out 2).trans rfl; have hcz77_3 : w76.cell? ⟨gb130, 3, none⟩ = some (.bool a0_3) := (blk_cell BK130.out 3).trans rfl; have hcz77_4 : w76.cell? ⟨gb130, 4, none⟩ = some (.string x131004_3) := (blk_cell BK130.out 4).trans rfl; have hfz77_0 := blk_frozen BK130.out 0; have hfz77_1 := blk_frozen BK130.out 1; have hfz77_2 := blk_frozen BK130.out 2; have hfz77_3 := blk_frozen BK130.out 3; have hfz77_4 := blk_frozen BK130.out 4; have hdz77_0 : ∀ y0_ y1_ y2_ y3_ y4_ : Value, ((((((w76.setCell ⟨gb130, 0, none⟩ y0_).setCell ⟨gb130, 1, none⟩ y1_).setCell ⟨gb130, 2, none⟩ y2_).setCell ⟨gb130, 3, none⟩ y3_).setCell ⟨gb130, 4, none⟩ y4_)).cell? ⟨gb130, 0, none⟩ = some y0_ := fun y0_ y1_ y2_ y3_ y4_ => (blk_cell ((blk_put (blk_put (blk_put (blk_put (blk_put BK130.out 0 y0_ rfl) 1 y1_ rfl) 2 y2_ rfl) 3 y3_ rfl) 4 y4_ rfl)) 0).trans rfl; have hdz77_1 : ∀ y0_ y1_ y2_ y3_ y4_ : Value, ((((((w76.setCell ⟨gb130, 0, none⟩ y0_).setCell ⟨gb130, 1, none⟩ y1_).setCell ⟨gb130, 2, none⟩ y2_).setCell ⟨gb130, 3, none⟩ y3_).setCell ⟨gb130, 4, none⟩ y4_)).cell? ⟨gb130, 1, none⟩ = some y1_ := fun y0_ y1_ y2_ y3_ y4_ => (blk_cell ((blk_put (blk_put (blk_put (blk_put (blk_put BK130.out 0 y0_ rfl) 1 y1_ rfl) 2 y2_ rfl) 3 y3_ rfl) 4 y4_ rfl)) 1).trans rfl; have hdz77_2 : ∀ y0_ y1_ y2_ y3_ y4_ : Value, ((((((w76.setCell ⟨gb130, 0, none⟩ y0_).setCell ⟨gb130, 1, none⟩ y1_).setCell ⟨gb130, 2, none⟩ y2_).setCell ⟨gb130, 3, none⟩ y3_).setCell ⟨gb130, 4, none⟩ y4_)).cell? ⟨gb130, 2, none⟩ = some y2_ := fun y0_ y1_ y2_ y3_ y4_ => (blk_cell ((blk_put (blk_put (blk_put (blk_put (blk_put BK130.out 0 y0_ rfl) 1 y1_ rfl) 2 y2_ rfl) 3 y3_ rfl) 4 y4_ rfl)) 2).trans rfl; have hdz77_3 : ∀ y0_ y1_ y2_ y3_ y4_ : Value, ((((((w76.setCell ⟨gb130, 0, none⟩ y0_).setCell ⟨gb130, 1, none⟩ y1_).setCell ⟨gb130, 2, none⟩ y2_).setCell ⟨gb130, 3, none⟩ y3_).setCell ⟨gb130, 4, none⟩ y4_)).cell? ⟨gb130, 3, none⟩ = some y3_ := fun y0_ y1_ y2_ y3_ y4_ => (blk_cell ((blk_put (blk_put (blk_put (blk_put (blk_put BK130.out 0 y0_ rfl) 1 y1_ rfl) 2 y2_ rfl) 3 y3_ rfl) 4 y4_ rfl)) 3).trans rfl; have hdz77_4 : ∀ y0_ y1_ y2_ y3_ y4_ : Value, ((((((w76.setCell ⟨gb130, 0, none⟩ y0_).setCell ⟨gb130, 1, none⟩ y1_).setCell ⟨gb130, 2, none⟩ y2_).setCell ⟨gb130, 3, none⟩ y3_).setCell ⟨gb130, 4, none⟩ y4_)).cell? ⟨gb130, 4, none⟩ = some y4_ := fun y0_ y1_ y2_ y3_ y4_ => (blk_cell ((blk_put (blk_put (blk_put (blk_put (blk_put BK130.out 0 y0_ rfl) 1 y1_ rfl) 2 y2_ rfl) 3 y3_ rfl) 4 y4_ rfl)) 4).trans rfl) | ((with_reducible refine gate_callee (f := 12) rfl ?_); refine goesL_ (some 30) rfl rfl Try.func12 (by kernel_rfl) rfl #[.agg #[.int .i64 a0_0, .int .i64 a0_1, .bool a0_2, .bool a0_3, .string x131004_3]] rfl (by (try simp only [List.map_toArray, List.map_cons, List.map_nil]); first | done | rfl | (simp only [List.length_drop, List.length_take]; rfl)) ?_; (with_reducible refine (cubbyref04_Encode.calls kj3 a0_0 a0_1 a0_2 a0_3 x131004_3 t133 t134 _ A12.out).mono ?_); rintro e w78 ⟨rfl, hb⟩; refine ⟨_, rfl, ?_⟩; have n0_ := Aside0.mk (blk_below (g := gb130) (o := .cells #[.int .i64 a0_0, .int .i64 a0_1, .bool a0_2, .bool a0_3, .string x131004_3] 29 (0, 0)) (by (with_reducible repeat (first | refine blk_drewN ?_ _ | refine blk_drew ?_ | refine blk_alloc ?_ _)); exact BK130.out) hb); have n1_ := Aside0.mk (below_step (by repeat (first | (with_reducible first | exact HB.out | apply below_alloc | apply pw_below_drewN | apply below_drew1 | refine below_set ?_ GE130.out) | exact HB.out)) hb); clear BK130; clear HB; have BK130 := n0_; have HB := n1_; clear n0_ n1_; (try clear hb); (try clear hb2); (try clear hk); (try clear hi)))
        go_ret
        exact ⟨by first | rfl | (simp [errW_none, errW_some] <;> rfl) | (simp [*, errW_none, errW_some] <;> rfl), by repeat (first | (with_reducible first | exact HB.out | apply below_alloc | apply pw_below_drewN | apply below_drew1 | refine below_set ?_ GE130.out) | exact HB.out)⟩
/-- THE ONE PURE STATEMENT of cubbylaw04_ChunkSpoilt: yours. -/
def cubbylaw04_ChunkSpoilt.Pure : Prop := ∀ (a0_0 : Int) (a0_1 : Int) (a0_2 : Bool) (a0_3 : Bool) (a0_4 : ByteArray) (a1 : Int) (a2 : Int), (Lit.int .i64 a0_0).wf = true → (Lit.int .i64 a0_1).wf = true → a0_4.size ≤ 140737488351232 → (Lit.int .i64 a1).wf = true → (Lit.int .u8 a2).wf = true → ∃ k, cubbylaw04_ChunkSpoilt.f k a0_0 a0_1 a0_2 a0_3 a0_4 a1 a2 = some true
theorem cubbylaw04_ChunkSpoilt.walk (P : cubbylaw04_ChunkSpoilt.Pure) (a0_0 : Int) (a0_1 : Int) (a0_2 : Bool) (a0_3 : Bool) (a0_4 : ByteArray) (a1 : Int) (a2 : Int) (w : World) (o0_0 : (Lit.int .i64 a0_0).wf = true) (o0_1 : (Lit.int .i64 a0_1).wf = true) (o0_4 : a0_4.size ≤ 140737488351232) (o1 : (Lit.int .i64 a1).wf = true) (o2 : (Lit.int .u8 a2).wf = true) :
    Calls Try.prog 8 #[.agg #[.int .i64 a0_0, .int .i64 a0_1, .bool a0_2, .bool a0_3, .string a0_4], .int .i64 a1, .int .u8 a2] w fun e w' => e = .returned (.bool true) ∧ Below w.heap.size w w' := by
  obtain ⟨k, h⟩ := P a0_0 a0_1 a0_2 a0_3 a0_4 a1 a2 o0_0 o0_1 o0_4 o1 o2
  refine (cubbylaw04_ChunkSpoilt.calls k a0_0 a0_1 a0_2 a0_3 a0_4 a1 a2 true w h).mono ?_
  rintro e w' ⟨rfl, hd⟩
  exact ⟨rfl, hd⟩

end Go.Proofs.Ytndmfbaffkekgaa.PChunkSpoilt
