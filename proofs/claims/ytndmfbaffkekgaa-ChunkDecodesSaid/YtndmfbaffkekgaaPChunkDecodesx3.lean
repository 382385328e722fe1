-- By a program of this session (wip/tools/mkprint.py), for this claim.
import Derived.Test.YtndmfbaffkekgaaPChunkDecodesx0
import Derived.Test.YtndmfbaffkekgaaPChunkDecodesx2
namespace Go.Proofs.Ytndmfbaffkekgaa.PChunkDecodes
open Go.RowKit Go.Proofs.YtndmfbaffkekgaaW.PrintWords Go.Proofs.YtndmfbaffkekgaaW.PrintLast Go.Proofs.YtndmfbaffkekgaaW.PrintMore
attribute [local go_sem] max2_int min2_int max_two min_two max_three min_three max_four min_four   -- for this text's walks alone
set_option linter.unusedVariables false
set_option linter.unusedSimpArgs false

/-! ### pack_Reader_Number: function 24 -/
def pack_Reader_Number.l0 : Nat → Int → Int → ByteArray → Int → Option (Int × Int × ByteArray × Int)
  | 0, _, _, _, _ => none
  | k + 1, x4, x5, x1000, x1001 => if x5 < (x1000.size : Int) then (if (wrap64 (7 * (wrap64 (x5 - x1001)))) > 49 then (some (0, 21, x1000, x1001)) else (if 0 ≤ x5 then (if 0 ≤ (IntKind.u64.wrap (wrap64 (7 * (wrap64 (x5 - x1001))))) then (if (bt x1000 x5) > 127 then (pack_Reader_Number.l0 k (Go.bits .or .i64 x4 (shl .i64 (wrap64 (Go.bits .and .u8 (bt x1000 x5) 127)) (IntKind.u64.wrap (wrap64 (7 * (wrap64 (x5 - x1001))))))) (wrap64 (x5 + 1)) x1000 x1001) else (if (bt x1000 x5) = 0 then (if (wrap64 (7 * (wrap64 (x5 - x1001)))) > 0 then (some (0, 21, x1000, x1001)) else (some (Go.bits .or .i64 x4 (shl .i64 (wrap64 (Go.bits .and .u8 (bt x1000 x5) 127)) (IntKind.u64.wrap (wrap64 (7 * (wrap64 (x5 - x1001)))))), 0, x1000, wrap64 (x5 + 1)))) else (some (Go.bits .or .i64 x4 (shl .i64 (wrap64 (Go.bits .and .u8 (bt x1000 x5) 127)) (IntKind.u64.wrap (wrap64 (7 * (wrap64 (x5 - x1001)))))), 0, x1000, wrap64 (x5 + 1))))) else (none)) else (none))) else (some (0, 20, x1000, x1001))
def pack_Reader_Number.f (k : Nat) (s0_0 : ByteArray) (s0_1 : Int) : Option (Int × Int × ByteArray × Int) := pack_Reader_Number.l0 k 0 s0_1 s0_0 s0_1
theorem pack_Reader_Number.mono_l : ∀ k, (∀ y0 y1 y2 y3, LeO (pack_Reader_Number.l0 k y0 y1 y2 y3) (pack_Reader_Number.l0 (k + 1) y0 y1 y2 y3))
  | 0 => fun _ _ _ _ r h => by simp [pack_Reader_Number.l0] at h
  | k + 1 => by
    have ih0 := pack_Reader_Number.mono_l k
    · intro y0 y1 y2 y3
      unfold pack_Reader_Number.l0
      repeat' first
      | (with_reducible exact ih0 _ _ _ _)
      | (with_reducible exact LeO.refl _)
      | (with_reducible exact LeO.none _)
      | (with_reducible refine LeO.ite ?_ ?_)
      | (with_reducible refine LeO.bind ?_ (fun _ => ?_))
      | exact ih0 _ _ _ _
      | exact LeO.none _
      | refine LeO.ite ?_ ?_
      | refine LeO.bind ?_ (fun _ => ?_)
theorem pack_Reader_Number.mono : ∀ a0 a1 k, LeO (pack_Reader_Number.f k a0 a1) (pack_Reader_Number.f (k + 1) a0 a1) := by
  intro a0 a1 k
  have ih0 := pack_Reader_Number.mono_l k
  unfold pack_Reader_Number.f
  repeat' first
      | (with_reducible exact ih0 _ _ _ _)
      | (with_reducible exact LeO.refl _)
      | (with_reducible exact LeO.none _)
      | (with_reducible refine LeO.ite ?_ ?_)
      | (with_reducible refine LeO.bind ?_ (fun _ => ?_))
      | exact ih0 _ _ _ _
      | exact LeO.none _
      | refine LeO.ite ?_ ?_
      | refine LeO.bind ?_ (fun _ => ?_)
set_option maxHeartbeats 8000000 in
set_option maxRecDepth 100000 in
theorem pack_Reader_Number.calls (k : Nat) (g : Nat) (s0_0 : ByteArray) (s0_1 : Int) (r1 : Int) (r2 : Int) (r3 : ByteArray) (r4 : Int) (w0 w : World) (hI : IsS70 w0 w g s0_0 s0_1) (hB : Below w0.heap.size w0 w) (h : pack_Reader_Number.f k s0_0 s0_1 = some (r1, r2, r3, r4)) :
    Calls Try.prog 24 #[.pointer (some ⟨g, 0, none⟩)] w fun e w' => e = .returned (.tuple #[.int .i64 r1, .int .i64 r2]) ∧ IsS70 w0 w' g r3 r4 ∧ Below w0.heap.size w0 w' ∧ KeepBut w w' g none := by
  have HI0 := Aside0.mk hI
  have HK := Aside0.mk (KeepBut.refl w g none)
  have HL := Aside0.mk hB.size
  clear hI
  have HW0 := Aside0.mk hB.size
  have HB := Aside0.mk hB
  clear hB
  have H : (pack_Reader_Number.l0 k 0 s0_1 s0_0 s0_1) = some (r1, r2, r3, r4) := h
  clear h
  have H' := Aside0.mk H
  clear H
  obtain ⟨HGz2, hgz2⟩ := HI0.out
  have hcz2_0 := cellS70_0 HGz2
  have hcz2_1 := cellS70_1 HGz2
  have hfz2_0 := blk_frozen HGz2 0
  have hfz2_1 := blk_frozen HGz2 1
  clear HGz2 hgz2
  go_enter Try.func24, Try.ntmps24
  go_wp2
  go_loopg [4, 5] k (fun kq v4 v5 w' => ∃ (x4_1 : Int) (x5_1 : Int) (x1001_1 : Int), v4 = .int .i64 x4_1 ∧ v5 = .int .i64 x5_1 ∧ Aside0 (pack_Reader_Number.l0 kq x4_1 x5_1 s0_0 x1001_1 = some (r1, r2, r3, r4)) ∧ Aside0 (kq ≤ k) ∧ Aside0 (IsS70 w0 w' g s0_0 x1001_1) ∧ Aside0 (KeepBut w w' g none) ∧ Aside0 (Below w0.heap.size w0 w'))
  case atStart => exact ⟨(0), (s0_1), (s0_1), (by first | rfl | (simp; done) | (simp [*]; done)), (by first | rfl | (simp; done) | (simp [*]; done)), H', ⟨Nat.le_refl _⟩, ⟨by repeat (first | (with_reducible first | exact HI0.out | apply IsS70.alloc | apply IsS70.drewN | apply IsS70.drew | apply IsS70.set_0 | apply IsS70.set_1) | exact HI0.out)⟩, ⟨by repeat (first | (with_reducible first | exact HK.out | apply KeepBut.set_ | apply keep_drewN | apply keep_drew | apply keep_alloc) | exact HK.out)⟩, ⟨by repeat (first | (with_reducible first | exact HB.out | apply below_alloc | apply pw_below_drewN | apply below_drew1 | refine below_set ?_ (IsS70.ge HI0.out)) | exact HB.out)⟩⟩
  case round =>
    clear H'
    try clear c2
    try clear p2
    try clear hcz2_0
    try clear hcz2_1
    try clear hfz2_0
    try clear hfz2_1
    obtain ⟨x4_1, x5_1, x1001_1, rfl, rfl, HA, HK1, HI0, HK, HB⟩ := hrel
    cases gk with
    | zero => exact absurd HA.out (by simp [pack_Reader_Number.l0])
    | succ k1 =>
      have H := HA.out
      clear HA
      simp only [pack_Reader_Number.l0] at H
      by_cases c3 : x5_1 < (s0_0.size : Int)
      · rw [if_pos c3] at H
        have c3b0 : decide (x5_1 < (s0_0.size : Int)) = true := decide_eq_true c3
        clear c3
        by_cases c4 : (wrap64 (7 * (wrap64 (x5_1 - x1001_1)))) > 49
        · rw [if_pos c4] at H
          have c4b0 : decide (49 < (wrap64 (7 * (wrap64 (x5_1 - x1001_1))))) = true := decide_eq_true c4
          clear c4
          simp only [Option.some.injEq, Prod.mk.injEq] at H
          obtain ⟨rfl, rfl, rfl, rfl⟩ := H
          obtain ⟨HGz5, hgz5⟩ := HI0.out
          have hcz5_0 := cellS70_0 HGz5
          have hcz5_1 := cellS70_1 HGz5
          have hfz5_0 := blk_frozen HGz5 0
          have hfz5_1 := blk_frozen HGz5 1
          clear HGz5 hgz5
          go_wp2
          go_ret2
          exact ⟨by first | rfl | (simp [errW_none, errW_some] <;> rfl) | (simp [*, errW_none, errW_some] <;> rfl), by repeat (first | (with_reducible first | exact HI0.out | apply IsS70.alloc | apply IsS70.drewN | apply IsS70.drew | apply IsS70.set_0 | apply IsS70.set_1) | exact HI0.out), by repeat (first | (with_reducible first | exact HB.out | apply below_alloc | apply pw_below_drewN | apply below_drew1 | refine below_set ?_ (IsS70.ge HI0.out)) | exact HB.out), by repeat (first | (with_reducible first | exact HK.out | apply KeepBut.set_ | apply keep_drewN | apply keep_drew | apply keep_alloc) | exact HK.out)⟩
        · rw [if_neg c4] at H
          have c4b0 : decide (49 < (wrap64 (7 * (wrap64 (x5_1 - x1001_1))))) = false := decide_eq_false c4
          clear c4
          by_cases c6 : 0 ≤ x5_1
          · rw [if_pos c6] at H
            have c6b0 : decide (0 ≤ x5_1) = true := decide_eq_true c6
            clear c6
            obtain ⟨ji8, hji8⟩ : ∃ j_ : Int, (IntKind.u64.wrap (wrap64 (7 * (wrap64 (x5_1 - x1001_1))))) = j_ := ⟨_, rfl⟩
            replace H : (if 0 ≤ (ji8) then (if (bt s0_0 x5_1) > 127 then (pack_Reader_Number.l0 k1 (Go.bits .or .i64 x4_1 (shl .i64 (wrap64 (Go.bits .and .u8 (bt s0_0 x5_1) 127)) (ji8))) (wrap64 (x5_1 + 1)) s0_0 x1001_1) else (if (bt s0_0 x5_1) = 0 then (if (wrap64 (7 * (wrap64 (x5_1 - x1001_1)))) > 0 then (some (0, 21, s0_0, x1001_1)) else (some (Go.bits .or .i64 x4_1 (shl .i64 (wrap64 (Go.bits .and .u8 (bt s0_0 x5_1) 127)) (ji8)), 0, s0_0, wrap64 (x5_1 + 1)))) else (some (Go.bits .or .i64 x4_1 (shl .i64 (wrap64 (Go.bits .and .u8 (bt s0_0 x5_1) 127)) (ji8)), 0, s0_0, wrap64 (x5_1 + 1))))) else (none)) = some (r1, r2, r3, r4) := by first | (rw [hji8] at H; exact H) | (simp only [hji8] at H ⊢; exact H)
            by_cases c9 : 0 ≤ (ji8)
            · rw [if_pos c9] at H
              have c9b0 := eq_true c9
              have c9b1 : decide (0 ≤ (ji8)) = true := decide_eq_true c9
              clear c9
              obtain ⟨ji10, hji10⟩ : ∃ j_ : Int, (shl .i64 (wrap64 (Go.bits .and .u8 (bt s0_0 x5_1) 127)) (ji8)) = j_ := ⟨_, rfl⟩
              replace H : (if (bt s0_0 x5_1) > 127 then (pack_Reader_Number.l0 k1 (Go.bits .or .i64 x4_1 (ji10)) (wrap64 (x5_1 + 1)) s0_0 x1001_1) else (if (bt s0_0 x5_1) = 0 then (if (wrap64 (7 * (wrap64 (x5_1 - x1001_1)))) > 0 then (some (0, 21, s0_0, x1001_1)) else (some (Go.bits .or .i64 x4_1 (ji10), 0, s0_0, wrap64 (x5_1 + 1)))) else (some (Go.bits .or .i64 x4_1 (ji10), 0, s0_0, wrap64 (x5_1 + 1))))) = some (r1, r2, r3, r4) := by first | (rw [hji10] at H; exact H) | (simp only [hji10] at H ⊢; exact H)
              have hji10_ : (IntKind.i64.wrap ((wrap64 (Go.bits .and .u8 (bt s0_0 x5_1) 127)) * 2 ^ min (ji8).toNat 64)) = ji10 := hji10
              have hji10z : (ji8) ≤ 64 → (IntKind.i64.wrap ((wrap64 (Go.bits .and .u8 (bt s0_0 x5_1) 127)) * 2 ^ (ji8).toNat)) = ji10 := shl_small hji10
              have hji10y : (wrap64 ((wrap64 (Go.bits .and .u8 (bt s0_0 x5_1) 127)) * 2 ^ min (ji8).toNat 64)) = ji10 := (i64_w _).symm.trans hji10_
              have hji10x : (ji8) ≤ 64 → (wrap64 ((wrap64 (Go.bits .and .u8 (bt s0_0 x5_1) 127)) * 2 ^ (ji8).toNat)) = ji10 := fun h_ => (i64_w _).symm.trans (hji10z h_)
              by_cases c11 : (bt s0_0 x5_1) > 127
              · rw [if_pos c11] at H
                have c11b0 : decide (127 < (bt s0_0 x5_1)) = true := decide_eq_true c11
                clear c11
                have H' := Aside0.mk H
                clear H
                obtain ⟨HGz12, hgz12⟩ := HI0.out
                have hcz12_0 := cellS70_0 HGz12
                have hcz12_1 := cellS70_1 HGz12
                have hfz12_0 := blk_frozen HGz12 0
                have hfz12_1 := blk_frozen HGz12 1
                clear HGz12 hgz12
                have p7 : 0 ≤ (x5_1 : Int) := of_decide_eq_true (by first | (with_reducible assumption) | assumption)
                have q7 : x5_1 < (s0_0.size : Int) := of_decide_eq_true (by first | (with_reducible assumption) | assumption)
                have hx7 := bt_at s0_0 x5_1
                replace p7 := eq_true p7
                replace q7 := eq_true q7
                go_wp2
                go_roundg k1
                case measure => have := HK1.out; omega
                case rel => exact ⟨(Go.bits .or .i64 x4_1 (ji10)), (wrap64 (x5_1 + 1)), (x1001_1), (by first | rfl | (simp; done) | (simp only [← hji10] <;> (first | rfl | simp)) | (simp [*]; done)), (by first | rfl | (simp; done) | (simp [*]; done)), H', ⟨by have := HK1.out; omega⟩, ⟨by repeat (first | (with_reducible first | exact HI0.out | apply IsS70.alloc | apply IsS70.drewN | apply IsS70.drew | apply IsS70.set_0 | apply IsS70.set_1) | exact HI0.out)⟩, ⟨by repeat (first | (with_reducible first | exact HK.out | apply KeepBut.set_ | apply keep_drewN | apply keep_drew | apply keep_alloc) | exact HK.out)⟩, ⟨by repeat (first | (with_reducible first | exact HB.out | apply below_alloc | apply pw_below_drewN | apply below_drew1 | refine below_set ?_ (IsS70.ge HI0.out)) | exact HB.out)⟩⟩
              · rw [if_neg c11] at H
                have c11b0 : decide (127 < (bt s0_0 x5_1)) = false := decide_eq_false c11
                clear c11
                by_cases c13 : (bt s0_0 x5_1) = 0
                · rw [if_pos c13] at H
                  have c13b0 : ((bt s0_0 x5_1) == 0) = true := beq_iff_eq.mpr c13
                  have c13b1 : ((bt s0_0 x5_1) != 0) = false := bne_eq_false_iff_eq.mpr c13
                  clear c13
                  by_cases c14 : (wrap64 (7 * (wrap64 (x5_1 - x1001_1)))) > 0
                  · rw [if_pos c14] at H
                    have c14b0 : decide (0 < (wrap64 (7 * (wrap64 (x5_1 - x1001_1))))) = true := decide_eq_true c14
                    clear c14
                    simp only [Option.some.injEq, Prod.mk.injEq] at H
                    obtain ⟨rfl, rfl, rfl, rfl⟩ := H
                    obtain ⟨HGz15, hgz15⟩ := HI0.out
                    have hcz15_0 := cellS70_0 HGz15
                    have hcz15_1 := cellS70_1 HGz15
                    have hfz15_0 := blk_frozen HGz15 0
                    have hfz15_1 := blk_frozen HGz15 1
                    clear HGz15 hgz15
                    have p7 : 0 ≤ (x5_1 : Int) := of_decide_eq_true (by first | (with_reducible assumption) | assumption)
                    have q7 : x5_1 < (s0_0.size : Int) := of_decide_eq_true (by first | (with_reducible assumption) | assumption)
                    have hx7 := bt_at s0_0 x5_1
                    replace p7 := eq_true p7
                    replace q7 := eq_true q7
                    go_wp2
                    go_ret2
                    exact ⟨by first | rfl | (simp [errW_none, errW_some] <;> rfl) | (simp only [← hji8, ← hji10]; first | rfl | (simp [errW_none, errW_some] <;> rfl)) | (simp [*, errW_none, errW_some] <;> rfl), by repeat (first | (with_reducible first | exact HI0.out | apply IsS70.alloc | apply IsS70.drewN | apply IsS70.drew | apply IsS70.set_0 | apply IsS70.set_1) | exact HI0.out), by repeat (first | (with_reducible first | exact HB.out | apply below_alloc | apply pw_below_drewN | apply below_drew1 | refine below_set ?_ (IsS70.ge HI0.out)) | exact HB.out), by repeat (first | (with_reducible first | exact HK.out | apply KeepBut.set_ | apply keep_drewN | apply keep_drew | apply keep_alloc) | exact HK.out)⟩
                  · rw [if_neg c14] at H
                    have c14b0 : decide (0 < (wrap64 (7 * (wrap64 (x5_1 - x1001_1))))) = false := decide_eq_false c14
                    clear c14
                    simp only [Option.some.injEq, Prod.mk.injEq] at H
                    obtain ⟨rfl, rfl, rfl, rfl⟩ := H
                    obtain ⟨HGz16, hgz16⟩ := HI0.out
                    have hcz16_0 := cellS70_0 HGz16
                    have hcz16_1 := cellS70_1 HGz16
                    have hfz16_0 := blk_frozen HGz16 0
                    have hfz16_1 := blk_frozen HGz16 1
                    clear HGz16 hgz16
                    have p7 : 0 ≤ (x5_1 : Int) := of_decide_eq_true (by first | (with_reducible assumption) | assumption)
                    have q7 : x5_1 < (s0_0.size : Int) := of_decide_eq_true (by first | (with_reducible assumption) | assumption)
                    have hx7 := bt_at s0_0 x5_1
                    replace p7 := eq_true p7
                    replace q7 := eq_true q7
                    go_wp2
                    go_ret2
                    exact ⟨by first | rfl | (simp [errW_none, errW_some] <;> rfl) | (simp only [← hji8, ← hji10]; first | rfl | (simp [errW_none, errW_some] <;> rfl)) | (simp [*, errW_none, errW_some] <;> rfl), by repeat (first | (with_reducible first | exact HI0.out | apply IsS70.alloc | apply IsS70.drewN | apply IsS70.drew | apply IsS70.set_0 | apply IsS70.set_1) | exact HI0.out), by repeat (first | (with_reducible first | exact HB.out | apply below_alloc | apply pw_below_drewN | apply below_drew1 | refine below_set ?_ (IsS70.ge HI0.out)) | exact HB.out), by repeat (first | (with_reducible first | exact HK.out | apply KeepBut.set_ | apply keep_drewN | apply keep_drew | apply keep_alloc) | exact HK.out)⟩
                · rw [if_neg c13] at H
                  have c13b0 : ((bt s0_0 x5_1) == 0) = false := beq_eq_false_iff_ne.mpr c13
                  have c13b1 : ((bt s0_0 x5_1) != 0) = true := bne_iff_ne.mpr c13
                  simp only [Option.some.injEq, Prod.mk.injEq] at H
                  obtain ⟨rfl, rfl, rfl, rfl⟩ := H
                  obtain ⟨HGz17, hgz17⟩ := HI0.out
                  have hcz17_0 := cellS70_0 HGz17
                  have hcz17_1 := cellS70_1 HGz17
                  have hfz17_0 := blk_frozen HGz17 0
                  have hfz17_1 := blk_frozen HGz17 1
                  clear HGz17 hgz17
                  have p7 : 0 ≤ (x5_1 : Int) := of_decide_eq_true (by first | (with_reducible assumption) | assumption)
                  have q7 : x5_1 < (s0_0.size : Int) := of_decide_eq_true (by first | (with_reducible assumption) | assumption)
                  have hx7 := bt_at s0_0 x5_1
                  replace p7 := eq_true p7
                  replace q7 := eq_true q7
                  go_wp2
                  go_ret2
                  exact ⟨by first | rfl | (simp [errW_none, errW_some] <;> rfl) | (simp only [← hji8, ← hji10]; first | rfl | (simp [errW_none, errW_some] <;> rfl)) | (simp [*, errW_none, errW_some] <;> rfl), by repeat (first | (with_reducible first | exact HI0.out | apply IsS70.alloc | apply IsS70.drewN | apply IsS70.drew | apply IsS70.set_0 | apply IsS70.set_1) | exact HI0.out), by repeat (first | (with_reducible first | exact HB.out | apply below_alloc | apply pw_below_drewN | apply below_drew1 | refine below_set ?_ (IsS70.ge HI0.out)) | exact HB.out), by repeat (first | (with_reducible first | exact HK.out | apply KeepBut.set_ | apply keep_drewN | apply keep_drew | apply keep_alloc) | exact HK.out)⟩
            · rw [if_neg c9] at H
              exact absurd H (by simp)
          · rw [if_neg c6] at H
            exact absurd H (by simp)
      · rw [if_neg c3] at H
        have c3b0 : decide (x5_1 < (s0_0.size : Int)) = false := decide_eq_false c3
        clear c3
        simp only [Option.some.injEq, Prod.mk.injEq] at H
        obtain ⟨rfl, rfl, rfl, rfl⟩ := H
        obtain ⟨HGz18, hgz18⟩ := HI0.out
        have hcz18_0 := cellS70_0 HGz18
        have hcz18_1 := cellS70_1 HGz18
        have hfz18_0 := blk_frozen HGz18 0
        have hfz18_1 := blk_frozen HGz18 1
        clear HGz18 hgz18
        go_wp2
        go_ret2
        exact ⟨by first | rfl | (simp [errW_none, errW_some] <;> rfl) | (simp [*, errW_none, errW_some] <;> rfl), by repeat (first | (with_reducible first | exact HI0.out | apply IsS70.alloc | apply IsS70.drewN | apply IsS70.drew | apply IsS70.set_0 | apply IsS70.set_1) | exact HI0.out), by repeat (first | (with_reducible first | exact HB.out | apply below_alloc | apply pw_below_drewN | apply below_drew1 | refine below_set ?_ (IsS70.ge HI0.out)) | exact HB.out), by repeat (first | (with_reducible first | exact HK.out | apply KeepBut.set_ | apply keep_drewN | apply keep_drew | apply keep_alloc) | exact HK.out)⟩

-- NOT PRINTED: function 36 (pack_Reader_Text_1)

/-! ### pack_Reader_Text: function 25 (by hand) -/
set_option maxRecDepth 100000 in
theorem pack_Reader_Text.d_ok (a b c : Addr) (u : FrameMode) (w : World) (hc : w.cell? a = some (.int .i64 0)) :
    CallsD Try.prog 36 #[.pointer (some a), .pointer (some b), .pointer (some c)] u w fun e u' w' => u' = u ∧ (e = .returned (.tuple #[]) ∧ w' = w) := by
  go_enter_d Try.func36, Try.ntmps36
  go_wp2
  go_end0
  exact ⟨rfl, rfl⟩
set_option maxRecDepth 100000 in
theorem pack_Reader_Text.d_bad (a b c : Addr) (g : Nat) (f x n : Int) (u : FrameMode) (w : World) (hn : (n == 0) = false) (hc : w.cell? a = some (.int .i64 n)) (hb : w.cell? b = some (.int .i64 f)) (hr : w.cell? c = some (.pointer (some ⟨g, 0, none⟩))) (h1 : w.cell? ⟨g, 1, none⟩ = some (.int .i64 x)) (hf : w.frozen? ⟨g, 1, none⟩ = false) :
    CallsD Try.prog 36 #[.pointer (some a), .pointer (some b), .pointer (some c)] u w fun e u' w' => u' = u ∧ (e = .returned (.tuple #[]) ∧ w' = w.setCell ⟨g, 1, none⟩ (.int .i64 f)) := by
  have hn2 : (n != 0) = true := by simpa using hn
  go_enter_d Try.func36, Try.ntmps36
  go_wp2
  go_end0
  exact ⟨rfl, rfl⟩
theorem pack_Reader_Text.num_l0 (s : ByteArray) (a : Nat) (hs : s.size ≤ 140737488355328) : ∀ (l : List UInt8) (j acc : Nat), s.data.toList.drop (a + j) = l → a + j ≤ s.size → j ≤ 8 → acc < 128 ^ j → Ev (fun k => pack_Reader_Number.l0 k (acc : Int) ((a + j : Nat) : Int) s (a : Int)) (((Hw.rnum l j acc).1 : Int), (Hw.rnum l j acc).2.1, s, ((a + (Hw.rnum l j acc).2.2 : Nat) : Int)) := by
  intro l
  induction l with
  | nil =>
    intro j acc hd hle hj ha
    have hl : s.data.toList.length ≤ a + j := List.drop_eq_nil_iff.1 hd
    rw [data_length] at hl
    refine Ev.step (f := fun _ => some (0, 20, s, (a : Int))) (fun k => ?_) (Ev.now _)
    simp only [pack_Reader_Number.l0]
    rw [if_neg (by omega)]
  | cons c r ih =>
    intro j acc hd hle hj ha
    obtain ⟨h1, h2, h3⟩ := Hw.bt_drop hd
    have hc := c.toNat_lt
    have e1 : wrap64 (7 * wrap64 (((a + j : Nat) : Int) - (a : Int))) = 7 * (j : Int) := by rw [Hw.w64 (((a + j : Nat) : Int) - (a : Int)) (by omega) (by omega), Hw.w64 _ (by omega) (by omega)]; omega
    have e2 : IntKind.u64.wrap (7 * (j : Int)) = 7 * (j : Int) := IntWalk.u64_in _ (by omega)
    rw [Hw.rnum]
    by_cases hj8 : 8 ≤ j
    · rw [if_pos hj8]
      refine Ev.step (f := fun _ => some (0, 21, s, (a : Int))) (fun k => ?_) (Ev.now _)
      simp only [pack_Reader_Number.l0]
      rw [if_pos (by omega), e1, if_pos (by omega)]
    · rw [if_neg hj8]
      have e3 := Hw.or_shift acc j c.toNat (by omega) ha (by omega)
      by_cases hc1 : 127 < c.toNat
      · rw [if_pos hc1]
        have ha2 : acc + c.toNat % 128 * 128 ^ j < 128 ^ (j + 1) := by
          have : c.toNat % 128 * 128 ^ j ≤ 127 * 128 ^ j := Nat.mul_le_mul_right _ (by omega)
          rw [Nat.pow_succ]
          omega
        refine Ev.step (fun k => ?_) (ih (j + 1) _ (by rw [← Nat.add_assoc]; exact h3) (by omega) (by omega) ha2)
        simp only [pack_Reader_Number.l0]
        rw [if_pos (by omega), e1, if_neg (by omega), if_pos (by omega), e2, if_pos (by omega), h2, if_pos (by omega), e3, Hw.wnat _ (by omega)]
        rfl
      · rw [if_neg hc1]
        by_cases hc0 : c.toNat = 0 ∧ 0 < j
        · rw [if_pos hc0]
          refine Ev.step (f := fun _ => some (0, 21, s, (a : Int))) (fun k => ?_) (Ev.now _)
          simp only [pack_Reader_Number.l0]
          rw [if_pos (by omega), e1, if_neg (by omega), if_pos (by omega), e2, if_pos (by omega), h2, if_neg (by omega), if_pos (by omega), if_pos (by omega)]
        · rw [if_neg hc0]
          refine Ev.step (f := fun _ => some (((acc + c.toNat % 128 * 128 ^ j : Nat) : Int), 0, s, ((a + (j + 1) : Nat) : Int))) (fun k => ?_) (Ev.now _)
          simp only [pack_Reader_Number.l0]
          rw [if_pos (by omega), e1, if_neg (by omega), if_pos (by omega), e2, if_pos (by omega), h2, if_neg (by omega), e3, Hw.wnat _ (by omega)]
          by_cases hz : (c.toNat : Int) = 0
          · rw [if_pos hz, if_neg (by omega)]
            rfl
          · rw [if_neg hz]
            rfl
theorem pack_Reader_Text.num_ev (s : ByteArray) (a : Nat) (hs : s.size ≤ 140737488355328) (ha : a ≤ s.size) : Ev (fun k => pack_Reader_Number.f k s (a : Int)) (((Hw.rnum (s.data.toList.drop a) 0 0).1 : Int), (Hw.rnum (s.data.toList.drop a) 0 0).2.1, s, ((a + (Hw.rnum (s.data.toList.drop a) 0 0).2.2 : Nat) : Int)) := pack_Reader_Text.num_l0 s a hs _ 0 0 rfl ha (by omega) (by decide)
def pack_Reader_Text.f (k : Nat) (s : ByteArray) (a : Int) : Option (ByteArray × Int × ByteArray × Int) := (pack_Reader_Number.f k s a).bind fun t => if t.2.1 = 0 then (if t.2.2.1 = s ∧ s.size ≤ 9223372036854775807 ∧ 0 ≤ a ∧ 0 ≤ t.2.2.2 ∧ t.2.2.2 ≤ (s.size : Int) ∧ 0 ≤ t.1 then (if t.1 > (s.size : Int) - t.2.2.2 then some (.empty, 20, s, a) else some (s.extract t.2.2.2.toNat (t.2.2.2 + t.1).toNat, 0, s, t.2.2.2 + t.1)) else none) else if t.2.2 = (s, a) then some (.empty, t.2.1, s, a) else none
theorem pack_Reader_Text.extract_list (s : ByteArray) (a b : Nat) : (s.extract a (a + b)) = ⟨((s.data.toList.drop a).take b).toArray⟩ := by
  apply ByteArray.ext
  rw [ByteArray.data_extract]
  apply Array.ext'
  simp
theorem pack_Reader_Text.text_ev (s : ByteArray) (a : Nat) (hs : s.size ≤ 140737488355328) (ha : a ≤ s.size) : Ev (fun k => pack_Reader_Text.f k s (a : Int)) (⟨(Hw.rtext (s.data.toList.drop a)).1.toArray⟩, (Hw.rtext (s.data.toList.drop a)).2.1, s, ((a + (Hw.rtext (s.data.toList.drop a)).2.2 : Nat) : Int)) := by
  have h1 := pack_Reader_Text.num_ev s a hs ha
  have hu := Hw.rnum_used (s.data.toList.drop a) 0 0
  have hl : (s.data.toList.drop a).length = s.size - a := by rw [List.length_drop, data_length]
  unfold Hw.rtext
  generalize hR : Hw.rnum (s.data.toList.drop a) 0 0 = R at *
  obtain ⟨n, e, u⟩ := R
  simp only at *
  rw [hl] at hu ⊢
  refine Ev.bind h1 (Ev.congr (f := fun _ => some _) (fun k => ?_) (Ev.now _))
  simp only
  by_cases he : e = 0
  · rw [if_pos he, if_pos he, if_pos ⟨by trivial, by omega, by omega, by omega, by omega, by omega⟩]
    by_cases hn : s.size - a < u + n
    · rw [if_pos hn, if_pos (by omega)]
      rfl
    · rw [if_neg hn, if_neg (by omega)]
      have e1 : ((a + u : Nat) : Int).toNat = a + u := by omega
      have e2 : (((a + u : Nat) : Int) + (n : Int)).toNat = (a + u) + n := by omega
      rw [e1, e2, pack_Reader_Text.extract_list, List.drop_drop]
      simp only [Nat.add_assoc, Int.natCast_add, Int.add_assoc]
  · rw [if_neg he, if_neg he]
    obtain ⟨h3, h4⟩ := hu.2.1 he
    subst h4
    rw [if_pos (by simp)]
    rfl
set_option maxHeartbeats 2000000 in
set_option maxRecDepth 100000 in
theorem pack_Reader_Text.calls (k : Nat) (g : Nat) (s : ByteArray) (a : Int) (r1 : ByteArray) (r2 : Int) (r3 : ByteArray) (r4 : Int) (w0 w : World) (hI : IsS70 w0 w g s a) (hB : Below w0.heap.size w0 w) (h : pack_Reader_Text.f k s a = some (r1, r2, r3, r4)) :
    Calls Try.prog 25 #[.pointer (some ⟨g, 0, none⟩)] w fun e w' => e = .returned (.tuple #[.string r1, .int .i64 r2]) ∧ IsS70 w0 w' g r3 r4 ∧ Below w0.heap.size w0 w' ∧ KeepBut w w' g none := by
  unfold pack_Reader_Text.f at h
  obtain ⟨⟨n, e, s', a'⟩, hN, h⟩ := Option.bind_eq_some_iff.1 h
  have HN := Aside0.mk (fun W (hI : IsS70 w0 W g s a) (hB : Below w0.heap.size w0 W) => pack_Reader_Number.calls k g s a n e s' a' w0 W hI hB hN)
  have HI := Aside0.mk hI
  have HB := Aside0.mk hB
  have hgl : g < w.heap.size := hI.lt
  have hne0 : ¬ g = w.heap.size := by omega
  have hne1 : ¬ g = w.heap.size + 1 := by omega
  have hne2 : ¬ g = w.heap.size + 1 + 1 := by omega
  have hne3 : ¬ g = w.heap.size + 2 := by omega
  have hg0 : w.cell? ⟨g, 0, none⟩ = some (.string s) := cellS70_0 hI.1
  have hg1 : w.cell? ⟨g, 1, none⟩ = some (.int .i64 a) := cellS70_1 hI.1
  have hmf : ∀ (fn : Fn) (first cap : Array Value) (w : World), (Instr.makeFunc fn first cap).run Try.prog w = .ok (.func fn first cap) w := fun _ _ _ _ => rfl
  have hgA := fun o1 o2 => Hw.cell_al (Hw.cell_al hg1 o1) o2
  clear hI hB hN hgl
  simp only at h
  by_cases he : e = 0
  · rw [if_pos he] at h
    subst he
    by_cases hc : s' = s ∧ s.size ≤ 9223372036854775807 ∧ 0 ≤ a ∧ 0 ≤ a' ∧ a' ≤ (s.size : Int) ∧ 0 ≤ n
    case neg => rw [if_neg hc] at h; cases h
    rw [if_pos hc] at h
    obtain ⟨rfl, hc1, hc2, hc3, hc4, hc5⟩ := hc
    by_cases hn : n > (s'.size : Int) - a'
    · rw [if_pos hn] at h
      simp only [Option.some.injEq, Prod.mk.injEq] at h
      obtain ⟨rfl, rfl, rfl, rfl⟩ := h
      have hnb : decide ((s'.size : Int) - a' < n) = true := decide_eq_true hn
      go_enter_defers Try.func25, Try.ntmps25
      go_wp2_with (go_at_call 24; refine (HN.out _ (by repeat' (first | exact HI.out | apply IsS70.alloc)) (by repeat' (first | exact HB.out | apply below_alloc))).mono ?_; rintro e4 w4 ⟨rfl, hI4, hB4, hK4⟩; have I4 := Aside0.mk hI4; have B4 := Aside0.mk hB4; have K4 := Aside0.mk hK4; have b0 := hK4.blk (Hw.blk_al (Hw.blk_al (Hw.blk_nw w _) _) _) (fun h => hne0 h.symm) (by simp); have b1 := hK4.blk (Hw.blk_al (Hw.blk_nw1 w _ _) _) (fun h => hne1 h.symm) (by simp); have b2 := hK4.blk (Hw.blk_nw2 w _ _ _) (fun h => hne2 h.symm) (by simp); have c0 := blk_cell b0 0; have c1 := blk_cell b1 0; have c2 := blk_cell b2 0; have f1 := blk_frozen b1 0; have c3 := cellS70_0 hI4.1; have c4 := cellS70_1 hI4.1; have f4 := blk_frozen hI4.1 1; simp only [List.getElem?_toArray, List.getElem?_cons_zero] at c0 c1 c2; clear b0 b1 b2 hI4 hB4 hK4)
      go_quiet (fail)
      go_wp2
      refine leaves_cons (f := 36) (args := #[.pointer (some ⟨w.heap.size + 1, 0, none⟩), .pointer (some ⟨w.heap.size + 1 + 1, 0, none⟩), .pointer (some ⟨w.heap.size, 0, none⟩)]) (by simp) (by simp [go_sem]) ?_
      refine (pack_Reader_Text.d_bad _ _ _ g a a' 20 .returning _ (by decide) ?h1 ?h2 ?h3 ?h4 ?h5).mono ?_
      case h1 => simp [go_sem, c1]
      case h2 => simp [go_sem, c2]
      case h3 => simp [go_sem, c0]
      case h4 => simp [go_sem, c4, hne1]
      case h5 => simp [go_sem, f4]
      rintro e5 u' w5 ⟨rfl, rfl, rfl⟩
      refine ⟨.tuple #[.string .empty, .int .i64 20], by simp [results, Try.results25, go_sem, hne1, c1, f1]; rfl, rfl, ?_, ?_, ?_⟩
      · refine IsS70.set_1 (f1 := a') ?_ _
        repeat' (first | exact I4.out | refine IsS70.far ?_ (by simpa using hne1) _ | apply IsS70.drewN | apply IsS70.drew)
      · have hg := HI.out.ge
        have hs := HB.out.size
        repeat' (first | exact B4.out | refine Below.setCell ?_ (by simp only; omega) _ | refine pw_below_drewN ?_ _ | apply Below.drew)
      · repeat' (first | exact Hw.keep_al (Hw.keep_al (Hw.keep_al K4.out)) | apply KeepBut.set_ | refine Hw.keep_new ?_ (by simp only; omega) _ | apply keep_drewN | apply keep_drew)
    · rw [if_neg hn] at h
      simp only [Option.some.injEq, Prod.mk.injEq] at h
      obtain ⟨rfl, rfl, rfl, rfl⟩ := h
      have hnb : decide ((s'.size : Int) - a' < n) = false := decide_eq_false (by omega)
      go_enter_defers Try.func25, Try.ntmps25
      go_wp2_with (go_at_call 24; refine (HN.out _ (by repeat' (first | exact HI.out | apply IsS70.alloc)) (by repeat' (first | exact HB.out | apply below_alloc))).mono ?_; rintro e4 w4 ⟨rfl, hI4, hB4, hK4⟩; have I4 := Aside0.mk hI4; have B4 := Aside0.mk hB4; have K4 := Aside0.mk hK4; have b0 := hK4.blk (Hw.blk_al (Hw.blk_al (Hw.blk_nw w _) _) _) (fun h => hne0 h.symm) (by simp); have b1 := hK4.blk (Hw.blk_al (Hw.blk_nw1 w _ _) _) (fun h => hne1 h.symm) (by simp); have b2 := hK4.blk (Hw.blk_nw2 w _ _ _) (fun h => hne2 h.symm) (by simp); have c0 := blk_cell b0 0; have c1 := blk_cell b1 0; have c2 := blk_cell b2 0; have f1 := blk_frozen b1 0; have c3 := cellS70_0 hI4.1; have c4 := cellS70_1 hI4.1; have f4 := blk_frozen hI4.1 1; simp only [List.getElem?_toArray, List.getElem?_cons_zero] at c0 c1 c2; clear b0 b1 b2 hI4 hB4 hK4)
      go_quiet (fail)
      go_wp2
      obtain ⟨W5, hW5⟩ : ∃ W5 : World, W5 = ((w4.setCell ⟨w.heap.size + 1, 0, none⟩ (.int .i64 0)).drewN nq).setCell ⟨g, 1, none⟩ (.int .i64 (a' + n)) := ⟨_, rfl⟩
      have d0 : W5.cell? ⟨w.heap.size, 0, none⟩ = some (.pointer (some ⟨g, 0, none⟩)) := by rw [hW5]; simp [go_sem, c0, hne0]
      have d1 : W5.cell? ⟨w.heap.size + 1, 0, none⟩ = some (.int .i64 0) := by rw [hW5]; simp [go_sem, c1, hne1]
      have e1 : W5.frozen? ⟨w.heap.size + 1, 0, none⟩ = false := by rw [hW5]; simp [go_sem, f1, hne1]
      have d3 : W5.cell? ⟨g, 0, none⟩ = some (.string s') := by rw [hW5]; simp [go_sem, c3, hne1]
      have d4 : W5.cell? ⟨g, 1, none⟩ = some (.int .i64 (a' + n)) := by rw [hW5]; simp [go_sem, c4, hne1]
      rw [← hW5]
      have HW5 := Aside0.mk hW5
      clear hW5 c0 c1 c2 c3 c4 f1 f4 hgA hg0 hg1 hnb
      have hsl : ∀ W, (Instr.slice 9 (.string s') (some (.int .i64 a')) (some (.int .i64 (a' + n))) none).run Try.prog W = .ok (.string (s'.extract a'.toNat (a' + n).toNat)) W := fun W => run_slice_string _ _ _ _ _ _ _ Try.underlying9 hc3 (by omega) (by omega)
      have hwr : IntKind.i64.wrap a' = a' := IntWalk.i64_in _ (by omega)
      go_still_tail 16, (by kernel_rfl)
      change wpList _ _ _ _ _ W5.drew
      go_wp2
      refine leaves_cons (f := 36) (args := #[.pointer (some ⟨w.heap.size + 1, 0, none⟩), .pointer (some ⟨w.heap.size + 1 + 1, 0, none⟩), .pointer (some ⟨w.heap.size, 0, none⟩)]) (by simp) (by simp [go_sem]) ?_
      refine (pack_Reader_Text.d_ok _ _ _ .returning _ ?h1).mono ?_
      case h1 => simp [go_sem, d1]
      rintro e5 u' w5 ⟨rfl, rfl, rfl⟩
      refine ⟨.tuple #[.string (s'.extract a'.toNat (a' + n).toNat), .int .i64 0], by simp [results, Try.results25, go_sem, hne1, d1, e1], rfl, ?_, ?_, ?_⟩
      · have h5 : IsS70 w0 W5 g s' (a' + n) := by
          rw [HW5.out]
          refine IsS70.set_1 (f1 := a') ?_ _
          repeat' (first | exact I4.out | refine IsS70.far ?_ (by simpa using hne1) _ | apply IsS70.drewN)
        repeat' (first | exact h5 | refine IsS70.far ?_ (by simpa using hne1) _ | apply IsS70.drew)
      · have hg := HI.out.ge
        have hs := HB.out.size
        rw [HW5.out]
        repeat' (first | exact B4.out | refine Below.setCell ?_ (by simp only; omega) _ | refine pw_below_drewN ?_ _ | apply Below.drew)
      · rw [HW5.out]
        repeat' (first | exact Hw.keep_al (Hw.keep_al (Hw.keep_al K4.out)) | apply KeepBut.set_ | refine Hw.keep_new ?_ (by simp only; omega) _ | apply keep_drewN | apply keep_drew)
  · rw [if_neg he] at h
    have HH := Aside0.mk h
    clear h
    have he1 : (e == 0) = false := by simpa using he
    have he2 : (e != 0) = true := by simpa using he
    clear he
    go_enter_defers Try.func25, Try.ntmps25
    go_wp2_with (go_at_call 24; refine (HN.out _ (by repeat' (first | exact HI.out | apply IsS70.alloc)) (by repeat' (first | exact HB.out | apply below_alloc))).mono ?_; rintro e4 w4 ⟨rfl, hI4, hB4, hK4⟩; have I4 := Aside0.mk hI4; have B4 := Aside0.mk hB4; have K4 := Aside0.mk hK4; have b0 := hK4.blk (Hw.blk_al (Hw.blk_al (Hw.blk_nw w _) _) _) (fun h => hne0 h.symm) (by simp); have b1 := hK4.blk (Hw.blk_al (Hw.blk_nw1 w _ _) _) (fun h => hne1 h.symm) (by simp); have b2 := hK4.blk (Hw.blk_nw2 w _ _ _) (fun h => hne2 h.symm) (by simp); have c0 := blk_cell b0 0; have c1 := blk_cell b1 0; have c2 := blk_cell b2 0; have f1 := blk_frozen b1 0; have c3 := cellS70_0 hI4.1; have c4 := cellS70_1 hI4.1; have f4 := blk_frozen hI4.1 1; simp only [List.getElem?_toArray, List.getElem?_cons_zero] at c0 c1 c2; clear b0 b1 b2 hI4 hB4 hK4)
    go_region
    all_goals go_wp2
    all_goals
      refine leaves_cons (f := 36) (args := #[.pointer (some ⟨w.heap.size + 1, 0, none⟩), .pointer (some ⟨w.heap.size + 1 + 1, 0, none⟩), .pointer (some ⟨w.heap.size, 0, none⟩)]) (by simp) (by simp [go_sem]) ?_
      refine (pack_Reader_Text.d_bad _ _ _ g a a' e .returning _ he1 ?h1 ?h2 ?h3 ?h4 ?h5).mono ?_
      case h1 => simp [go_sem, c1]
      case h2 => simp [go_sem, c2]
      case h3 => simp [go_sem, c0]
      case h4 => simp [go_sem, c4, hne1]
      case h5 => simp [go_sem, f4]
      rintro e5 u' w5 ⟨rfl, rfl, rfl⟩
      have HH := HH.out
      by_cases hp : (s', a') = (s, a)
      · rw [if_pos hp] at HH
        obtain ⟨rfl, rfl⟩ := Prod.mk.inj hp
        simp only [Option.some.injEq, Prod.mk.injEq] at HH
        obtain ⟨rfl, rfl, rfl, rfl⟩ := HH
        refine ⟨.tuple #[.string .empty, .int .i64 e], by simp [results, Try.results25, go_sem, hne1, c1, f1]; rfl, rfl, ?_, ?_, ?_⟩
        · refine IsS70.set_1 (f1 := a') ?_ _
          repeat' (first | exact I4.out | refine IsS70.far ?_ (by simpa using hne1) _ | apply IsS70.drew)
        · have hg := HI.out.ge
          have hs := HB.out.size
          repeat' (first | exact B4.out | refine Below.setCell ?_ (by simp only; omega) _ | apply Below.drew)
        · repeat' (first | exact Hw.keep_al (Hw.keep_al (Hw.keep_al K4.out)) | apply KeepBut.set_ | refine Hw.keep_new ?_ (by simp only; omega) _ | apply keep_drew)
      · rw [if_neg hp] at HH; cases HH

/-! ### pack_Reader_End: function 26 -/
def pack_Reader_End.f (s0_0 : ByteArray) (s0_1 : Int) : Option (Int × ByteArray × Int) := if s0_1 < (s0_0.size : Int) then (some (21, s0_0, s0_1)) else (some (0, s0_0, s0_1))
set_option maxHeartbeats 8000000 in
set_option maxRecDepth 100000 in
theorem pack_Reader_End.calls (g : Nat) (s0_0 : ByteArray) (s0_1 : Int) (r1 : Int) (r2 : ByteArray) (r3 : Int) (w0 w : World) (hI : IsS70 w0 w g s0_0 s0_1) (hB : Below w0.heap.size w0 w) (h : pack_Reader_End.f s0_0 s0_1 = some (r1, r2, r3)) :
    Calls Try.prog 26 #[.pointer (some ⟨g, 0, none⟩)] w fun e w' => e = .returned (.int .i64 r1) ∧ IsS70 w0 w' g r2 r3 ∧ Below w0.heap.size w0 w' ∧ KeepBut w w' g none := by
  have HI0 := Aside0.mk hI
  have HK := Aside0.mk (KeepBut.refl w g none)
  have HL := Aside0.mk hB.size
  clear hI
  have HW0 := Aside0.mk hB.size
  have HB := Aside0.mk hB
  clear hB
  have H : (if s0_1 < (s0_0.size : Int) then (some (21, s0_0, s0_1)) else (some (0, s0_0, s0_1))) = some (r1, r2, r3) := h
  clear h
  by_cases c2 : s0_1 < (s0_0.size : Int)
  · rw [if_pos c2] at H
    have c2b0 : decide (s0_1 < (s0_0.size : Int)) = true := decide_eq_true c2
    clear c2
    simp only [Option.some.injEq, Prod.mk.injEq] at H
    obtain ⟨rfl, rfl, rfl⟩ := H
    obtain ⟨HGz3, hgz3⟩ := HI0.out
    have hcz3_0 := cellS70_0 HGz3
    have hcz3_1 := cellS70_1 HGz3
    have hfz3_0 := blk_frozen HGz3 0
    have hfz3_1 := blk_frozen HGz3 1
    clear HGz3 hgz3
    go_enter Try.func26, Try.ntmps26
    go_wp2
    repeat (go_quiet (fail); try go_wp2)
    go_ret
    exact ⟨by first | rfl | (simp [errW_none, errW_some] <;> rfl) | (simp [*, errW_none, errW_some] <;> rfl), by repeat (first | (with_reducible first | exact HI0.out | apply IsS70.alloc | apply IsS70.drewN | apply IsS70.drew | apply IsS70.set_0 | apply IsS70.set_1) | exact HI0.out), by repeat (first | (with_reducible first | exact HB.out | apply below_alloc | apply pw_below_drewN | apply below_drew1 | refine below_set ?_ (IsS70.ge HI0.out)) | exact HB.out), by repeat (first | (with_reducible first | exact HK.out | apply KeepBut.set_ | apply keep_drewN | apply keep_drew | apply keep_alloc) | exact HK.out)⟩
  · rw [if_neg c2] at H
    have c2b0 : decide (s0_1 < (s0_0.size : Int)) = false := decide_eq_false c2
    clear c2
    simp only [Option.some.injEq, Prod.mk.injEq] at H
    obtain ⟨rfl, rfl, rfl⟩ := H
    obtain ⟨HGz4, hgz4⟩ := HI0.out
    have hcz4_0 := cellS70_0 HGz4
    have hcz4_1 := cellS70_1 HGz4
    have hfz4_0 := blk_frozen HGz4 0
    have hfz4_1 := blk_frozen HGz4 1
    clear HGz4 hgz4
    go_enter Try.func26, Try.ntmps26
    go_wp2
    repeat (go_quiet (fail); try go_wp2)
    go_ret
    exact ⟨by first | rfl | (simp [errW_none, errW_some] <;> rfl) | (simp [*, errW_none, errW_some] <;> rfl), by repeat (first | (with_reducible first | exact HI0.out | apply IsS70.alloc | apply IsS70.drewN | apply IsS70.drew | apply IsS70.set_0 | apply IsS70.set_1) | exact HI0.out), by repeat (first | (with_reducible first | exact HB.out | apply below_alloc | apply pw_below_drewN | apply below_drew1 | refine below_set ?_ (IsS70.ge HI0.out)) | exact HB.out), by repeat (first | (with_reducible first | exact HK.out | apply KeepBut.set_ | apply keep_drewN | apply keep_drew | apply keep_alloc) | exact HK.out)⟩

/-! ### chunk_Decode: function 13 (by hand) -/
/-- The numbers of a chunk's bytes, and its text. -/
def chunk_Decode.pos (l : List UInt8) : Nat → Nat
  | 0 => 0
  | j + 1 => chunk_Decode.pos l j + (Hw.rnum (l.drop (chunk_Decode.pos l j)) 0 0).2.2
def chunk_Decode.val (l : List UInt8) (j : Nat) : Int := ((Hw.rnum (l.drop (chunk_Decode.pos l j)) 0 0).1 : Int)
def chunk_Decode.err (l : List UInt8) (j : Nat) : Int := (Hw.rnum (l.drop (chunk_Decode.pos l j)) 0 0).2.1
def chunk_Decode.txt (l : List UInt8) : List UInt8 × Int × Nat := Hw.rtext (l.drop (chunk_Decode.pos l 3))
def chunk_Decode.bad : Int × Int × Bool × Bool × ByteArray × Int := (0, 0, false, false, ⟨#[]⟩, 21)
/-- What bytes ahead of the sum are as a chunk. -/
def chunk_Decode.dec (l : List UInt8) : Int × Int × Bool × Bool × ByteArray × Int :=
  if chunk_Decode.err l 0 = 0 ∧ chunk_Decode.err l 1 = 0 ∧ chunk_Decode.err l 2 = 0 ∧ (chunk_Decode.txt l).2.1 = 0 ∧ l.length ≤ chunk_Decode.pos l 3 + (chunk_Decode.txt l).2.2 ∧ chunk_Decode.val l 0 ≤ 1099511627776 ∧ chunk_Decode.val l 1 ≤ 1099511627776 ∧ chunk_Decode.val l 2 ≤ 3 ∧ (chunk_Decode.txt l).1.length ≤ 96 then
    (chunk_Decode.val l 0, chunk_Decode.val l 1, decide (chunk_Decode.val l 2 = 1 ∨ chunk_Decode.val l 2 = 3), decide (chunk_Decode.val l 2 = 2 ∨ chunk_Decode.val l 2 = 3), ⟨(chunk_Decode.txt l).1.toArray⟩, 0) else chunk_Decode.bad
def chunk_Decode.f (k : Nat) (a0 : ByteArray) : Option (Int × Int × Bool × Bool × ByteArray × Int) :=
  if a0.size ≤ 140737488355328 then (if (a0.size : Int) < 4 then some chunk_Decode.bad else (chunk_tail.f k (a0.extract 0 (a0.size - 4))).bind fun t => if t.toList = (a0.extract (a0.size - 4) a0.size).toList then some (chunk_Decode.dec (a0.data.toList.take (a0.size - 4))) else some chunk_Decode.bad) else none
theorem chunk_Decode.mono : ∀ a0 k, LeO (chunk_Decode.f k a0) (chunk_Decode.f (k + 1) a0) := by
  intro a0 k
  unfold chunk_Decode.f
  exact LeO.ite (LeO.ite (LeO.refl _) (LeO.bind (chunk_tail.mono _ _) fun _ => LeO.refl _)) (LeO.refl _)
theorem chunk_Decode.pos_le (l : List UInt8) : ∀ j, chunk_Decode.pos l j ≤ l.length := by
  intro j
  induction j with
  | zero => exact Nat.zero_le _
  | succ j ih =>
    have h := (Hw.rnum_used (l.drop (chunk_Decode.pos l j)) 0 0).1
    rw [List.length_drop] at h
    unfold chunk_Decode.pos
    omega
abbrev chunk_Decode.Z0 : Array Value := #[.int .i64 0, .int .i64 0, .bool false, .bool false, .string ⟨#[]⟩]
structure chunk_Decode.Loc (w0 : World) (s : ByteArray) (g b0 bx : Nat) (a x0 x1 x2 : Int) (W : World) : Prop where
  rd : IsS70 w0 W g s a
  bl : Below w0.heap.size w0 W
  h0 : W.heap[b0]? = some (.cells chunk_Decode.Z0 29 (0, 0))
  hx : W.heap[bx]? = some (.cells #[.int .i64 x0, .int .i64 x1, .int .i64 x2] 55 (0, 0))
  lo : w0.heap.size ≤ b0 ∧ w0.heap.size ≤ bx
  ne : b0 ≠ bx ∧ g ≠ b0 ∧ g ≠ bx
section
variable {w0 : World} {s : ByteArray} {g b0 bx : Nat} {a x0 x1 x2 : Int} {W : World}
theorem chunk_Decode.Loc.set0 (h : chunk_Decode.Loc w0 s g b0 bx a x0 x1 x2 W) (x : Int) : chunk_Decode.Loc w0 s g b0 bx a x x1 x2 (W.setCell ⟨bx, 0, none⟩ (.int .i64 x)) := by
  obtain ⟨h1, h2, h3, h4, h5, h6⟩ := h
  exact ⟨h1.far (by show g ≠ bx; omega) _, h2.setCell (by show _ ≤ bx; omega) _, blk_far h3 (by show b0 ≠ bx; omega) _, blk_set h4 0 _, h5, h6⟩
theorem chunk_Decode.Loc.set1 (h : chunk_Decode.Loc w0 s g b0 bx a x0 x1 x2 W) (x : Int) : chunk_Decode.Loc w0 s g b0 bx a x0 x x2 (W.setCell ⟨bx, 1, none⟩ (.int .i64 x)) := by
  obtain ⟨h1, h2, h3, h4, h5, h6⟩ := h
  exact ⟨h1.far (by show g ≠ bx; omega) _, h2.setCell (by show _ ≤ bx; omega) _, blk_far h3 (by show b0 ≠ bx; omega) _, blk_set h4 1 _, h5, h6⟩
theorem chunk_Decode.Loc.set2 (h : chunk_Decode.Loc w0 s g b0 bx a x0 x1 x2 W) (x : Int) : chunk_Decode.Loc w0 s g b0 bx a x0 x1 x (W.setCell ⟨bx, 2, none⟩ (.int .i64 x)) := by
  obtain ⟨h1, h2, h3, h4, h5, h6⟩ := h
  exact ⟨h1.far (by show g ≠ bx; omega) _, h2.setCell (by show _ ≤ bx; omega) _, blk_far h3 (by show b0 ≠ bx; omega) _, blk_set h4 2 _, h5, h6⟩
theorem chunk_Decode.Loc.step (h : chunk_Decode.Loc w0 s g b0 bx a x0 x1 x2 W) {W' : World} {a' : Int} (hi : IsS70 w0 W' g s a') (hb : Below w0.heap.size w0 W') (hk : KeepBut W W' g none) : chunk_Decode.Loc w0 s g b0 bx a' x0 x1 x2 W' := by
  obtain ⟨h1, h2, h3, h4, h5, h6⟩ := h
  exact ⟨hi, hb, hk.blk h3 (by omega) (by simp), hk.blk h4 (by omega) (by simp), h5, h6⟩
theorem chunk_Decode.Loc.xcells (h : chunk_Decode.Loc w0 s g b0 bx a x0 x1 x2 W) : W.cell? ⟨bx, 0, none⟩ = some (.int .i64 x0) ∧ W.cell? ⟨bx, 1, none⟩ = some (.int .i64 x1) ∧ W.cell? ⟨bx, 2, none⟩ = some (.int .i64 x2) ∧ W.frozen? ⟨bx, 0, none⟩ = false ∧ W.frozen? ⟨bx, 1, none⟩ = false ∧ W.frozen? ⟨bx, 2, none⟩ = false :=
  ⟨blk_cell h.hx 0, blk_cell h.hx 1, blk_cell h.hx 2, blk_frozen h.hx 0, blk_frozen h.hx 1, blk_frozen h.hx 2⟩
/-- The result's variable, and what is kept. -/
structure chunk_Decode.Res (w0 : World) (b0 : Nat) (W : World) : Prop where
  bl : Below w0.heap.size w0 W
  h0 : W.heap[b0]? = some (.cells chunk_Decode.Z0 29 (0, 0))
  lo : w0.heap.size ≤ b0
theorem chunk_Decode.Loc.res (h : chunk_Decode.Loc w0 s g b0 bx a x0 x1 x2 W) : chunk_Decode.Res w0 b0 W := ⟨h.bl, h.h0, h.lo.1⟩
theorem chunk_Decode.Res.cells (h : chunk_Decode.Res w0 b0 W) : W.cell? ⟨b0, 0, none⟩ = some (.int .i64 0) ∧ W.cell? ⟨b0, 1, none⟩ = some (.int .i64 0) ∧ W.cell? ⟨b0, 2, none⟩ = some (.bool false) ∧ W.cell? ⟨b0, 3, none⟩ = some (.bool false) ∧ W.cell? ⟨b0, 4, none⟩ = some (.string ⟨#[]⟩) ∧ W.frozen? ⟨b0, 0, none⟩ = false ∧ W.frozen? ⟨b0, 1, none⟩ = false ∧ W.frozen? ⟨b0, 2, none⟩ = false ∧ W.frozen? ⟨b0, 3, none⟩ = false ∧ W.frozen? ⟨b0, 4, none⟩ = false :=
  ⟨blk_cell h.h0 0, blk_cell h.h0 1, blk_cell h.h0 2, blk_cell h.h0 3, blk_cell h.h0 4, blk_frozen h.h0 0, blk_frozen h.h0 1, blk_frozen h.h0 2, blk_frozen h.h0 3, blk_frozen h.h0 4⟩
theorem chunk_Decode.Res.drew (h : chunk_Decode.Res w0 b0 W) : chunk_Decode.Res w0 b0 W.drew := ⟨h.bl.drew, h.h0, h.lo⟩
theorem chunk_Decode.Res.drewN (h : chunk_Decode.Res w0 b0 W) (m : Nat) : chunk_Decode.Res w0 b0 (W.drewN m) := ⟨pw_below_drewN h.bl m, h.h0, h.lo⟩
theorem chunk_Decode.Res.below (h : chunk_Decode.Res w0 b0 W) {W' : World} (hb : Below W.heap.size W W') : chunk_Decode.Res w0 b0 W' := ⟨h.bl.trans (hb.mono h.bl.size), blk_below h.h0 hb, h.lo⟩
theorem chunk_Decode.Res.fin (h : chunk_Decode.Res w0 b0 W) (x y : Int) (p q : Bool) (t : ByteArray) : (((((W.setCell ⟨b0, 0, none⟩ (.int .i64 x)).setCell ⟨b0, 1, none⟩ (.int .i64 y)).setCell ⟨b0, 2, none⟩ (.bool p)).setCell ⟨b0, 3, none⟩ (.bool q)).setCell ⟨b0, 4, none⟩ (.string t)).heap[b0]? = some (.cells #[.int .i64 x, .int .i64 y, .bool p, .bool q, .string t] 29 (0, 0)) ∧ Below w0.heap.size w0 (((((W.setCell ⟨b0, 0, none⟩ (.int .i64 x)).setCell ⟨b0, 1, none⟩ (.int .i64 y)).setCell ⟨b0, 2, none⟩ (.bool p)).setCell ⟨b0, 3, none⟩ (.bool q)).setCell ⟨b0, 4, none⟩ (.string t)) := by
  refine ⟨(blk_set (blk_set (blk_set (blk_set (blk_set h.h0 0 _) 1 _) 2 _) 3 _) 4 _).trans rfl, ((((h.bl.setCell ?_ _).setCell ?_ _).setCell ?_ _).setCell ?_ _).setCell ?_ _⟩ <;> exact h.lo
end
theorem chunk_Decode.first (w : World) : chunk_Decode.Res w w.heap.size (w.alloc (.cells chunk_Decode.Z0 29)) := ⟨below_alloc (Below.refl _ _) _, Hw.blk_nw w _, Nat.le_refl _⟩
/-- How far the loop over the three numbers has come. -/
def chunk_Decode.St (l : List UInt8) (w : World) (sv : ByteArray) (g bx : Nat) (x : Int) (gg : Nat) (W : World) : Prop :=
  (x = 0 ∧ gg = 3 ∧ chunk_Decode.Loc w sv g w.heap.size bx ((chunk_Decode.pos l 0 : Nat) : Int) 0 0 0 W) ∨
  (x = 1 ∧ gg = 2 ∧ chunk_Decode.err l 0 = 0 ∧ chunk_Decode.Loc w sv g w.heap.size bx ((chunk_Decode.pos l 1 : Nat) : Int) (chunk_Decode.val l 0) 0 0 W) ∨
  (x = 2 ∧ gg = 1 ∧ chunk_Decode.err l 0 = 0 ∧ chunk_Decode.err l 1 = 0 ∧ chunk_Decode.Loc w sv g w.heap.size bx ((chunk_Decode.pos l 2 : Nat) : Int) (chunk_Decode.val l 0) (chunk_Decode.val l 1) 0 W) ∨
  (x = 3 ∧ gg = 0 ∧ chunk_Decode.err l 0 = 0 ∧ chunk_Decode.err l 1 = 0 ∧ chunk_Decode.err l 2 = 0 ∧ chunk_Decode.Loc w sv g w.heap.size bx ((chunk_Decode.pos l 3 : Nat) : Int) (chunk_Decode.val l 0) (chunk_Decode.val l 1) (chunk_Decode.val l 2) W)
theorem chunk_Decode.dec_bad (l : List UInt8) {r1 r2 : Int} {r3 r4 : Bool} {r5 : ByteArray} {r6 : Int} (h : chunk_Decode.dec l = (r1, r2, r3, r4, r5, r6)) (hb : ¬ (chunk_Decode.err l 0 = 0 ∧ chunk_Decode.err l 1 = 0 ∧ chunk_Decode.err l 2 = 0 ∧ (chunk_Decode.txt l).2.1 = 0 ∧ l.length ≤ chunk_Decode.pos l 3 + (chunk_Decode.txt l).2.2 ∧ chunk_Decode.val l 0 ≤ 1099511627776 ∧ chunk_Decode.val l 1 ≤ 1099511627776 ∧ chunk_Decode.val l 2 ≤ 3 ∧ (chunk_Decode.txt l).1.length ≤ 96)) : r1 = 0 ∧ r2 = 0 ∧ r3 = false ∧ r4 = false ∧ r5 = ⟨#[]⟩ ∧ r6 = 21 := by
  unfold chunk_Decode.dec at h
  rw [if_neg hb] at h
  simp only [chunk_Decode.bad, Prod.mk.injEq] at h
  obtain ⟨rfl, rfl, rfl, rfl, rfl, rfl⟩ := h
  exact ⟨rfl, rfl, rfl, rfl, rfl, rfl⟩
set_option maxHeartbeats 4000000 in
set_option maxRecDepth 100000 in
theorem chunk_Decode.calls (k : Nat) (a0 : ByteArray) (r1 r2 : Int) (r3 r4 : Bool) (r5 : ByteArray) (r6 : Int) (w : World) (h : chunk_Decode.f k a0 = some (r1, r2, r3, r4, r5, r6)) :
    Calls Try.prog 13 #[.string a0] w fun e w' => e = .returned (.tuple #[.agg #[.int .i64 r1, .int .i64 r2, .bool r3, .bool r4, .string r5], .int .i64 r6]) ∧ Below w.heap.size w w' := by
  unfold chunk_Decode.f at h
  by_cases hz : a0.size ≤ 140737488355328
  case neg => rw [if_neg hz] at h; cases h
  rw [if_pos hz] at h
  have HR0 := Aside0.mk (chunk_Decode.first w)
  by_cases hs : (a0.size : Int) < 4
  · rw [if_pos hs] at h
    simp only [chunk_Decode.bad, Option.some.injEq, Prod.mk.injEq] at h
    obtain ⟨rfl, rfl, rfl, rfl, rfl, rfl⟩ := h
    have hs1 : decide ((a0.size : Int) - 4 < 0) = true := decide_eq_true (by omega)
    obtain ⟨c0, c1, c2, c3, c4, f0, f1, f2, f3, f4⟩ := HR0.out.cells
    go_enter Try.func13, Try.ntmps13
    go_wp2
    go_quiet (fail)
    go_wp2
    have F := (HR0.out.drewN nq).fin 0 0 false false ⟨#[]⟩
    exact bodyPost_ret (results_ct rfl _ _ _ _ _ (0, 0) _ rfl F.1 Try.underlying29 rfl (by kernel_rfl)) rfl ⟨rfl, by first | exact F.2 | exact Below.drew F.2⟩
  · rw [if_neg hs] at h
    obtain ⟨t, ht, h⟩ := Option.bind_eq_some_iff.1 h
    have hs0 : ¬ ((a0.size : Int) - 4 < 0) := by omega
    obtain ⟨n, hn⟩ : ∃ n : Nat, a0.size = n + 4 := ⟨a0.size - 4, by omega⟩
    have hn4 : (a0.size : Int) - 4 = (n : Int) := by omega
    have hn5 : a0.size - 4 = n := by omega
    have hs1 : decide ((n : Int) < 0) = false := decide_eq_false (by omega)
    have hs2 : ((n : Int) < 0) = False := eq_false (by omega)
    rw [hn5] at ht h
    have HT : Aside0 (∀ W, chunk_Decode.Res w w.heap.size W → Calls Try.prog 19 #[.string (a0.extract 0 n)] W fun e w' => e = .returned (.string t) ∧ chunk_Decode.Res w w.heap.size w') := ⟨fun W hW => (chunk_tail.calls k (a0.extract 0 n) t W ht).mono fun e w' hh => ⟨hh.1, hW.below hh.2⟩⟩
    have hsl1 : ∀ W, (Instr.slice 9 (.string a0) none (some (.int .i64 (n : Int))) none).run Try.prog W = .ok (.string (a0.extract 0 n)) W := fun W => run_slice_string_h W _ _ Try.underlying9 _ _ (by omega) (by omega)
    have hsl2 : ∀ W, (Instr.slice 9 (.string a0) (some (.int .i64 (n : Int))) none none).run Try.prog W = .ok (.string (a0.extract n a0.size)) W := fun W => run_slice_string_l W _ _ Try.underlying9 _ _ (by omega) (by omega)
    have hnb : (n : Int) ≤ 140737488355328 := by omega
    have HN := Aside0.mk (And.intro hn (And.intro hz hs0))
    have HH := Aside0.mk h
    clear ht h hn hz hs hs0 hn5
    by_cases htt : t.toList = (a0.extract n a0.size).toList
    · have ht1 : (t.toList == (a0.extract n a0.size).toList) = true := by simpa using htt
      have h := HH.out
      rw [if_pos htt] at h
      have h := Option.some.inj h
      have HD := Aside0.mk h
      clear htt h HH
      have HL : Aside0 ((a0.extract 0 n).data.toList = a0.data.toList.take n ∧ (a0.extract 0 n).size = n ∧ (a0.data.toList.take n).length = n) := by
        have e0 := HN.out
        have e1 : (a0.extract 0 n).data.toList = a0.data.toList.take n := by rw [ByteArray.data_extract]; simp
        have e2 : (a0.extract 0 n).size = n := by rw [ByteArray.size_extract]; omega
        exact ⟨e1, e2, by rw [← e1, data_length, e2]⟩
      generalize hsv : a0.extract 0 n = sv at *
      have HNX : Aside0 (∀ (j g : Nat) (W : World), IsS70 w W g sv ((chunk_Decode.pos (a0.data.toList.take n) j : Nat) : Int) → Below w.heap.size w W → Calls Try.prog 24 #[.pointer (some ⟨g, 0, none⟩)] W fun r W' => r = .returned (.tuple #[.int .i64 (chunk_Decode.val (a0.data.toList.take n) j), .int .i64 (chunk_Decode.err (a0.data.toList.take n) j)]) ∧ IsS70 w W' g sv ((chunk_Decode.pos (a0.data.toList.take n) (j + 1) : Nat) : Int) ∧ Below w.heap.size w W' ∧ KeepBut W W' g none) := ⟨fun j g W h1 h2 => by
        have hp := chunk_Decode.pos_le (a0.data.toList.take n) j
        have hl := HL.out
        obtain ⟨k, hk⟩ := (pack_Reader_Text.num_ev sv (chunk_Decode.pos (a0.data.toList.take n) j) (by omega) (by omega)).rounds
        rw [hl.1] at hk
        exact pack_Reader_Number.calls k g _ _ _ _ _ _ w W h1 h2 hk⟩
      have HTX : Aside0 (∀ (g : Nat) (W : World), IsS70 w W g sv ((chunk_Decode.pos (a0.data.toList.take n) 3 : Nat) : Int) → Below w.heap.size w W → Calls Try.prog 25 #[.pointer (some ⟨g, 0, none⟩)] W fun r W' => r = .returned (.tuple #[.string ⟨(chunk_Decode.txt (a0.data.toList.take n)).1.toArray⟩, .int .i64 (chunk_Decode.txt (a0.data.toList.take n)).2.1]) ∧ IsS70 w W' g sv ((chunk_Decode.pos (a0.data.toList.take n) 3 + (chunk_Decode.txt (a0.data.toList.take n)).2.2 : Nat) : Int) ∧ Below w.heap.size w W' ∧ KeepBut W W' g none) := ⟨fun g W h1 h2 => by
        have hp := chunk_Decode.pos_le (a0.data.toList.take n) 3
        have hl := HL.out
        obtain ⟨k, hk⟩ := (pack_Reader_Text.text_ev sv (chunk_Decode.pos (a0.data.toList.take n) 3) (by omega) (by omega)).rounds
        rw [hl.1] at hk
        exact pack_Reader_Text.calls k g _ _ _ _ _ _ w W h1 h2 hk⟩
      have HEX : Aside0 (∀ (g : Nat) (a e : Int) (W : World), (if a < (n : Int) then 21 else 0) = e → IsS70 w W g sv a → Below w.heap.size w W → Calls Try.prog 26 #[.pointer (some ⟨g, 0, none⟩)] W fun r W' => r = .returned (.int .i64 e) ∧ IsS70 w W' g sv a ∧ Below w.heap.size w W' ∧ KeepBut W W' g none) := ⟨fun g a e W he h1 h2 => by
        refine (pack_Reader_End.calls g _ _ e sv a w W h1 h2 ?_)
        unfold pack_Reader_End.f
        rw [HL.out.2.1, ← he]
        split <;> rfl⟩
      generalize a0.data.toList.take n = l at *
      go_enter Try.func13, Try.ntmps13
      go_wp2
      go_region_held3 (fun W => chunk_Decode.Res w w.heap.size W) (first | assumption | exact HR0.out | exact HR0.out.drew | (refine chunk_Decode.Res.drew ?_; assumption)) (first | (go_at_call 19; refine (HT.out _ (by assumption)).mono ?_; rintro e w' ⟨rfl, hw'⟩))
      have R1 : Aside0 (chunk_Decode.Res w w.heap.size w') := ⟨by assumption⟩
      go_wp2_with (go_at_call 23; refine (pack_Read.calls sv sv 0 w _ R1.out.bl rfl).mono ?_; rintro e w2 ⟨g, rfl, h2, b2, b2'⟩; have I2 := Aside0.mk h2; have B2 := Aside0.mk b2; have R2 := Aside0.mk (R1.out.below b2'); clear h2 b2 b2')
      have h2l : w.heap.size < w2.heap.size := blk_lt R2.out.h0
      have L0 : Aside0 (chunk_Decode.Loc w sv g w.heap.size w2.heap.size ((chunk_Decode.pos l 0 : Nat) : Int) 0 0 0 (w2.alloc (.cells #[.int .i64 0, .int .i64 0, .int .i64 0] 55))) := ⟨⟨I2.out.alloc _, below_alloc B2.out _, Hw.blk_al R2.out.h0 _, Hw.blk_nw w2 _, ⟨Nat.le_refl _, by omega⟩, ⟨by omega, I2.out.ne_blk R2.out.h0 (by decide), by have := I2.out.lt; omega⟩⟩⟩
      have BX := Aside0.mk (Eq.refl w2.heap.size)
      clear hs1 hs2 hsl1 hsl2 ht1 h2l hsv h
      go_loopg [32] 3 (fun gg v32 wq => ∃ x : Int, v32 = .int .i64 x ∧ Aside0 (chunk_Decode.St l w sv g w2.heap.size x gg wq))
      case atStart => exact ⟨0, by first | rfl | simp, ⟨.inl ⟨rfl, rfl, L0.out⟩⟩⟩
      case round =>
        obtain ⟨x, rfl, HS⟩ := hrel
        rcases HS.out with ⟨rfl, hg, L⟩ | ⟨rfl, hg, h0, L⟩ | ⟨rfl, hg, h0, h1, L⟩ | ⟨rfl, hg, h0, h1, h2, L⟩
        · clear HS
          have LL := Aside0.mk L
          have HG := Aside0.mk hg
          clear L hg
          by_cases he : chunk_Decode.err l 0 = 0
          · have HN0 := Aside0.mk (HNX.out 0 g)
            rw [he] at HN0
            have HE := Aside0.mk he
            clear he
            go_wp2_with (go_at_call 24; refine (HN0.out _ LL.out.rd LL.out.bl).mono ?_; rintro r w4 ⟨rfl, hi4, hb4, hk4⟩; have L4 := Aside0.mk (LL.out.step hi4 hb4 hk4); obtain ⟨c0, c1, c2, c3, c4, f0, f1, f2, f3, f4⟩ := L4.out.res.cells; obtain ⟨y0, y1, y2, z0, z1, z2⟩ := L4.out.xcells; clear hi4 hb4 hk4)
            go_roundg (gk - 1)
            case measure => have := HG.out; omega
            case rel =>
              have hg := HG.out
              have he := HE.out
              exact ⟨1, by go_num, ⟨(.inr (.inl ⟨rfl, by omega, he, L4.out.set0 _⟩))⟩⟩
          · have HN0 := Aside0.mk (HNX.out 0 g)
            have he2 : (chunk_Decode.err l 0 != 0) = true := by simpa using he
            have he3 : (chunk_Decode.err l 0 == 0) = false := by simpa using he
            obtain ⟨rfl, rfl, rfl, rfl, rfl, rfl⟩ := chunk_Decode.dec_bad l HD.out (fun q => he q.1)
            clear he
            go_wp2_with (go_at_call 24; refine (HN0.out _ LL.out.rd LL.out.bl).mono ?_; rintro r w4 ⟨rfl, hi4, hb4, hk4⟩; have L4 := Aside0.mk (LL.out.step hi4 hb4 hk4); obtain ⟨c0, c1, c2, c3, c4, f0, f1, f2, f3, f4⟩ := L4.out.res.cells; obtain ⟨y0, y1, y2, z0, z1, z2⟩ := L4.out.xcells; clear hi4 hb4 hk4)
            have F := L4.out.res.fin 0 0 false false ⟨#[]⟩
            exact bodyPost_ret (results_ct rfl _ _ _ _ _ (0, 0) _ rfl F.1 Try.underlying29 rfl (by kernel_rfl)) rfl ⟨rfl, by first | exact F.2 | exact Below.drew F.2⟩
        · clear HS
          have H0 := Aside0.mk h0
          clear h0
          have LL := Aside0.mk L
          have HG := Aside0.mk hg
          clear L hg
          by_cases he : chunk_Decode.err l 1 = 0
          · have HN0 := Aside0.mk (HNX.out 1 g)
            rw [he] at HN0
            have HE := Aside0.mk he
            clear he
            go_wp2_with (go_at_call 24; refine (HN0.out _ LL.out.rd LL.out.bl).mono ?_; rintro r w4 ⟨rfl, hi4, hb4, hk4⟩; have L4 := Aside0.mk (LL.out.step hi4 hb4 hk4); obtain ⟨c0, c1, c2, c3, c4, f0, f1, f2, f3, f4⟩ := L4.out.res.cells; obtain ⟨y0, y1, y2, z0, z1, z2⟩ := L4.out.xcells; clear hi4 hb4 hk4)
            go_roundg (gk - 1)
            case measure => have := HG.out; omega
            case rel =>
              have hg := HG.out
              have he := HE.out
              have h0 := H0.out
              exact ⟨2, by go_num, ⟨(.inr (.inr (.inl ⟨rfl, by omega, h0, he, L4.out.set1 _⟩)))⟩⟩
          · have HN0 := Aside0.mk (HNX.out 1 g)
            have he2 : (chunk_Decode.err l 1 != 0) = true := by simpa using he
            have he3 : (chunk_Decode.err l 1 == 0) = false := by simpa using he
            obtain ⟨rfl, rfl, rfl, rfl, rfl, rfl⟩ := chunk_Decode.dec_bad l HD.out (fun q => he q.2.1)
            clear he
            go_wp2_with (go_at_call 24; refine (HN0.out _ LL.out.rd LL.out.bl).mono ?_; rintro r w4 ⟨rfl, hi4, hb4, hk4⟩; have L4 := Aside0.mk (LL.out.step hi4 hb4 hk4); obtain ⟨c0, c1, c2, c3, c4, f0, f1, f2, f3, f4⟩ := L4.out.res.cells; obtain ⟨y0, y1, y2, z0, z1, z2⟩ := L4.out.xcells; clear hi4 hb4 hk4)
            have F := L4.out.res.fin 0 0 false false ⟨#[]⟩
            exact bodyPost_ret (results_ct rfl _ _ _ _ _ (0, 0) _ rfl F.1 Try.underlying29 rfl (by kernel_rfl)) rfl ⟨rfl, by first | exact F.2 | exact Below.drew F.2⟩
        · clear HS
          have H0 := Aside0.mk h0
          have H1 := Aside0.mk h1
          clear h0 h1
          have LL := Aside0.mk L
          have HG := Aside0.mk hg
          clear L hg
          by_cases he : chunk_Decode.err l 2 = 0
          · have HN0 := Aside0.mk (HNX.out 2 g)
            rw [he] at HN0
            have HE := Aside0.mk he
            clear he
            go_wp2_with (go_at_call 24; refine (HN0.out _ LL.out.rd LL.out.bl).mono ?_; rintro r w4 ⟨rfl, hi4, hb4, hk4⟩; have L4 := Aside0.mk (LL.out.step hi4 hb4 hk4); obtain ⟨c0, c1, c2, c3, c4, f0, f1, f2, f3, f4⟩ := L4.out.res.cells; obtain ⟨y0, y1, y2, z0, z1, z2⟩ := L4.out.xcells; clear hi4 hb4 hk4)
            go_roundg (gk - 1)
            case measure => have := HG.out; omega
            case rel =>
              have hg := HG.out
              have he := HE.out
              have h0 := H0.out
              have h1 := H1.out
              exact ⟨3, by go_num, ⟨(.inr (.inr (.inr ⟨rfl, by omega, h0, h1, he, L4.out.set2 _⟩)))⟩⟩
          · have HN0 := Aside0.mk (HNX.out 2 g)
            have he2 : (chunk_Decode.err l 2 != 0) = true := by simpa using he
            have he3 : (chunk_Decode.err l 2 == 0) = false := by simpa using he
            obtain ⟨rfl, rfl, rfl, rfl, rfl, rfl⟩ := chunk_Decode.dec_bad l HD.out (fun q => he q.2.2.1)
            clear he
            go_wp2_with (go_at_call 24; refine (HN0.out _ LL.out.rd LL.out.bl).mono ?_; rintro r w4 ⟨rfl, hi4, hb4, hk4⟩; have L4 := Aside0.mk (LL.out.step hi4 hb4 hk4); obtain ⟨c0, c1, c2, c3, c4, f0, f1, f2, f3, f4⟩ := L4.out.res.cells; obtain ⟨y0, y1, y2, z0, z1, z2⟩ := L4.out.xcells; clear hi4 hb4 hk4)
            have F := L4.out.res.fin 0 0 false false ⟨#[]⟩
            exact bodyPost_ret (results_ct rfl _ _ _ _ _ (0, 0) _ rfl F.1 Try.underlying29 rfl (by kernel_rfl)) rfl ⟨rfl, by first | exact F.2 | exact Below.drew F.2⟩
        · clear HS
          have HX := Aside0.mk (And.intro h0 (And.intro h1 h2))
          have LL := Aside0.mk L
          clear L hg h0 h1 h2
          have hv0 : (0 : Int) ≤ chunk_Decode.val l 0 := Int.natCast_nonneg _
          have hv2 : (0 : Int) ≤ chunk_Decode.val l 2 := Int.natCast_nonneg _
          have HDB := Aside0.mk (fun hb => chunk_Decode.dec_bad l HD.out hb)
          have HDG : Aside0 (∀ _ : (chunk_Decode.txt l).2.1 = 0 ∧ l.length ≤ chunk_Decode.pos l 3 + (chunk_Decode.txt l).2.2 ∧ chunk_Decode.val l 0 ≤ 1099511627776 ∧ chunk_Decode.val l 1 ≤ 1099511627776 ∧ chunk_Decode.val l 2 ≤ 3 ∧ (chunk_Decode.txt l).1.length ≤ 96, (chunk_Decode.val l 0, chunk_Decode.val l 1, decide (chunk_Decode.val l 2 = 1 ∨ chunk_Decode.val l 2 = 3), decide (chunk_Decode.val l 2 = 2 ∨ chunk_Decode.val l 2 = 3), (⟨(chunk_Decode.txt l).1.toArray⟩ : ByteArray), (0 : Int)) = (r1, r2, r3, r4, r5, r6)) := ⟨fun q => by
            have hd := HD.out
            unfold chunk_Decode.dec at hd
            rw [if_pos ⟨HX.out.1, HX.out.2.1, HX.out.2.2, q⟩] at hd
            exact hd⟩
          have htl : ((⟨(chunk_Decode.txt l).1.toArray⟩ : ByteArray).size : Int) = ((chunk_Decode.txt l).1.length : Int) := congrArg _ List.size_toArray
          generalize chunk_Decode.txt l = T at *
          obtain ⟨tt, te, tu⟩ := T
          simp only at HTX HDB HDG htl
          by_cases k0 : te = 0
          · subst k0
            by_cases k1 : l.length ≤ chunk_Decode.pos l 3 + tu
            · have HEE := Aside0.mk (show (if ((chunk_Decode.pos l 3 + tu : Nat) : Int) < (n : Int) then (21 : Int) else 0) = 0 from if_neg (by have := HL.out; omega))
              obtain ⟨ts, hts⟩ : ∃ ts : ByteArray, (⟨tt.toArray⟩ : ByteArray) = ts := ⟨_, rfl⟩
              rw [hts] at HTX HDG htl
              have K1 := Aside0.mk k1
              clear k1 hts
              by_cases k2 : chunk_Decode.val l 0 ≤ 1099511627776
              · have d2 : decide ((1099511627776 : Int) < chunk_Decode.val l 0) = false := decide_eq_false (by omega)
                by_cases k3 : chunk_Decode.val l 1 ≤ 1099511627776
                · have d3 : decide ((1099511627776 : Int) < chunk_Decode.val l 1) = false := decide_eq_false (by omega)
                  by_cases k4 : chunk_Decode.val l 2 ≤ 3
                  · have d4 : decide ((3 : Int) < chunk_Decode.val l 2) = false := decide_eq_false (by omega)
                    by_cases k5 : tt.length ≤ 96
                    · have d5 : decide ((96 : Int) < (ts.size : Int)) = false := decide_eq_false (by omega)
                      have d6 : decide (96 < ts.size) = false := decide_eq_false (by omega)
                      have hd := HDG.out ⟨rfl, K1.out, k2, k3, k4, k5⟩
                      simp only [Prod.mk.injEq] at hd
                      obtain ⟨rfl, rfl, hd3, hd4, rfl, rfl⟩ := hd
                      have hv : chunk_Decode.val l 2 = 0 ∨ chunk_Decode.val l 2 = 1 ∨ chunk_Decode.val l 2 = 2 ∨ chunk_Decode.val l 2 = 3 := by omega
                      clear HDB HDG k2 k3 k4 k5 htl d4 hv2 hv0
                      have B01 : Go.bits .and .i64 0 1 = 0 := by decide
                      have B02 : Go.bits .and .i64 0 2 = 0 := by decide
                      have B11 : Go.bits .and .i64 1 1 = 1 := by decide
                      have B12 : Go.bits .and .i64 1 2 = 0 := by decide
                      have B21 : Go.bits .and .i64 2 1 = 0 := by decide
                      have B22 : Go.bits .and .i64 2 2 = 2 := by decide
                      have B31 : Go.bits .and .i64 3 1 = 1 := by decide
                      have B32 : Go.bits .and .i64 3 2 = 2 := by decide
                      rcases hv with hv | hv | hv | hv
                      · rw [hv] at LL hd3 hd4
                        clear hv
                        obtain rfl : r3 = false := by rw [← hd3]; decide
                        obtain rfl : r4 = false := by rw [← hd4]; decide
                        clear hd3 hd4
                        go_wp2_with (first | (go_at_call 25; refine (HTX.out g _ LL.out.rd LL.out.bl).mono ?_; rintro r w5 ⟨rfl, hi5, hb5, hk5⟩; have L5 := Aside0.mk (LL.out.step hi5 hb5 hk5); obtain ⟨c0, c1, c2, c3, c4, f0, f1, f2, f3, f4⟩ := L5.out.res.cells; obtain ⟨y0, y1, y2, z0, z1, z2⟩ := L5.out.xcells; clear hi5 hb5 hk5) | (go_at_call 26; refine (HEX.out g _ _ _ HEE.out L5.out.rd L5.out.bl).mono ?_; rintro r w6 ⟨rfl, hi6, hb6, hk6⟩; have L6 := Aside0.mk (L5.out.step hi6 hb6 hk6); obtain ⟨c0, c1, c2, c3, c4, f0, f1, f2, f3, f4⟩ := L6.out.res.cells; obtain ⟨y0, y1, y2, z0, z1, z2⟩ := L6.out.xcells; clear hi6 hb6 hk6))
                        have F := L6.out.res.fin (chunk_Decode.val l 0) (chunk_Decode.val l 1) false false ts
                        exact bodyPost_ret (results_ct rfl _ _ _ _ _ (0, 0) _ rfl F.1 Try.underlying29 rfl (by kernel_rfl)) rfl ⟨rfl, F.2⟩
                      · rw [hv] at LL hd3 hd4
                        clear hv
                        obtain rfl : r3 = true := by rw [← hd3]; decide
                        obtain rfl : r4 = false := by rw [← hd4]; decide
                        clear hd3 hd4
                        go_wp2_with (first | (go_at_call 25; refine (HTX.out g _ LL.out.rd LL.out.bl).mono ?_; rintro r w5 ⟨rfl, hi5, hb5, hk5⟩; have L5 := Aside0.mk (LL.out.step hi5 hb5 hk5); obtain ⟨c0, c1, c2, c3, c4, f0, f1, f2, f3, f4⟩ := L5.out.res.cells; obtain ⟨y0, y1, y2, z0, z1, z2⟩ := L5.out.xcells; clear hi5 hb5 hk5) | (go_at_call 26; refine (HEX.out g _ _ _ HEE.out L5.out.rd L5.out.bl).mono ?_; rintro r w6 ⟨rfl, hi6, hb6, hk6⟩; have L6 := Aside0.mk (L5.out.step hi6 hb6 hk6); obtain ⟨c0, c1, c2, c3, c4, f0, f1, f2, f3, f4⟩ := L6.out.res.cells; obtain ⟨y0, y1, y2, z0, z1, z2⟩ := L6.out.xcells; clear hi6 hb6 hk6))
                        have F := L6.out.res.fin (chunk_Decode.val l 0) (chunk_Decode.val l 1) true false ts
                        exact bodyPost_ret (results_ct rfl _ _ _ _ _ (0, 0) _ rfl F.1 Try.underlying29 rfl (by kernel_rfl)) rfl ⟨rfl, F.2⟩
                      · rw [hv] at LL hd3 hd4
                        clear hv
                        obtain rfl : r3 = false := by rw [← hd3]; decide
                        obtain rfl : r4 = true := by rw [← hd4]; decide
                        clear hd3 hd4
                        go_wp2_with (first | (go_at_call 25; refine (HTX.out g _ LL.out.rd LL.out.bl).mono ?_; rintro r w5 ⟨rfl, hi5, hb5, hk5⟩; have L5 := Aside0.mk (LL.out.step hi5 hb5 hk5); obtain ⟨c0, c1, c2, c3, c4, f0, f1, f2, f3, f4⟩ := L5.out.res.cells; obtain ⟨y0, y1, y2, z0, z1, z2⟩ := L5.out.xcells; clear hi5 hb5 hk5) | (go_at_call 26; refine (HEX.out g _ _ _ HEE.out L5.out.rd L5.out.bl).mono ?_; rintro r w6 ⟨rfl, hi6, hb6, hk6⟩; have L6 := Aside0.mk (L5.out.step hi6 hb6 hk6); obtain ⟨c0, c1, c2, c3, c4, f0, f1, f2, f3, f4⟩ := L6.out.res.cells; obtain ⟨y0, y1, y2, z0, z1, z2⟩ := L6.out.xcells; clear hi6 hb6 hk6))
                        have F := L6.out.res.fin (chunk_Decode.val l 0) (chunk_Decode.val l 1) false true ts
                        exact bodyPost_ret (results_ct rfl _ _ _ _ _ (0, 0) _ rfl F.1 Try.underlying29 rfl (by kernel_rfl)) rfl ⟨rfl, F.2⟩
                      · rw [hv] at LL hd3 hd4
                        clear hv
                        obtain rfl : r3 = true := by rw [← hd3]; decide
                        obtain rfl : r4 = true := by rw [← hd4]; decide
                        clear hd3 hd4
                        go_wp2_with (first | (go_at_call 25; refine (HTX.out g _ LL.out.rd LL.out.bl).mono ?_; rintro r w5 ⟨rfl, hi5, hb5, hk5⟩; have L5 := Aside0.mk (LL.out.step hi5 hb5 hk5); obtain ⟨c0, c1, c2, c3, c4, f0, f1, f2, f3, f4⟩ := L5.out.res.cells; obtain ⟨y0, y1, y2, z0, z1, z2⟩ := L5.out.xcells; clear hi5 hb5 hk5) | (go_at_call 26; refine (HEX.out g _ _ _ HEE.out L5.out.rd L5.out.bl).mono ?_; rintro r w6 ⟨rfl, hi6, hb6, hk6⟩; have L6 := Aside0.mk (L5.out.step hi6 hb6 hk6); obtain ⟨c0, c1, c2, c3, c4, f0, f1, f2, f3, f4⟩ := L6.out.res.cells; obtain ⟨y0, y1, y2, z0, z1, z2⟩ := L6.out.xcells; clear hi6 hb6 hk6))
                        have F := L6.out.res.fin (chunk_Decode.val l 0) (chunk_Decode.val l 1) true true ts
                        exact bodyPost_ret (results_ct rfl _ _ _ _ _ (0, 0) _ rfl F.1 Try.underlying29 rfl (by kernel_rfl)) rfl ⟨rfl, F.2⟩
                    · have d5 : decide ((96 : Int) < (ts.size : Int)) = true := decide_eq_true (by omega)
                      have d6 : decide (96 < ts.size) = true := decide_eq_true (by omega)
                      obtain ⟨rfl, rfl, rfl, rfl, rfl, rfl⟩ := HDB.out (fun q => k5 q.2.2.2.2.2.2.2.2)
                      clear HDG k2 k3 k4 k5 htl
                      go_wp2_with (first | (go_at_call 25; refine (HTX.out g _ LL.out.rd LL.out.bl).mono ?_; rintro r w5 ⟨rfl, hi5, hb5, hk5⟩; have L5 := Aside0.mk (LL.out.step hi5 hb5 hk5); obtain ⟨c0, c1, c2, c3, c4, f0, f1, f2, f3, f4⟩ := L5.out.res.cells; obtain ⟨y0, y1, y2, z0, z1, z2⟩ := L5.out.xcells; clear hi5 hb5 hk5) | (go_at_call 26; refine (HEX.out g _ _ _ HEE.out L5.out.rd L5.out.bl).mono ?_; rintro r w6 ⟨rfl, hi6, hb6, hk6⟩; have L6 := Aside0.mk (L5.out.step hi6 hb6 hk6); obtain ⟨c0, c1, c2, c3, c4, f0, f1, f2, f3, f4⟩ := L6.out.res.cells; obtain ⟨y0, y1, y2, z0, z1, z2⟩ := L6.out.xcells; clear hi6 hb6 hk6))
                      have F := L6.out.res.fin 0 0 false false ⟨#[]⟩
                      exact bodyPost_ret (results_ct rfl _ _ _ _ _ (0, 0) _ rfl F.1 Try.underlying29 rfl (by kernel_rfl)) rfl ⟨rfl, by first | exact F.2 | exact Below.drew F.2⟩
                  · have d4 : decide ((3 : Int) < chunk_Decode.val l 2) = true := decide_eq_true (by omega)
                    obtain ⟨rfl, rfl, rfl, rfl, rfl, rfl⟩ := HDB.out (fun q => k4 q.2.2.2.2.2.2.2.1)
                    clear HDG k2 k3 k4 htl
                    go_wp2_with (first | (go_at_call 25; refine (HTX.out g _ LL.out.rd LL.out.bl).mono ?_; rintro r w5 ⟨rfl, hi5, hb5, hk5⟩; have L5 := Aside0.mk (LL.out.step hi5 hb5 hk5); obtain ⟨c0, c1, c2, c3, c4, f0, f1, f2, f3, f4⟩ := L5.out.res.cells; obtain ⟨y0, y1, y2, z0, z1, z2⟩ := L5.out.xcells; clear hi5 hb5 hk5) | (go_at_call 26; refine (HEX.out g _ _ _ HEE.out L5.out.rd L5.out.bl).mono ?_; rintro r w6 ⟨rfl, hi6, hb6, hk6⟩; have L6 := Aside0.mk (L5.out.step hi6 hb6 hk6); obtain ⟨c0, c1, c2, c3, c4, f0, f1, f2, f3, f4⟩ := L6.out.res.cells; obtain ⟨y0, y1, y2, z0, z1, z2⟩ := L6.out.xcells; clear hi6 hb6 hk6))
                    have F := L6.out.res.fin 0 0 false false ⟨#[]⟩
                    exact bodyPost_ret (results_ct rfl _ _ _ _ _ (0, 0) _ rfl F.1 Try.underlying29 rfl (by kernel_rfl)) rfl ⟨rfl, by first | exact F.2 | exact Below.drew F.2⟩
                · have d3 : decide ((1099511627776 : Int) < chunk_Decode.val l 1) = true := decide_eq_true (by omega)
                  obtain ⟨rfl, rfl, rfl, rfl, rfl, rfl⟩ := HDB.out (fun q => k3 q.2.2.2.2.2.2.1)
                  clear HDG k2 k3 htl
                  go_wp2_with (first | (go_at_call 25; refine (HTX.out g _ LL.out.rd LL.out.bl).mono ?_; rintro r w5 ⟨rfl, hi5, hb5, hk5⟩; have L5 := Aside0.mk (LL.out.step hi5 hb5 hk5); obtain ⟨c0, c1, c2, c3, c4, f0, f1, f2, f3, f4⟩ := L5.out.res.cells; obtain ⟨y0, y1, y2, z0, z1, z2⟩ := L5.out.xcells; clear hi5 hb5 hk5) | (go_at_call 26; refine (HEX.out g _ _ _ HEE.out L5.out.rd L5.out.bl).mono ?_; rintro r w6 ⟨rfl, hi6, hb6, hk6⟩; have L6 := Aside0.mk (L5.out.step hi6 hb6 hk6); obtain ⟨c0, c1, c2, c3, c4, f0, f1, f2, f3, f4⟩ := L6.out.res.cells; obtain ⟨y0, y1, y2, z0, z1, z2⟩ := L6.out.xcells; clear hi6 hb6 hk6))
                  have F := L6.out.res.fin 0 0 false false ⟨#[]⟩
                  exact bodyPost_ret (results_ct rfl _ _ _ _ _ (0, 0) _ rfl F.1 Try.underlying29 rfl (by kernel_rfl)) rfl ⟨rfl, by first | exact F.2 | exact Below.drew F.2⟩
              · have d2 : decide ((1099511627776 : Int) < chunk_Decode.val l 0) = true := decide_eq_true (by omega)
                obtain ⟨rfl, rfl, rfl, rfl, rfl, rfl⟩ := HDB.out (fun q => k2 q.2.2.2.2.2.1)
                clear HDG k2 htl
                go_wp2_with (first | (go_at_call 25; refine (HTX.out g _ LL.out.rd LL.out.bl).mono ?_; rintro r w5 ⟨rfl, hi5, hb5, hk5⟩; have L5 := Aside0.mk (LL.out.step hi5 hb5 hk5); obtain ⟨c0, c1, c2, c3, c4, f0, f1, f2, f3, f4⟩ := L5.out.res.cells; obtain ⟨y0, y1, y2, z0, z1, z2⟩ := L5.out.xcells; clear hi5 hb5 hk5) | (go_at_call 26; refine (HEX.out g _ _ _ HEE.out L5.out.rd L5.out.bl).mono ?_; rintro r w6 ⟨rfl, hi6, hb6, hk6⟩; have L6 := Aside0.mk (L5.out.step hi6 hb6 hk6); obtain ⟨c0, c1, c2, c3, c4, f0, f1, f2, f3, f4⟩ := L6.out.res.cells; obtain ⟨y0, y1, y2, z0, z1, z2⟩ := L6.out.xcells; clear hi6 hb6 hk6))
                have F := L6.out.res.fin 0 0 false false ⟨#[]⟩
                exact bodyPost_ret (results_ct rfl _ _ _ _ _ (0, 0) _ rfl F.1 Try.underlying29 rfl (by kernel_rfl)) rfl ⟨rfl, by first | exact F.2 | exact Below.drew F.2⟩
            · have HEE := Aside0.mk (show (if ((chunk_Decode.pos l 3 + tu : Nat) : Int) < (n : Int) then (21 : Int) else 0) = 21 from if_pos (by have := HL.out; omega))
              obtain ⟨rfl, rfl, rfl, rfl, rfl, rfl⟩ := HDB.out (fun q => k1 q.2.2.2.2.1)
              clear HDG k1 htl
              go_wp2_with (first | (go_at_call 25; refine (HTX.out g _ LL.out.rd LL.out.bl).mono ?_; rintro r w5 ⟨rfl, hi5, hb5, hk5⟩; have L5 := Aside0.mk (LL.out.step hi5 hb5 hk5); obtain ⟨c0, c1, c2, c3, c4, f0, f1, f2, f3, f4⟩ := L5.out.res.cells; obtain ⟨y0, y1, y2, z0, z1, z2⟩ := L5.out.xcells; clear hi5 hb5 hk5) | (go_at_call 26; refine (HEX.out g _ _ _ HEE.out L5.out.rd L5.out.bl).mono ?_; rintro r w6 ⟨rfl, hi6, hb6, hk6⟩; have L6 := Aside0.mk (L5.out.step hi6 hb6 hk6); obtain ⟨c0, c1, c2, c3, c4, f0, f1, f2, f3, f4⟩ := L6.out.res.cells; obtain ⟨y0, y1, y2, z0, z1, z2⟩ := L6.out.xcells; clear hi6 hb6 hk6))
              have F := L6.out.res.fin 0 0 false false ⟨#[]⟩
              exact bodyPost_ret (results_ct rfl _ _ _ _ _ (0, 0) _ rfl F.1 Try.underlying29 rfl (by kernel_rfl)) rfl ⟨rfl, by first | exact F.2 | exact Below.drew F.2⟩
          · have k0b : (te != 0) = true := by simpa using k0
            have k0c : (te == 0) = false := by simpa using k0
            obtain ⟨rfl, rfl, rfl, rfl, rfl, rfl⟩ := HDB.out (fun q => k0 q.2.2.2.1)
            clear HDG k0 htl
            go_wp2_with (first | (go_at_call 25; refine (HTX.out g _ LL.out.rd LL.out.bl).mono ?_; rintro r w5 ⟨rfl, hi5, hb5, hk5⟩; have L5 := Aside0.mk (LL.out.step hi5 hb5 hk5); obtain ⟨c0, c1, c2, c3, c4, f0, f1, f2, f3, f4⟩ := L5.out.res.cells; obtain ⟨y0, y1, y2, z0, z1, z2⟩ := L5.out.xcells; clear hi5 hb5 hk5))
            have F := L5.out.res.fin 0 0 false false ⟨#[]⟩
            exact bodyPost_ret (results_ct rfl _ _ _ _ _ (0, 0) _ rfl F.1 Try.underlying29 rfl (by kernel_rfl)) rfl ⟨rfl, by first | exact F.2 | exact Below.drew F.2⟩
    · have ht1 : (t.toList == (a0.extract n a0.size).toList) = false := by simpa using htt
      have h := HH.out
      rw [if_neg htt] at h
      simp only [chunk_Decode.bad, Option.some.injEq, Prod.mk.injEq] at h
      obtain ⟨rfl, rfl, rfl, rfl, rfl, rfl⟩ := h
      clear htt
      go_enter Try.func13, Try.ntmps13
      go_wp2
      go_region_held3 (fun W => chunk_Decode.Res w w.heap.size W) (first | assumption | exact HR0.out | exact HR0.out.drew | (refine chunk_Decode.Res.drew ?_; assumption)) (first | (go_at_call 19; refine (HT.out _ (by assumption)).mono ?_; rintro e w' ⟨rfl, hw'⟩))
      have R1 : chunk_Decode.Res w w.heap.size w' := by assumption
      obtain ⟨c0, c1, c2, c3, c4, f0, f1, f2, f3, f4⟩ := R1.cells
      go_wp2
      have F := R1.fin 0 0 false false ⟨#[]⟩
      exact bodyPost_ret (results_ct rfl _ _ _ _ _ (0, 0) _ rfl F.1 Try.underlying29 rfl (by kernel_rfl)) rfl ⟨rfl, by first | exact F.2 | exact Below.drew F.2⟩

end Go.Proofs.Ytndmfbaffkekgaa.PChunkDecodes
