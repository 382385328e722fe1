-- By a program of this session (wip/tools/mkprint.py), for this claim.
import Derived.Test.YtbikejfjfliamaaPDiskLastsx0
namespace Go.Proofs.Ytbikejfjfliamaa.PDiskLasts
open Go.RowKit Go.Proofs.YtbikejfjfliamaaW.PrintWords Go.Proofs.YtbikejfjfliamaaW.PrintLast Go.Proofs.YtbikejfjfliamaaW.PrintMore
attribute [local go_sem] max2_int min2_int max_two min_two max_three min_three max_four min_four   -- for this text's walks alone
set_option linter.unusedVariables false
set_option linter.unusedSimpArgs false

/-! ### disk_New: function 9 (by hand) -/
set_option maxHeartbeats 4000000 in
set_option maxRecDepth 100000 in
theorem disk_New.calls (w : World) (base : Nat) (hbase : base ≤ w.heap.size) : Calls Try.prog 9 #[] w fun e w' => ∃ g mb, e = .returned (.pointer (some ⟨g, 0, none⟩)) ∧ Dk.D w' base g Dk.S0 mb 0 (.slice none 0 0) ∧ Below w.heap.size w w' := by
  have hmk : ∀ w : World, (Instr.makeMap 52 none).run Try.prog w = .ok (.map (some w.heap.size)) (w.alloc (.map #[] 0)) := fun w => by kernel_rfl
  have hz : ∀ w : World, (zeroValue 56).run Try.prog w = .ok (.agg Dk.Z) w := fun w => by kernel_rfl
  have hzs := Dk.Z_size
  have hz2 : (Dk.Z.setIfInBounds 256 (.map (some w.heap.size))).size = 263 := by rw [Array.size_setIfInBounds]; exact hzs
  go_enter Try.func9, Try.ntmps9
  go_wp2
  go_ret
  have ob := Hw.blk_nw1 w (.map #[] 0) (.cells (Dk.Z.setIfInBounds 256 (.map (some w.heap.size))) 56)
  have hbl := ((Below.refl w.heap.size w).alloc (Nat.le_refl _) (.map #[] 0)).alloc (by simp) (.cells (Dk.Z.setIfInBounds 256 (.map (some w.heap.size))) 56)
  have hmp : Dk.Mp ((w.alloc (.map #[] 0)).alloc (.cells (Dk.Z.setIfInBounds 256 (.map (some w.heap.size))) 56)) w.heap.size 0 [] := ⟨.map [], (World.ownsMap_made w Try.prog 3 (plainElem Try.prog 9)).alloc _, fun p hp => absurd hp List.not_mem_nil⟩
  rw [Dk.Z_set] at ob
  rw [Dk.Z_set] at hbl hmp ⊢
  exact ⟨_, _, rfl, ⟨ob, List.length_replicate, Nat.le_trans hbase (Nat.le_succ _), hbase, Dk.nilrow _ _, hmp, fun p hp => absurd hp List.not_mem_nil, Nat.le_trans hbase hbl.size⟩, hbl⟩

/-! ### cubbyref03_New: function 10 (by hand) -/
set_option maxHeartbeats 4000000 in
set_option maxRecDepth 100000 in
theorem cubbyref03_New.calls (w : World) (base : Nat) (hbase : base ≤ w.heap.size) : Calls Try.prog 10 #[] w fun e w' => ∃ g iv, e = .returned (.pointer (some ⟨g, 0, none⟩)) ∧ Rf.D w' base g Dk.S0 iv (.slice none 0 0) ∧ Below w.heap.size w w' := by
  obtain ⟨Z, hZ⟩ : ∃ Z, madeCells #[Value.string ⟨#[]⟩] 256 = Z := ⟨_, rfl⟩
  have hmk : ∀ w : World, (Instr.makeSlice 38 (.int .i64 256) (.int .i64 256)).run Try.prog w = .ok (.slice (some ⟨w.heap.size, 0, none⟩) 256 256) (w.alloc (.cells Z 9)) := fun w => by
    have h := print_make_of (P := Try.prog) 38 9 (.string ⟨#[]⟩) 16 (by kernel_rfl) (by kernel_rfl) rfl (by decide) 256 (by decide) w
    rw [hZ] at h
    exact h
  have hz : ∀ w : World, (zeroValue 48).run Try.prog w = .ok (.agg (Rf.arr Dk.S0 (.slice none 0 0) (.slice none 0 0))) w := fun w => by kernel_rfl
  go_enter Try.func10, Try.ntmps10
  go_wp2
  go_ret
  have hrow := own_made_of' (enc := Value.string) (d := (⟨#[]⟩ : ByteArray)) w base 9 256 hbase (by decide)
  rw [hZ] at hrow
  have hR : Kd.R Kd.string 9 (w.alloc (.cells Z 9)) base (fun _ => True) (.slice (some ⟨w.heap.size, 0, none⟩) 256 256) (List.replicate 256 ⟨#[]⟩) := Kd.R_of_own hrow (fun _ _ => trivial)
  have ob := Hw.blk_nw1 w (.cells Z 9) (.cells (Rf.arr Dk.S0 (.slice (some ⟨w.heap.size, 0, none⟩) 256 256) (.slice none 0 0)) 48)
  have hbl := ((Below.refl w.heap.size w).alloc (Nat.le_refl _) (.cells Z 9)).alloc (by simp) (.cells (Rf.arr Dk.S0 (.slice (some ⟨w.heap.size, 0, none⟩) 256 256) (.slice none 0 0)) 48)
  exact ⟨_, _, rfl, ⟨ob, List.length_replicate, Nat.le_trans hbase (Nat.le_succ _), Kd.R_alloc hR _, Kd.R_nil _ _ _ _ _, fun p hp => absurd hp List.not_mem_nil, Nat.le_trans hbase hbl.size⟩, hbl⟩

/-! ### disk_Disk_Cut: function 11 (by hand) -/
set_option maxHeartbeats 4000000 in
set_option maxRecDepth 100000 in
theorem disk_Disk_Cut.calls (s : Dk.S) (base g mb n : Nat) (ov : Value) (i k : Int) (w : World) (h : Dk.D w base g s mb n ov) :
    Calls Try.prog 11 #[.pointer (some ⟨g, 0, none⟩), .int .i64 i, .int .u64 k] w fun e w' => e = .returned (.tuple #[]) ∧ Dk.D w' base g (Dk.cutS s i k) mb n ov ∧ Dk.B base w w' := by
  have m3 : w.cell? ⟨g, 259, none⟩ = some (.int .i64 s.cut) := h.at 3
  have m5 : w.cell? ⟨g, 261, none⟩ = some (.int .u64 s.keep) := h.at 5
  have f3 := h.fz 259
  have f5 := h.fz 261
  have HH := Aside0.mk h
  clear h
  by_cases hi : i < 0
  · have em : mx i 0 = 0 := by unfold mx; split <;> omega
    go_enter Try.func11, Try.ntmps11
    go_wp2
    go_end0
    rw [← em]
    obtain ⟨h1, b1⟩ := Dk.D.put (s' := { s with cut := mx i 0 }) HH.out 259 (.int .i64 (mx i 0)) (by rw [Dk.arr_set s mb _ 3 _ HH.out.hl]; rfl) HH.out.hl rfl
    obtain ⟨h2, b2⟩ := Dk.D.put (s' := Dk.cutS s i k) h1 261 (.int .u64 k) (by rw [Dk.arr_set { s with cut := mx i 0 } mb _ 5 _ HH.out.hl]; rfl) HH.out.hl rfl
    exact ⟨rfl, h2, b1.trans b2⟩
  · have em : mx i 0 = i := by unfold mx; split <;> omega
    go_enter Try.func11, Try.ntmps11
    go_wp2
    go_end0
    have e2 := em.symm
    obtain ⟨h1, b1⟩ := Dk.D.put (s' := { s with cut := i }) HH.out 259 (.int .i64 (i)) (by rw [Dk.arr_set s mb _ 3 _ HH.out.hl]; rfl) HH.out.hl rfl
    obtain ⟨h2, b2⟩ := Dk.D.put (s' := Dk.cutS s i k) h1 261 (.int .u64 k) (by rw [Dk.arr_set { s with cut := i } mb _ 5 _ HH.out.hl]; unfold Dk.cutS; rw [em]; rfl) HH.out.hl rfl
    exact ⟨rfl, h2, b1.trans b2⟩

/-! ### disk_due: function 27 (by hand) -/
set_option maxHeartbeats 4000000 in
set_option maxRecDepth 100000 in
theorem disk_due.calls (b k : Nat) (cs : Array Value) (t : TypeId) (n : Int) (w : World) (hb : w.heap[b]? = some (.cells cs t (0, 0))) (hk : cs[k]? = some (.int .i64 n)) (hn : -9223372036854775808 ≤ n ∧ n < 9223372036854775808) :
    Calls Try.prog 27 #[.pointer (some ⟨b, k, none⟩)] w fun e w' => e = .returned (.bool (decide (n = 1))) ∧ w'.heap[b]? = some (.cells (cs.setIfInBounds k (.int .i64 (Dk.dn n))) t (0, 0)) ∧ w.grownBy w' (some b) := by
  have hc : w.cell? ⟨b, k, none⟩ = some (.int .i64 n) := by rw [cell_of_row w b k _ _ _ hb]; exact hk
  have hf : w.frozen? ⟨b, k, none⟩ = false := by simp [World.frozen?, hb]
  by_cases h0 : 0 < n
  · have hd : Dk.dn n = n - 1 := by unfold Dk.dn; rw [if_pos h0]; exact Hw.w64 _ (by omega) (by omega)
    have hs := blk_set hb k (.int .i64 (n - 1))
    rw [hd]
    go_enter Try.func27, Try.ntmps27
    go_wp2
    go_ret
    have e : (decide (n - 1 = 0)) = decide (n = 1) := by congr 1; exact propext ⟨fun h => by omega, fun h => by omega⟩
    exact ⟨by first | (rw [← e]; rfl) | (rw [← e]; simp), hs, Dk.gset w b k _⟩
  · have hd : Dk.dn n = n := by unfold Dk.dn; rw [if_neg h0]
    rw [hd, Dk.set_same cs k _ hk]
    go_enter Try.func27, Try.ntmps27
    go_wp2
    go_ret
    exact ⟨by rw [decide_eq_false (by omega)]; rfl, hb, World.grownBy.refl _ _⟩

/-! ### slices_Index_int_int: function 37 -/
def slices_Index_int_int.l0 : Nat → List Int → Int → Int → Int → Option (Int)
  | 0, _, _, _, _ => none
  | k + 1, x0, x1, x7, x8 => if x8 < x7 then (if 0 ≤ x8 then (if x8 < (x0.length : Int) then (if x1 = (rd x0 x8) then (some x8) else (slices_Index_int_int.l0 k x0 x1 x7 (wrap64 (x8 + 1)))) else (none)) else (none)) else (some (-1))
def slices_Index_int_int.f (k : Nat) (l0 : List Int) (a1 : Int) : Option (Int) := slices_Index_int_int.l0 k l0 a1 (l0.length : Int) 0
theorem slices_Index_int_int.mono_l : ∀ k, (∀ y0 y1 y2 y3, LeO (slices_Index_int_int.l0 k y0 y1 y2 y3) (slices_Index_int_int.l0 (k + 1) y0 y1 y2 y3))
  | 0 => fun _ _ _ _ r h => by simp [slices_Index_int_int.l0] at h
  | k + 1 => by
    have ih0 := slices_Index_int_int.mono_l k
    · intro y0 y1 y2 y3
      unfold slices_Index_int_int.l0
      repeat' first
      | (with_reducible exact ih0 _ _ _ _)
      | (with_reducible exact LeO.refl _)
      | (with_reducible exact LeO.none _)
      | (with_reducible refine LeO.ite ?_ ?_)
      | (with_reducible refine LeO.bind ?_ (fun _ => ?_))
      | exact ih0 _ _ _ _
      | exact LeO.none _
      | refine LeO.ite ?_ ?_
      | refine LeO.bind ?_ (fun _ => ?_)
theorem slices_Index_int_int.mono : ∀ a0 a1 k, LeO (slices_Index_int_int.f k a0 a1) (slices_Index_int_int.f (k + 1) a0 a1) := by
  intro a0 a1 k
  have ih0 := slices_Index_int_int.mono_l k
  unfold slices_Index_int_int.f
  repeat' first
      | (with_reducible exact ih0 _ _ _ _)
      | (with_reducible exact LeO.refl _)
      | (with_reducible exact LeO.none _)
      | (with_reducible refine LeO.ite ?_ ?_)
      | (with_reducible refine LeO.bind ?_ (fun _ => ?_))
      | exact ih0 _ _ _ _
      | exact LeO.none _
      | refine LeO.ite ?_ ?_
      | refine LeO.bind ?_ (fun _ => ?_)
set_option maxHeartbeats 8000000 in
set_option maxRecDepth 100000 in
theorem slices_Index_int_int.calls (k : Nat) (A0 : Option Addr) (c0 : Nat) (l0 : List Int) (a1 : Int) (r : Int) (w : World) (hr0 : Kd.C (Kd.int .i64) w A0 l0.length l0) (hc0 : l0.length ≤ c0) (h : slices_Index_int_int.f k l0 a1 = some r) :
    Calls Try.prog 37 #[.slice A0 l0.length c0, .int .i64 a1] w fun e w' => e = .returned (.int .i64 r) ∧ Drawn0 w w' := by
  have HR0 := Aside0.mk hr0
  have HC0 := Aside0.mk hc0
  clear hr0 hc0
  have H : (slices_Index_int_int.l0 k l0 a1 (l0.length : Int) 0) = some r := h
  clear h
  have H' := Aside0.mk H
  clear H
  go_enter Try.func37, Try.ntmps37
  go_wp2
  go_loopg [8] k (fun kq v8 w' => ∃ (x8_1 : Int), v8 = .int .i64 x8_1 ∧ Aside0 (slices_Index_int_int.l0 kq l0 a1 (l0.length : Int) x8_1 = some r) ∧ Aside0 (kq ≤ k) ∧ Drawn0 w w')
  case atStart => exact ⟨(0), (by first | rfl | (simp; done) | (simp [*]; done)), H', ⟨Nat.le_refl _⟩, by repeat (first | exact Drawn0.refl _ | apply Drawn0.step)⟩
  case round =>
    clear H'
    try clear p2
    obtain ⟨x8_1, rfl, HA, HK1, ⟨m1, rfl⟩⟩ := hrel
    cases gk with
    | zero => exact absurd HA.out (by simp [slices_Index_int_int.l0])
    | succ k1 =>
      have H := HA.out
      clear HA
      simp only [slices_Index_int_int.l0] at H
      by_cases c3 : x8_1 < (l0.length : Int)
      · rw [if_pos c3] at H
        have c3b0 : decide (x8_1 < (l0.length : Int)) = true := decide_eq_true c3
        clear c3
        by_cases c4 : 0 ≤ x8_1
        · rw [if_pos c4] at H
          have c4b0 : decide (0 ≤ x8_1) = true := decide_eq_true c4
          clear c4
          by_cases c5 : x8_1 < (l0.length : Int)
          · rw [if_pos c5] at H
            have c5b0 : decide (x8_1 < (l0.length : Int)) = true := decide_eq_true c5
            clear c5
            by_cases c6 : a1 = (rd l0 x8_1)
            · rw [if_pos c6] at H
              have c6b0 : (a1 == (rd l0 x8_1)) = true := beq_iff_eq.mpr c6
              have c6b1 : (a1 != (rd l0 x8_1)) = false := bne_eq_false_iff_eq.mpr c6
              clear c6
              obtain rfl := Option.some.inj H
              have p101 : 0 ≤ (x8_1 : Int) := of_decide_eq_true (by first | (with_reducible assumption) | assumption)
              have q101 : x8_1 < (l0.length : Int) := of_decide_eq_true (by first | (with_reducible assumption) | assumption)
              obtain ⟨ad101, e101, hx101_0⟩ := Kd.at_int HR0.out x8_1 p101 q101
              cases e101
              replace p101 := eq_true p101
              replace q101 := eq_true q101
              go_wp2
              go_ret
              exact ⟨by first | rfl | (simp; done) | (simp [*]; done), by repeat (first | exact Drawn0.refl _ | apply Drawn0.step)⟩
            · rw [if_neg c6] at H
              have c6b0 : (a1 == (rd l0 x8_1)) = false := beq_eq_false_iff_ne.mpr c6
              have c6b1 : (a1 != (rd l0 x8_1)) = true := bne_iff_ne.mpr c6
              have H' := Aside0.mk H
              clear H
              have p101 : 0 ≤ (x8_1 : Int) := of_decide_eq_true (by first | (with_reducible assumption) | assumption)
              have q101 : x8_1 < (l0.length : Int) := of_decide_eq_true (by first | (with_reducible assumption) | assumption)
              obtain ⟨ad101, e101, hx101_0⟩ := Kd.at_int HR0.out x8_1 p101 q101
              cases e101
              replace p101 := eq_true p101
              replace q101 := eq_true q101
              go_wp2
              go_roundg k1
              case measure => have := HK1.out; omega
              case rel => exact ⟨(wrap64 (x8_1 + 1)), (by first | rfl | (simp; done) | (simp [*]; done)), H', ⟨by have := HK1.out; omega⟩, by repeat (first | exact Drawn0.refl _ | apply Drawn0.step)⟩
          · rw [if_neg c5] at H
            exact absurd H (by simp)
        · rw [if_neg c4] at H
          exact absurd H (by simp)
      · rw [if_neg c3] at H
        have c3b0 : decide (x8_1 < (l0.length : Int)) = false := decide_eq_false c3
        clear c3
        obtain rfl := Option.some.inj H
        go_wp2
        go_ret
        exact ⟨by first | rfl | (simp; done) | (simp [*]; done), by repeat (first | exact Drawn0.refl _ | apply Drawn0.step)⟩

/-! ### slices_Contains_int_int: function 28 -/
def slices_Contains_int_int.f (k : Nat) (l0 : List Int) (a1 : Int) : Option (Bool) := (slices_Index_int_int.f k l0 a1).bind fun t102 => (some (decide (t102 ≥ 0)))
theorem slices_Contains_int_int.mono : ∀ a0 a1 k, LeO (slices_Contains_int_int.f k a0 a1) (slices_Contains_int_int.f (k + 1) a0 a1) := by
  intro a0 a1 k
  unfold slices_Contains_int_int.f
  repeat' first
      | (with_reducible exact slices_Index_int_int.mono _ _ _)
      | (with_reducible exact LeO.refl _)
      | (with_reducible exact LeO.none _)
      | (with_reducible refine LeO.ite ?_ ?_)
      | (with_reducible refine LeO.bind ?_ (fun _ => ?_))
      | exact slices_Index_int_int.mono _ _ _
      | exact LeO.none _
      | refine LeO.ite ?_ ?_
      | refine LeO.bind ?_ (fun _ => ?_)
set_option maxHeartbeats 8000000 in
set_option maxRecDepth 100000 in
theorem slices_Contains_int_int.calls (k : Nat) (A0 : Option Addr) (c0 : Nat) (l0 : List Int) (a1 : Int) (r : Bool) (w : World) (hr0 : Kd.C (Kd.int .i64) w A0 l0.length l0) (hc0 : l0.length ≤ c0) (h : slices_Contains_int_int.f k l0 a1 = some r) :
    Calls Try.prog 28 #[.slice A0 l0.length c0, .int .i64 a1] w fun e w' => e = .returned (.bool r) ∧ Drawn0 w w' := by
  have HR0 := Aside0.mk hr0
  have HC0 := Aside0.mk hc0
  clear hr0 hc0
  have H : ((slices_Index_int_int.f k l0 a1).bind fun t102 => (some (decide (t102 ≥ 0)))) = some r := h
  clear h
  replace H := Option.bind_eq_some_iff.mp H
  obtain ⟨t102, A30, H⟩ := H
  replace H : (some (decide (t102 ≥ 0))) = some r := H
  have A3 := Aside0.mk A30
  clear A30
  obtain rfl := Option.some.inj H
  go_enter Try.func28, Try.ntmps28
  go_wp2_with (first | ((with_reducible refine gate_callee (f := 37) rfl ?_); refine goesL_ (some 7) rfl rfl Try.func37 (by kernel_rfl) rfl #[.slice A0 l0.length c0, .int .i64 a1] rfl (by (try simp only [List.map_toArray, List.map_cons, List.map_nil]); first | done | rfl | (simp only [List.length_drop, List.length_take]; rfl)) ?_; (with_reducible refine (slices_Index_int_int.calls k _ _ l0 a1 t102 _ ?side1 ?side2 A3.out).mono ?_); (case side1 => repeat (first | exact HR0.out | (with_reducible refine Kd.C_alloc ?_ _) | (with_reducible refine Kd.C_drewN ?_ _) | (with_reducible refine Kd.C_drew ?_))); (case side2 => exact HC0.out); rintro e w' ⟨rfl, ⟨nd, rfl⟩⟩; refine ⟨_, rfl, ?_⟩))
  go_ret
  exact ⟨by first | rfl | (simp; done) | (simp [*]; done), by repeat (first | exact Drawn0.refl _ | apply Drawn0.step)⟩

/-! ### disk_Disk_settle: function 33 (by hand) -/
set_option maxHeartbeats 4000000 in
set_option maxRecDepth 100000 in
theorem disk_Disk_settle.calls (s : Dk.S) (base g mb n : Nat) (ov : Value) (w : World) (h : Dk.D w base g s mb n ov) (hn : s.l.length ≤ 100000) :
    Calls Try.prog 33 #[.pointer (some ⟨g, 0, none⟩)] w fun e w' => e = .returned (.tuple #[]) ∧ Dk.D w' base g { s with l := [] } mb n (.slice none 0 0) ∧ Dk.B base w w' := by
  obtain ⟨A, c, rfl⟩ := Kd.R_slice h.ro
  have hl : (s.l.map Prod.fst).length = s.l.length := List.length_map _
  rw [hl] at h
  have h1 : w.cell? ⟨g, 257, none⟩ = some (.slice A s.l.length c) := h.at 1
  have HH := Aside0.mk h
  obtain ⟨D0, hD0, hq⟩ := h.mp
  have HD0 := Aside0.mk hD0
  clear h hD0 hq
  go_enter Try.func33, Try.ntmps33
  go_wp2
  go_loopg [9] s.l.length (fun gg v9 wq => ∃ (i : Nat) (D' : DataW Unit), v9 = .int .i64 (i : Int) ∧ i ≤ s.l.length ∧ s.l.length - i ≤ gg ∧ Aside0 (wq.ownsMap Try.prog 3 (plainElem Try.prog 9) mb n D') ∧ Aside0 (wq.heap[g]? = some (.cells (Dk.arr s mb (.slice A s.l.length c)) 56 (0, 0))) ∧ Aside0 (Kd.R (Kd.int .i64) 3 wq base (fun _ => True) (.slice A s.l.length c) (s.l.map Prod.fst)) ∧ Aside0 (Dk.B base w wq))
  case atStart => exact ⟨0, D0, rfl, Nat.zero_le _, by omega, HD0, ⟨HH.out.ob⟩, ⟨HH.out.ro⟩, ⟨Dk.B.refl _ _⟩⟩
  case round =>
    obtain ⟨i, D', rfl, hi, hgg, HM, HO, HR, HB⟩ := hrel
    by_cases hil : i < s.l.length
    · obtain ⟨b2, c2, e2, _, _, _⟩ := Kd.R_form HR.out (by rw [hl]; omega)
      injection e2 with e2 e3 e4
      clear e3
      subst e4
      subst e2
      obtain ⟨k0, _⟩ := Dk.ints HR.out i (by rw [hl]; exact hil)
      have hx : ∃ x : Int, (s.l.map Prod.fst).getD i 0 = x ∧ 0 ≤ x ∧ x < 256 := by
        refine ⟨_, rfl, ?_⟩
        rw [List.getD_eq_getElem?_getD, List.getElem?_map, List.getElem?_eq_getElem hil]
        exact HH.out.kk _ (List.getElem_mem hil)
      obtain ⟨x, hx, hx2⟩ := hx
      rw [hx] at k0
      have hm : wr.cell? ⟨g, 256, none⟩ = some (.map (some mb)) := by rw [cell_of_row wr g _ _ _ _ HO.out]; exact Dk.arr_get s mb _ 0 HH.out.hl
      have hk := Dk.key x hx2
      have HK := Aside0.mk hk
      clear hk hx hx2
      have q1 : (0 : Int) ≤ (i : Int) := by omega
      have q2 : (i : Int) < (s.l.length : Int) := by omega
      obtain ⟨gk, rfl⟩ : ∃ q, gk = q + 1 := by
        cases gk with
        | zero => omega
        | succ q => exact ⟨q, rfl⟩
      go_wp2_with (at_delete; refine wpList_delete_own _ rfl (.tmp 16) (.tmp 17) 52 3 rfl 9 Dk.keyed (by kernel_rfl) _ mb n D' rfl HM.out _ _ rfl HK.out ?_; intro w1 hown1 hturn1)
      obtain ⟨es, clock, hes, _⟩ := HM.out
      have hg1 := hturn1.grown
      have hne : some g ≠ some mb := by
        intro e
        cases e
        rw [HO.out] at hes
        cases hes
      have ho1 := (hg1.block g (Array.getElem?_eq_some_iff.1 HO.out).1 hne).trans HO.out
      have hr1 := Dk.row_map HR.out hes hg1
      have hb1 := HB.out.grownM hg1 (Nat.le_trans HH.out.hb HB.out.size) HH.out.hm hes
      go_roundg gk
      case measure => omega
      case rel => exact ⟨i + 1, _, by rw [Int.natCast_add]; rfl, by omega, by omega, ⟨hown1⟩, ⟨ho1⟩, ⟨hr1⟩, ⟨hb1⟩⟩
    · have h257 : wr.cell? ⟨g, 257, none⟩ = some (.slice A s.l.length c) := by rw [cell_of_row wr g _ _ _ _ HO.out]; exact Dk.arr_get s mb _ 1 HH.out.hl
      have hfz : wr.frozen? ⟨g, 257, none⟩ = false := by simp [World.frozen?, HO.out]
      go_wp2_with (fail)
      go_end0
      have hes := HM.out
      obtain ⟨es, clock, hes, _⟩ := hes
      have hne : some mb ≠ some g := by
        intro e
        cases e
        rw [HO.out] at hes
        cases hes
      have hob := blk_set HO.out 257 (.slice none 0 0)
      rw [Dk.arr_set s mb _ 1 _ HH.out.hl] at hob
      have hbw := Nat.le_trans HH.out.hb HB.out.size
      exact ⟨rfl, ⟨hob, HH.out.hl, HH.out.hg, HH.out.hm, Dk.nilrow _ _, ⟨_, HM.out.kept (Dk.gset wr g 257 _) hne, fun p hp => absurd hp List.not_mem_nil⟩, fun p hp => absurd hp List.not_mem_nil, Nat.le_trans hbw (Dk.gset wr g 257 (.slice none 0 0)).size⟩, HB.out.set hbw HH.out.hg HO.out (.inr rfl) _⟩

/-! ### disk_Disk_die: function 29 (by hand) -/
set_option maxHeartbeats 4000000 in
set_option maxRecDepth 100000 in
theorem disk_Disk_die.calls (s : Dk.S) (base g mb n : Nat) (ov : Value) (w : World) (h : Dk.D w base g s mb n ov) (hn : s.l.length ≤ 100000) (hkp : 0 ≤ s.keep ∧ s.keep < 18446744073709551616) :
    Calls Try.prog 29 #[.pointer (some ⟨g, 0, none⟩)] w fun e w' => e = .returned (.int .i64 33) ∧ Dk.D w' base g (Dk.dieS s) mb n (.slice none 0 0) ∧ Dk.B base w w' := by
  obtain ⟨A, c, rfl⟩ := Kd.R_slice h.ro
  have hl : (s.l.map Prod.fst).length = s.l.length := List.length_map _
  rw [hl] at h
  have h1 : w.cell? ⟨g, 257, none⟩ = some (.slice A s.l.length c) := h.at 1
  have HH := Aside0.mk h
  have HS := Aside0.mk (fun s base g mb n ov w => disk_Disk_settle.calls s base g mb n ov w)
  clear h
  go_enter Try.func29, Try.ntmps29
  go_wp2_with (fail)
  go_loopg [10] s.l.length (fun gg v10 wq => ∃ (i : Nat) (sec : List ByteArray), v10 = .int .i64 (i : Int) ∧ i ≤ s.l.length ∧ s.l.length - i ≤ gg ∧ Aside0 (Dk.dieF s.keep (s.l.drop i) i sec = Dk.dieF s.keep s.l 0 s.sec) ∧ Aside0 (Dk.D wq base g { s with sec := sec } mb n (.slice A s.l.length c)) ∧ Aside0 (Dk.B base w wq))
  case atStart => exact ⟨0, s.sec, rfl, Nat.zero_le _, by omega, ⟨rfl⟩, HH, ⟨Dk.B.refl _ _⟩⟩
  case round =>
    obtain ⟨i, sec, rfl, hi, hgg, HF, HD, HB⟩ := hrel
    by_cases hil : i < s.l.length
    · obtain ⟨p, hp⟩ : ∃ p, s.l[i] = p := ⟨_, rfl⟩
      have hpm : p ∈ s.l := by rw [← hp]; exact List.getElem_mem hil
      have hpk := HH.out.kk p hpm
      have hdr : s.l.drop i = p :: s.l.drop (i + 1) := by rw [List.drop_eq_getElem_cons hil, hp]
      have HDR := Aside0.mk hdr
      have hgx : (s.l.map Prod.fst).getD i 0 = p.1 := by rw [List.getD_eq_getElem?_getD, List.getElem?_map, List.getElem?_eq_getElem hil, hp]; rfl
      obtain ⟨b2, c2, e2, _, _, _⟩ := Kd.R_form HD.out.ro (by show 0 < (s.l.map Prod.fst).length; rw [hl]; omega)
      injection e2 with e2 e3 e4
      clear e3
      subst e4
      subst e2
      obtain ⟨k0, _⟩ := Dk.ints HD.out.ro i (by show i < (s.l.map Prod.fst).length; rw [hl]; exact hil)
      replace k0 : wr.cell? ⟨b2, i, none⟩ = some (.int .i64 p.1) := by rw [← hgx]; exact k0
      have HPM := Aside0.mk hpm
      obtain ⟨px, py⟩ := p
      obtain ⟨xn, rfl⟩ : ∃ xn : Nat, px = (xn : Int) := ⟨px.toNat, by have := hpk.1; simp only at this; omega⟩
      have HPK := Aside0.mk hpk
      have x1 : (0 : Int) ≤ (xn : Int) := by omega
      have x2 : (xn : Int) < 256 := hpk.2
      have x3 : xn < 256 := by omega
      clear hgx hdr hp hpm
      have q1 : (0 : Int) ≤ (i : Int) := by omega
      have q2 : (i : Int) < (s.l.length : Int) := by omega
      have m0 : wr.cell? ⟨g, 256, none⟩ = some (.map (some mb)) := HD.out.at 0
      have m5 : wr.cell? ⟨g, 261, none⟩ = some (.int .u64 s.keep) := HD.out.at 5
      have hlook : (Instr.lookup 52 (.map (some mb)) (.int .i64 (xn : Int)) false).run Try.prog wr.drew = .ok (.string py) wr.drew := Dk.Mp.look (W := wr.drew) HD.out.mp _ HPM.out hpk
      have HLK := Aside0.mk hlook
      have m6 := HD.out.sec xn x3
      have m7 := HD.out.fz xn
      obtain ⟨gk, rfl⟩ : ∃ q, gk = q + 1 := by
        cases gk with
        | zero => omega
        | succ q => exact ⟨q, rfl⟩
      clear hlook hpk
      cases hlost : (Go.bits .and .u64 (s.keep / 2 ^ (i % 64)) 1 == 0)
      · go_wp2_with (fail)
        go_roundg gk
        case measure => omega
        case rel => exact ⟨i + 1, sec, by rw [Int.natCast_add]; rfl, by omega, by omega, ⟨by have e := HF.out; rw [HDR.out, Dk.dieF, if_neg (by unfold Dk.lost; rw [hlost]; decide)] at e; exact e⟩, HD, HB⟩
      · go_wp2_with (fail)
        -- REGION 5 BEGINS
        refine start_ (n := 12) (S := fun w' => w'.cell? ⟨g, 256, none⟩ = some (.map (some mb)) ∧ (Instr.lookup 52 (.map (some mb)) (.int .i64 (xn : Int)) false).run Try.prog w' = .ok (.string py) w') (ds := [11]) #[false, false, false, false, false, false, false, false, false, false, false, false] (by kernel_rfl) rfl rfl ⟨m0, HLK.out⟩ (fun hHeld => ?_)
        refine pure_ (i := 0) (N := some 25) (v := ?_) (a' := ?_) #[true, false, false, false, false, false, false, false, false, false, false, false] rfl rfl (by kernel_rfl) (fun _ _ _ h => h) (Or.inl ⟨by rfl, ?_⟩) ?_ ?_
        rotate_left
        · intro w'
          go_simp
          with_reducible rfl
        rotate_left
        · simp only [Act.put, List.setIfInBounds_toArray, List.set_cons_zero, List.set_cons_succ, i64_w, i32_w]
          rfl
        refine pure_ (i := 1) (N := some 26) (v := ?_) (a' := ?_) #[true, true, false, false, false, false, false, false, false, false, false, false] rfl rfl (by kernel_rfl) (fun _ _ _ h => h) (Or.inl ⟨by rfl, ?_⟩) ?_ ?_
        rotate_left
        · intro w'
          go_simp
          with_reducible rfl
        rotate_left
        · simp only [Act.put, List.setIfInBounds_toArray, List.set_cons_zero, List.set_cons_succ, i64_w, i32_w]
          rfl
        refine pure_ (i := 2) (N := some 27) (v := ?_) (a' := ?_) #[true, true, true, false, false, false, false, false, false, false, false, false] rfl rfl (by kernel_rfl) (fun _ _ _ h => h) (Or.inl ⟨by rfl, ?_⟩) ?_ ?_
        rotate_left
        · intro w'
          go_simp
          with_reducible rfl
        rotate_left
        · simp only [Act.put, List.setIfInBounds_toArray, List.set_cons_zero, List.set_cons_succ, i64_w, i32_w]
          rfl
        refine pure_ (i := 3) (N := some 28) (v := ?_) (a' := ?_) #[true, true, true, true, false, false, false, false, false, false, false, false] rfl rfl (by kernel_rfl) (fun _ _ _ h => h) (Or.inl ⟨by rfl, ?_⟩) ?_ ?_
        rotate_left
        · intro w'
          go_simp
          with_reducible rfl
        rotate_left
        · simp only [Act.put, List.setIfInBounds_toArray, List.set_cons_zero, List.set_cons_succ, i64_w, i32_w]
          rfl
        refine pure_ (i := 4) (N := some 29) (v := ?_) (a' := ?_) #[true, true, true, true, true, false, false, false, false, false, false, false] rfl rfl (by kernel_rfl) (fun _ _ _ h => h) (Or.inl ⟨by rfl, ?_⟩) ?_ ?_
        rotate_left
        · intro w'
          go_simp
          with_reducible rfl
        rotate_left
        · simp only [Act.put, List.setIfInBounds_toArray, List.set_cons_zero, List.set_cons_succ, i64_w, i32_w]
          rfl
        refine pure_ (i := 6) (N := some 31) (v := ?_) (a' := ?_) #[true, true, true, true, true, false, true, false, false, false, false, false] rfl rfl (by kernel_rfl) (fun _ _ _ h => h) (Or.inl ⟨by rfl, ?_⟩) ?_ ?_
        rotate_left
        · intro w'
          go_simp
          with_reducible rfl
        rotate_left
        · simp only [Act.put, List.setIfInBounds_toArray, List.set_cons_zero, List.set_cons_succ, i64_w, i32_w]
          rfl
        refine pure_ (i := 8) (N := some 33) (v := ?_) (a' := ?_) #[true, true, true, true, true, false, true, false, true, false, false, false] rfl rfl (by kernel_rfl) (fun _ _ _ h => h) (Or.inl ⟨by rfl, ?_⟩) ?_ ?_
        rotate_left
        · intro w'
          go_simp
          with_reducible rfl
        rotate_left
        · simp only [Act.put, List.setIfInBounds_toArray, List.set_cons_zero, List.set_cons_succ, i64_w, i32_w]
          rfl
        refine pure_ (i := 9) (N := some 34) (v := ?_) (a' := ?_) #[true, true, true, true, true, false, true, false, true, true, false, false] rfl rfl (by kernel_rfl) (fun _ _ _ h => h) (Or.inl ⟨by rfl, ?_⟩) ?_ ?_
        rotate_left
        · intro w'
          go_simp
          with_reducible rfl
        rotate_left
        · simp only [Act.put, List.setIfInBounds_toArray, List.set_cons_zero, List.set_cons_succ, i64_w, i32_w]
          rfl
        refine take_ (i := 5) (N := some 30) (v := ?_) (a' := ?_) #[true, true, true, true, true, true, true, false, true, true, false, false] rfl rfl (by kernel_rfl) (fun _ _ _ h => h) (Or.inl ⟨by rfl, ?_⟩) hHeld ?_ ?_
        rotate_left
        · rintro w' ⟨s0, s1⟩
          go_simp
          with_reducible rfl
        rotate_left
        · simp only [Act.put, List.setIfInBounds_toArray, List.set_cons_zero, List.set_cons_succ, i64_w, i32_w]
          rfl
        refine take_ (i := 7) (N := some 32) (v := ?_) (a' := ?_) #[true, true, true, true, true, true, true, true, true, true, false, false] rfl rfl (by kernel_rfl) (fun _ _ _ h => h) (Or.inl ⟨by rfl, ?_⟩) hHeld ?_ ?_
        rotate_left
        · rintro w' ⟨s0, s1⟩
          go_simp
          with_reducible rfl
        rotate_left
        · simp only [Act.put, List.setIfInBounds_toArray, List.set_cons_zero, List.set_cons_succ, i64_w, i32_w]
          rfl
        refine pure_ (i := 10) (N := some 35) (v := ?_) (a' := ?_) #[true, true, true, true, true, true, true, true, true, true, true, false] rfl rfl (by kernel_rfl) (fun _ _ _ h => h) (Or.inl ⟨by rfl, ?_⟩) ?_ ?_
        rotate_left
        · intro w'
          go_simp
          with_reducible rfl
        rotate_left
        · simp only [Act.put, List.setIfInBounds_toArray, List.set_cons_zero, List.set_cons_succ, i64_w, i32_w]
          rfl
        refine last_ (i := 11) (N := none) #[true, true, true, true, true, true, true, true, true, true, true, true] rfl rfl (by kernel_rfl) (by decide) (fun K hK => ?_)
        refine skip_ (w1 := ?_) (by rfl) rfl ?_ ?_
        rotate_left
        · go_simp
          rfl
        refine hK.out _ _ ?_
        clear hK K
        refine done_ (by kernel_rfl) ?_
        -- REGION 5 ENDS
        have hput := Dk.D.put (s' := { s with sec := sec.set xn py }) HD.out.drew xn (.string py) (Dk.arr_sec { s with sec := sec } mb _ xn py HD.out.hl x3) (by show (sec.set xn py).length = 256; rw [List.length_set]; exact HD.out.hl) rfl
        go_wp2_with (fail)
        go_roundg gk
        case measure => omega
        case rel => exact ⟨i + 1, sec.set xn py, by rw [Int.natCast_add]; rfl, by omega, by omega, ⟨by have e := HF.out; rw [HDR.out, Dk.dieF, if_pos (by unfold Dk.lost; exact hlost)] at e; exact e⟩, ⟨hput.1⟩, ⟨HB.out.drew.trans hput.2⟩⟩
    · have hd : s.l.drop i = [] := List.drop_eq_nil_of_le (by omega)
      have hf : sec = Dk.dieF s.keep s.l 0 s.sec := by have e := HF.out; rw [hd, Dk.dieF] at e; exact e
      go_wp2_with (go_at_call 33; (with_reducible refine (HS.out _ base g mb n _ wr HD.out hn).mono ?_); rintro e w3 ⟨rfl, hd3, hb3⟩; have HD3 := Aside0.mk hd3; have HB3 := Aside0.mk (HB.out.trans hb3); have m2 := hd3.at 2; have m2f := hd3.fz 258; replace m2 : w3.cell? ⟨g, 258, none⟩ = some (.bool s.off) := m2; clear hd3 hb3)
      go_ret
      have ha : (Dk.arr { s with sec := sec, l := [] } mb (.slice none 0 0)).setIfInBounds 258 (.bool true) = Dk.arr (Dk.dieS s) mb (.slice none 0 0) := by
        rw [Dk.arr_set { s with sec := sec, l := [] } mb _ 2 _ HD.out.hl]
        unfold Dk.dieS Dk.arr Dk.tl
        rw [← hf]
        rfl
      have hput := Dk.D.put (s' := Dk.dieS s) HD3.out 258 (.bool true) ha (by show (Dk.dieF s.keep s.l 0 s.sec).length = 256; rw [Dk.dieF_len]; exact HH.out.hl) rfl
      exact ⟨rfl, hput.1, HB3.out.trans hput.2⟩

end Go.Proofs.Ytbikejfjfliamaa.PDiskLasts
