-- By a program of this session (wip/tools/mkprint.py), for this claim.
import Derived.Test.YtjofkmeaofpbfaaPMoveInsx0
import Derived.Test.YtjofkmeaofpbfaaPMoveInsx1
import Derived.Test.YtjofkmeaofpbfaaPMoveInsx2
namespace Go.Proofs.Ytjofkmeaofpbfaa.PMoveIns
open Go.RowKit Go.Proofs.YtjofkmeaofpbfaaW.PrintWords Go.Proofs.YtjofkmeaofpbfaaW.PrintLast Go.Proofs.YtjofkmeaofpbfaaW.PrintMore
attribute [local go_sem] max2_int min2_int max_two min_two max_three min_three max_four min_four   -- for this text's walks alone
set_option linter.unusedVariables false
set_option linter.unusedSimpArgs false

/-! ### cubbylaw15_MoveIns: function 3 -/
def cubbylaw15_MoveIns.l0 : Nat → List (S28) → List (S28) → Int → Option (Bool)
  | 0, _, _, _ => none
  | k + 1, x3, x4, x5 => if x5 < (x3.length : Int) then (if 0 ≤ x5 then (if x5 < (x4.length : Int) then ((cubbyref07_Same.f k ((rd_T28 x3 x5).f0) ((rd_T28 x3 x5).f1) ((rd_T28 x3 x5).f2) ((rd_T28 x3 x5).f3) ((rd_T28 x3 x5).f4) ((rd_T28 x3 x5).f5) ((rd_T28 x4 x5).f0) ((rd_T28 x4 x5).f1) ((rd_T28 x4 x5).f2) ((rd_T28 x4 x5).f3) ((rd_T28 x4 x5).f4) ((rd_T28 x4 x5).f5)).bind fun t141 => (if t141 = true then (cubbylaw15_MoveIns.l0 k x3 x4 (wrap64 (x5 + 1))) else (some false))) else (none)) else (none)) else (some true)
def cubbylaw15_MoveIns.f (k : Nat) (l0 : List (S31)) : Option (Bool) := if (l0.length : Int) > 200 then (some true) else ((move_Ins.f k l0).bind fun t133 => ((cubbyref15_Ins.f k l0).bind fun t136 => (if (t133.length : Int) = (t136.length : Int) then (cubbylaw15_MoveIns.l0 k t133 t136 0) else (some false))))
theorem cubbylaw15_MoveIns.mono_l : ∀ k, (∀ y0 y1 y2, LeO (cubbylaw15_MoveIns.l0 k y0 y1 y2) (cubbylaw15_MoveIns.l0 (k + 1) y0 y1 y2))
  | 0 => fun _ _ _ r h => by simp [cubbylaw15_MoveIns.l0] at h
  | k + 1 => by
    have ih0 := cubbylaw15_MoveIns.mono_l k
    · intro y0 y1 y2
      unfold cubbylaw15_MoveIns.l0
      repeat' first
      | (with_reducible exact ih0 _ _ _)
      | (with_reducible exact cubbyref07_Same.mono _ _ _ _ _ _ _ _ _ _ _ _ _)
      | (with_reducible exact cubbyref15_Ins.mono _ _)
      | (with_reducible exact move_Ins.mono _ _)
      | (with_reducible exact LeO.refl _)
      | (with_reducible exact LeO.none _)
      | (with_reducible refine LeO.ite ?_ ?_)
      | (with_reducible refine LeO.bind ?_ (fun _ => ?_))
      | exact ih0 _ _ _
      | exact cubbyref07_Same.mono _ _ _ _ _ _ _ _ _ _ _ _ _
      | exact cubbyref15_Ins.mono _ _
      | exact move_Ins.mono _ _
      | exact LeO.none _
      | refine LeO.ite ?_ ?_
      | refine LeO.bind ?_ (fun _ => ?_)
theorem cubbylaw15_MoveIns.mono : ∀ a0 k, LeO (cubbylaw15_MoveIns.f k a0) (cubbylaw15_MoveIns.f (k + 1) a0) := by
  intro a0 k
  have ih0 := cubbylaw15_MoveIns.mono_l k
  unfold cubbylaw15_MoveIns.f
  repeat' first
      | (with_reducible exact ih0 _ _ _)
      | (with_reducible exact cubbyref07_Same.mono _ _ _ _ _ _ _ _ _ _ _ _ _)
      | (with_reducible exact cubbyref15_Ins.mono _ _)
      | (with_reducible exact move_Ins.mono _ _)
      | (with_reducible exact LeO.refl _)
      | (with_reducible exact LeO.none _)
      | (with_reducible refine LeO.ite ?_ ?_)
      | (with_reducible refine LeO.bind ?_ (fun _ => ?_))
      | exact ih0 _ _ _
      | exact cubbyref07_Same.mono _ _ _ _ _ _ _ _ _ _ _ _ _
      | exact cubbyref15_Ins.mono _ _
      | exact move_Ins.mono _ _
      | exact LeO.none _
      | refine LeO.ite ?_ ?_
      | refine LeO.bind ?_ (fun _ => ?_)
def cubbylaw15_MoveIns.T10 : Bool × List (List Nat × List Nat) := (true, [([], []), ([], []), ([0, 1], [0, 1]), ([2], [2]), ([], []), ([], []), ([4, 5], [4, 5]), ([6], [6]), ([3, 7], [3, 7]), ([8], [8])])
def cubbylaw15_MoveIns.B10 : List Nat := [0, 0, 3, 7, 0, 0, 48, 112, 255, 511]
theorem cubbylaw15_MoveIns.tab10 : rtab .any (opsOf Try.f3 10) = cubbylaw15_MoveIns.T10 := by kernel_rfl
theorem cubbylaw15_MoveIns.bits10 : waitsOk cubbylaw15_MoveIns.T10.2 cubbylaw15_MoveIns.B10 = true := by kernel_rfl
set_option maxHeartbeats 8000000 in
set_option maxRecDepth 100000 in
theorem cubbylaw15_MoveIns.calls (k : Nat) (A0 : Option Addr) (c0 : Nat) (l0 : List (S31)) (r : Bool) (w : World) (hr0 : Kd.C k31 w A0 l0.length l0) (hc0 : l0.length ≤ c0) (h : cubbylaw15_MoveIns.f k l0 = some r) :
    Calls Try.prog 3 #[.slice A0 l0.length c0] w fun e w' => e = .returned (.bool r) ∧ Below w.heap.size w w' := by
  have hu28 := Try.underlying28
  have HR0 := Aside0.mk hr0
  have HC0 := Aside0.mk hc0
  clear hr0 hc0
  have HB := Aside0.mk (Below.refl w.heap.size w)
  have H : (if (l0.length : Int) > 200 then (some true) else ((move_Ins.f k l0).bind fun t133 => ((cubbyref15_Ins.f k l0).bind fun t136 => (if (t133.length : Int) = (t136.length : Int) then (cubbylaw15_MoveIns.l0 k t133 t136 0) else (some false))))) = some r := h
  clear h
  by_cases c2 : (l0.length : Int) > 200
  · rw [if_pos c2] at H
    have c2b0 : decide (200 < (l0.length : Int)) = true := decide_eq_true c2
    have c2b1 : decide (200 < l0.length) = true := decide_eq_true (by omega)
    clear c2
    obtain rfl := Option.some.inj H
    go_enter Try.func3, Try.ntmps3
    go_wp2
    go_ret
    exact ⟨by first | rfl | (simp [errW_none, errW_some] <;> rfl) | (simp [*, errW_none, errW_some] <;> rfl), by repeat (first | (with_reducible first | exact HB.out | apply below_alloc | apply pw_below_drewN | apply below_drew1) | exact HB.out)⟩
  · rw [if_neg c2] at H
    have c2b0 : decide (200 < (l0.length : Int)) = false := decide_eq_false c2
    have c2b1 : decide (200 < l0.length) = false := decide_eq_false (by omega)
    clear c2
    replace H := Option.bind_eq_some_iff.mp H
    obtain ⟨t133, A30, H⟩ := H
    replace H : ((cubbyref15_Ins.f k l0).bind fun t136 => (if (t133.length : Int) = (t136.length : Int) then (cubbylaw15_MoveIns.l0 k t133 t136 0) else (some false))) = some r := H
    have A3 := Aside0.mk A30
    clear A30
    replace H := Option.bind_eq_some_iff.mp H
    obtain ⟨t136, A40, H⟩ := H
    replace H : (if (t133.length : Int) = (t136.length : Int) then (cubbylaw15_MoveIns.l0 k t133 t136 0) else (some false)) = some r := H
    have A4 := Aside0.mk A40
    clear A40
    by_cases c5 : (t133.length : Int) = (t136.length : Int)
    · rw [if_pos c5] at H
      have c5b0 : ((t133.length : Int) == (t136.length : Int)) = true := beq_iff_eq.mpr c5
      have c5b1 : ((t133.length : Int) != (t136.length : Int)) = false := bne_eq_false_iff_eq.mpr c5
      have c5b2 : (t133.length == t136.length) = true := by first | simpa using c5 | (simp at c5 ⊢; omega)
      clear c5
      have H' := Aside0.mk H
      clear H
      go_enter Try.func3, Try.ntmps3
      go_wp2_with (first | ((with_reducible refine gate_callee (f := 10) rfl ?_); refine goesL_ (some 10) rfl rfl Try.func10 (by kernel_rfl) rfl #[.slice A0 l0.length c0] rfl (by (try simp only [List.map_toArray, List.map_cons, List.map_nil]); first | done | rfl | (simp only [List.length_drop, List.length_take]; rfl)) ?_; (with_reducible refine (move_Ins.calls k _ _ l0 t133 _ ?side1 ?side2 A3.out).mono ?_); (case side1 => repeat (first | exact HR0.out | (with_reducible refine Kd.C_alloc ?_ _) | (with_reducible refine Kd.C_drewN ?_ _) | (with_reducible refine Kd.C_drew ?_))); (case side2 => exact HC0.out); rintro e w6 ⟨v134, rfl, ho0, hb⟩; refine ⟨_, rfl, ?_⟩; have n0_ := Aside0.mk (Kd.S_lower ho0 (below_size (by repeat (first | (with_reducible first | exact HB.out | apply below_alloc | apply pw_below_drewN | apply below_drew1) | exact HB.out)))); have n1_ := Aside0.mk (below_step (by repeat (first | (with_reducible first | exact HB.out | apply below_alloc | apply pw_below_drewN | apply below_drew1) | exact HB.out)) hb); clear HB; have HO135 := n0_; have HB := n1_; clear n0_ n1_; (try clear hb); (try clear hb2); (try clear hk); (try clear hi); (try clear ho0)) | ((with_reducible refine gate_callee (f := 11) rfl ?_); refine goesL_ (some 12) rfl rfl Try.func11 (by kernel_rfl) rfl #[.slice A0 l0.length c0] rfl (by (try simp only [List.map_toArray, List.map_cons, List.map_nil]); first | done | rfl | (simp only [List.length_drop, List.length_take]; rfl)) ?_; (with_reducible refine (cubbyref15_Ins.calls k _ _ l0 t136 _ ?side1 ?side2 A4.out).mono ?_); (case side1 => repeat (first | exact (Kd.C_below HR0.out HB.out) | (with_reducible refine Kd.C_alloc ?_ _) | (with_reducible refine Kd.C_drewN ?_ _) | (with_reducible refine Kd.C_drew ?_))); (case side2 => exact HC0.out); rintro e w7 ⟨v137, rfl, ho0, hb⟩; refine ⟨_, rfl, ?_⟩; have n0_ := Aside0.mk (Kd.S_elder' (by (with_reducible repeat (first | apply Kd.S_alloc | apply Kd.S_drewN | apply Kd.S_drew)); exact HO135.out) (Kd.S_base ho0) hb); have n1_ := Aside0.mk (Kd.S_lower (Kd.S_new' ho0 (Kd.S_lt (by (with_reducible repeat (first | apply Kd.S_alloc | apply Kd.S_drewN | apply Kd.S_drew)); exact HO135.out))) (below_size (by repeat (first | (with_reducible first | exact HB.out | apply below_alloc | apply pw_below_drewN | apply below_drew1) | exact HB.out)))); have n2_ := Aside0.mk (below_step (by repeat (first | (with_reducible first | exact HB.out | apply below_alloc | apply pw_below_drewN | apply below_drew1) | exact HB.out)) hb); clear HO135; clear HB; have HO135 := n0_; have HO138 := n1_; have HB := n2_; clear n0_ n1_ n2_; (try clear hb); (try clear hb2); (try clear hk); (try clear hi); (try clear ho0); obtain ⟨Ao8, co8, eo8⟩ := Kd.S_slice HO135.out; subst eo8; obtain ⟨Ao9, co9, eo9⟩ := Kd.S_slice HO138.out; subst eo9))
      go_loopg [5] k (fun kq v5 w' => ∃ (x5_1 : Int), v5 = .int .i64 x5_1 ∧ Aside0 (cubbylaw15_MoveIns.l0 kq t133 t136 x5_1 = some r) ∧ Aside0 (kq ≤ k) ∧ Aside0 (Kd.S k28 28 w' w.heap.size (fun k_ => some k_ ≠ ((.slice Ao9 t136.length co9) : Value).ownBlock) (.slice Ao8 t133.length co8) t133) ∧ Aside0 (Kd.S k28 28 w' w.heap.size (fun k_ => some k_ ≠ ((.slice Ao8 t133.length co8) : Value).ownBlock) (.slice Ao9 t136.length co9) t136) ∧ Aside0 (Below w.heap.size w w'))
      case atStart => exact ⟨(0), (by first | rfl | (simp; done) | (simp [*]; done)), H', ⟨Nat.le_refl _⟩, ⟨by (with_reducible repeat (first | apply Kd.S_alloc | apply Kd.S_drewN | apply Kd.S_drew)); exact Kd.S_mono HO135.out (fun _ hk => hk.2)⟩, ⟨by (with_reducible repeat (first | apply Kd.S_alloc | apply Kd.S_drewN | apply Kd.S_drew)); exact Kd.S_mono HO138.out (fun _ hk => hk.2)⟩, ⟨by repeat (first | (with_reducible first | exact HB.out | apply below_alloc | apply pw_below_drewN | apply below_drew1) | exact HB.out)⟩⟩
      case round =>
        clear H'
        try clear c1
        try clear c2
        try clear c2b0
        try clear c2b1
        try clear p2
        try clear c3
        try clear c5
        try clear c5b0
        try clear c5b1
        try clear c5b2
        obtain ⟨x5_1, rfl, HA, HK1, HO_3, HO_4, HB⟩ := hrel
        cases gk with
        | zero => exact absurd HA.out (by simp [cubbylaw15_MoveIns.l0])
        | succ k1 =>
          have H := HA.out
          clear HA
          simp only [cubbylaw15_MoveIns.l0] at H
          by_cases c10 : x5_1 < (t133.length : Int)
          · rw [if_pos c10] at H
            have c10b0 : decide (x5_1 < (t133.length : Int)) = true := decide_eq_true c10
            clear c10
            by_cases c11 : 0 ≤ x5_1
            · rw [if_pos c11] at H
              have c11b0 : decide (0 ≤ x5_1) = true := decide_eq_true c11
              clear c11
              by_cases c12 : x5_1 < (t136.length : Int)
              · rw [if_pos c12] at H
                have c12b0 : decide (x5_1 < (t136.length : Int)) = true := decide_eq_true c12
                clear c12
                replace H := Option.bind_eq_some_iff.mp H
                obtain ⟨t141, A130, H⟩ := H
                replace H : (if t141 = true then (cubbylaw15_MoveIns.l0 k1 t133 t136 (wrap64 (x5_1 + 1))) else (some false)) = some r := H
                have A13 := Aside0.mk A130
                clear A130
                by_cases c14 : t141 = true
                · subst c14
                  have H1 : (cubbylaw15_MoveIns.l0 k1 t133 t136 (wrap64 (x5_1 + 1))) = some r := by rw [if_pos rfl] at H; exact H
                  clear H
                  have H := H1
                  clear H1
                  have H' := Aside0.mk H
                  clear H
                  try go_wp2
                  have n0_ := Aside0.mk (Kd.S_drew HO_3.out)
                  have n1_ := Aside0.mk (Kd.S_drew HO_4.out)
                  have n2_ := Aside0.mk (below_drew1 HB.out)
                  clear HO_3
                  clear HO_4
                  clear HB
                  have HO_3 := n0_
                  have HO_4 := n1_
                  have HB := n2_
                  clear n0_ n1_ n2_
                  have p139 : 0 ≤ (x5_1 : Int) := of_decide_eq_true (by first | (with_reducible assumption) | assumption)
                  have q139 : x5_1 < (t133.length : Int) := of_decide_eq_true (by first | (with_reducible assumption) | assumption)
                  obtain ⟨ad139, A139_5, c139_5, e139, hx139_0, hx139_1, hx139_2, hx139_3, hx139_4, hx139_5, hl139_5, hi139_5⟩ := at_T28 (Kd.S_reads' HO_3.out).2.2 x5_1 p139 q139
                  cases e139
                  obtain ⟨ce139, hce139, hMe139, hcc139⟩ := Kd.S_get HO_3.out z28 x5_1 p139 (by first | exact q139 | exact of_decide_eq_true (by first | (with_reducible assumption) | assumption) | (have e_ := (Kd.S_reads' HO_3.out).1; omega))
                  obtain ⟨ve139_5, rfl, ge139_5⟩ := k28_openM hMe139
                  have hv139_5 := hcc139 5 _ rfl
                  rw [add_field _ _ 5 (by omega)] at hv139_5
                  replace hv139_5 := Option.some.inj (hv139_5.symm.trans hx139_5)
                  rw [hv139_5] at ge139_5
                  have HL139_5 := Aside0.mk (show Kd.R (Kd.int .i64) 3 _ _ _ _ ((rd_T28 t133 x5_1).f5) from ge139_5)
                  clear hv139_5 ge139_5
                  clear hcc139 hce139
                  have HR139_5 := Aside0.mk hi139_5
                  have HC139_5 := Aside0.mk hl139_5
                  clear hi139_5 hl139_5
                  replace p139 := eq_true p139
                  replace q139 := eq_true q139
                  have p140 : 0 ≤ (x5_1 : Int) := of_decide_eq_true (by first | (with_reducible assumption) | assumption)
                  have q140 : x5_1 < (t136.length : Int) := of_decide_eq_true (by first | (with_reducible assumption) | assumption)
                  obtain ⟨ad140, A140_5, c140_5, e140, hx140_0, hx140_1, hx140_2, hx140_3, hx140_4, hx140_5, hl140_5, hi140_5⟩ := at_T28 (Kd.S_reads' HO_4.out).2.2 x5_1 p140 q140
                  cases e140
                  obtain ⟨ce140, hce140, hMe140, hcc140⟩ := Kd.S_get HO_4.out z28 x5_1 p140 (by first | exact q140 | exact of_decide_eq_true (by first | (with_reducible assumption) | assumption) | (have e_ := (Kd.S_reads' HO_4.out).1; omega))
                  obtain ⟨ve140_5, rfl, ge140_5⟩ := k28_openM hMe140
                  have hv140_5 := hcc140 5 _ rfl
                  rw [add_field _ _ 5 (by omega)] at hv140_5
                  replace hv140_5 := Option.some.inj (hv140_5.symm.trans hx140_5)
                  rw [hv140_5] at ge140_5
                  have HL140_5 := Aside0.mk (show Kd.R (Kd.int .i64) 3 _ _ _ _ ((rd_T28 t136 x5_1).f5) from ge140_5)
                  clear hv140_5 ge140_5
                  clear hcc140 hce140
                  have HR140_5 := Aside0.mk hi140_5
                  have HC140_5 := Aside0.mk hl140_5
                  clear hi140_5 hl140_5
                  replace p140 := eq_true p140
                  replace q140 := eq_true q140
                  refine start_ (n := 10) (S := fun w' => w'.cell? (ad139.add ((x5_1).toNat * 6)) = some (.int .i64 ((rd_T28 t133 x5_1).f0)) ∧ w'.cell? ⟨(ad139.add ((x5_1).toNat * 6)).block, (ad139.add ((x5_1).toNat * 6)).off + 1, none⟩ = some (.int .i64 ((rd_T28 t133 x5_1).f1)) ∧ w'.cell? ⟨(ad139.add ((x5_1).toNat * 6)).block, (ad139.add ((x5_1).toNat * 6)).off + 2, none⟩ = some (.int .i64 ((rd_T28 t133 x5_1).f2)) ∧ w'.cell? ⟨(ad139.add ((x5_1).toNat * 6)).block, (ad139.add ((x5_1).toNat * 6)).off + 3, none⟩ = some (.int .i64 ((rd_T28 t133 x5_1).f3)) ∧ w'.cell? ⟨(ad139.add ((x5_1).toNat * 6)).block, (ad139.add ((x5_1).toNat * 6)).off + 4, none⟩ = some (.string ((rd_T28 t133 x5_1).f4)) ∧ w'.cell? ⟨(ad139.add ((x5_1).toNat * 6)).block, (ad139.add ((x5_1).toNat * 6)).off + 5, none⟩ = some (.slice A139_5 ((rd_T28 t133 x5_1).f5).length c139_5) ∧ w'.cell? (ad140.add ((x5_1).toNat * 6)) = some (.int .i64 ((rd_T28 t136 x5_1).f0)) ∧ w'.cell? ⟨(ad140.add ((x5_1).toNat * 6)).block, (ad140.add ((x5_1).toNat * 6)).off + 1, none⟩ = some (.int .i64 ((rd_T28 t136 x5_1).f1)) ∧ w'.cell? ⟨(ad140.add ((x5_1).toNat * 6)).block, (ad140.add ((x5_1).toNat * 6)).off + 2, none⟩ = some (.int .i64 ((rd_T28 t136 x5_1).f2)) ∧ w'.cell? ⟨(ad140.add ((x5_1).toNat * 6)).block, (ad140.add ((x5_1).toNat * 6)).off + 3, none⟩ = some (.int .i64 ((rd_T28 t136 x5_1).f3)) ∧ w'.cell? ⟨(ad140.add ((x5_1).toNat * 6)).block, (ad140.add ((x5_1).toNat * 6)).off + 4, none⟩ = some (.string ((rd_T28 t136 x5_1).f4)) ∧ w'.cell? ⟨(ad140.add ((x5_1).toNat * 6)).block, (ad140.add ((x5_1).toNat * 6)).off + 5, none⟩ = some (.slice A140_5 ((rd_T28 t136 x5_1).f5).length c140_5)) (ds := []) #[false, false, false, false, false, false, false, false, false, false] (by kernel_rfl) rfl rfl ⟨hx139_0, hx139_1, hx139_2, hx139_3, hx139_4, hx139_5, hx140_0, hx140_1, hx140_2, hx140_3, hx140_4, hx140_5⟩ (fun hHeld => ?_); refine with_tabW cubbylaw15_MoveIns.tab10 cubbylaw15_MoveIns.bits10 (fun HT_ HW_ => ?_)
                  generalize wr.drew = w15 at HO_3 HO_4 HB HL139_5 HL140_5 HR139_5 HR140_5 hx139_0 hx139_1 hx139_2 hx139_3 hx139_4 hx139_5 hx140_0 hx140_1 hx140_2 hx140_3 hx140_4 hx140_5 hHeld ⊢
                  refine pure_ (i := 0) (N := some 24) (v := ?_) (a' := ?_) #[true, false, false, false, false, false, false, false, false, false] rfl rfl (any_of HT_.out (by kernel_rfl)) (fun _ _ _ h => h) (Or.inl ⟨by rfl, ?_⟩) ?_ ?_
                  rotate_left
                  · intro w'
                    go_simp
                    first | with_reducible rfl | (rw [if_neg (by (try simp only [ByteArray.size_extract, ByteArray.size_append] at *); (try simp only [eq_iff_iff, iff_true, iff_false] at *); omega)] <;> with_reducible rfl)
                  rotate_left
                  · simp only [Act.put, List.setIfInBounds_toArray, List.set_cons_zero, List.set_cons_succ, i64_w, i32_w]
                    rfl
                  refine pure_ (i := 1) (N := some 25) (v := ?_) (a' := ?_) #[true, true, false, false, false, false, false, false, false, false] rfl rfl (any_of HT_.out (by kernel_rfl)) (fun _ _ _ h => h) (Or.inl ⟨by rfl, ?_⟩) ?_ ?_
                  rotate_left
                  · intro w'
                    go_simp
                    first | with_reducible rfl | (rw [if_neg (by (try simp only [ByteArray.size_extract, ByteArray.size_append] at *); (try simp only [eq_iff_iff, iff_true, iff_false] at *); omega)] <;> with_reducible rfl)
                  rotate_left
                  · simp only [Act.put, List.setIfInBounds_toArray, List.set_cons_zero, List.set_cons_succ, i64_w, i32_w]
                    rfl
                  refine pure_ (i := 2) (N := some 26) (v := ?_) (a' := ?_) #[true, true, true, false, false, false, false, false, false, false] rfl rfl (any_of HT_.out (by kernel_rfl)) (fun _ _ _ h => h) (Or.inl ⟨by rfl, ?_⟩) ?_ ?_
                  rotate_left
                  · intro w'
                    go_simp
                    first | with_reducible rfl | (rw [if_neg (by (try simp only [ByteArray.size_extract, ByteArray.size_append] at *); (try simp only [eq_iff_iff, iff_true, iff_false] at *); omega)] <;> with_reducible rfl)
                  rotate_left
                  · simp only [Act.put, List.setIfInBounds_toArray, List.set_cons_zero, List.set_cons_succ, i64_w, i32_w]
                    rfl
                  refine pure_ (i := 4) (N := some 28) (v := ?_) (a' := ?_) #[true, true, true, false, true, false, false, false, false, false] rfl rfl (any_of HT_.out (by kernel_rfl)) (fun _ _ _ h => h) (Or.inl ⟨by rfl, ?_⟩) ?_ ?_
                  rotate_left
                  · intro w'
                    go_simp
                    first | with_reducible rfl | (rw [if_neg (by (try simp only [ByteArray.size_extract, ByteArray.size_append] at *); (try simp only [eq_iff_iff, iff_true, iff_false] at *); omega)] <;> with_reducible rfl)
                  rotate_left
                  · simp only [Act.put, List.setIfInBounds_toArray, List.set_cons_zero, List.set_cons_succ, i64_w, i32_w]
                    rfl
                  refine pure_ (i := 5) (N := some 29) (v := ?_) (a' := ?_) #[true, true, true, false, true, true, false, false, false, false] rfl rfl (any_of HT_.out (by kernel_rfl)) (fun _ _ _ h => h) (Or.inl ⟨by rfl, ?_⟩) ?_ ?_
                  rotate_left
                  · intro w'
                    go_simp
                    first | with_reducible rfl | (rw [if_neg (by (try simp only [ByteArray.size_extract, ByteArray.size_append] at *); (try simp only [eq_iff_iff, iff_true, iff_false] at *); omega)] <;> with_reducible rfl)
                  rotate_left
                  · simp only [Act.put, List.setIfInBounds_toArray, List.set_cons_zero, List.set_cons_succ, i64_w, i32_w]
                    rfl
                  refine pure_ (i := 6) (N := some 30) (v := ?_) (a' := ?_) #[true, true, true, false, true, true, true, false, false, false] rfl rfl (any_of HT_.out (by kernel_rfl)) (fun _ _ _ h => h) (Or.inl ⟨by rfl, ?_⟩) ?_ ?_
                  rotate_left
                  · intro w'
                    go_simp
                    first | with_reducible rfl | (rw [if_neg (by (try simp only [ByteArray.size_extract, ByteArray.size_append] at *); (try simp only [eq_iff_iff, iff_true, iff_false] at *); omega)] <;> with_reducible rfl)
                  rotate_left
                  · simp only [Act.put, List.setIfInBounds_toArray, List.set_cons_zero, List.set_cons_succ, i64_w, i32_w]
                    rfl
                  refine take_ (i := 3) (N := some 27) (v := ?_) (a' := ?_) #[true, true, true, true, true, true, true, false, false, false] rfl rfl (take_ofW HT_.out HW_.out (by kernel_rfl)) (fun _ _ _ h => h) (Or.inl ⟨by rfl, ?_⟩) hHeld ?_ ?_
                  rotate_left
                  · rintro w' ⟨s0, s1, s2, s3, s4, s5, s6, s7, s8, s9, s10, s11⟩
                    go_simp
                    first | with_reducible rfl | (rw [if_neg (by (try simp only [ByteArray.size_extract, ByteArray.size_append] at *); (try simp only [eq_iff_iff, iff_true, iff_false] at *); omega)] <;> with_reducible rfl)
                  rotate_left
                  · simp only [Act.put, List.setIfInBounds_toArray, List.set_cons_zero, List.set_cons_succ, i64_w, i32_w]
                    rfl
                  refine take_ (i := 7) (N := some 31) (v := ?_) (a' := ?_) #[true, true, true, true, true, true, true, true, false, false] rfl rfl (take_ofW HT_.out HW_.out (by kernel_rfl)) (fun _ _ _ h => h) (Or.inl ⟨by rfl, ?_⟩) hHeld ?_ ?_
                  rotate_left
                  · rintro w' ⟨s0, s1, s2, s3, s4, s5, s6, s7, s8, s9, s10, s11⟩
                    go_simp
                    first | with_reducible rfl | (rw [if_neg (by (try simp only [ByteArray.size_extract, ByteArray.size_append] at *); (try simp only [eq_iff_iff, iff_true, iff_false] at *); omega)] <;> with_reducible rfl)
                  rotate_left
                  · simp only [Act.put, List.setIfInBounds_toArray, List.set_cons_zero, List.set_cons_succ, i64_w, i32_w]
                    rfl
                  refine one_ (i := 8) (N := some 32) #[true, true, true, true, true, true, true, true, true, false] rfl rfl (one_of HT_.out (by kernel_rfl)) (by decide) (fun K hK => ?_)
                  refine goes_ Try.func12 (by kernel_rfl) rfl #[.agg #[.int .i64 ((rd_T28 t133 x5_1).f0), .int .i64 ((rd_T28 t133 x5_1).f1), .int .i64 ((rd_T28 t133 x5_1).f2), .int .i64 ((rd_T28 t133 x5_1).f3), .string ((rd_T28 t133 x5_1).f4), .slice A139_5 ((rd_T28 t133 x5_1).f5).length c139_5], .agg #[.int .i64 ((rd_T28 t136 x5_1).f0), .int .i64 ((rd_T28 t136 x5_1).f1), .int .i64 ((rd_T28 t136 x5_1).f2), .int .i64 ((rd_T28 t136 x5_1).f3), .string ((rd_T28 t136 x5_1).f4), .slice A140_5 ((rd_T28 t136 x5_1).f5).length c140_5]] (by rfl) rfl rfl (by (try simp only [List.map_toArray, List.map_cons, List.map_nil]); first | done | rfl | (simp only [List.length_drop, List.length_take]; rfl)) ?_
                  with_reducible refine (cubbyref07_Same.calls k1 ((rd_T28 t133 x5_1).f0) ((rd_T28 t133 x5_1).f1) ((rd_T28 t133 x5_1).f2) ((rd_T28 t133 x5_1).f3) ((rd_T28 t133 x5_1).f4) _ _ ((rd_T28 t133 x5_1).f5) ((rd_T28 t136 x5_1).f0) ((rd_T28 t136 x5_1).f1) ((rd_T28 t136 x5_1).f2) ((rd_T28 t136 x5_1).f3) ((rd_T28 t136 x5_1).f4) _ _ ((rd_T28 t136 x5_1).f5) true _ ?side1 ?side2 ?side3 ?side4 A13.out).mono ?_
                  (case side1 => repeat (first | exact (by repeat (first | (with_reducible exact HR139_5.out) | (with_reducible refine Kd.C_alloc ?_ _) | (with_reducible refine Kd.C_drewN ?_ _) | (with_reducible refine Kd.C_drew ?_) | exact HR139_5.out)) | (with_reducible refine Kd.C_alloc ?_ _) | (with_reducible refine Kd.C_drewN ?_ _) | (with_reducible refine Kd.C_drew ?_)))
                  (case side2 => exact HC139_5.out)
                  (case side3 => repeat (first | exact (by repeat (first | (with_reducible exact HR140_5.out) | (with_reducible refine Kd.C_alloc ?_ _) | (with_reducible refine Kd.C_drewN ?_ _) | (with_reducible refine Kd.C_drew ?_) | exact HR140_5.out)) | (with_reducible refine Kd.C_alloc ?_ _) | (with_reducible refine Kd.C_drewN ?_ _) | (with_reducible refine Kd.C_drew ?_)))
                  (case side4 => exact HC140_5.out)
                  rintro e w16 ⟨rfl, hb⟩
                  have HS0_ := (hb.cell (World.block_lt_of_cell? _ _ (hHeld.1))).trans (hHeld.1)
                  have HS1_ := (hb.cell (World.block_lt_of_cell? _ _ (hHeld.2.1))).trans (hHeld.2.1)
                  have HS2_ := (hb.cell (World.block_lt_of_cell? _ _ (hHeld.2.2.1))).trans (hHeld.2.2.1)
                  have HS3_ := (hb.cell (World.block_lt_of_cell? _ _ (hHeld.2.2.2.1))).trans (hHeld.2.2.2.1)
                  have HS4_ := (hb.cell (World.block_lt_of_cell? _ _ (hHeld.2.2.2.2.1))).trans (hHeld.2.2.2.2.1)
                  have HS5_ := (hb.cell (World.block_lt_of_cell? _ _ (hHeld.2.2.2.2.2.1))).trans (hHeld.2.2.2.2.2.1)
                  have HS6_ := (hb.cell (World.block_lt_of_cell? _ _ (hHeld.2.2.2.2.2.2.1))).trans (hHeld.2.2.2.2.2.2.1)
                  have HS7_ := (hb.cell (World.block_lt_of_cell? _ _ (hHeld.2.2.2.2.2.2.2.1))).trans (hHeld.2.2.2.2.2.2.2.1)
                  have HS8_ := (hb.cell (World.block_lt_of_cell? _ _ (hHeld.2.2.2.2.2.2.2.2.1))).trans (hHeld.2.2.2.2.2.2.2.2.1)
                  have HS9_ := (hb.cell (World.block_lt_of_cell? _ _ (hHeld.2.2.2.2.2.2.2.2.2.1))).trans (hHeld.2.2.2.2.2.2.2.2.2.1)
                  have HS10_ := (hb.cell (World.block_lt_of_cell? _ _ (hHeld.2.2.2.2.2.2.2.2.2.2.1))).trans (hHeld.2.2.2.2.2.2.2.2.2.2.1)
                  have HS11_ := (hb.cell (World.block_lt_of_cell? _ _ (hHeld.2.2.2.2.2.2.2.2.2.2.2))).trans (hHeld.2.2.2.2.2.2.2.2.2.2.2)
                  refine ⟨_, rfl, ?_⟩
                  have n0_ := Aside0.mk (Kd.S_below (by (with_reducible repeat (first | apply Kd.S_alloc | apply Kd.S_drewN | apply Kd.S_drew)); exact HO_3.out) hb)
                  have n1_ := Aside0.mk (Kd.S_below (by (with_reducible repeat (first | apply Kd.S_alloc | apply Kd.S_drewN | apply Kd.S_drew)); exact HO_4.out) hb)
                  have n2_ := Aside0.mk (Kd.R_below (by (with_reducible repeat (first | apply Kd.R_alloc | apply Kd.R_drewN | apply Kd.R_drew)); exact HL139_5.out) hb)
                  have n3_ := Aside0.mk (Kd.R_below (by (with_reducible repeat (first | apply Kd.R_alloc | apply Kd.R_drewN | apply Kd.R_drew)); exact HL140_5.out) hb)
                  have n4_ := Aside0.mk (Kd.C_below (by repeat (first | (with_reducible exact HR139_5.out) | (with_reducible refine Kd.C_alloc ?_ _) | (with_reducible refine Kd.C_drewN ?_ _) | (with_reducible refine Kd.C_drew ?_) | exact HR139_5.out)) hb)
                  have n5_ := Aside0.mk (Kd.C_below (by repeat (first | (with_reducible exact HR140_5.out) | (with_reducible refine Kd.C_alloc ?_ _) | (with_reducible refine Kd.C_drewN ?_ _) | (with_reducible refine Kd.C_drew ?_) | exact HR140_5.out)) hb)
                  have n6_ := Aside0.mk (below_step (by repeat (first | (with_reducible first | exact HB.out | apply below_alloc | apply pw_below_drewN | apply below_drew1) | exact HB.out)) hb)
                  clear HO_3
                  clear HO_4
                  clear HL139_5
                  clear HL140_5
                  clear HR139_5
                  clear HR140_5
                  clear HB
                  have HO_3 := n0_
                  have HO_4 := n1_
                  have HL139_5 := n2_
                  have HL140_5 := n3_
                  have HR139_5 := n4_
                  have HR140_5 := n5_
                  have HB := n6_
                  clear n0_ n1_ n2_ n3_ n4_ n5_ n6_
                  (try clear hb)
                  (try clear hb2)
                  (try clear hk)
                  (try clear hi)
                  refine hK.out _ _ ⟨HS0_, HS1_, HS2_, HS3_, HS4_, HS5_, HS6_, HS7_, HS8_, HS9_, HS10_, HS11_⟩ (fun hHeld => ?_)
                  clear hK K
                  refine norm_ (a' := ?_) ?_ ?_
                  rotate_left
                  · show Act.put _ (some 32) _ = _
                    simp only [Act.put, List.setIfInBounds_toArray, List.set_cons_zero, List.set_cons_succ, i64_w, i32_w]
                    rfl
                  refine pure_ (i := 9) (N := some 33) (v := ?_) (a' := ?_) #[true, true, true, true, true, true, true, true, true, true] rfl rfl (any_of HT_.out (by kernel_rfl)) (fun _ _ _ h => h) (Or.inl ⟨by rfl, ?_⟩) ?_ ?_
                  rotate_left
                  · intro w'
                    go_simp
                    first | with_reducible rfl | (rw [if_neg (by (try simp only [ByteArray.size_extract, ByteArray.size_append] at *); (try simp only [eq_iff_iff, iff_true, iff_false] at *); omega)] <;> with_reducible rfl)
                  rotate_left
                  · simp only [Act.put, List.setIfInBounds_toArray, List.set_cons_zero, List.set_cons_succ, i64_w, i32_w]
                    rfl
                  refine done_ (done_of HT_.out (by kernel_rfl)) ?_
                  try go_wp2
                  go_roundg k1
                  case measure => have := HK1.out; omega
                  case rel => exact ⟨(wrap64 (x5_1 + 1)), (by first | rfl | (simp; done) | (simp [*]; done)), H', ⟨by have := HK1.out; omega⟩, ⟨by (with_reducible repeat (first | apply Kd.S_alloc | apply Kd.S_drewN | apply Kd.S_drew)); exact HO_3.out⟩, ⟨by (with_reducible repeat (first | apply Kd.S_alloc | apply Kd.S_drewN | apply Kd.S_drew)); exact HO_4.out⟩, ⟨by repeat (first | (with_reducible first | exact HB.out | apply below_alloc | apply pw_below_drewN | apply below_drew1) | exact HB.out)⟩⟩
                · replace c14 := Bool.eq_false_iff.mpr c14
                  subst c14
                  have H1 : (some false) = some r := by rw [if_neg (show ¬ (false = true) by decide)] at H; exact H
                  clear H
                  have H := H1
                  clear H1
                  obtain rfl := Option.some.inj H
                  try go_wp2
                  have n0_ := Aside0.mk (Kd.S_drew HO_3.out)
                  have n1_ := Aside0.mk (Kd.S_drew HO_4.out)
                  have n2_ := Aside0.mk (below_drew1 HB.out)
                  clear HO_3
                  clear HO_4
                  clear HB
                  have HO_3 := n0_
                  have HO_4 := n1_
                  have HB := n2_
                  clear n0_ n1_ n2_
                  have p139 : 0 ≤ (x5_1 : Int) := of_decide_eq_true (by first | (with_reducible assumption) | assumption)
                  have q139 : x5_1 < (t133.length : Int) := of_decide_eq_true (by first | (with_reducible assumption) | assumption)
                  obtain ⟨ad139, A139_5, c139_5, e139, hx139_0, hx139_1, hx139_2, hx139_3, hx139_4, hx139_5, hl139_5, hi139_5⟩ := at_T28 (Kd.S_reads' HO_3.out).2.2 x5_1 p139 q139
                  cases e139
                  obtain ⟨ce139, hce139, hMe139, hcc139⟩ := Kd.S_get HO_3.out z28 x5_1 p139 (by first | exact q139 | exact of_decide_eq_true (by first | (with_reducible assumption) | assumption) | (have e_ := (Kd.S_reads' HO_3.out).1; omega))
                  obtain ⟨ve139_5, rfl, ge139_5⟩ := k28_openM hMe139
                  have hv139_5 := hcc139 5 _ rfl
                  rw [add_field _ _ 5 (by omega)] at hv139_5
                  replace hv139_5 := Option.some.inj (hv139_5.symm.trans hx139_5)
                  rw [hv139_5] at ge139_5
                  have HL139_5 := Aside0.mk (show Kd.R (Kd.int .i64) 3 _ _ _ _ ((rd_T28 t133 x5_1).f5) from ge139_5)
                  clear hv139_5 ge139_5
                  clear hcc139 hce139
                  have HR139_5 := Aside0.mk hi139_5
                  have HC139_5 := Aside0.mk hl139_5
                  clear hi139_5 hl139_5
                  replace p139 := eq_true p139
                  replace q139 := eq_true q139
                  have p140 : 0 ≤ (x5_1 : Int) := of_decide_eq_true (by first | (with_reducible assumption) | assumption)
                  have q140 : x5_1 < (t136.length : Int) := of_decide_eq_true (by first | (with_reducible assumption) | assumption)
                  obtain ⟨ad140, A140_5, c140_5, e140, hx140_0, hx140_1, hx140_2, hx140_3, hx140_4, hx140_5, hl140_5, hi140_5⟩ := at_T28 (Kd.S_reads' HO_4.out).2.2 x5_1 p140 q140
                  cases e140
                  obtain ⟨ce140, hce140, hMe140, hcc140⟩ := Kd.S_get HO_4.out z28 x5_1 p140 (by first | exact q140 | exact of_decide_eq_true (by first | (with_reducible assumption) | assumption) | (have e_ := (Kd.S_reads' HO_4.out).1; omega))
                  obtain ⟨ve140_5, rfl, ge140_5⟩ := k28_openM hMe140
                  have hv140_5 := hcc140 5 _ rfl
                  rw [add_field _ _ 5 (by omega)] at hv140_5
                  replace hv140_5 := Option.some.inj (hv140_5.symm.trans hx140_5)
                  rw [hv140_5] at ge140_5
                  have HL140_5 := Aside0.mk (show Kd.R (Kd.int .i64) 3 _ _ _ _ ((rd_T28 t136 x5_1).f5) from ge140_5)
                  clear hv140_5 ge140_5
                  clear hcc140 hce140
                  have HR140_5 := Aside0.mk hi140_5
                  have HC140_5 := Aside0.mk hl140_5
                  clear hi140_5 hl140_5
                  replace p140 := eq_true p140
                  replace q140 := eq_true q140
                  refine start_ (n := 10) (S := fun w' => w'.cell? (ad139.add ((x5_1).toNat * 6)) = some (.int .i64 ((rd_T28 t133 x5_1).f0)) ∧ w'.cell? ⟨(ad139.add ((x5_1).toNat * 6)).block, (ad139.add ((x5_1).toNat * 6)).off + 1, none⟩ = some (.int .i64 ((rd_T28 t133 x5_1).f1)) ∧ w'.cell? ⟨(ad139.add ((x5_1).toNat * 6)).block, (ad139.add ((x5_1).toNat * 6)).off + 2, none⟩ = some (.int .i64 ((rd_T28 t133 x5_1).f2)) ∧ w'.cell? ⟨(ad139.add ((x5_1).toNat * 6)).block, (ad139.add ((x5_1).toNat * 6)).off + 3, none⟩ = some (.int .i64 ((rd_T28 t133 x5_1).f3)) ∧ w'.cell? ⟨(ad139.add ((x5_1).toNat * 6)).block, (ad139.add ((x5_1).toNat * 6)).off + 4, none⟩ = some (.string ((rd_T28 t133 x5_1).f4)) ∧ w'.cell? ⟨(ad139.add ((x5_1).toNat * 6)).block, (ad139.add ((x5_1).toNat * 6)).off + 5, none⟩ = some (.slice A139_5 ((rd_T28 t133 x5_1).f5).length c139_5) ∧ w'.cell? (ad140.add ((x5_1).toNat * 6)) = some (.int .i64 ((rd_T28 t136 x5_1).f0)) ∧ w'.cell? ⟨(ad140.add ((x5_1).toNat * 6)).block, (ad140.add ((x5_1).toNat * 6)).off + 1, none⟩ = some (.int .i64 ((rd_T28 t136 x5_1).f1)) ∧ w'.cell? ⟨(ad140.add ((x5_1).toNat * 6)).block, (ad140.add ((x5_1).toNat * 6)).off + 2, none⟩ = some (.int .i64 ((rd_T28 t136 x5_1).f2)) ∧ w'.cell? ⟨(ad140.add ((x5_1).toNat * 6)).block, (ad140.add ((x5_1).toNat * 6)).off + 3, none⟩ = some (.int .i64 ((rd_T28 t136 x5_1).f3)) ∧ w'.cell? ⟨(ad140.add ((x5_1).toNat * 6)).block, (ad140.add ((x5_1).toNat * 6)).off + 4, none⟩ = some (.string ((rd_T28 t136 x5_1).f4)) ∧ w'.cell? ⟨(ad140.add ((x5_1).toNat * 6)).block, (ad140.add ((x5_1).toNat * 6)).off + 5, none⟩ = some (.slice A140_5 ((rd_T28 t136 x5_1).f5).length c140_5)) (ds := []) #[false, false, false, false, false, false, false, false, false, false] (by kernel_rfl) rfl rfl ⟨hx139_0, hx139_1, hx139_2, hx139_3, hx139_4, hx139_5, hx140_0, hx140_1, hx140_2, hx140_3, hx140_4, hx140_5⟩ (fun hHeld => ?_); refine with_tabW cubbylaw15_MoveIns.tab10 cubbylaw15_MoveIns.bits10 (fun HT_ HW_ => ?_)
                  generalize wr.drew = w17 at HO_3 HO_4 HB HL139_5 HL140_5 HR139_5 HR140_5 hx139_0 hx139_1 hx139_2 hx139_3 hx139_4 hx139_5 hx140_0 hx140_1 hx140_2 hx140_3 hx140_4 hx140_5 hHeld ⊢
                  refine pure_ (i := 0) (N := some 24) (v := ?_) (a' := ?_) #[true, false, false, false, false, false, false, false, false, false] rfl rfl (any_of HT_.out (by kernel_rfl)) (fun _ _ _ h => h) (Or.inl ⟨by rfl, ?_⟩) ?_ ?_
                  rotate_left
                  · intro w'
                    go_simp
                    first | with_reducible rfl | (rw [if_neg (by (try simp only [ByteArray.size_extract, ByteArray.size_append] at *); (try simp only [eq_iff_iff, iff_true, iff_false] at *); omega)] <;> with_reducible rfl)
                  rotate_left
                  · simp only [Act.put, List.setIfInBounds_toArray, List.set_cons_zero, List.set_cons_succ, i64_w, i32_w]
                    rfl
                  refine pure_ (i := 1) (N := some 25) (v := ?_) (a' := ?_) #[true, true, false, false, false, false, false, false, false, false] rfl rfl (any_of HT_.out (by kernel_rfl)) (fun _ _ _ h => h) (Or.inl ⟨by rfl, ?_⟩) ?_ ?_
                  rotate_left
                  · intro w'
                    go_simp
                    first | with_reducible rfl | (rw [if_neg (by (try simp only [ByteArray.size_extract, ByteArray.size_append] at *); (try simp only [eq_iff_iff, iff_true, iff_false] at *); omega)] <;> with_reducible rfl)
                  rotate_left
                  · simp only [Act.put, List.setIfInBounds_toArray, List.set_cons_zero, List.set_cons_succ, i64_w, i32_w]
                    rfl
                  refine pure_ (i := 2) (N := some 26) (v := ?_) (a' := ?_) #[true, true, true, false, false, false, false, false, false, false] rfl rfl (any_of HT_.out (by kernel_rfl)) (fun _ _ _ h => h) (Or.inl ⟨by rfl, ?_⟩) ?_ ?_
                  rotate_left
                  · intro w'
                    go_simp
                    first | with_reducible rfl | (rw [if_neg (by (try simp only [ByteArray.size_extract, ByteArray.size_append] at *); (try simp only [eq_iff_iff, iff_true, iff_false] at *); omega)] <;> with_reducible rfl)
                  rotate_left
                  · simp only [Act.put, List.setIfInBounds_toArray, List.set_cons_zero, List.set_cons_succ, i64_w, i32_w]
                    rfl
                  refine pure_ (i := 4) (N := some 28) (v := ?_) (a' := ?_) #[true, true, true, false, true, false, false, false, false, false] rfl rfl (any_of HT_.out (by kernel_rfl)) (fun _ _ _ h => h) (Or.inl ⟨by rfl, ?_⟩) ?_ ?_
                  rotate_left
                  · intro w'
                    go_simp
                    first | with_reducible rfl | (rw [if_neg (by (try simp only [ByteArray.size_extract, ByteArray.size_append] at *); (try simp only [eq_iff_iff, iff_true, iff_false] at *); omega)] <;> with_reducible rfl)
                  rotate_left
                  · simp only [Act.put, List.setIfInBounds_toArray, List.set_cons_zero, List.set_cons_succ, i64_w, i32_w]
                    rfl
                  refine pure_ (i := 5) (N := some 29) (v := ?_) (a' := ?_) #[true, true, true, false, true, true, false, false, false, false] rfl rfl (any_of HT_.out (by kernel_rfl)) (fun _ _ _ h => h) (Or.inl ⟨by rfl, ?_⟩) ?_ ?_
                  rotate_left
                  · intro w'
                    go_simp
                    first | with_reducible rfl | (rw [if_neg (by (try simp only [ByteArray.size_extract, ByteArray.size_append] at *); (try simp only [eq_iff_iff, iff_true, iff_false] at *); omega)] <;> with_reducible rfl)
                  rotate_left
                  · simp only [Act.put, List.setIfInBounds_toArray, List.set_cons_zero, List.set_cons_succ, i64_w, i32_w]
                    rfl
                  refine pure_ (i := 6) (N := some 30) (v := ?_) (a' := ?_) #[true, true, true, false, true, true, true, false, false, false] rfl rfl (any_of HT_.out (by kernel_rfl)) (fun _ _ _ h => h) (Or.inl ⟨by rfl, ?_⟩) ?_ ?_
                  rotate_left
                  · intro w'
                    go_simp
                    first | with_reducible rfl | (rw [if_neg (by (try simp only [ByteArray.size_extract, ByteArray.size_append] at *); (try simp only [eq_iff_iff, iff_true, iff_false] at *); omega)] <;> with_reducible rfl)
                  rotate_left
                  · simp only [Act.put, List.setIfInBounds_toArray, List.set_cons_zero, List.set_cons_succ, i64_w, i32_w]
                    rfl
                  refine take_ (i := 3) (N := some 27) (v := ?_) (a' := ?_) #[true, true, true, true, true, true, true, false, false, false] rfl rfl (take_ofW HT_.out HW_.out (by kernel_rfl)) (fun _ _ _ h => h) (Or.inl ⟨by rfl, ?_⟩) hHeld ?_ ?_
                  rotate_left
                  · rintro w' ⟨s0, s1, s2, s3, s4, s5, s6, s7, s8, s9, s10, s11⟩
                    go_simp
                    first | with_reducible rfl | (rw [if_neg (by (try simp only [ByteArray.size_extract, ByteArray.size_append] at *); (try simp only [eq_iff_iff, iff_true, iff_false] at *); omega)] <;> with_reducible rfl)
                  rotate_left
                  · simp only [Act.put, List.setIfInBounds_toArray, List.set_cons_zero, List.set_cons_succ, i64_w, i32_w]
                    rfl
                  refine take_ (i := 7) (N := some 31) (v := ?_) (a' := ?_) #[true, true, true, true, true, true, true, true, false, false] rfl rfl (take_ofW HT_.out HW_.out (by kernel_rfl)) (fun _ _ _ h => h) (Or.inl ⟨by rfl, ?_⟩) hHeld ?_ ?_
                  rotate_left
                  · rintro w' ⟨s0, s1, s2, s3, s4, s5, s6, s7, s8, s9, s10, s11⟩
                    go_simp
                    first | with_reducible rfl | (rw [if_neg (by (try simp only [ByteArray.size_extract, ByteArray.size_append] at *); (try simp only [eq_iff_iff, iff_true, iff_false] at *); omega)] <;> with_reducible rfl)
                  rotate_left
                  · simp only [Act.put, List.setIfInBounds_toArray, List.set_cons_zero, List.set_cons_succ, i64_w, i32_w]
                    rfl
                  refine one_ (i := 8) (N := some 32) #[true, true, true, true, true, true, true, true, true, false] rfl rfl (one_of HT_.out (by kernel_rfl)) (by decide) (fun K hK => ?_)
                  refine goes_ Try.func12 (by kernel_rfl) rfl #[.agg #[.int .i64 ((rd_T28 t133 x5_1).f0), .int .i64 ((rd_T28 t133 x5_1).f1), .int .i64 ((rd_T28 t133 x5_1).f2), .int .i64 ((rd_T28 t133 x5_1).f3), .string ((rd_T28 t133 x5_1).f4), .slice A139_5 ((rd_T28 t133 x5_1).f5).length c139_5], .agg #[.int .i64 ((rd_T28 t136 x5_1).f0), .int .i64 ((rd_T28 t136 x5_1).f1), .int .i64 ((rd_T28 t136 x5_1).f2), .int .i64 ((rd_T28 t136 x5_1).f3), .string ((rd_T28 t136 x5_1).f4), .slice A140_5 ((rd_T28 t136 x5_1).f5).length c140_5]] (by rfl) rfl rfl (by (try simp only [List.map_toArray, List.map_cons, List.map_nil]); first | done | rfl | (simp only [List.length_drop, List.length_take]; rfl)) ?_
                  with_reducible refine (cubbyref07_Same.calls k1 ((rd_T28 t133 x5_1).f0) ((rd_T28 t133 x5_1).f1) ((rd_T28 t133 x5_1).f2) ((rd_T28 t133 x5_1).f3) ((rd_T28 t133 x5_1).f4) _ _ ((rd_T28 t133 x5_1).f5) ((rd_T28 t136 x5_1).f0) ((rd_T28 t136 x5_1).f1) ((rd_T28 t136 x5_1).f2) ((rd_T28 t136 x5_1).f3) ((rd_T28 t136 x5_1).f4) _ _ ((rd_T28 t136 x5_1).f5) false _ ?side1 ?side2 ?side3 ?side4 A13.out).mono ?_
                  (case side1 => repeat (first | exact (by repeat (first | (with_reducible exact HR139_5.out) | (with_reducible refine Kd.C_alloc ?_ _) | (with_reducible refine Kd.C_drewN ?_ _) | (with_reducible refine Kd.C_drew ?_) | exact HR139_5.out)) | (with_reducible refine Kd.C_alloc ?_ _) | (with_reducible refine Kd.C_drewN ?_ _) | (with_reducible refine Kd.C_drew ?_)))
                  (case side2 => exact HC139_5.out)
                  (case side3 => repeat (first | exact (by repeat (first | (with_reducible exact HR140_5.out) | (with_reducible refine Kd.C_alloc ?_ _) | (with_reducible refine Kd.C_drewN ?_ _) | (with_reducible refine Kd.C_drew ?_) | exact HR140_5.out)) | (with_reducible refine Kd.C_alloc ?_ _) | (with_reducible refine Kd.C_drewN ?_ _) | (with_reducible refine Kd.C_drew ?_)))
                  (case side4 => exact HC140_5.out)
                  rintro e w18 ⟨rfl, hb⟩
                  have HS0_ := (hb.cell (World.block_lt_of_cell? _ _ (hHeld.1))).trans (hHeld.1)
                  have HS1_ := (hb.cell (World.block_lt_of_cell? _ _ (hHeld.2.1))).trans (hHeld.2.1)
                  have HS2_ := (hb.cell (World.block_lt_of_cell? _ _ (hHeld.2.2.1))).trans (hHeld.2.2.1)
                  have HS3_ := (hb.cell (World.block_lt_of_cell? _ _ (hHeld.2.2.2.1))).trans (hHeld.2.2.2.1)
                  have HS4_ := (hb.cell (World.block_lt_of_cell? _ _ (hHeld.2.2.2.2.1))).trans (hHeld.2.2.2.2.1)
                  have HS5_ := (hb.cell (World.block_lt_of_cell? _ _ (hHeld.2.2.2.2.2.1))).trans (hHeld.2.2.2.2.2.1)
                  have HS6_ := (hb.cell (World.block_lt_of_cell? _ _ (hHeld.2.2.2.2.2.2.1))).trans (hHeld.2.2.2.2.2.2.1)
                  have HS7_ := (hb.cell (World.block_lt_of_cell? _ _ (hHeld.2.2.2.2.2.2.2.1))).trans (hHeld.2.2.2.2.2.2.2.1)
                  have HS8_ := (hb.cell (World.block_lt_of_cell? _ _ (hHeld.2.2.2.2.2.2.2.2.1))).trans (hHeld.2.2.2.2.2.2.2.2.1)
                  have HS9_ := (hb.cell (World.block_lt_of_cell? _ _ (hHeld.2.2.2.2.2.2.2.2.2.1))).trans (hHeld.2.2.2.2.2.2.2.2.2.1)
                  have HS10_ := (hb.cell (World.block_lt_of_cell? _ _ (hHeld.2.2.2.2.2.2.2.2.2.2.1))).trans (hHeld.2.2.2.2.2.2.2.2.2.2.1)
                  have HS11_ := (hb.cell (World.block_lt_of_cell? _ _ (hHeld.2.2.2.2.2.2.2.2.2.2.2))).trans (hHeld.2.2.2.2.2.2.2.2.2.2.2)
                  refine ⟨_, rfl, ?_⟩
                  have n0_ := Aside0.mk (Kd.S_below (by (with_reducible repeat (first | apply Kd.S_alloc | apply Kd.S_drewN | apply Kd.S_drew)); exact HO_3.out) hb)
                  have n1_ := Aside0.mk (Kd.S_below (by (with_reducible repeat (first | apply Kd.S_alloc | apply Kd.S_drewN | apply Kd.S_drew)); exact HO_4.out) hb)
                  have n2_ := Aside0.mk (Kd.R_below (by (with_reducible repeat (first | apply Kd.R_alloc | apply Kd.R_drewN | apply Kd.R_drew)); exact HL139_5.out) hb)
                  have n3_ := Aside0.mk (Kd.R_below (by (with_reducible repeat (first | apply Kd.R_alloc | apply Kd.R_drewN | apply Kd.R_drew)); exact HL140_5.out) hb)
                  have n4_ := Aside0.mk (Kd.C_below (by repeat (first | (with_reducible exact HR139_5.out) | (with_reducible refine Kd.C_alloc ?_ _) | (with_reducible refine Kd.C_drewN ?_ _) | (with_reducible refine Kd.C_drew ?_) | exact HR139_5.out)) hb)
                  have n5_ := Aside0.mk (Kd.C_below (by repeat (first | (with_reducible exact HR140_5.out) | (with_reducible refine Kd.C_alloc ?_ _) | (with_reducible refine Kd.C_drewN ?_ _) | (with_reducible refine Kd.C_drew ?_) | exact HR140_5.out)) hb)
                  have n6_ := Aside0.mk (below_step (by repeat (first | (with_reducible first | exact HB.out | apply below_alloc | apply pw_below_drewN | apply below_drew1) | exact HB.out)) hb)
                  clear HO_3
                  clear HO_4
                  clear HL139_5
                  clear HL140_5
                  clear HR139_5
                  clear HR140_5
                  clear HB
                  have HO_3 := n0_
                  have HO_4 := n1_
                  have HL139_5 := n2_
                  have HL140_5 := n3_
                  have HR139_5 := n4_
                  have HR140_5 := n5_
                  have HB := n6_
                  clear n0_ n1_ n2_ n3_ n4_ n5_ n6_
                  (try clear hb)
                  (try clear hb2)
                  (try clear hk)
                  (try clear hi)
                  refine hK.out _ _ ⟨HS0_, HS1_, HS2_, HS3_, HS4_, HS5_, HS6_, HS7_, HS8_, HS9_, HS10_, HS11_⟩ (fun hHeld => ?_)
                  clear hK K
                  refine norm_ (a' := ?_) ?_ ?_
                  rotate_left
                  · show Act.put _ (some 32) _ = _
                    simp only [Act.put, List.setIfInBounds_toArray, List.set_cons_zero, List.set_cons_succ, i64_w, i32_w]
                    rfl
                  refine pure_ (i := 9) (N := some 33) (v := ?_) (a' := ?_) #[true, true, true, true, true, true, true, true, true, true] rfl rfl (any_of HT_.out (by kernel_rfl)) (fun _ _ _ h => h) (Or.inl ⟨by rfl, ?_⟩) ?_ ?_
                  rotate_left
                  · intro w'
                    go_simp
                    first | with_reducible rfl | (rw [if_neg (by (try simp only [ByteArray.size_extract, ByteArray.size_append] at *); (try simp only [eq_iff_iff, iff_true, iff_false] at *); omega)] <;> with_reducible rfl)
                  rotate_left
                  · simp only [Act.put, List.setIfInBounds_toArray, List.set_cons_zero, List.set_cons_succ, i64_w, i32_w]
                    rfl
                  refine done_ (done_of HT_.out (by kernel_rfl)) ?_
                  try go_wp2
                  go_ret
                  exact ⟨by first | rfl | (simp [errW_none, errW_some] <;> rfl) | (simp [*, errW_none, errW_some] <;> rfl), by repeat (first | (with_reducible first | exact HB.out | apply below_alloc | apply pw_below_drewN | apply below_drew1) | exact HB.out)⟩
              · rw [if_neg c12] at H
                exact absurd H (by simp)
            · rw [if_neg c11] at H
              exact absurd H (by simp)
          · rw [if_neg c10] at H
            have c10b0 : decide (x5_1 < (t133.length : Int)) = false := decide_eq_false c10
            clear c10
            obtain rfl := Option.some.inj H
            go_wp2
            go_ret
            exact ⟨by first | rfl | (simp [errW_none, errW_some] <;> rfl) | (simp [*, errW_none, errW_some] <;> rfl), by repeat (first | (with_reducible first | exact HB.out | apply below_alloc | apply pw_below_drewN | apply below_drew1) | exact HB.out)⟩
    · rw [if_neg c5] at H
      have c5b0 : ((t133.length : Int) == (t136.length : Int)) = false := beq_eq_false_iff_ne.mpr c5
      have c5b1 : ((t133.length : Int) != (t136.length : Int)) = true := bne_iff_ne.mpr c5
      have c5b2 : (t133.length == t136.length) = false := by first | simpa using c5 | (simp at c5 ⊢; omega)
      obtain rfl := Option.some.inj H
      go_enter Try.func3, Try.ntmps3
      go_wp2_with (first | ((with_reducible refine gate_callee (f := 10) rfl ?_); refine goesL_ (some 10) rfl rfl Try.func10 (by kernel_rfl) rfl #[.slice A0 l0.length c0] rfl (by (try simp only [List.map_toArray, List.map_cons, List.map_nil]); first | done | rfl | (simp only [List.length_drop, List.length_take]; rfl)) ?_; (with_reducible refine (move_Ins.calls k _ _ l0 t133 _ ?side1 ?side2 A3.out).mono ?_); (case side1 => repeat (first | exact HR0.out | (with_reducible refine Kd.C_alloc ?_ _) | (with_reducible refine Kd.C_drewN ?_ _) | (with_reducible refine Kd.C_drew ?_))); (case side2 => exact HC0.out); rintro e w19 ⟨v134, rfl, ho0, hb⟩; refine ⟨_, rfl, ?_⟩; have n0_ := Aside0.mk (Kd.S_lower ho0 (below_size (by repeat (first | (with_reducible first | exact HB.out | apply below_alloc | apply pw_below_drewN | apply below_drew1) | exact HB.out)))); have n1_ := Aside0.mk (below_step (by repeat (first | (with_reducible first | exact HB.out | apply below_alloc | apply pw_below_drewN | apply below_drew1) | exact HB.out)) hb); clear HB; have HO135 := n0_; have HB := n1_; clear n0_ n1_; (try clear hb); (try clear hb2); (try clear hk); (try clear hi); (try clear ho0)) | ((with_reducible refine gate_callee (f := 11) rfl ?_); refine goesL_ (some 12) rfl rfl Try.func11 (by kernel_rfl) rfl #[.slice A0 l0.length c0] rfl (by (try simp only [List.map_toArray, List.map_cons, List.map_nil]); first | done | rfl | (simp only [List.length_drop, List.length_take]; rfl)) ?_; (with_reducible refine (cubbyref15_Ins.calls k _ _ l0 t136 _ ?side1 ?side2 A4.out).mono ?_); (case side1 => repeat (first | exact (Kd.C_below HR0.out HB.out) | (with_reducible refine Kd.C_alloc ?_ _) | (with_reducible refine Kd.C_drewN ?_ _) | (with_reducible refine Kd.C_drew ?_))); (case side2 => exact HC0.out); rintro e w20 ⟨v137, rfl, ho0, hb⟩; refine ⟨_, rfl, ?_⟩; have n0_ := Aside0.mk (Kd.S_elder' (by (with_reducible repeat (first | apply Kd.S_alloc | apply Kd.S_drewN | apply Kd.S_drew)); exact HO135.out) (Kd.S_base ho0) hb); have n1_ := Aside0.mk (Kd.S_lower (Kd.S_new' ho0 (Kd.S_lt (by (with_reducible repeat (first | apply Kd.S_alloc | apply Kd.S_drewN | apply Kd.S_drew)); exact HO135.out))) (below_size (by repeat (first | (with_reducible first | exact HB.out | apply below_alloc | apply pw_below_drewN | apply below_drew1) | exact HB.out)))); have n2_ := Aside0.mk (below_step (by repeat (first | (with_reducible first | exact HB.out | apply below_alloc | apply pw_below_drewN | apply below_drew1) | exact HB.out)) hb); clear HO135; clear HB; have HO135 := n0_; have HO138 := n1_; have HB := n2_; clear n0_ n1_ n2_; (try clear hb); (try clear hb2); (try clear hk); (try clear hi); (try clear ho0); obtain ⟨Ao21, co21, eo21⟩ := Kd.S_slice HO135.out; subst eo21; obtain ⟨Ao22, co22, eo22⟩ := Kd.S_slice HO138.out; subst eo22))
      go_ret
      exact ⟨by first | rfl | (simp [errW_none, errW_some] <;> rfl) | (simp [*, errW_none, errW_some] <;> rfl), by repeat (first | (with_reducible first | exact HB.out | apply below_alloc | apply pw_below_drewN | apply below_drew1) | exact HB.out)⟩
/-- THE ONE PURE STATEMENT of cubbylaw15_MoveIns: yours. -/
def cubbylaw15_MoveIns.Pure : Prop := ∀ (l0 : List (S31)), (l0.length ≤ maxLen ∧ l0.length * 16 ≤ 140737488351232 ∧ ∀ x ∈ l0, ((Lit.int .i64 x.f0).wf = true ∧ (Lit.int .i64 x.f1).wf = true)) → ∃ k, cubbylaw15_MoveIns.f k l0 = some true
theorem cubbylaw15_MoveIns.walk (P : cubbylaw15_MoveIns.Pure) (A0 : Option Addr) (c0 : Nat) (l0 : List (S31)) (w : World) (hr0 : Kd.C k31 w A0 l0.length l0) (hc0 : l0.length ≤ c0) (o0 : (l0.length ≤ maxLen ∧ l0.length * 16 ≤ 140737488351232 ∧ ∀ x ∈ l0, ((Lit.int .i64 x.f0).wf = true ∧ (Lit.int .i64 x.f1).wf = true))) :
    Calls Try.prog 3 #[.slice A0 l0.length c0] w fun e w' => e = .returned (.bool true) ∧ Below w.heap.size w w' := by
  obtain ⟨k, h⟩ := P l0 o0
  refine (cubbylaw15_MoveIns.calls k A0 c0 l0 true w hr0 hc0 h).mono ?_
  rintro e w' ⟨rfl, hd⟩
  exact ⟨rfl, hd⟩

end Go.Proofs.Ytjofkmeaofpbfaa.PMoveIns
