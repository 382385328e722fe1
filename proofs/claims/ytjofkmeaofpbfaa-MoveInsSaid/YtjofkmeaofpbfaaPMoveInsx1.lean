-- By a program of this session (wip/tools/mkprint.py), for this claim.
import Derived.Test.YtjofkmeaofpbfaaPMoveInsx0
namespace Go.Proofs.Ytjofkmeaofpbfaa.PMoveIns
open Go.RowKit Go.Proofs.YtjofkmeaofpbfaaW.PrintWords Go.Proofs.YtjofkmeaofpbfaaW.PrintLast Go.Proofs.YtjofkmeaofpbfaaW.PrintMore
attribute [local go_sem] max2_int min2_int max_two min_two max_three min_three max_four min_four   -- for this text's walks alone
set_option linter.unusedVariables false
set_option linter.unusedSimpArgs false

/-! ### move_Ins: function 10 -/
mutual
def move_Ins.l0 : Nat → List (S28) → List (S31) → Int → Int → Option ((List (S28)))
  | 0, _, _, _, _ => none
  | k + 1, x3, x6, x7, x8 => if x8 < x7 then (if 0 ≤ x8 then (if x8 < (x6.length : Int) then (if ((rd_T31 x6 x8).f0) ≥ 0 then (move_Ins.j1 k x3 x6 x7 x8 (decide (((rd_T31 x6 x8).f1) ≥ 0)) ((rd_T31 x6 x8).f0) ((rd_T31 x6 x8).f1)) else (move_Ins.j1 k x3 x6 x7 x8 false ((rd_T31 x6 x8).f0) ((rd_T31 x6 x8).f1))) else (none)) else (none)) else (some x3)
def move_Ins.j1 : Nat → List (S28) → List (S31) → Int → Int → Bool → Int → Int → Option ((List (S28)))
  | 0, _, _, _, _, _, _, _ => none
  | k + 1, x3, x6, x7, x8, x12, x103000, x103001 => if x12 = true then (if x3.length < 1954687338268 then (move_Ins.l0 k (x3 ++ [(⟨2, x103000, x103001, 0, (⟨#[]⟩ : ByteArray), ([] : List Int)⟩ : S28)]) x6 x7 (wrap64 (x8 + 1))) else (none)) else (if x103000 ≥ 0 then (if x3.length < 1954687338268 then (move_Ins.l0 k (x3 ++ [(⟨21, x103000, wrap64 ((-1) - x103001), 0, (⟨#[]⟩ : ByteArray), ([] : List Int)⟩ : S28)]) x6 x7 (wrap64 (x8 + 1))) else (none)) else (if x103001 ≥ 0 then (if x3.length < 1954687338268 then (move_Ins.l0 k (x3 ++ [(⟨22, wrap64 ((-1) - x103000), x103001, 0, (⟨#[]⟩ : ByteArray), ([] : List Int)⟩ : S28)]) x6 x7 (wrap64 (x8 + 1))) else (none)) else (move_Ins.l0 k x3 x6 x7 (wrap64 (x8 + 1)))))
end
def move_Ins.f (k : Nat) (l0 : List (S31)) : Option ((List (S28))) := move_Ins.l0 k ([] : List (S28)) l0 (l0.length : Int) 0
theorem move_Ins.mono_l : ∀ k, (∀ y0 y1 y2 y3, LeO (move_Ins.l0 k y0 y1 y2 y3) (move_Ins.l0 (k + 1) y0 y1 y2 y3)) ∧ (∀ y0 y1 y2 y3 y4 y5 y6, LeO (move_Ins.j1 k y0 y1 y2 y3 y4 y5 y6) (move_Ins.j1 (k + 1) y0 y1 y2 y3 y4 y5 y6))
  | 0 => ⟨fun _ _ _ _ r h => by simp [move_Ins.l0] at h, fun _ _ _ _ _ _ _ r h => by simp [move_Ins.j1] at h⟩
  | k + 1 => by
    obtain ⟨ih0, ih1⟩ := move_Ins.mono_l k
    refine ⟨?_, ?_⟩
    · intro y0 y1 y2 y3
      unfold move_Ins.l0
      repeat' first
      | (with_reducible exact ih0 _ _ _ _)
      | (with_reducible exact ih1 _ _ _ _ _ _ _)
      | (with_reducible exact LeO.refl _)
      | (with_reducible exact LeO.none _)
      | (with_reducible refine LeO.ite ?_ ?_)
      | (with_reducible refine LeO.bind ?_ (fun _ => ?_))
      | exact ih0 _ _ _ _
      | exact ih1 _ _ _ _ _ _ _
      | exact LeO.none _
      | refine LeO.ite ?_ ?_
      | refine LeO.bind ?_ (fun _ => ?_)
    · intro y0 y1 y2 y3 y4 y5 y6
      unfold move_Ins.j1
      repeat' first
      | (with_reducible exact ih0 _ _ _ _)
      | (with_reducible exact ih1 _ _ _ _ _ _ _)
      | (with_reducible exact LeO.refl _)
      | (with_reducible exact LeO.none _)
      | (with_reducible refine LeO.ite ?_ ?_)
      | (with_reducible refine LeO.bind ?_ (fun _ => ?_))
      | exact ih0 _ _ _ _
      | exact ih1 _ _ _ _ _ _ _
      | exact LeO.none _
      | refine LeO.ite ?_ ?_
      | refine LeO.bind ?_ (fun _ => ?_)
theorem move_Ins.mono : ∀ a0 k, LeO (move_Ins.f k a0) (move_Ins.f (k + 1) a0) := by
  intro a0 k
  obtain ⟨ih0, ih1⟩ := move_Ins.mono_l k
  unfold move_Ins.f
  repeat' first
      | (with_reducible exact ih0 _ _ _ _)
      | (with_reducible exact ih1 _ _ _ _ _ _ _)
      | (with_reducible exact LeO.refl _)
      | (with_reducible exact LeO.none _)
      | (with_reducible refine LeO.ite ?_ ?_)
      | (with_reducible refine LeO.bind ?_ (fun _ => ?_))
      | exact ih0 _ _ _ _
      | exact ih1 _ _ _ _ _ _ _
      | exact LeO.none _
      | refine LeO.ite ?_ ?_
      | refine LeO.bind ?_ (fun _ => ?_)
set_option maxHeartbeats 8000000 in
set_option maxRecDepth 100000 in
theorem move_Ins.calls (k : Nat) (A0 : Option Addr) (c0 : Nat) (l0 : List (S31)) (r : List (S28)) (w : World) (hr0 : Kd.C k31 w A0 l0.length l0) (hc0 : l0.length ≤ c0) (h : move_Ins.f k l0 = some r) :
    Calls Try.prog 10 #[.slice A0 l0.length c0] w fun e w' => ∃ v0_ : Value, e = .returned (v0_) ∧ Kd.S k28 28 w' w.heap.size (fun _ => True) v0_ r ∧ Below w.heap.size w w' := by
  have hu31 := Try.underlying31
  have hu28 := Try.underlying28
  have HR0 := Aside0.mk hr0
  have HC0 := Aside0.mk hc0
  clear hr0 hc0
  have HB := Aside0.mk (Below.refl w.heap.size w)
  have H : (move_Ins.l0 k ([] : List (S28)) l0 (l0.length : Int) 0) = some r := h
  clear h
  have H' := Aside0.mk H
  clear H
  go_enter Try.func10, Try.ntmps10
  go_wp2
  go_loopg [3, 8] k (fun kq v3 v8 w' => ∃ (x3_1 : List (S28)) (x8_1 : Int), v8 = .int .i64 x8_1 ∧ Aside0 (move_Ins.l0 kq x3_1 l0 (l0.length : Int) x8_1 = some r) ∧ Aside0 (kq ≤ k) ∧ Aside0 (Kd.S k28 28 w' w.heap.size (fun _ => True) v3 x3_1) ∧ Aside0 (Below w.heap.size w w'))
  case atStart => exact ⟨(([] : List (S28))), (0), (by first | rfl | (simp; done) | (simp [*]; done)), H', ⟨Nat.le_refl _⟩, ⟨by first | exact Kd.S_nil _ _ _ _ _ | exact Kd.N_nil _ _ _ _ _ | exact Kd.V_nil _ _ _ _ _ | exact Kd.Q_nil _ _ _ _ _ | exact Kd.R_nil _ _ _ _ _⟩, ⟨by repeat (first | (with_reducible first | exact HB.out | apply below_alloc | apply pw_below_drewN | apply below_drew1) | exact HB.out)⟩⟩
  case round =>
    clear H'
    try clear c1
    obtain ⟨x3_1, x8_1, rfl, HA, HK1, HO_3, HB⟩ := hrel
    cases gk with
    | zero => exact absurd HA.out (by simp [move_Ins.l0])
    | succ k1 =>
      have H := HA.out
      clear HA
      simp only [move_Ins.l0] at H
      by_cases c2 : x8_1 < (l0.length : Int)
      · rw [if_pos c2] at H
        have c2b0 : decide (x8_1 < (l0.length : Int)) = true := decide_eq_true c2
        clear c2
        by_cases c3 : 0 ≤ x8_1
        · rw [if_pos c3] at H
          have c3b0 : decide (0 ≤ x8_1) = true := decide_eq_true c3
          clear c3
          by_cases c4 : x8_1 < (l0.length : Int)
          · rw [if_pos c4] at H
            have c4b0 : decide (x8_1 < (l0.length : Int)) = true := decide_eq_true c4
            clear c4
            have HC5 := Aside0.mk H
            clear H
            have p101 : 0 ≤ (x8_1 : Int) := of_decide_eq_true (by first | (with_reducible assumption) | assumption)
            have q101 : x8_1 < (l0.length : Int) := of_decide_eq_true (by first | (with_reducible assumption) | assumption)
            obtain ⟨ad101, e101, hx101_0, hx101_1⟩ := at_T31 HR0.out x8_1 p101 q101
            cases e101
            replace hx101_0 := (HB.out.cell (World.block_lt_of_cell? w _ hx101_0)).trans hx101_0
            replace hx101_1 := (HB.out.cell (World.block_lt_of_cell? w _ hx101_1)).trans hx101_1
            replace p101 := eq_true p101
            replace q101 := eq_true q101
            go_upto_region 5 with (first | ((with_reducible refine gate_dst (N := 5) rfl ?_); refine box_event ?hg (N := 5) ?hd (cs := #[.int .i64 0, .int .i64 0]) (t := 31) ?hr ?_; (case hd => rfl); (case hg => rfl); (case hr => first | (go_simp; done) | (go_simp; rfl)); intro gb102 hg w6 hbox hb; have n0_ := Aside0.mk (Kd.S_below (by (with_reducible repeat (first | apply Kd.S_alloc | apply Kd.S_drewN | apply Kd.S_drew)); exact HO_3.out) hb); have n1_ := Aside0.mk (below_step (by repeat (first | (with_reducible first | exact HB.out | apply below_alloc | apply pw_below_drewN | apply below_drew1) | exact HB.out)) hb); have n2_ := Aside0.mk (hbox); have n3_ := Aside0.mk ((by rw [hg]; exact (below_size (by repeat (first | (with_reducible first | exact HB.out | apply below_alloc | apply pw_below_drewN | apply below_drew1) | exact HB.out))) : w.heap.size ≤ gb102)); have n4_ := Aside0.mk ((by rw [hg]; exact (below_size (by repeat (first | (with_reducible first | exact HB.out | apply below_alloc | apply pw_below_drewN | apply below_drew1) | exact HB.out))) : w.heap.size ≤ gb102)); clear HO_3; clear HB; have HO_3 := n0_; have HB := n1_; have BK102 := n2_; have GW102 := n3_; have GE102 := n4_; clear n0_ n1_ n2_ n3_ n4_; clear hb hbox hg; have hcz7_0 : w6.cell? ⟨gb102, 0, none⟩ = some (.int .i64 0) := (blk_cell BK102.out 0).trans rfl; have hcz7_1 : w6.cell? ⟨gb102, 1, none⟩ = some (.int .i64 0) := (blk_cell BK102.out 1).trans rfl; have hfz7_0 := blk_frozen BK102.out 0; have hfz7_1 := blk_frozen BK102.out 1))
            (try simp only [Act.put, List.setIfInBounds_toArray, List.set_cons_zero, List.set_cons_succ])
            go_cut [12] (fun v12 wc => ∃ (kq : Nat) (x12_4 : Bool), v12 = .bool x12_4 ∧ Aside0 (move_Ins.j1 kq x3_1 l0 (l0.length : Int) x8_1 x12_4 ((rd_T31 l0 x8_1).f0) ((rd_T31 l0 x8_1).f1) = some r) ∧ Aside0 (kq ≤ k1) ∧ Aside0 (Kd.S k28 28 wc w.heap.size (fun _ => True) u3 x3_1) ∧ Aside0 (wc.heap[gb102]? = some (.cells #[.int .i64 ((rd_T31 l0 x8_1).f0), .int .i64 ((rd_T31 l0 x8_1).f1)] 31 (0, 0))) ∧ Aside0 (Below w.heap.size w wc))
            case first =>
              have H := HC5.out
              clear HC5
              by_cases c8 : ((rd_T31 l0 x8_1).f0) ≥ 0
              · rw [if_pos c8] at H
                have c8b0 : decide (0 ≤ ((rd_T31 l0 x8_1).f0)) = true := decide_eq_true c8
                clear c8
                (first | rw [c8b0] | (simp only [i64_w, i32_w]; rw [c8b0]) | skip)
                have H' := Aside0.mk H
                clear H
                have hcz9_0 : w6.cell? ⟨gb102, 0, none⟩ = some (.int .i64 0) := (blk_cell BK102.out 0).trans rfl
                have hcz9_1 : w6.cell? ⟨gb102, 1, none⟩ = some (.int .i64 0) := (blk_cell BK102.out 1).trans rfl
                have hfz9_0 := blk_frozen BK102.out 0
                have hfz9_1 := blk_frozen BK102.out 1
                go_wp2
                go_meet
                case rel => exact ⟨_, (decide (((rd_T31 l0 x8_1).f1) ≥ 0)), (by first | rfl | (simp; done) | (simp [*]; done)), H', ⟨by have := HK1.out; first | omega | exact Nat.le_refl _⟩, ⟨by (with_reducible repeat (first | apply Kd.S_alloc | apply Kd.S_drewN | apply Kd.S_drew)); exact Kd.S_mono (Kd.S_far (p := ⟨gb102, 1, none⟩) (Kd.S_far (p := ⟨gb102, 0, none⟩) (Kd.S_types HO_3.out BK102.out (by decide)) (fun _ hk => hk.2) (.int .i64 ((rd_T31 l0 x8_1).f0))) (fun _ hk => hk.2) (.int .i64 ((rd_T31 l0 x8_1).f1))) (fun _ hk => trivial)⟩, ⟨by (with_reducible repeat (first | refine blk_drewN ?_ _ | refine blk_drew ?_ | refine blk_alloc ?_ _)); refine blk_put (cs := #[.int .i64 ((rd_T31 l0 x8_1).f0), .int .i64 0]) ?_ 1 _ rfl; (with_reducible repeat (first | refine blk_drewN ?_ _ | refine blk_drew ?_ | refine blk_alloc ?_ _)); refine blk_put (cs := #[.int .i64 0, .int .i64 0]) ?_ 0 _ rfl; (with_reducible repeat (first | refine blk_drewN ?_ _ | refine blk_drew ?_ | refine blk_alloc ?_ _)); exact BK102.out⟩, ⟨by repeat (first | (with_reducible first | exact HB.out | apply below_alloc | apply pw_below_drewN | apply below_drew1 | refine below_set ?_ GE102.out) | exact HB.out)⟩⟩
              · rw [if_neg c8] at H
                have c8b0 : decide (0 ≤ ((rd_T31 l0 x8_1).f0)) = false := decide_eq_false c8
                clear c8
                (first | rw [c8b0] | (simp only [i64_w, i32_w]; rw [c8b0]) | skip)
                have H' := Aside0.mk H
                clear H
                have hcz10_0 : w6.cell? ⟨gb102, 0, none⟩ = some (.int .i64 0) := (blk_cell BK102.out 0).trans rfl
                have hcz10_1 : w6.cell? ⟨gb102, 1, none⟩ = some (.int .i64 0) := (blk_cell BK102.out 1).trans rfl
                have hfz10_0 := blk_frozen BK102.out 0
                have hfz10_1 := blk_frozen BK102.out 1
                go_wp2
                go_meet
                case rel => exact ⟨_, (false), (by first | rfl | (simp; done) | (simp [*]; done)), H', ⟨by have := HK1.out; first | omega | exact Nat.le_refl _⟩, ⟨by (with_reducible repeat (first | apply Kd.S_alloc | apply Kd.S_drewN | apply Kd.S_drew)); exact Kd.S_mono (Kd.S_far (p := ⟨gb102, 1, none⟩) (Kd.S_far (p := ⟨gb102, 0, none⟩) (Kd.S_types HO_3.out BK102.out (by decide)) (fun _ hk => hk.2) (.int .i64 ((rd_T31 l0 x8_1).f0))) (fun _ hk => hk.2) (.int .i64 ((rd_T31 l0 x8_1).f1))) (fun _ hk => trivial)⟩, ⟨by (with_reducible repeat (first | refine blk_drewN ?_ _ | refine blk_drew ?_ | refine blk_alloc ?_ _)); refine blk_put (cs := #[.int .i64 ((rd_T31 l0 x8_1).f0), .int .i64 0]) ?_ 1 _ rfl; (with_reducible repeat (first | refine blk_drewN ?_ _ | refine blk_drew ?_ | refine blk_alloc ?_ _)); refine blk_put (cs := #[.int .i64 0, .int .i64 0]) ?_ 0 _ rfl; (with_reducible repeat (first | refine blk_drewN ?_ _ | refine blk_drew ?_ | refine blk_alloc ?_ _)); exact BK102.out⟩, ⟨by repeat (first | (with_reducible first | exact HB.out | apply below_alloc | apply pw_below_drewN | apply below_drew1 | refine below_set ?_ GE102.out) | exact HB.out)⟩⟩
            case rest =>
              clear HC5
              try clear c1
              try clear p1
              try clear q1
              try clear hx1
              try clear c2
              try clear c2b0
              try clear p2
              try clear c3
              try clear c3b0
              try clear c4
              try clear c4b0
              try clear c8
              try clear c8b0
              try clear c10
              try clear p10
              try clear q10
              try clear hx10
              try clear hcz10_0
              try clear hcz10_1
              try clear hcz7_0
              try clear hcz7_1
              try clear hcz9_0
              try clear hcz9_1
              try clear hfz10_0
              try clear hfz10_1
              try clear hfz7_0
              try clear hfz7_1
              try clear hfz9_0
              try clear hfz9_1
              try clear hx101_0
              try clear hx101_1
              try clear p101
              try clear q101
              obtain ⟨kq, x12_4, rfl, HA, HJ4, HO_3, BK102, HB⟩ := hcut
              cases kq with
              | zero => exact absurd HA.out (by simp [move_Ins.j1])
              | succ kj4 =>
                have H := HA.out
                clear HA
                simp only [move_Ins.j1] at H
                by_cases c11 : x12_4 = true
                · subst c11
                  have H1 : (if x3_1.length < 1954687338268 then (move_Ins.l0 kj4 (x3_1 ++ [(⟨2, ((rd_T31 l0 x8_1).f0), ((rd_T31 l0 x8_1).f1), 0, (⟨#[]⟩ : ByteArray), ([] : List Int)⟩ : S28)]) l0 (l0.length : Int) (wrap64 (x8_1 + 1))) else (none)) = some r := by rw [if_pos rfl] at H; exact H
                  clear H
                  have H := H1
                  clear H1
                  by_cases c12 : x3_1.length < 1954687338268
                  · rw [if_pos c12] at H
                    have LMc12 := Aside0.mk c12
                    clear c12
                    obtain ⟨y103, hy103⟩ : ∃ y_ : List (S28), y_ = (x3_1 ++ [(⟨2, ((rd_T31 l0 x8_1).f0), ((rd_T31 l0 x8_1).f1), 0, (⟨#[]⟩ : ByteArray), ([] : List Int)⟩ : S28)]) := ⟨_, rfl⟩
                    replace H : (move_Ins.l0 kj4 y103 l0 (l0.length : Int) (wrap64 (x8_1 + 1))) = some r := by first | (rw [hy103]; with_reducible exact H) | (have H2_ := (Option.bind_some _ _).symm.trans H; rw [hy103]; with_reducible exact H2_) | (have H2_ := (Option.bind_some _ _).symm.trans H; with_reducible exact H2_) | with_reducible exact H | (rw [hy103]; exact H) | exact H
                    have Ny103 := Aside0.mk hy103
                    clear hy103
                    have H' := Aside0.mk H
                    clear H
                    have hcz13_0 : wc.cell? ⟨gb102, 0, none⟩ = some (.int .i64 ((rd_T31 l0 x8_1).f0)) := (blk_cell BK102.out 0).trans rfl
                    have hcz13_1 : wc.cell? ⟨gb102, 1, none⟩ = some (.int .i64 ((rd_T31 l0 x8_1).f1)) := (blk_cell BK102.out 1).trans rfl
                    have hfz13_0 := blk_frozen BK102.out 0
                    have hfz13_1 := blk_frozen BK102.out 1
                    go_wp2_with (first | ((with_reducible refine gate_builtin (b := .append) (xs := #[.tmp 21, .tmp 27]) rfl ?_); at_builtin; refine Kd.S_append k28 (w0 := w) w.heap.size rfl (.tmp 21) (.tmp 27) 23 28 (.agg #[(.int .i64 0), (.int .i64 0), (.int .i64 0), (.int .i64 0), (.string ⟨#[]⟩), (.slice none 0 0)]) 72 rfl Try.underlying23 info28 rfl (by decide) (by omega) u3 x3_1 (⟨2, ((rd_T31 l0 x8_1).f0), ((rd_T31 l0 x8_1).f1), 0, (⟨#[]⟩ : ByteArray), ([] : List Int)⟩ : S28) [.int .i64 2, .int .i64 ((rd_T31 l0 x8_1).f0), .int .i64 ((rd_T31 l0 x8_1).f1), .int .i64 0, .string (⟨#[]⟩ : ByteArray), .slice none 0 0] (fun _ => True) (fun _ => False) rfl rfl ?aP (fun k_ hk_ => hk_.elim) ?aF ?aO ?aB ?aS ?aL ?_; (case aP => exact k28_mkM _ _ _ (⟨2, ((rd_T31 l0 x8_1).f0), ((rd_T31 l0 x8_1).f1), 0, (⟨#[]⟩ : ByteArray), ([] : List Int)⟩ : S28) (Kd.R_nil _ _ _ _ _)); (case aB => exact (by repeat (first | (with_reducible first | exact HB.out | apply below_alloc | apply pw_below_drewN | apply below_drew1 | refine below_set ?_ GE102.out) | exact HB.out))); (case aF => exact (fun _ _ => trivial)); (case aO => exact (by (with_reducible repeat (first | apply Kd.S_alloc | apply Kd.S_drewN | apply Kd.S_drew)); exact Kd.S_mono HO_3.out (fun k_ hk => ⟨trivial, fun e_ => e_⟩))); (case aS => exact (below_size (by repeat (first | (with_reducible first | exact HB.out | apply below_alloc | apply pw_below_drewN | apply below_drew1 | refine below_set ?_ GE102.out) | exact HB.out)))); (case aL => have := LMc12.out; omega); intro v104 w14 ho hb hg hat; rw [← Ny103.out] at ho; have n0_ := Aside0.mk (blk_grown (g := gb102) (o := .cells #[.int .i64 ((rd_T31 l0 x8_1).f0), .int .i64 ((rd_T31 l0 x8_1).f1)] 31 (0, 0)) (by (with_reducible repeat (first | refine blk_drewN ?_ _ | refine blk_drew ?_ | refine blk_alloc ?_ _)); exact BK102.out) hg (Kd.S_ne HO_3.out BK102.out (by decide))); have n1_ := Aside0.mk (hb); have n2_ := Aside0.mk (ho); clear BK102; clear HB; clear HO_3; have BK102 := n0_; have HB := n1_; have HO105 := n2_; clear n0_ n1_ n2_; clear ho hb hg hat))
                    go_roundg kj4
                    case measure => have := HK1.out; have := HJ4.out; omega
                    case rel => exact ⟨(y103), (wrap64 (x8_1 + 1)), (by first | rfl | (simp; done) | (simp [*]; done)), H', ⟨by have := HK1.out; have := HJ4.out; omega⟩, ⟨by (with_reducible repeat (first | apply Kd.S_alloc | apply Kd.S_drewN | apply Kd.S_drew)); exact HO105.out⟩, ⟨by repeat (first | (with_reducible first | exact HB.out | apply below_alloc | apply pw_below_drewN | apply below_drew1 | refine below_set ?_ GE102.out) | exact HB.out)⟩⟩
                  · rw [if_neg c12] at H
                    exact absurd H (by simp)
                · replace c11 := Bool.eq_false_iff.mpr c11
                  subst c11
                  have H1 : (if ((rd_T31 l0 x8_1).f0) ≥ 0 then (if x3_1.length < 1954687338268 then (move_Ins.l0 kj4 (x3_1 ++ [(⟨21, ((rd_T31 l0 x8_1).f0), wrap64 ((-1) - ((rd_T31 l0 x8_1).f1)), 0, (⟨#[]⟩ : ByteArray), ([] : List Int)⟩ : S28)]) l0 (l0.length : Int) (wrap64 (x8_1 + 1))) else (none)) else (if ((rd_T31 l0 x8_1).f1) ≥ 0 then (if x3_1.length < 1954687338268 then (move_Ins.l0 kj4 (x3_1 ++ [(⟨22, wrap64 ((-1) - ((rd_T31 l0 x8_1).f0)), ((rd_T31 l0 x8_1).f1), 0, (⟨#[]⟩ : ByteArray), ([] : List Int)⟩ : S28)]) l0 (l0.length : Int) (wrap64 (x8_1 + 1))) else (none)) else (move_Ins.l0 kj4 x3_1 l0 (l0.length : Int) (wrap64 (x8_1 + 1))))) = some r := by rw [if_neg (show ¬ (false = true) by decide)] at H; exact H
                  clear H
                  have H := H1
                  clear H1
                  by_cases c15 : ((rd_T31 l0 x8_1).f0) ≥ 0
                  · rw [if_pos c15] at H
                    have c15b0 : decide (0 ≤ ((rd_T31 l0 x8_1).f0)) = true := decide_eq_true c15
                    clear c15
                    by_cases c16 : x3_1.length < 1954687338268
                    · rw [if_pos c16] at H
                      have LMc16 := Aside0.mk c16
                      clear c16
                      obtain ⟨y106, hy106⟩ : ∃ y_ : List (S28), y_ = (x3_1 ++ [(⟨21, ((rd_T31 l0 x8_1).f0), wrap64 ((-1) - ((rd_T31 l0 x8_1).f1)), 0, (⟨#[]⟩ : ByteArray), ([] : List Int)⟩ : S28)]) := ⟨_, rfl⟩
                      replace H : (move_Ins.l0 kj4 y106 l0 (l0.length : Int) (wrap64 (x8_1 + 1))) = some r := by first | (rw [hy106]; with_reducible exact H) | (have H2_ := (Option.bind_some _ _).symm.trans H; rw [hy106]; with_reducible exact H2_) | (have H2_ := (Option.bind_some _ _).symm.trans H; with_reducible exact H2_) | with_reducible exact H | (rw [hy106]; exact H) | exact H
                      have Ny106 := Aside0.mk hy106
                      clear hy106
                      have H' := Aside0.mk H
                      clear H
                      have hcz17_0 : wc.cell? ⟨gb102, 0, none⟩ = some (.int .i64 ((rd_T31 l0 x8_1).f0)) := (blk_cell BK102.out 0).trans rfl
                      have hcz17_1 : wc.cell? ⟨gb102, 1, none⟩ = some (.int .i64 ((rd_T31 l0 x8_1).f1)) := (blk_cell BK102.out 1).trans rfl
                      have hfz17_0 := blk_frozen BK102.out 0
                      have hfz17_1 := blk_frozen BK102.out 1
                      go_wp2_with (first | ((with_reducible refine gate_builtin (b := .append) (xs := #[.tmp 33, .tmp 40]) rfl ?_); at_builtin; refine Kd.S_append k28 (w0 := w) w.heap.size rfl (.tmp 33) (.tmp 40) 23 28 (.agg #[(.int .i64 0), (.int .i64 0), (.int .i64 0), (.int .i64 0), (.string ⟨#[]⟩), (.slice none 0 0)]) 72 rfl Try.underlying23 info28 rfl (by decide) (by omega) u3 x3_1 (⟨21, ((rd_T31 l0 x8_1).f0), wrap64 ((-1) - ((rd_T31 l0 x8_1).f1)), 0, (⟨#[]⟩ : ByteArray), ([] : List Int)⟩ : S28) [.int .i64 21, .int .i64 ((rd_T31 l0 x8_1).f0), .int .i64 (wrap64 ((-1) - ((rd_T31 l0 x8_1).f1))), .int .i64 0, .string (⟨#[]⟩ : ByteArray), .slice none 0 0] (fun _ => True) (fun _ => False) rfl rfl ?aP (fun k_ hk_ => hk_.elim) ?aF ?aO ?aB ?aS ?aL ?_; (case aP => exact k28_mkM _ _ _ (⟨21, ((rd_T31 l0 x8_1).f0), wrap64 ((-1) - ((rd_T31 l0 x8_1).f1)), 0, (⟨#[]⟩ : ByteArray), ([] : List Int)⟩ : S28) (Kd.R_nil _ _ _ _ _)); (case aB => exact (by repeat (first | (with_reducible first | exact HB.out | apply below_alloc | apply pw_below_drewN | apply below_drew1 | refine below_set ?_ GE102.out) | exact HB.out))); (case aF => exact (fun _ _ => trivial)); (case aO => exact (by (with_reducible repeat (first | apply Kd.S_alloc | apply Kd.S_drewN | apply Kd.S_drew)); exact Kd.S_mono HO_3.out (fun k_ hk => ⟨trivial, fun e_ => e_⟩))); (case aS => exact (below_size (by repeat (first | (with_reducible first | exact HB.out | apply below_alloc | apply pw_below_drewN | apply below_drew1 | refine below_set ?_ GE102.out) | exact HB.out)))); (case aL => have := LMc16.out; omega); intro v107 w18 ho hb hg hat; rw [← Ny106.out] at ho; have n0_ := Aside0.mk (blk_grown (g := gb102) (o := .cells #[.int .i64 ((rd_T31 l0 x8_1).f0), .int .i64 ((rd_T31 l0 x8_1).f1)] 31 (0, 0)) (by (with_reducible repeat (first | refine blk_drewN ?_ _ | refine blk_drew ?_ | refine blk_alloc ?_ _)); exact BK102.out) hg (Kd.S_ne HO_3.out BK102.out (by decide))); have n1_ := Aside0.mk (hb); have n2_ := Aside0.mk (ho); clear BK102; clear HB; clear HO_3; have BK102 := n0_; have HB := n1_; have HO108 := n2_; clear n0_ n1_ n2_; clear ho hb hg hat))
                      go_roundg kj4
                      case measure => have := HK1.out; have := HJ4.out; omega
                      case rel => exact ⟨(y106), (wrap64 (x8_1 + 1)), (by first | rfl | (simp; done) | (simp [*]; done)), H', ⟨by have := HK1.out; have := HJ4.out; omega⟩, ⟨by (with_reducible repeat (first | apply Kd.S_alloc | apply Kd.S_drewN | apply Kd.S_drew)); exact HO108.out⟩, ⟨by repeat (first | (with_reducible first | exact HB.out | apply below_alloc | apply pw_below_drewN | apply below_drew1 | refine below_set ?_ GE102.out) | exact HB.out)⟩⟩
                    · rw [if_neg c16] at H
                      exact absurd H (by simp)
                  · rw [if_neg c15] at H
                    have c15b0 : decide (0 ≤ ((rd_T31 l0 x8_1).f0)) = false := decide_eq_false c15
                    clear c15
                    by_cases c19 : ((rd_T31 l0 x8_1).f1) ≥ 0
                    · rw [if_pos c19] at H
                      have c19b0 : decide (0 ≤ ((rd_T31 l0 x8_1).f1)) = true := decide_eq_true c19
                      clear c19
                      by_cases c20 : x3_1.length < 1954687338268
                      · rw [if_pos c20] at H
                        have LMc20 := Aside0.mk c20
                        clear c20
                        obtain ⟨y109, hy109⟩ : ∃ y_ : List (S28), y_ = (x3_1 ++ [(⟨22, wrap64 ((-1) - ((rd_T31 l0 x8_1).f0)), ((rd_T31 l0 x8_1).f1), 0, (⟨#[]⟩ : ByteArray), ([] : List Int)⟩ : S28)]) := ⟨_, rfl⟩
                        replace H : (move_Ins.l0 kj4 y109 l0 (l0.length : Int) (wrap64 (x8_1 + 1))) = some r := by first | (rw [hy109]; with_reducible exact H) | (have H2_ := (Option.bind_some _ _).symm.trans H; rw [hy109]; with_reducible exact H2_) | (have H2_ := (Option.bind_some _ _).symm.trans H; with_reducible exact H2_) | with_reducible exact H | (rw [hy109]; exact H) | exact H
                        have Ny109 := Aside0.mk hy109
                        clear hy109
                        have H' := Aside0.mk H
                        clear H
                        have hcz21_0 : wc.cell? ⟨gb102, 0, none⟩ = some (.int .i64 ((rd_T31 l0 x8_1).f0)) := (blk_cell BK102.out 0).trans rfl
                        have hcz21_1 : wc.cell? ⟨gb102, 1, none⟩ = some (.int .i64 ((rd_T31 l0 x8_1).f1)) := (blk_cell BK102.out 1).trans rfl
                        have hfz21_0 := blk_frozen BK102.out 0
                        have hfz21_1 := blk_frozen BK102.out 1
                        go_wp2_with (first | ((with_reducible refine gate_builtin (b := .append) (xs := #[.tmp 46, .tmp 53]) rfl ?_); at_builtin; refine Kd.S_append k28 (w0 := w) w.heap.size rfl (.tmp 46) (.tmp 53) 23 28 (.agg #[(.int .i64 0), (.int .i64 0), (.int .i64 0), (.int .i64 0), (.string ⟨#[]⟩), (.slice none 0 0)]) 72 rfl Try.underlying23 info28 rfl (by decide) (by omega) u3 x3_1 (⟨22, wrap64 ((-1) - ((rd_T31 l0 x8_1).f0)), ((rd_T31 l0 x8_1).f1), 0, (⟨#[]⟩ : ByteArray), ([] : List Int)⟩ : S28) [.int .i64 22, .int .i64 (wrap64 ((-1) - ((rd_T31 l0 x8_1).f0))), .int .i64 ((rd_T31 l0 x8_1).f1), .int .i64 0, .string (⟨#[]⟩ : ByteArray), .slice none 0 0] (fun _ => True) (fun _ => False) rfl rfl ?aP (fun k_ hk_ => hk_.elim) ?aF ?aO ?aB ?aS ?aL ?_; (case aP => exact k28_mkM _ _ _ (⟨22, wrap64 ((-1) - ((rd_T31 l0 x8_1).f0)), ((rd_T31 l0 x8_1).f1), 0, (⟨#[]⟩ : ByteArray), ([] : List Int)⟩ : S28) (Kd.R_nil _ _ _ _ _)); (case aB => exact (by repeat (first | (with_reducible first | exact HB.out | apply below_alloc | apply pw_below_drewN | apply below_drew1 | refine below_set ?_ GE102.out) | exact HB.out))); (case aF => exact (fun _ _ => trivial)); (case aO => exact (by (with_reducible repeat (first | apply Kd.S_alloc | apply Kd.S_drewN | apply Kd.S_drew)); exact Kd.S_mono HO_3.out (fun k_ hk => ⟨trivial, fun e_ => e_⟩))); (case aS => exact (below_size (by repeat (first | (with_reducible first | exact HB.out | apply below_alloc | apply pw_below_drewN | apply below_drew1 | refine below_set ?_ GE102.out) | exact HB.out)))); (case aL => have := LMc20.out; omega); intro v110 w22 ho hb hg hat; rw [← Ny109.out] at ho; have n0_ := Aside0.mk (blk_grown (g := gb102) (o := .cells #[.int .i64 ((rd_T31 l0 x8_1).f0), .int .i64 ((rd_T31 l0 x8_1).f1)] 31 (0, 0)) (by (with_reducible repeat (first | refine blk_drewN ?_ _ | refine blk_drew ?_ | refine blk_alloc ?_ _)); exact BK102.out) hg (Kd.S_ne HO_3.out BK102.out (by decide))); have n1_ := Aside0.mk (hb); have n2_ := Aside0.mk (ho); clear BK102; clear HB; clear HO_3; have BK102 := n0_; have HB := n1_; have HO111 := n2_; clear n0_ n1_ n2_; clear ho hb hg hat))
                        go_roundg kj4
                        case measure => have := HK1.out; have := HJ4.out; omega
                        case rel => exact ⟨(y109), (wrap64 (x8_1 + 1)), (by first | rfl | (simp; done) | (simp [*]; done)), H', ⟨by have := HK1.out; have := HJ4.out; omega⟩, ⟨by (with_reducible repeat (first | apply Kd.S_alloc | apply Kd.S_drewN | apply Kd.S_drew)); exact HO111.out⟩, ⟨by repeat (first | (with_reducible first | exact HB.out | apply below_alloc | apply pw_below_drewN | apply below_drew1 | refine below_set ?_ GE102.out) | exact HB.out)⟩⟩
                      · rw [if_neg c20] at H
                        exact absurd H (by simp)
                    · rw [if_neg c19] at H
                      have c19b0 : decide (0 ≤ ((rd_T31 l0 x8_1).f1)) = false := decide_eq_false c19
                      clear c19
                      have H' := Aside0.mk H
                      clear H
                      have hcz23_0 : wc.cell? ⟨gb102, 0, none⟩ = some (.int .i64 ((rd_T31 l0 x8_1).f0)) := (blk_cell BK102.out 0).trans rfl
                      have hcz23_1 : wc.cell? ⟨gb102, 1, none⟩ = some (.int .i64 ((rd_T31 l0 x8_1).f1)) := (blk_cell BK102.out 1).trans rfl
                      have hfz23_0 := blk_frozen BK102.out 0
                      have hfz23_1 := blk_frozen BK102.out 1
                      go_wp2
                      go_roundg kj4
                      case measure => have := HK1.out; have := HJ4.out; omega
                      case rel => exact ⟨(x3_1), (wrap64 (x8_1 + 1)), (by first | rfl | (simp; done) | (simp [*]; done)), H', ⟨by have := HK1.out; have := HJ4.out; omega⟩, ⟨by (with_reducible repeat (first | apply Kd.S_alloc | apply Kd.S_drewN | apply Kd.S_drew)); exact HO_3.out⟩, ⟨by repeat (first | (with_reducible first | exact HB.out | apply below_alloc | apply pw_below_drewN | apply below_drew1 | refine below_set ?_ GE102.out) | exact HB.out)⟩⟩
          · rw [if_neg c4] at H
            exact absurd H (by simp)
        · rw [if_neg c3] at H
          exact absurd H (by simp)
      · rw [if_neg c2] at H
        have c2b0 : decide (x8_1 < (l0.length : Int)) = false := decide_eq_false c2
        clear c2
        obtain rfl := Option.some.inj H
        go_wp2
        go_ret
        exact ⟨_, by first | rfl | (simp [errW_none, errW_some] <;> rfl) | (simp [*, errW_none, errW_some] <;> rfl), by (with_reducible repeat (first | apply Kd.S_alloc | apply Kd.S_drewN | apply Kd.S_drew)); exact HO_3.out, by repeat (first | (with_reducible first | exact HB.out | apply below_alloc | apply pw_below_drewN | apply below_drew1) | exact HB.out)⟩

/-! ### cubbyref15_Ins: function 11 -/
mutual
def cubbyref15_Ins.l0 : Nat → List (S31) → List (S28) → Int → Option ((List (S28)))
  | 0, _, _, _ => none
  | k + 1, x0, x3, x4 => if x4 < (x0.length : Int) then (if 0 ≤ x4 then (if ((rd_T31 x0 x4).f0) ≥ 0 then (cubbyref15_Ins.j1 k x0 x3 x4 (decide (((rd_T31 x0 x4).f1) ≥ 0)) ((rd_T31 x0 x4).f0) ((rd_T31 x0 x4).f1)) else (cubbyref15_Ins.j1 k x0 x3 x4 false ((rd_T31 x0 x4).f0) ((rd_T31 x0 x4).f1))) else (none)) else (some x3)
def cubbyref15_Ins.j1 : Nat → List (S31) → List (S28) → Int → Bool → Int → Int → Option ((List (S28)))
  | 0, _, _, _, _, _, _ => none
  | k + 1, x0, x3, x4, x24, x117000, x117001 => if x24 = true then (if x3.length < 1954687338268 then (cubbyref15_Ins.j2 k x0 (x3 ++ [(⟨2, x117000, x117001, 0, (⟨#[]⟩ : ByteArray), ([] : List Int)⟩ : S28)]) x4 x117000 x117001) else (none)) else (cubbyref15_Ins.j2 k x0 x3 x4 x117000 x117001)
def cubbyref15_Ins.j2 : Nat → List (S31) → List (S28) → Int → Int → Int → Option ((List (S28)))
  | 0, _, _, _, _, _ => none
  | k + 1, x0, x3, x4, x117000, x117001 => if x117000 ≥ 0 then (cubbyref15_Ins.j3 k x0 x3 x4 (decide (x117001 < 0)) x117000 x117001) else (cubbyref15_Ins.j3 k x0 x3 x4 false x117000 x117001)
def cubbyref15_Ins.j3 : Nat → List (S31) → List (S28) → Int → Bool → Int → Int → Option ((List (S28)))
  | 0, _, _, _, _, _, _ => none
  | k + 1, x0, x3, x4, x40, x117000, x117001 => if x40 = true then (if x3.length < 1954687338268 then ((some (x3 ++ [(⟨21, x117000, wrap64 ((-1) - x117001), 0, (⟨#[]⟩ : ByteArray), ([] : List Int)⟩ : S28)] : List (S28))).bind fun y120 => (if x117000 < 0 then (if x117001 ≥ 0 then (if y120.length < 1954687338268 then (cubbyref15_Ins.l0 k x0 (y120 ++ [(⟨22, wrap64 ((-1) - x117000), x117001, 0, (⟨#[]⟩ : ByteArray), ([] : List Int)⟩ : S28)]) (wrap64 (x4 + 1))) else (none)) else (cubbyref15_Ins.l0 k x0 y120 (wrap64 (x4 + 1)))) else (cubbyref15_Ins.l0 k x0 y120 (wrap64 (x4 + 1))))) else (none)) else (if x117000 < 0 then (if x117001 ≥ 0 then (if x3.length < 1954687338268 then (cubbyref15_Ins.l0 k x0 (x3 ++ [(⟨22, wrap64 ((-1) - x117000), x117001, 0, (⟨#[]⟩ : ByteArray), ([] : List Int)⟩ : S28)]) (wrap64 (x4 + 1))) else (none)) else (cubbyref15_Ins.l0 k x0 x3 (wrap64 (x4 + 1)))) else (cubbyref15_Ins.l0 k x0 x3 (wrap64 (x4 + 1))))
end
def cubbyref15_Ins.f (k : Nat) (l0 : List (S31)) : Option ((List (S28))) := cubbyref15_Ins.l0 k l0 (([] : List (S28))) 0
theorem cubbyref15_Ins.mono_l : ∀ k, (∀ y0 y1 y2, LeO (cubbyref15_Ins.l0 k y0 y1 y2) (cubbyref15_Ins.l0 (k + 1) y0 y1 y2)) ∧ (∀ y0 y1 y2 y3 y4 y5, LeO (cubbyref15_Ins.j1 k y0 y1 y2 y3 y4 y5) (cubbyref15_Ins.j1 (k + 1) y0 y1 y2 y3 y4 y5)) ∧ (∀ y0 y1 y2 y3 y4, LeO (cubbyref15_Ins.j2 k y0 y1 y2 y3 y4) (cubbyref15_Ins.j2 (k + 1) y0 y1 y2 y3 y4)) ∧ (∀ y0 y1 y2 y3 y4 y5, LeO (cubbyref15_Ins.j3 k y0 y1 y2 y3 y4 y5) (cubbyref15_Ins.j3 (k + 1) y0 y1 y2 y3 y4 y5))
  | 0 => ⟨fun _ _ _ r h => by simp [cubbyref15_Ins.l0] at h, fun _ _ _ _ _ _ r h => by simp [cubbyref15_Ins.j1] at h, fun _ _ _ _ _ r h => by simp [cubbyref15_Ins.j2] at h, fun _ _ _ _ _ _ r h => by simp [cubbyref15_Ins.j3] at h⟩
  | k + 1 => by
    obtain ⟨ih0, ih1, ih2, ih3⟩ := cubbyref15_Ins.mono_l k
    refine ⟨?_, ?_, ?_, ?_⟩
    · intro y0 y1 y2
      unfold cubbyref15_Ins.l0
      repeat' first
      | (with_reducible exact ih0 _ _ _)
      | (with_reducible exact ih1 _ _ _ _ _ _)
      | (with_reducible exact ih2 _ _ _ _ _)
      | (with_reducible exact ih3 _ _ _ _ _ _)
      | (with_reducible exact LeO.refl _)
      | (with_reducible exact LeO.none _)
      | (with_reducible refine LeO.ite ?_ ?_)
      | (with_reducible refine LeO.bind ?_ (fun _ => ?_))
      | exact ih0 _ _ _
      | exact ih1 _ _ _ _ _ _
      | exact ih2 _ _ _ _ _
      | exact ih3 _ _ _ _ _ _
      | exact LeO.none _
      | refine LeO.ite ?_ ?_
      | refine LeO.bind ?_ (fun _ => ?_)
    · intro y0 y1 y2 y3 y4 y5
      unfold cubbyref15_Ins.j1
      repeat' first
      | (with_reducible exact ih0 _ _ _)
      | (with_reducible exact ih1 _ _ _ _ _ _)
      | (with_reducible exact ih2 _ _ _ _ _)
      | (with_reducible exact ih3 _ _ _ _ _ _)
      | (with_reducible exact LeO.refl _)
      | (with_reducible exact LeO.none _)
      | (with_reducible refine LeO.ite ?_ ?_)
      | (with_reducible refine LeO.bind ?_ (fun _ => ?_))
      | exact ih0 _ _ _
      | exact ih1 _ _ _ _ _ _
      | exact ih2 _ _ _ _ _
      | exact ih3 _ _ _ _ _ _
      | exact LeO.none _
      | refine LeO.ite ?_ ?_
      | refine LeO.bind ?_ (fun _ => ?_)
    · intro y0 y1 y2 y3 y4
      unfold cubbyref15_Ins.j2
      repeat' first
      | (with_reducible exact ih0 _ _ _)
      | (with_reducible exact ih1 _ _ _ _ _ _)
      | (with_reducible exact ih2 _ _ _ _ _)
      | (with_reducible exact ih3 _ _ _ _ _ _)
      | (with_reducible exact LeO.refl _)
      | (with_reducible exact LeO.none _)
      | (with_reducible refine LeO.ite ?_ ?_)
      | (with_reducible refine LeO.bind ?_ (fun _ => ?_))
      | exact ih0 _ _ _
      | exact ih1 _ _ _ _ _ _
      | exact ih2 _ _ _ _ _
      | exact ih3 _ _ _ _ _ _
      | exact LeO.none _
      | refine LeO.ite ?_ ?_
      | refine LeO.bind ?_ (fun _ => ?_)
    · intro y0 y1 y2 y3 y4 y5
      unfold cubbyref15_Ins.j3
      repeat' first
      | (with_reducible exact ih0 _ _ _)
      | (with_reducible exact ih1 _ _ _ _ _ _)
      | (with_reducible exact ih2 _ _ _ _ _)
      | (with_reducible exact ih3 _ _ _ _ _ _)
      | (with_reducible exact LeO.refl _)
      | (with_reducible exact LeO.none _)
      | (with_reducible refine LeO.ite ?_ ?_)
      | (with_reducible refine LeO.bind ?_ (fun _ => ?_))
      | exact ih0 _ _ _
      | exact ih1 _ _ _ _ _ _
      | exact ih2 _ _ _ _ _
      | exact ih3 _ _ _ _ _ _
      | exact LeO.none _
      | refine LeO.ite ?_ ?_
      | refine LeO.bind ?_ (fun _ => ?_)
theorem cubbyref15_Ins.mono : ∀ a0 k, LeO (cubbyref15_Ins.f k a0) (cubbyref15_Ins.f (k + 1) a0) := by
  intro a0 k
  obtain ⟨ih0, ih1, ih2, ih3⟩ := cubbyref15_Ins.mono_l k
  unfold cubbyref15_Ins.f
  repeat' first
      | (with_reducible exact ih0 _ _ _)
      | (with_reducible exact ih1 _ _ _ _ _ _)
      | (with_reducible exact ih2 _ _ _ _ _)
      | (with_reducible exact ih3 _ _ _ _ _ _)
      | (with_reducible exact LeO.refl _)
      | (with_reducible exact LeO.none _)
      | (with_reducible refine LeO.ite ?_ ?_)
      | (with_reducible refine LeO.bind ?_ (fun _ => ?_))
      | exact ih0 _ _ _
      | exact ih1 _ _ _ _ _ _
      | exact ih2 _ _ _ _ _
      | exact ih3 _ _ _ _ _ _
      | exact LeO.none _
      | refine LeO.ite ?_ ?_
      | refine LeO.bind ?_ (fun _ => ?_)
set_option maxHeartbeats 8000000 in
set_option maxRecDepth 100000 in
theorem cubbyref15_Ins.calls (k : Nat) (A0 : Option Addr) (c0 : Nat) (l0 : List (S31)) (r : List (S28)) (w : World) (hr0 : Kd.C k31 w A0 l0.length l0) (hc0 : l0.length ≤ c0) (h : cubbyref15_Ins.f k l0 = some r) :
    Calls Try.prog 11 #[.slice A0 l0.length c0] w fun e w' => ∃ v0_ : Value, e = .returned (v0_) ∧ Kd.S k28 28 w' w.heap.size (fun _ => True) v0_ r ∧ Below w.heap.size w w' := by
  have hu31 := Try.underlying31
  have hu28 := Try.underlying28
  have HR0 := Aside0.mk hr0
  have HC0 := Aside0.mk hc0
  clear hr0 hc0
  have HB := Aside0.mk (Below.refl w.heap.size w)
  have H : (cubbyref15_Ins.l0 k l0 (([] : List (S28))) 0) = some r := h
  clear h
  obtain ⟨y112, hy112⟩ : ∃ y_ : List (S28), y_ = (([] : List (S28))) := ⟨_, rfl⟩
  replace H : (cubbyref15_Ins.l0 k l0 y112 0) = some r := by first | (rw [hy112]; with_reducible exact H) | (have H2_ := (Option.bind_some _ _).symm.trans H; rw [hy112]; with_reducible exact H2_) | (have H2_ := (Option.bind_some _ _).symm.trans H; with_reducible exact H2_) | with_reducible exact H | (rw [hy112]; exact H) | exact H
  have Ny112 := Aside0.mk hy112
  clear hy112
  have H' := Aside0.mk H
  clear H
  go_enter Try.func11, Try.ntmps11
  go_wp2_with (first | ((with_reducible refine gate_dst (N := 6) rfl ?_); refine Kd.S_lit k28 _ 28 ?hg (N := 6) ?hd (xs := ([] : List (S28))) (inner := []) (ok := fun _ => True) (okp := fun _ => True) ?hr ?hp (fun _ hk => hk) trivial (Below.refl _ _) (Nat.le_refl _) (by simp) ?_; (case hd => rfl); (case hg => rfl); (case hr => first | (go_simp; done) | (go_simp; rfl)); (case hp => exact (Reps.none _ _)); intro v113 w2 ho3 hb hg_ hnew_; clear hg_ hnew_; (first | rw [← Ny112.out] at ho3 | (simp only [Int.reduceToNat] at ho3; rw [← Ny112.out] at ho3)); have n0_ := Aside0.mk (Kd.S_lower ho3 (below_size (by repeat (first | (with_reducible first | exact HB.out | apply below_alloc | apply pw_below_drewN | apply below_drew1) | exact HB.out)))); have n1_ := Aside0.mk (below_step (by repeat (first | (with_reducible first | exact HB.out | apply below_alloc | apply pw_below_drewN | apply below_drew1) | exact HB.out)) hb); clear HB; have HO114 := n0_; have HB := n1_; clear n0_ n1_; clear hb ho3))
  go_loopg [3, 4] k (fun kq v3 v4 w' => ∃ (x3_1 : List (S28)) (x4_1 : Int), v4 = .int .i64 x4_1 ∧ Aside0 (cubbyref15_Ins.l0 kq l0 x3_1 x4_1 = some r) ∧ Aside0 (kq ≤ k) ∧ Aside0 (Kd.S k28 28 w' w.heap.size (fun _ => True) v3 x3_1) ∧ Aside0 (Below w.heap.size w w'))
  case atStart => exact ⟨(y112), (0), (by first | rfl | (simp; done) | (simp [*]; done)), H', ⟨Nat.le_refl _⟩, ⟨by (with_reducible repeat (first | apply Kd.S_alloc | apply Kd.S_drewN | apply Kd.S_drew)); exact HO114.out⟩, ⟨by repeat (first | (with_reducible first | exact HB.out | apply below_alloc | apply pw_below_drewN | apply below_drew1) | exact HB.out)⟩⟩
  case round =>
    clear H'
    try clear c1
    try clear p2
    obtain ⟨x3_1, x4_1, rfl, HA, HK1, HO_3, HB⟩ := hrel
    cases gk with
    | zero => exact absurd HA.out (by simp [cubbyref15_Ins.l0])
    | succ k1 =>
      have H := HA.out
      clear HA
      simp only [cubbyref15_Ins.l0] at H
      by_cases c4 : x4_1 < (l0.length : Int)
      · rw [if_pos c4] at H
        have c4b0 : decide (x4_1 < (l0.length : Int)) = true := decide_eq_true c4
        clear c4
        by_cases c5 : 0 ≤ x4_1
        · rw [if_pos c5] at H
          have c5b0 : decide (0 ≤ x4_1) = true := decide_eq_true c5
          clear c5
          have HC6 := Aside0.mk H
          clear H
          have p115 : 0 ≤ (x4_1 : Int) := of_decide_eq_true (by first | (with_reducible assumption) | assumption)
          have q115 : x4_1 < (l0.length : Int) := of_decide_eq_true (by first | (with_reducible assumption) | assumption)
          obtain ⟨ad115, e115, hx115_0, hx115_1⟩ := at_T31 HR0.out x4_1 p115 q115
          cases e115
          replace hx115_0 := (HB.out.cell (World.block_lt_of_cell? w _ hx115_0)).trans hx115_0
          replace hx115_1 := (HB.out.cell (World.block_lt_of_cell? w _ hx115_1)).trans hx115_1
          replace p115 := eq_true p115
          replace q115 := eq_true q115
          go_upto_region 6 with (first | ((with_reducible refine gate_dst (N := 5) rfl ?_); refine box_event ?hg (N := 5) ?hd (cs := #[.int .i64 0, .int .i64 0]) (t := 31) ?hr ?_; (case hd => rfl); (case hg => rfl); (case hr => first | (go_simp; done) | (go_simp; rfl)); intro gb116 hg w7 hbox hb; have n0_ := Aside0.mk (Kd.S_below (by (with_reducible repeat (first | apply Kd.S_alloc | apply Kd.S_drewN | apply Kd.S_drew)); exact HO_3.out) hb); have n1_ := Aside0.mk (below_step (by repeat (first | (with_reducible first | exact HB.out | apply below_alloc | apply pw_below_drewN | apply below_drew1) | exact HB.out)) hb); have n2_ := Aside0.mk (hbox); have n3_ := Aside0.mk ((by rw [hg]; exact (below_size (by repeat (first | (with_reducible first | exact HB.out | apply below_alloc | apply pw_below_drewN | apply below_drew1) | exact HB.out))) : w.heap.size ≤ gb116)); have n4_ := Aside0.mk ((by rw [hg]; exact (below_size (by repeat (first | (with_reducible first | exact HB.out | apply below_alloc | apply pw_below_drewN | apply below_drew1) | exact HB.out))) : w.heap.size ≤ gb116)); clear HO_3; clear HB; have HO_3 := n0_; have HB := n1_; have BK116 := n2_; have GW116 := n3_; have GE116 := n4_; clear n0_ n1_ n2_ n3_ n4_; clear hb hbox hg; have hcz8_0 : w7.cell? ⟨gb116, 0, none⟩ = some (.int .i64 0) := (blk_cell BK116.out 0).trans rfl; have hcz8_1 : w7.cell? ⟨gb116, 1, none⟩ = some (.int .i64 0) := (blk_cell BK116.out 1).trans rfl; have hfz8_0 := blk_frozen BK116.out 0; have hfz8_1 := blk_frozen BK116.out 1))
          (try simp only [Act.put, List.setIfInBounds_toArray, List.set_cons_zero, List.set_cons_succ])
          go_cut [24] (fun v24 wc => ∃ (kq : Nat) (x24_5 : Bool), v24 = .bool x24_5 ∧ Aside0 (cubbyref15_Ins.j1 kq l0 x3_1 x4_1 x24_5 ((rd_T31 l0 x4_1).f0) ((rd_T31 l0 x4_1).f1) = some r) ∧ Aside0 (kq ≤ k1) ∧ Aside0 (Kd.S k28 28 wc w.heap.size (fun _ => True) u3 x3_1) ∧ Aside0 (wc.heap[gb116]? = some (.cells #[.int .i64 ((rd_T31 l0 x4_1).f0), .int .i64 ((rd_T31 l0 x4_1).f1)] 31 (0, 0))) ∧ Aside0 (Below w.heap.size w wc))
          case first =>
            have H := HC6.out
            clear HC6
            by_cases c9 : ((rd_T31 l0 x4_1).f0) ≥ 0
            · rw [if_pos c9] at H
              have c9b0 : decide (0 ≤ ((rd_T31 l0 x4_1).f0)) = true := decide_eq_true c9
              clear c9
              (first | rw [c9b0] | (simp only [i64_w, i32_w]; rw [c9b0]) | skip)
              have H' := Aside0.mk H
              clear H
              have hcz10_0 : w7.cell? ⟨gb116, 0, none⟩ = some (.int .i64 0) := (blk_cell BK116.out 0).trans rfl
              have hcz10_1 : w7.cell? ⟨gb116, 1, none⟩ = some (.int .i64 0) := (blk_cell BK116.out 1).trans rfl
              have hfz10_0 := blk_frozen BK116.out 0
              have hfz10_1 := blk_frozen BK116.out 1
              go_wp2
              go_meet
              case rel => exact ⟨_, (decide (((rd_T31 l0 x4_1).f1) ≥ 0)), (by first | rfl | (simp; done) | (simp [*]; done)), H', ⟨by have := HK1.out; first | omega | exact Nat.le_refl _⟩, ⟨by (with_reducible repeat (first | apply Kd.S_alloc | apply Kd.S_drewN | apply Kd.S_drew)); exact Kd.S_mono (Kd.S_far (p := ⟨gb116, 1, none⟩) (Kd.S_far (p := ⟨gb116, 0, none⟩) (Kd.S_types HO_3.out BK116.out (by decide)) (fun _ hk => hk.2) (.int .i64 ((rd_T31 l0 x4_1).f0))) (fun _ hk => hk.2) (.int .i64 ((rd_T31 l0 x4_1).f1))) (fun _ hk => trivial)⟩, ⟨by (with_reducible repeat (first | refine blk_drewN ?_ _ | refine blk_drew ?_ | refine blk_alloc ?_ _)); refine blk_put (cs := #[.int .i64 ((rd_T31 l0 x4_1).f0), .int .i64 0]) ?_ 1 _ rfl; (with_reducible repeat (first | refine blk_drewN ?_ _ | refine blk_drew ?_ | refine blk_alloc ?_ _)); refine blk_put (cs := #[.int .i64 0, .int .i64 0]) ?_ 0 _ rfl; (with_reducible repeat (first | refine blk_drewN ?_ _ | refine blk_drew ?_ | refine blk_alloc ?_ _)); exact BK116.out⟩, ⟨by repeat (first | (with_reducible first | exact HB.out | apply below_alloc | apply pw_below_drewN | apply below_drew1 | refine below_set ?_ GE116.out) | exact HB.out)⟩⟩
            · rw [if_neg c9] at H
              have c9b0 : decide (0 ≤ ((rd_T31 l0 x4_1).f0)) = false := decide_eq_false c9
              clear c9
              (first | rw [c9b0] | (simp only [i64_w, i32_w]; rw [c9b0]) | skip)
              have H' := Aside0.mk H
              clear H
              have hcz11_0 : w7.cell? ⟨gb116, 0, none⟩ = some (.int .i64 0) := (blk_cell BK116.out 0).trans rfl
              have hcz11_1 : w7.cell? ⟨gb116, 1, none⟩ = some (.int .i64 0) := (blk_cell BK116.out 1).trans rfl
              have hfz11_0 := blk_frozen BK116.out 0
              have hfz11_1 := blk_frozen BK116.out 1
              go_wp2
              go_meet
              case rel => exact ⟨_, (false), (by first | rfl | (simp; done) | (simp [*]; done)), H', ⟨by have := HK1.out; first | omega | exact Nat.le_refl _⟩, ⟨by (with_reducible repeat (first | apply Kd.S_alloc | apply Kd.S_drewN | apply Kd.S_drew)); exact Kd.S_mono (Kd.S_far (p := ⟨gb116, 1, none⟩) (Kd.S_far (p := ⟨gb116, 0, none⟩) (Kd.S_types HO_3.out BK116.out (by decide)) (fun _ hk => hk.2) (.int .i64 ((rd_T31 l0 x4_1).f0))) (fun _ hk => hk.2) (.int .i64 ((rd_T31 l0 x4_1).f1))) (fun _ hk => trivial)⟩, ⟨by (with_reducible repeat (first | refine blk_drewN ?_ _ | refine blk_drew ?_ | refine blk_alloc ?_ _)); refine blk_put (cs := #[.int .i64 ((rd_T31 l0 x4_1).f0), .int .i64 0]) ?_ 1 _ rfl; (with_reducible repeat (first | refine blk_drewN ?_ _ | refine blk_drew ?_ | refine blk_alloc ?_ _)); refine blk_put (cs := #[.int .i64 0, .int .i64 0]) ?_ 0 _ rfl; (with_reducible repeat (first | refine blk_drewN ?_ _ | refine blk_drew ?_ | refine blk_alloc ?_ _)); exact BK116.out⟩, ⟨by repeat (first | (with_reducible first | exact HB.out | apply below_alloc | apply pw_below_drewN | apply below_drew1 | refine below_set ?_ GE116.out) | exact HB.out)⟩⟩
          case rest =>
            clear HC6
            try clear c1
            try clear p1
            try clear q1
            try clear hx1
            try clear p2
            try clear c4
            try clear c4b0
            try clear c5
            try clear c5b0
            try clear c9
            try clear c9b0
            try clear c11
            try clear p11
            try clear q11
            try clear hx11
            try clear hcz10_0
            try clear hcz10_1
            try clear hcz11_0
            try clear hcz11_1
            try clear hcz8_0
            try clear hcz8_1
            try clear hfz10_0
            try clear hfz10_1
            try clear hfz11_0
            try clear hfz11_1
            try clear hfz8_0
            try clear hfz8_1
            try clear hx115_0
            try clear hx115_1
            try clear p115
            try clear p2
            try clear q115
            obtain ⟨kq, x24_5, rfl, HA, HJ5, HO_3, BK116, HB⟩ := hcut
            cases kq with
            | zero => exact absurd HA.out (by simp [cubbyref15_Ins.j1])
            | succ kj5 =>
              have H := HA.out
              clear HA
              simp only [cubbyref15_Ins.j1] at H
              have HC12 := Aside0.mk H
              clear H
              go_upto_if 24 with (fail)
              go_cut [3] (fun v3 wc => ∃ (kq : Nat) (x3_11 : List (S28)), Aside0 (cubbyref15_Ins.j2 kq l0 x3_11 x4_1 ((rd_T31 l0 x4_1).f0) ((rd_T31 l0 x4_1).f1) = some r) ∧ Aside0 (kq ≤ kj5) ∧ Aside0 (Kd.S k28 28 wc w.heap.size (fun _ => True) v3 x3_11) ∧ Aside0 (wc.heap[gb116]? = some (.cells #[.int .i64 ((rd_T31 l0 x4_1).f0), .int .i64 ((rd_T31 l0 x4_1).f1)] 31 (0, 0))) ∧ Aside0 (Below w.heap.size w wc))
              case first =>
                have H := HC12.out
                clear HC12
                by_cases c13 : x24_5 = true
                · subst c13
                  have H1 : (if x3_1.length < 1954687338268 then (cubbyref15_Ins.j2 kj5 l0 (x3_1 ++ [(⟨2, ((rd_T31 l0 x4_1).f0), ((rd_T31 l0 x4_1).f1), 0, (⟨#[]⟩ : ByteArray), ([] : List Int)⟩ : S28)]) x4_1 ((rd_T31 l0 x4_1).f0) ((rd_T31 l0 x4_1).f1)) else (none)) = some r := by rw [if_pos rfl] at H; exact H
                  clear H
                  have H := H1
                  clear H1
                  by_cases c14 : x3_1.length < 1954687338268
                  · rw [if_pos c14] at H
                    have LMc14 := Aside0.mk c14
                    clear c14
                    obtain ⟨y117, hy117⟩ : ∃ y_ : List (S28), y_ = (x3_1 ++ [(⟨2, ((rd_T31 l0 x4_1).f0), ((rd_T31 l0 x4_1).f1), 0, (⟨#[]⟩ : ByteArray), ([] : List Int)⟩ : S28)]) := ⟨_, rfl⟩
                    replace H : (cubbyref15_Ins.j2 kj5 l0 y117 x4_1 ((rd_T31 l0 x4_1).f0) ((rd_T31 l0 x4_1).f1)) = some r := by first | (rw [hy117]; with_reducible exact H) | (have H2_ := (Option.bind_some _ _).symm.trans H; rw [hy117]; with_reducible exact H2_) | (have H2_ := (Option.bind_some _ _).symm.trans H; with_reducible exact H2_) | with_reducible exact H | (rw [hy117]; exact H) | exact H
                    have Ny117 := Aside0.mk hy117
                    clear hy117
                    have H' := Aside0.mk H
                    clear H
                    have hcz15_0 : wc.cell? ⟨gb116, 0, none⟩ = some (.int .i64 ((rd_T31 l0 x4_1).f0)) := (blk_cell BK116.out 0).trans rfl
                    have hcz15_1 : wc.cell? ⟨gb116, 1, none⟩ = some (.int .i64 ((rd_T31 l0 x4_1).f1)) := (blk_cell BK116.out 1).trans rfl
                    have hfz15_0 := blk_frozen BK116.out 0
                    have hfz15_1 := blk_frozen BK116.out 1
                    go_wp2_with (first | ((with_reducible refine gate_builtin (b := .append) (xs := #[.tmp 25, .tmp 31]) rfl ?_); at_builtin; refine Kd.S_append k28 (w0 := w) w.heap.size rfl (.tmp 25) (.tmp 31) 23 28 (.agg #[(.int .i64 0), (.int .i64 0), (.int .i64 0), (.int .i64 0), (.string ⟨#[]⟩), (.slice none 0 0)]) 72 rfl Try.underlying23 info28 rfl (by decide) (by omega) u3 x3_1 (⟨2, ((rd_T31 l0 x4_1).f0), ((rd_T31 l0 x4_1).f1), 0, (⟨#[]⟩ : ByteArray), ([] : List Int)⟩ : S28) [.int .i64 2, .int .i64 ((rd_T31 l0 x4_1).f0), .int .i64 ((rd_T31 l0 x4_1).f1), .int .i64 0, .string (⟨#[]⟩ : ByteArray), .slice none 0 0] (fun _ => True) (fun _ => False) rfl rfl ?aP (fun k_ hk_ => hk_.elim) ?aF ?aO ?aB ?aS ?aL ?_; (case aP => exact k28_mkM _ _ _ (⟨2, ((rd_T31 l0 x4_1).f0), ((rd_T31 l0 x4_1).f1), 0, (⟨#[]⟩ : ByteArray), ([] : List Int)⟩ : S28) (Kd.R_nil _ _ _ _ _)); (case aB => exact (by repeat (first | (with_reducible first | exact HB.out | apply below_alloc | apply pw_below_drewN | apply below_drew1 | refine below_set ?_ GE116.out) | exact HB.out))); (case aF => exact (fun _ _ => trivial)); (case aO => exact (by (with_reducible repeat (first | apply Kd.S_alloc | apply Kd.S_drewN | apply Kd.S_drew)); exact Kd.S_mono HO_3.out (fun k_ hk => ⟨trivial, fun e_ => e_⟩))); (case aS => exact (below_size (by repeat (first | (with_reducible first | exact HB.out | apply below_alloc | apply pw_below_drewN | apply below_drew1 | refine below_set ?_ GE116.out) | exact HB.out)))); (case aL => have := LMc14.out; omega); intro v118 w16 ho hb hg hat; rw [← Ny117.out] at ho; have n0_ := Aside0.mk (blk_grown (g := gb116) (o := .cells #[.int .i64 ((rd_T31 l0 x4_1).f0), .int .i64 ((rd_T31 l0 x4_1).f1)] 31 (0, 0)) (by (with_reducible repeat (first | refine blk_drewN ?_ _ | refine blk_drew ?_ | refine blk_alloc ?_ _)); exact BK116.out) hg (Kd.S_ne HO_3.out BK116.out (by decide))); have n1_ := Aside0.mk (hb); have n2_ := Aside0.mk (ho); clear BK116; clear HB; clear HO_3; have BK116 := n0_; have HB := n1_; have HO119 := n2_; clear n0_ n1_ n2_; clear ho hb hg hat))
                    go_meet
                    case rel => exact ⟨_, (y117), H', ⟨by have := HK1.out; have := HJ5.out; first | omega | exact Nat.le_refl _⟩, ⟨by (with_reducible repeat (first | apply Kd.S_alloc | apply Kd.S_drewN | apply Kd.S_drew)); exact HO119.out⟩, ⟨by (with_reducible repeat (first | refine blk_drewN ?_ _ | refine blk_drew ?_ | refine blk_alloc ?_ _)); exact BK116.out⟩, ⟨by repeat (first | (with_reducible first | exact HB.out | apply below_alloc | apply pw_below_drewN | apply below_drew1 | refine below_set ?_ GE116.out) | exact HB.out)⟩⟩
                  · rw [if_neg c14] at H
                    exact absurd H (by simp)
                · replace c13 := Bool.eq_false_iff.mpr c13
                  subst c13
                  have H1 : (cubbyref15_Ins.j2 kj5 l0 x3_1 x4_1 ((rd_T31 l0 x4_1).f0) ((rd_T31 l0 x4_1).f1)) = some r := by rw [if_neg (show ¬ (false = true) by decide)] at H; exact H
                  clear H
                  have H := H1
                  clear H1
                  have H' := Aside0.mk H
                  clear H
                  go_wp2
                  go_meet
                  case rel => exact ⟨_, (x3_1), H', ⟨by have := HK1.out; have := HJ5.out; first | omega | exact Nat.le_refl _⟩, ⟨by (with_reducible repeat (first | apply Kd.S_alloc | apply Kd.S_drewN | apply Kd.S_drew)); exact HO_3.out⟩, ⟨by (with_reducible repeat (first | refine blk_drewN ?_ _ | refine blk_drew ?_ | refine blk_alloc ?_ _)); exact BK116.out⟩, ⟨by repeat (first | (with_reducible first | exact HB.out | apply below_alloc | apply pw_below_drewN | apply below_drew1 | refine below_set ?_ GE116.out) | exact HB.out)⟩⟩
              case rest =>
                clear HC12
                try clear c1
                try clear p1
                try clear q1
                try clear hx1
                try clear p2
                try clear c4
                try clear c4b0
                try clear c5
                try clear c5b0
                try clear c9
                try clear c9b0
                try clear c11
                try clear p11
                try clear q11
                try clear hx11
                try clear c13
                try clear c14
                try clear hcz10_0
                try clear hcz10_1
                try clear hcz11_0
                try clear hcz11_1
                try clear hcz15_0
                try clear hcz15_1
                try clear hcz8_0
                try clear hcz8_1
                try clear hfz10_0
                try clear hfz10_1
                try clear hfz11_0
                try clear hfz11_1
                try clear hfz15_0
                try clear hfz15_1
                try clear hfz8_0
                try clear hfz8_1
                try clear hx115_0
                try clear hx115_1
                try clear p1
                try clear p11
                try clear p115
                try clear p2
                try clear q1
                try clear q11
                try clear q115
                obtain ⟨kq, x3_11, HA, HJ11, HO_3, BK116, HB⟩ := hcut
                cases kq with
                | zero => exact absurd HA.out (by simp [cubbyref15_Ins.j2])
                | succ kj11 =>
                  have H := HA.out
                  clear HA
                  simp only [cubbyref15_Ins.j2] at H
                  have HC17 := Aside0.mk H
                  clear H
                  go_upto_region 8 with (fail)
                  go_cut [40] (fun v40 wc => ∃ (kq : Nat) (x40_16 : Bool), v40 = .bool x40_16 ∧ Aside0 (cubbyref15_Ins.j3 kq l0 x3_11 x4_1 x40_16 ((rd_T31 l0 x4_1).f0) ((rd_T31 l0 x4_1).f1) = some r) ∧ Aside0 (kq ≤ kj11) ∧ Aside0 (Kd.S k28 28 wc w.heap.size (fun _ => True) u3 x3_11) ∧ Aside0 (wc.heap[gb116]? = some (.cells #[.int .i64 ((rd_T31 l0 x4_1).f0), .int .i64 ((rd_T31 l0 x4_1).f1)] 31 (0, 0))) ∧ Aside0 (Below w.heap.size w wc))
                  case first =>
                    have H := HC17.out
                    clear HC17
                    by_cases c18 : ((rd_T31 l0 x4_1).f0) ≥ 0
                    · rw [if_pos c18] at H
                      have c18b0 : decide (0 ≤ ((rd_T31 l0 x4_1).f0)) = true := decide_eq_true c18
                      clear c18
                      (first | rw [c18b0] | (simp only [i64_w, i32_w]; rw [c18b0]) | skip)
                      have H' := Aside0.mk H
                      clear H
                      have hcz19_0 : wc.cell? ⟨gb116, 0, none⟩ = some (.int .i64 ((rd_T31 l0 x4_1).f0)) := (blk_cell BK116.out 0).trans rfl
                      have hcz19_1 : wc.cell? ⟨gb116, 1, none⟩ = some (.int .i64 ((rd_T31 l0 x4_1).f1)) := (blk_cell BK116.out 1).trans rfl
                      have hfz19_0 := blk_frozen BK116.out 0
                      have hfz19_1 := blk_frozen BK116.out 1
                      go_wp2
                      go_meet
                      case rel => exact ⟨_, (decide (((rd_T31 l0 x4_1).f1) < 0)), (by first | rfl | (simp; done) | (simp [*]; done)), H', ⟨by have := HK1.out; have := HJ5.out; have := HJ11.out; first | omega | exact Nat.le_refl _⟩, ⟨by (with_reducible repeat (first | apply Kd.S_alloc | apply Kd.S_drewN | apply Kd.S_drew)); exact HO_3.out⟩, ⟨by (with_reducible repeat (first | refine blk_drewN ?_ _ | refine blk_drew ?_ | refine blk_alloc ?_ _)); exact BK116.out⟩, ⟨by repeat (first | (with_reducible first | exact HB.out | apply below_alloc | apply pw_below_drewN | apply below_drew1 | refine below_set ?_ GE116.out) | exact HB.out)⟩⟩
                    · rw [if_neg c18] at H
                      have c18b0 : decide (0 ≤ ((rd_T31 l0 x4_1).f0)) = false := decide_eq_false c18
                      clear c18
                      (first | rw [c18b0] | (simp only [i64_w, i32_w]; rw [c18b0]) | skip)
                      have H' := Aside0.mk H
                      clear H
                      have hcz20_0 : wc.cell? ⟨gb116, 0, none⟩ = some (.int .i64 ((rd_T31 l0 x4_1).f0)) := (blk_cell BK116.out 0).trans rfl
                      have hcz20_1 : wc.cell? ⟨gb116, 1, none⟩ = some (.int .i64 ((rd_T31 l0 x4_1).f1)) := (blk_cell BK116.out 1).trans rfl
                      have hfz20_0 := blk_frozen BK116.out 0
                      have hfz20_1 := blk_frozen BK116.out 1
                      go_wp2
                      go_meet
                      case rel => exact ⟨_, (false), (by first | rfl | (simp; done) | (simp [*]; done)), H', ⟨by have := HK1.out; have := HJ5.out; have := HJ11.out; first | omega | exact Nat.le_refl _⟩, ⟨by (with_reducible repeat (first | apply Kd.S_alloc | apply Kd.S_drewN | apply Kd.S_drew)); exact HO_3.out⟩, ⟨by (with_reducible repeat (first | refine blk_drewN ?_ _ | refine blk_drew ?_ | refine blk_alloc ?_ _)); exact BK116.out⟩, ⟨by repeat (first | (with_reducible first | exact HB.out | apply below_alloc | apply pw_below_drewN | apply below_drew1 | refine below_set ?_ GE116.out) | exact HB.out)⟩⟩
                  case rest =>
                    clear HC17
                    try clear c1
                    try clear p1
                    try clear q1
                    try clear hx1
                    try clear p2
                    try clear c4
                    try clear c4b0
                    try clear c5
                    try clear c5b0
                    try clear c9
                    try clear c9b0
                    try clear c11
                    try clear p11
                    try clear q11
                    try clear hx11
                    try clear c13
                    try clear c14
                    try clear c18
                    try clear c18b0
                    try clear hcz10_0
                    try clear hcz10_1
                    try clear hcz11_0
                    try clear hcz11_1
                    try clear hcz15_0
                    try clear hcz15_1
                    try clear hcz19_0
                    try clear hcz19_1
                    try clear hcz20_0
                    try clear hcz20_1
                    try clear hcz8_0
                    try clear hcz8_1
                    try clear hfz10_0
                    try clear hfz10_1
                    try clear hfz11_0
                    try clear hfz11_1
                    try clear hfz15_0
                    try clear hfz15_1
                    try clear hfz19_0
                    try clear hfz19_1
                    try clear hfz20_0
                    try clear hfz20_1
                    try clear hfz8_0
                    try clear hfz8_1
                    try clear hx115_0
                    try clear hx115_1
                    try clear p1
                    try clear p11
                    try clear p115
                    try clear p2
                    try clear q1
                    try clear q11
                    try clear q115
                    obtain ⟨kq, x40_16, rfl, HA, HJ16, HO_3, BK116, HB⟩ := hcut
                    cases kq with
                    | zero => exact absurd HA.out (by simp [cubbyref15_Ins.j3])
                    | succ kj16 =>
                      have H := HA.out
                      clear HA
                      simp only [cubbyref15_Ins.j3] at H
                      by_cases c21 : x40_16 = true
                      · subst c21
                        have H1 : (if x3_11.length < 1954687338268 then ((some (x3_11 ++ [(⟨21, ((rd_T31 l0 x4_1).f0), wrap64 ((-1) - ((rd_T31 l0 x4_1).f1)), 0, (⟨#[]⟩ : ByteArray), ([] : List Int)⟩ : S28)] : List (S28))).bind fun y120 => (if ((rd_T31 l0 x4_1).f0) < 0 then (if ((rd_T31 l0 x4_1).f1) ≥ 0 then (if y120.length < 1954687338268 then (cubbyref15_Ins.l0 kj16 l0 (y120 ++ [(⟨22, wrap64 ((-1) - ((rd_T31 l0 x4_1).f0)), ((rd_T31 l0 x4_1).f1), 0, (⟨#[]⟩ : ByteArray), ([] : List Int)⟩ : S28)]) (wrap64 (x4_1 + 1))) else (none)) else (cubbyref15_Ins.l0 kj16 l0 y120 (wrap64 (x4_1 + 1)))) else (cubbyref15_Ins.l0 kj16 l0 y120 (wrap64 (x4_1 + 1))))) else (none)) = some r := by rw [if_pos rfl] at H; exact H
                        clear H
                        have H := H1
                        clear H1
                        by_cases c22 : x3_11.length < 1954687338268
                        · rw [if_pos c22] at H
                          have LMc22 := Aside0.mk c22
                          clear c22
                          obtain ⟨y120, hy120⟩ : ∃ y_ : List (S28), y_ = (x3_11 ++ [(⟨21, ((rd_T31 l0 x4_1).f0), wrap64 ((-1) - ((rd_T31 l0 x4_1).f1)), 0, (⟨#[]⟩ : ByteArray), ([] : List Int)⟩ : S28)]) := ⟨_, rfl⟩
                          replace H : (if ((rd_T31 l0 x4_1).f0) < 0 then (if ((rd_T31 l0 x4_1).f1) ≥ 0 then (if y120.length < 1954687338268 then (cubbyref15_Ins.l0 kj16 l0 (y120 ++ [(⟨22, wrap64 ((-1) - ((rd_T31 l0 x4_1).f0)), ((rd_T31 l0 x4_1).f1), 0, (⟨#[]⟩ : ByteArray), ([] : List Int)⟩ : S28)]) (wrap64 (x4_1 + 1))) else (none)) else (cubbyref15_Ins.l0 kj16 l0 y120 (wrap64 (x4_1 + 1)))) else (cubbyref15_Ins.l0 kj16 l0 y120 (wrap64 (x4_1 + 1)))) = some r := by first | (rw [hy120]; with_reducible exact H) | (have H2_ := (Option.bind_some _ _).symm.trans H; rw [hy120]; with_reducible exact H2_) | (have H2_ := (Option.bind_some _ _).symm.trans H; with_reducible exact H2_) | with_reducible exact H | (rw [hy120]; exact H) | exact H
                          have Ny120 := Aside0.mk hy120
                          clear hy120
                          by_cases c23 : ((rd_T31 l0 x4_1).f0) < 0
                          · rw [if_pos c23] at H
                            have c23b0 : decide (((rd_T31 l0 x4_1).f0) < 0) = true := decide_eq_true c23
                            clear c23
                            by_cases c24 : ((rd_T31 l0 x4_1).f1) ≥ 0
                            · rw [if_pos c24] at H
                              have c24b0 : decide (0 ≤ ((rd_T31 l0 x4_1).f1)) = true := decide_eq_true c24
                              clear c24
                              by_cases c25 : y120.length < 1954687338268
                              · rw [if_pos c25] at H
                                have LMc25 := Aside0.mk c25
                                clear c25
                                obtain ⟨y123, hy123⟩ : ∃ y_ : List (S28), y_ = (y120 ++ [(⟨22, wrap64 ((-1) - ((rd_T31 l0 x4_1).f0)), ((rd_T31 l0 x4_1).f1), 0, (⟨#[]⟩ : ByteArray), ([] : List Int)⟩ : S28)]) := ⟨_, rfl⟩
                                replace H : (cubbyref15_Ins.l0 kj16 l0 y123 (wrap64 (x4_1 + 1))) = some r := by first | (rw [hy123]; with_reducible exact H) | (have H2_ := (Option.bind_some _ _).symm.trans H; rw [hy123]; with_reducible exact H2_) | (have H2_ := (Option.bind_some _ _).symm.trans H; with_reducible exact H2_) | with_reducible exact H | (rw [hy123]; exact H) | exact H
                                have Ny123 := Aside0.mk hy123
                                clear hy123
                                have H' := Aside0.mk H
                                clear H
                                have hcz26_0 : wc.cell? ⟨gb116, 0, none⟩ = some (.int .i64 ((rd_T31 l0 x4_1).f0)) := (blk_cell BK116.out 0).trans rfl
                                have hcz26_1 : wc.cell? ⟨gb116, 1, none⟩ = some (.int .i64 ((rd_T31 l0 x4_1).f1)) := (blk_cell BK116.out 1).trans rfl
                                have hfz26_0 := blk_frozen BK116.out 0
                                have hfz26_1 := blk_frozen BK116.out 1
                                go_wp2_with (first | ((with_reducible refine gate_builtin (b := .append) (xs := #[.tmp 41, .tmp 48]) rfl ?_); at_builtin; refine Kd.S_append k28 (w0 := w) w.heap.size rfl (.tmp 41) (.tmp 48) 23 28 (.agg #[(.int .i64 0), (.int .i64 0), (.int .i64 0), (.int .i64 0), (.string ⟨#[]⟩), (.slice none 0 0)]) 72 rfl Try.underlying23 info28 rfl (by decide) (by omega) u3 x3_11 (⟨21, ((rd_T31 l0 x4_1).f0), wrap64 ((-1) - ((rd_T31 l0 x4_1).f1)), 0, (⟨#[]⟩ : ByteArray), ([] : List Int)⟩ : S28) [.int .i64 21, .int .i64 ((rd_T31 l0 x4_1).f0), .int .i64 (wrap64 ((-1) - ((rd_T31 l0 x4_1).f1))), .int .i64 0, .string (⟨#[]⟩ : ByteArray), .slice none 0 0] (fun _ => True) (fun _ => False) rfl rfl ?aP (fun k_ hk_ => hk_.elim) ?aF ?aO ?aB ?aS ?aL ?_; (case aP => exact k28_mkM _ _ _ (⟨21, ((rd_T31 l0 x4_1).f0), wrap64 ((-1) - ((rd_T31 l0 x4_1).f1)), 0, (⟨#[]⟩ : ByteArray), ([] : List Int)⟩ : S28) (Kd.R_nil _ _ _ _ _)); (case aB => exact (by repeat (first | (with_reducible first | exact HB.out | apply below_alloc | apply pw_below_drewN | apply below_drew1 | refine below_set ?_ GE116.out) | exact HB.out))); (case aF => exact (fun _ _ => trivial)); (case aO => exact (by (with_reducible repeat (first | apply Kd.S_alloc | apply Kd.S_drewN | apply Kd.S_drew)); exact Kd.S_mono HO_3.out (fun k_ hk => ⟨trivial, fun e_ => e_⟩))); (case aS => exact (below_size (by repeat (first | (with_reducible first | exact HB.out | apply below_alloc | apply pw_below_drewN | apply below_drew1 | refine below_set ?_ GE116.out) | exact HB.out)))); (case aL => have := LMc22.out; omega); intro v121 w27 ho hb hg hat; rw [← Ny120.out] at ho; have n0_ := Aside0.mk (blk_grown (g := gb116) (o := .cells #[.int .i64 ((rd_T31 l0 x4_1).f0), .int .i64 ((rd_T31 l0 x4_1).f1)] 31 (0, 0)) (by (with_reducible repeat (first | refine blk_drewN ?_ _ | refine blk_drew ?_ | refine blk_alloc ?_ _)); exact BK116.out) hg (Kd.S_ne HO_3.out BK116.out (by decide))); have n1_ := Aside0.mk (hb); have n2_ := Aside0.mk (ho); clear BK116; clear HB; clear HO_3; have BK116 := n0_; have HB := n1_; have HO122 := n2_; clear n0_ n1_ n2_; clear ho hb hg hat; have hcz28_0 : w27.cell? ⟨gb116, 0, none⟩ = some (.int .i64 ((rd_T31 l0 x4_1).f0)) := (blk_cell BK116.out 0).trans rfl; have hcz28_1 : w27.cell? ⟨gb116, 1, none⟩ = some (.int .i64 ((rd_T31 l0 x4_1).f1)) := (blk_cell BK116.out 1).trans rfl; have hfz28_0 := blk_frozen BK116.out 0; have hfz28_1 := blk_frozen BK116.out 1) | ((with_reducible refine gate_builtin (b := .append) (xs := #[.tmp 58, .tmp 65]) rfl ?_); at_builtin; refine Kd.S_append k28 (w0 := w) w.heap.size rfl (.tmp 58) (.tmp 65) 23 28 (.agg #[(.int .i64 0), (.int .i64 0), (.int .i64 0), (.int .i64 0), (.string ⟨#[]⟩), (.slice none 0 0)]) 72 rfl Try.underlying23 info28 rfl (by decide) (by omega) v121 y120 (⟨22, wrap64 ((-1) - ((rd_T31 l0 x4_1).f0)), ((rd_T31 l0 x4_1).f1), 0, (⟨#[]⟩ : ByteArray), ([] : List Int)⟩ : S28) [.int .i64 22, .int .i64 (wrap64 ((-1) - ((rd_T31 l0 x4_1).f0))), .int .i64 ((rd_T31 l0 x4_1).f1), .int .i64 0, .string (⟨#[]⟩ : ByteArray), .slice none 0 0] (fun _ => True) (fun _ => False) rfl rfl ?aP (fun k_ hk_ => hk_.elim) ?aF ?aO ?aB ?aS ?aL ?_; (case aP => exact k28_mkM _ _ _ (⟨22, wrap64 ((-1) - ((rd_T31 l0 x4_1).f0)), ((rd_T31 l0 x4_1).f1), 0, (⟨#[]⟩ : ByteArray), ([] : List Int)⟩ : S28) (Kd.R_nil _ _ _ _ _)); (case aB => exact (by repeat (first | (with_reducible first | exact HB.out | apply below_alloc | apply pw_below_drewN | apply below_drew1 | refine below_set ?_ GE116.out) | exact HB.out))); (case aF => exact (fun _ _ => trivial)); (case aO => exact (by (with_reducible repeat (first | apply Kd.S_alloc | apply Kd.S_drewN | apply Kd.S_drew)); exact Kd.S_mono HO122.out (fun k_ hk => ⟨trivial, fun e_ => e_⟩))); (case aS => exact (below_size (by repeat (first | (with_reducible first | exact HB.out | apply below_alloc | apply pw_below_drewN | apply below_drew1 | refine below_set ?_ GE116.out) | exact HB.out)))); (case aL => have := LMc25.out; omega); intro v124 w29 ho hb hg hat; rw [← Ny123.out] at ho; have n0_ := Aside0.mk (blk_grown (g := gb116) (o := .cells #[.int .i64 ((rd_T31 l0 x4_1).f0), .int .i64 ((rd_T31 l0 x4_1).f1)] 31 (0, 0)) (by (with_reducible repeat (first | refine blk_drewN ?_ _ | refine blk_drew ?_ | refine blk_alloc ?_ _)); exact BK116.out) hg (Kd.S_ne HO122.out BK116.out (by decide))); have n1_ := Aside0.mk (hb); have n2_ := Aside0.mk (ho); clear BK116; clear HB; clear HO122; have BK116 := n0_; have HB := n1_; have HO125 := n2_; clear n0_ n1_ n2_; clear ho hb hg hat))
                                go_roundg kj16
                                case measure => have := HK1.out; have := HJ5.out; have := HJ11.out; have := HJ16.out; omega
                                case rel => exact ⟨(y123), (wrap64 (x4_1 + 1)), (by first | rfl | (simp; done) | (simp [*]; done)), H', ⟨by have := HK1.out; have := HJ5.out; have := HJ11.out; have := HJ16.out; omega⟩, ⟨by (with_reducible repeat (first | apply Kd.S_alloc | apply Kd.S_drewN | apply Kd.S_drew)); exact HO125.out⟩, ⟨by repeat (first | (with_reducible first | exact HB.out | apply below_alloc | apply pw_below_drewN | apply below_drew1 | refine below_set ?_ GE116.out) | exact HB.out)⟩⟩
                              · rw [if_neg c25] at H
                                exact absurd H (by simp)
                            · rw [if_neg c24] at H
                              have c24b0 : decide (0 ≤ ((rd_T31 l0 x4_1).f1)) = false := decide_eq_false c24
                              clear c24
                              have H' := Aside0.mk H
                              clear H
                              have hcz30_0 : wc.cell? ⟨gb116, 0, none⟩ = some (.int .i64 ((rd_T31 l0 x4_1).f0)) := (blk_cell BK116.out 0).trans rfl
                              have hcz30_1 : wc.cell? ⟨gb116, 1, none⟩ = some (.int .i64 ((rd_T31 l0 x4_1).f1)) := (blk_cell BK116.out 1).trans rfl
                              have hfz30_0 := blk_frozen BK116.out 0
                              have hfz30_1 := blk_frozen BK116.out 1
                              go_wp2_with (first | ((with_reducible refine gate_builtin (b := .append) (xs := #[.tmp 41, .tmp 48]) rfl ?_); at_builtin; refine Kd.S_append k28 (w0 := w) w.heap.size rfl (.tmp 41) (.tmp 48) 23 28 (.agg #[(.int .i64 0), (.int .i64 0), (.int .i64 0), (.int .i64 0), (.string ⟨#[]⟩), (.slice none 0 0)]) 72 rfl Try.underlying23 info28 rfl (by decide) (by omega) u3 x3_11 (⟨21, ((rd_T31 l0 x4_1).f0), wrap64 ((-1) - ((rd_T31 l0 x4_1).f1)), 0, (⟨#[]⟩ : ByteArray), ([] : List Int)⟩ : S28) [.int .i64 21, .int .i64 ((rd_T31 l0 x4_1).f0), .int .i64 (wrap64 ((-1) - ((rd_T31 l0 x4_1).f1))), .int .i64 0, .string (⟨#[]⟩ : ByteArray), .slice none 0 0] (fun _ => True) (fun _ => False) rfl rfl ?aP (fun k_ hk_ => hk_.elim) ?aF ?aO ?aB ?aS ?aL ?_; (case aP => exact k28_mkM _ _ _ (⟨21, ((rd_T31 l0 x4_1).f0), wrap64 ((-1) - ((rd_T31 l0 x4_1).f1)), 0, (⟨#[]⟩ : ByteArray), ([] : List Int)⟩ : S28) (Kd.R_nil _ _ _ _ _)); (case aB => exact (by repeat (first | (with_reducible first | exact HB.out | apply below_alloc | apply pw_below_drewN | apply below_drew1 | refine below_set ?_ GE116.out) | exact HB.out))); (case aF => exact (fun _ _ => trivial)); (case aO => exact (by (with_reducible repeat (first | apply Kd.S_alloc | apply Kd.S_drewN | apply Kd.S_drew)); exact Kd.S_mono HO_3.out (fun k_ hk => ⟨trivial, fun e_ => e_⟩))); (case aS => exact (below_size (by repeat (first | (with_reducible first | exact HB.out | apply below_alloc | apply pw_below_drewN | apply below_drew1 | refine below_set ?_ GE116.out) | exact HB.out)))); (case aL => have := LMc22.out; omega); intro v121 w31 ho hb hg hat; rw [← Ny120.out] at ho; have n0_ := Aside0.mk (blk_grown (g := gb116) (o := .cells #[.int .i64 ((rd_T31 l0 x4_1).f0), .int .i64 ((rd_T31 l0 x4_1).f1)] 31 (0, 0)) (by (with_reducible repeat (first | refine blk_drewN ?_ _ | refine blk_drew ?_ | refine blk_alloc ?_ _)); exact BK116.out) hg (Kd.S_ne HO_3.out BK116.out (by decide))); have n1_ := Aside0.mk (hb); have n2_ := Aside0.mk (ho); clear BK116; clear HB; clear HO_3; have BK116 := n0_; have HB := n1_; have HO122 := n2_; clear n0_ n1_ n2_; clear ho hb hg hat; have hcz32_0 : w31.cell? ⟨gb116, 0, none⟩ = some (.int .i64 ((rd_T31 l0 x4_1).f0)) := (blk_cell BK116.out 0).trans rfl; have hcz32_1 : w31.cell? ⟨gb116, 1, none⟩ = some (.int .i64 ((rd_T31 l0 x4_1).f1)) := (blk_cell BK116.out 1).trans rfl; have hfz32_0 := blk_frozen BK116.out 0; have hfz32_1 := blk_frozen BK116.out 1))
                              go_roundg kj16
                              case measure => have := HK1.out; have := HJ5.out; have := HJ11.out; have := HJ16.out; omega
                              case rel => exact ⟨(y120), (wrap64 (x4_1 + 1)), (by first | rfl | (simp; done) | (simp [*]; done)), H', ⟨by have := HK1.out; have := HJ5.out; have := HJ11.out; have := HJ16.out; omega⟩, ⟨by (with_reducible repeat (first | apply Kd.S_alloc | apply Kd.S_drewN | apply Kd.S_drew)); exact HO122.out⟩, ⟨by repeat (first | (with_reducible first | exact HB.out | apply below_alloc | apply pw_below_drewN | apply below_drew1 | refine below_set ?_ GE116.out) | exact HB.out)⟩⟩
                          · rw [if_neg c23] at H
                            have c23b0 : decide (((rd_T31 l0 x4_1).f0) < 0) = false := decide_eq_false c23
                            clear c23
                            have H' := Aside0.mk H
                            clear H
                            have hcz33_0 : wc.cell? ⟨gb116, 0, none⟩ = some (.int .i64 ((rd_T31 l0 x4_1).f0)) := (blk_cell BK116.out 0).trans rfl
                            have hcz33_1 : wc.cell? ⟨gb116, 1, none⟩ = some (.int .i64 ((rd_T31 l0 x4_1).f1)) := (blk_cell BK116.out 1).trans rfl
                            have hfz33_0 := blk_frozen BK116.out 0
                            have hfz33_1 := blk_frozen BK116.out 1
                            go_wp2_with (first | ((with_reducible refine gate_builtin (b := .append) (xs := #[.tmp 41, .tmp 48]) rfl ?_); at_builtin; refine Kd.S_append k28 (w0 := w) w.heap.size rfl (.tmp 41) (.tmp 48) 23 28 (.agg #[(.int .i64 0), (.int .i64 0), (.int .i64 0), (.int .i64 0), (.string ⟨#[]⟩), (.slice none 0 0)]) 72 rfl Try.underlying23 info28 rfl (by decide) (by omega) u3 x3_11 (⟨21, ((rd_T31 l0 x4_1).f0), wrap64 ((-1) - ((rd_T31 l0 x4_1).f1)), 0, (⟨#[]⟩ : ByteArray), ([] : List Int)⟩ : S28) [.int .i64 21, .int .i64 ((rd_T31 l0 x4_1).f0), .int .i64 (wrap64 ((-1) - ((rd_T31 l0 x4_1).f1))), .int .i64 0, .string (⟨#[]⟩ : ByteArray), .slice none 0 0] (fun _ => True) (fun _ => False) rfl rfl ?aP (fun k_ hk_ => hk_.elim) ?aF ?aO ?aB ?aS ?aL ?_; (case aP => exact k28_mkM _ _ _ (⟨21, ((rd_T31 l0 x4_1).f0), wrap64 ((-1) - ((rd_T31 l0 x4_1).f1)), 0, (⟨#[]⟩ : ByteArray), ([] : List Int)⟩ : S28) (Kd.R_nil _ _ _ _ _)); (case aB => exact (by repeat (first | (with_reducible first | exact HB.out | apply below_alloc | apply pw_below_drewN | apply below_drew1 | refine below_set ?_ GE116.out) | exact HB.out))); (case aF => exact (fun _ _ => trivial)); (case aO => exact (by (with_reducible repeat (first | apply Kd.S_alloc | apply Kd.S_drewN | apply Kd.S_drew)); exact Kd.S_mono HO_3.out (fun k_ hk => ⟨trivial, fun e_ => e_⟩))); (case aS => exact (below_size (by repeat (first | (with_reducible first | exact HB.out | apply below_alloc | apply pw_below_drewN | apply below_drew1 | refine below_set ?_ GE116.out) | exact HB.out)))); (case aL => have := LMc22.out; omega); intro v121 w34 ho hb hg hat; rw [← Ny120.out] at ho; have n0_ := Aside0.mk (blk_grown (g := gb116) (o := .cells #[.int .i64 ((rd_T31 l0 x4_1).f0), .int .i64 ((rd_T31 l0 x4_1).f1)] 31 (0, 0)) (by (with_reducible repeat (first | refine blk_drewN ?_ _ | refine blk_drew ?_ | refine blk_alloc ?_ _)); exact BK116.out) hg (Kd.S_ne HO_3.out BK116.out (by decide))); have n1_ := Aside0.mk (hb); have n2_ := Aside0.mk (ho); clear BK116; clear HB; clear HO_3; have BK116 := n0_; have HB := n1_; have HO122 := n2_; clear n0_ n1_ n2_; clear ho hb hg hat; have hcz35_0 : w34.cell? ⟨gb116, 0, none⟩ = some (.int .i64 ((rd_T31 l0 x4_1).f0)) := (blk_cell BK116.out 0).trans rfl; have hcz35_1 : w34.cell? ⟨gb116, 1, none⟩ = some (.int .i64 ((rd_T31 l0 x4_1).f1)) := (blk_cell BK116.out 1).trans rfl; have hfz35_0 := blk_frozen BK116.out 0; have hfz35_1 := blk_frozen BK116.out 1))
                            go_roundg kj16
                            case measure => have := HK1.out; have := HJ5.out; have := HJ11.out; have := HJ16.out; omega
                            case rel => exact ⟨(y120), (wrap64 (x4_1 + 1)), (by first | rfl | (simp; done) | (simp [*]; done)), H', ⟨by have := HK1.out; have := HJ5.out; have := HJ11.out; have := HJ16.out; omega⟩, ⟨by (with_reducible repeat (first | apply Kd.S_alloc | apply Kd.S_drewN | apply Kd.S_drew)); exact HO122.out⟩, ⟨by repeat (first | (with_reducible first | exact HB.out | apply below_alloc | apply pw_below_drewN | apply below_drew1 | refine below_set ?_ GE116.out) | exact HB.out)⟩⟩
                        · rw [if_neg c22] at H
                          exact absurd H (by simp)
                      · replace c21 := Bool.eq_false_iff.mpr c21
                        subst c21
                        have H1 : (if ((rd_T31 l0 x4_1).f0) < 0 then (if ((rd_T31 l0 x4_1).f1) ≥ 0 then (if x3_11.length < 1954687338268 then (cubbyref15_Ins.l0 kj16 l0 (x3_11 ++ [(⟨22, wrap64 ((-1) - ((rd_T31 l0 x4_1).f0)), ((rd_T31 l0 x4_1).f1), 0, (⟨#[]⟩ : ByteArray), ([] : List Int)⟩ : S28)]) (wrap64 (x4_1 + 1))) else (none)) else (cubbyref15_Ins.l0 kj16 l0 x3_11 (wrap64 (x4_1 + 1)))) else (cubbyref15_Ins.l0 kj16 l0 x3_11 (wrap64 (x4_1 + 1)))) = some r := by rw [if_neg (show ¬ (false = true) by decide)] at H; exact H
                        clear H
                        have H := H1
                        clear H1
                        by_cases c36 : ((rd_T31 l0 x4_1).f0) < 0
                        · rw [if_pos c36] at H
                          have c36b0 : decide (((rd_T31 l0 x4_1).f0) < 0) = true := decide_eq_true c36
                          clear c36
                          by_cases c37 : ((rd_T31 l0 x4_1).f1) ≥ 0
                          · rw [if_pos c37] at H
                            have c37b0 : decide (0 ≤ ((rd_T31 l0 x4_1).f1)) = true := decide_eq_true c37
                            clear c37
                            by_cases c38 : x3_11.length < 1954687338268
                            · rw [if_pos c38] at H
                              have LMc38 := Aside0.mk c38
                              clear c38
                              obtain ⟨y126, hy126⟩ : ∃ y_ : List (S28), y_ = (x3_11 ++ [(⟨22, wrap64 ((-1) - ((rd_T31 l0 x4_1).f0)), ((rd_T31 l0 x4_1).f1), 0, (⟨#[]⟩ : ByteArray), ([] : List Int)⟩ : S28)]) := ⟨_, rfl⟩
                              replace H : (cubbyref15_Ins.l0 kj16 l0 y126 (wrap64 (x4_1 + 1))) = some r := by first | (rw [hy126]; with_reducible exact H) | (have H2_ := (Option.bind_some _ _).symm.trans H; rw [hy126]; with_reducible exact H2_) | (have H2_ := (Option.bind_some _ _).symm.trans H; with_reducible exact H2_) | with_reducible exact H | (rw [hy126]; exact H) | exact H
                              have Ny126 := Aside0.mk hy126
                              clear hy126
                              have H' := Aside0.mk H
                              clear H
                              have hcz39_0 : wc.cell? ⟨gb116, 0, none⟩ = some (.int .i64 ((rd_T31 l0 x4_1).f0)) := (blk_cell BK116.out 0).trans rfl
                              have hcz39_1 : wc.cell? ⟨gb116, 1, none⟩ = some (.int .i64 ((rd_T31 l0 x4_1).f1)) := (blk_cell BK116.out 1).trans rfl
                              have hfz39_0 := blk_frozen BK116.out 0
                              have hfz39_1 := blk_frozen BK116.out 1
                              go_wp2_with (first | ((with_reducible refine gate_builtin (b := .append) (xs := #[.tmp 58, .tmp 65]) rfl ?_); at_builtin; refine Kd.S_append k28 (w0 := w) w.heap.size rfl (.tmp 58) (.tmp 65) 23 28 (.agg #[(.int .i64 0), (.int .i64 0), (.int .i64 0), (.int .i64 0), (.string ⟨#[]⟩), (.slice none 0 0)]) 72 rfl Try.underlying23 info28 rfl (by decide) (by omega) u3 x3_11 (⟨22, wrap64 ((-1) - ((rd_T31 l0 x4_1).f0)), ((rd_T31 l0 x4_1).f1), 0, (⟨#[]⟩ : ByteArray), ([] : List Int)⟩ : S28) [.int .i64 22, .int .i64 (wrap64 ((-1) - ((rd_T31 l0 x4_1).f0))), .int .i64 ((rd_T31 l0 x4_1).f1), .int .i64 0, .string (⟨#[]⟩ : ByteArray), .slice none 0 0] (fun _ => True) (fun _ => False) rfl rfl ?aP (fun k_ hk_ => hk_.elim) ?aF ?aO ?aB ?aS ?aL ?_; (case aP => exact k28_mkM _ _ _ (⟨22, wrap64 ((-1) - ((rd_T31 l0 x4_1).f0)), ((rd_T31 l0 x4_1).f1), 0, (⟨#[]⟩ : ByteArray), ([] : List Int)⟩ : S28) (Kd.R_nil _ _ _ _ _)); (case aB => exact (by repeat (first | (with_reducible first | exact HB.out | apply below_alloc | apply pw_below_drewN | apply below_drew1 | refine below_set ?_ GE116.out) | exact HB.out))); (case aF => exact (fun _ _ => trivial)); (case aO => exact (by (with_reducible repeat (first | apply Kd.S_alloc | apply Kd.S_drewN | apply Kd.S_drew)); exact Kd.S_mono HO_3.out (fun k_ hk => ⟨trivial, fun e_ => e_⟩))); (case aS => exact (below_size (by repeat (first | (with_reducible first | exact HB.out | apply below_alloc | apply pw_below_drewN | apply below_drew1 | refine below_set ?_ GE116.out) | exact HB.out)))); (case aL => have := LMc38.out; omega); intro v127 w40 ho hb hg hat; rw [← Ny126.out] at ho; have n0_ := Aside0.mk (blk_grown (g := gb116) (o := .cells #[.int .i64 ((rd_T31 l0 x4_1).f0), .int .i64 ((rd_T31 l0 x4_1).f1)] 31 (0, 0)) (by (with_reducible repeat (first | refine blk_drewN ?_ _ | refine blk_drew ?_ | refine blk_alloc ?_ _)); exact BK116.out) hg (Kd.S_ne HO_3.out BK116.out (by decide))); have n1_ := Aside0.mk (hb); have n2_ := Aside0.mk (ho); clear BK116; clear HB; clear HO_3; have BK116 := n0_; have HB := n1_; have HO128 := n2_; clear n0_ n1_ n2_; clear ho hb hg hat))
                              go_roundg kj16
                              case measure => have := HK1.out; have := HJ5.out; have := HJ11.out; have := HJ16.out; omega
                              case rel => exact ⟨(y126), (wrap64 (x4_1 + 1)), (by first | rfl | (simp; done) | (simp [*]; done)), H', ⟨by have := HK1.out; have := HJ5.out; have := HJ11.out; have := HJ16.out; omega⟩, ⟨by (with_reducible repeat (first | apply Kd.S_alloc | apply Kd.S_drewN | apply Kd.S_drew)); exact HO128.out⟩, ⟨by repeat (first | (with_reducible first | exact HB.out | apply below_alloc | apply pw_below_drewN | apply below_drew1 | refine below_set ?_ GE116.out) | exact HB.out)⟩⟩
                            · rw [if_neg c38] at H
                              exact absurd H (by simp)
                          · rw [if_neg c37] at H
                            have c37b0 : decide (0 ≤ ((rd_T31 l0 x4_1).f1)) = false := decide_eq_false c37
                            clear c37
                            have H' := Aside0.mk H
                            clear H
                            have hcz41_0 : wc.cell? ⟨gb116, 0, none⟩ = some (.int .i64 ((rd_T31 l0 x4_1).f0)) := (blk_cell BK116.out 0).trans rfl
                            have hcz41_1 : wc.cell? ⟨gb116, 1, none⟩ = some (.int .i64 ((rd_T31 l0 x4_1).f1)) := (blk_cell BK116.out 1).trans rfl
                            have hfz41_0 := blk_frozen BK116.out 0
                            have hfz41_1 := blk_frozen BK116.out 1
                            go_wp2
                            go_roundg kj16
                            case measure => have := HK1.out; have := HJ5.out; have := HJ11.out; have := HJ16.out; omega
                            case rel => exact ⟨(x3_11), (wrap64 (x4_1 + 1)), (by first | rfl | (simp; done) | (simp [*]; done)), H', ⟨by have := HK1.out; have := HJ5.out; have := HJ11.out; have := HJ16.out; omega⟩, ⟨by (with_reducible repeat (first | apply Kd.S_alloc | apply Kd.S_drewN | apply Kd.S_drew)); exact HO_3.out⟩, ⟨by repeat (first | (with_reducible first | exact HB.out | apply below_alloc | apply pw_below_drewN | apply below_drew1 | refine below_set ?_ GE116.out) | exact HB.out)⟩⟩
                        · rw [if_neg c36] at H
                          have c36b0 : decide (((rd_T31 l0 x4_1).f0) < 0) = false := decide_eq_false c36
                          clear c36
                          have H' := Aside0.mk H
                          clear H
                          have hcz42_0 : wc.cell? ⟨gb116, 0, none⟩ = some (.int .i64 ((rd_T31 l0 x4_1).f0)) := (blk_cell BK116.out 0).trans rfl
                          have hcz42_1 : wc.cell? ⟨gb116, 1, none⟩ = some (.int .i64 ((rd_T31 l0 x4_1).f1)) := (blk_cell BK116.out 1).trans rfl
                          have hfz42_0 := blk_frozen BK116.out 0
                          have hfz42_1 := blk_frozen BK116.out 1
                          go_wp2
                          go_roundg kj16
                          case measure => have := HK1.out; have := HJ5.out; have := HJ11.out; have := HJ16.out; omega
                          case rel => exact ⟨(x3_11), (wrap64 (x4_1 + 1)), (by first | rfl | (simp; done) | (simp [*]; done)), H', ⟨by have := HK1.out; have := HJ5.out; have := HJ11.out; have := HJ16.out; omega⟩, ⟨by (with_reducible repeat (first | apply Kd.S_alloc | apply Kd.S_drewN | apply Kd.S_drew)); exact HO_3.out⟩, ⟨by repeat (first | (with_reducible first | exact HB.out | apply below_alloc | apply pw_below_drewN | apply below_drew1 | refine below_set ?_ GE116.out) | exact HB.out)⟩⟩
        · rw [if_neg c5] at H
          exact absurd H (by simp)
      · rw [if_neg c4] at H
        have c4b0 : decide (x4_1 < (l0.length : Int)) = false := decide_eq_false c4
        clear c4
        obtain rfl := Option.some.inj H
        go_wp2
        go_ret
        exact ⟨_, by first | rfl | (simp [errW_none, errW_some] <;> rfl) | (simp [*, errW_none, errW_some] <;> rfl), by (with_reducible repeat (first | apply Kd.S_alloc | apply Kd.S_drewN | apply Kd.S_drew)); exact HO_3.out, by repeat (first | (with_reducible first | exact HB.out | apply below_alloc | apply pw_below_drewN | apply below_drew1) | exact HB.out)⟩

end Go.Proofs.Ytjofkmeaofpbfaa.PMoveIns
