-- By a program of this session (wip/tools/mkprint.py), for this claim.
import Derived.Test.YtbpblefamjmkjaaPEvictPinsx0
import Derived.Test.YtbpblefamjmkjaaPEvictPinsx1
import Derived.Test.YtbpblefamjmkjaaPEvictPinsx2
import Derived.Test.YtbpblefamjmkjaaPEvictPinsx4
import Derived.Test.YtbpblefamjmkjaaPEvictPinsx5
namespace Go.Proofs.Ytbpblefamjmkjaa.PEvictPins
open Go.RowKit Go.Proofs.YtbpblefamjmkjaaW.PrintWords Go.Proofs.YtbpblefamjmkjaaW.PrintLast Go.Proofs.YtbpblefamjmkjaaW.PrintMore
attribute [local go_sem] max2_int min2_int max_two min_two max_three min_three max_four min_four   -- for this text's walks alone
set_option linter.unusedVariables false
set_option linter.unusedSimpArgs false

/-! ### cubbylaw20_EvictPins: function 4 -/
mutual
def cubbylaw20_EvictPins.l0 : Nat → Int → Int → List (S29) → Int → Int → Option (Bool)
  | 0, _, _, _, _, _ => none
  | k + 1, x1, x2, x7, x8, x9 => if x9 < (x7.length : Int) then (if 0 ≤ x9 then ((some (x7.set (x9 : Int).toNat (⟨(rd_T29 x7 x9).f0, (rd_T29 x7 x9).f1, (rd_T29 x7 x9).f2, true⟩ : S29) : List (S29))).bind fun y170 => (cubbylaw20_EvictPins.l0 k x1 x2 y170 (wrap64 (x8 + ((rd_T29 y170 x9).f1))) (wrap64 (x9 + 1)))) else (none)) else ((evict_Victims.f k x7 (wrap64 (x1)) (wrap64 (x2))).bind fun bt172 => ((cubbylaw20_theirs.f k x7).bind fun t176 => ((cubbyref20_Victims.f k t176 (wrap64 (x1)) (wrap64 (x2))).bind fun bt179 => (if bt172.2 = bt179.2 then (if (bt172.1.length : Int) = 0 then (cubbylaw20_EvictPins.j1 k x1 x2 x7 ((bt172.2 == 0) != (decide (x8 ≤ (wrap64 (x2)))))) else (cubbylaw20_EvictPins.j1 k x1 x2 x7 true)) else (cubbylaw20_EvictPins.j1 k x1 x2 x7 true)))))
def cubbylaw20_EvictPins.j1 : Nat → Int → Int → List (S29) → Bool → Option (Bool)
  | 0, _, _, _, _ => none
  | k + 1, x1, x2, x7, x73 => if x73 = true then (some false) else (cubbylaw20_EvictPins.l1 k x1 x2 x7 0)
def cubbylaw20_EvictPins.l1 : Nat → Int → Int → List (S29) → Int → Option (Bool)
  | 0, _, _, _, _ => none
  | k + 1, x1, x2, x7, x14 => if x14 < (x7.length : Int) then (if 0 ≤ x14 then (cubbylaw20_EvictPins.l1 k x1 x2 (x7.set (x14 : Int).toNat (⟨(rd_T29 x7 x14).f0, (rd_T29 x7 x14).f1, (rd_T29 x7 x14).f2, false⟩ : S29)) (wrap64 (x14 + 1))) else (none)) else ((evict_Victims.f k x7 (wrap64 (x1)) (wrap64 (x2))).bind fun bt184 => (some ((bt184.2 == 0) == (decide (x1 ≤ x2)))))
end
def cubbylaw20_EvictPins.f (k : Nat) (l0 : List Int) (a1 : Int) (a2 : Int) : Option (Bool) := (cubbylaw20_small.f k l0 ([] : List Bool)).bind fun t167 => (cubbylaw20_EvictPins.l0 k a1 a2 t167 (wrap64 (a1)) 0)
theorem cubbylaw20_EvictPins.mono_l : ∀ k, (∀ y0 y1 y2 y3 y4, LeO (cubbylaw20_EvictPins.l0 k y0 y1 y2 y3 y4) (cubbylaw20_EvictPins.l0 (k + 1) y0 y1 y2 y3 y4)) ∧ (∀ y0 y1 y2 y3, LeO (cubbylaw20_EvictPins.j1 k y0 y1 y2 y3) (cubbylaw20_EvictPins.j1 (k + 1) y0 y1 y2 y3)) ∧ (∀ y0 y1 y2 y3, LeO (cubbylaw20_EvictPins.l1 k y0 y1 y2 y3) (cubbylaw20_EvictPins.l1 (k + 1) y0 y1 y2 y3))
  | 0 => ⟨fun _ _ _ _ _ r h => by simp [cubbylaw20_EvictPins.l0] at h, fun _ _ _ _ r h => by simp [cubbylaw20_EvictPins.j1] at h, fun _ _ _ _ r h => by simp [cubbylaw20_EvictPins.l1] at h⟩
  | k + 1 => by
    obtain ⟨ih0, ih1, ih2⟩ := cubbylaw20_EvictPins.mono_l k
    refine ⟨?_, ?_, ?_⟩
    · intro y0 y1 y2 y3 y4
      unfold cubbylaw20_EvictPins.l0
      repeat' first
      | (with_reducible exact ih0 _ _ _ _ _)
      | (with_reducible exact ih1 _ _ _ _)
      | (with_reducible exact ih2 _ _ _ _)
      | (with_reducible exact cubbylaw20_small.mono _ _ _)
      | (with_reducible exact cubbylaw20_theirs.mono _ _)
      | (with_reducible exact cubbyref20_Victims.mono _ _ _ _)
      | (with_reducible exact evict_Victims.mono _ _ _ _)
      | (with_reducible exact LeO.refl _)
      | (with_reducible exact LeO.none _)
      | (with_reducible refine LeO.ite ?_ ?_)
      | (with_reducible refine LeO.bind ?_ (fun _ => ?_))
      | exact ih0 _ _ _ _ _
      | exact ih1 _ _ _ _
      | exact ih2 _ _ _ _
      | exact cubbylaw20_small.mono _ _ _
      | exact cubbylaw20_theirs.mono _ _
      | exact cubbyref20_Victims.mono _ _ _ _
      | exact evict_Victims.mono _ _ _ _
      | exact LeO.none _
      | refine LeO.ite ?_ ?_
      | refine LeO.bind ?_ (fun _ => ?_)
    · intro y0 y1 y2 y3
      unfold cubbylaw20_EvictPins.j1
      repeat' first
      | (with_reducible exact ih0 _ _ _ _ _)
      | (with_reducible exact ih1 _ _ _ _)
      | (with_reducible exact ih2 _ _ _ _)
      | (with_reducible exact cubbylaw20_small.mono _ _ _)
      | (with_reducible exact cubbylaw20_theirs.mono _ _)
      | (with_reducible exact cubbyref20_Victims.mono _ _ _ _)
      | (with_reducible exact evict_Victims.mono _ _ _ _)
      | (with_reducible exact LeO.refl _)
      | (with_reducible exact LeO.none _)
      | (with_reducible refine LeO.ite ?_ ?_)
      | (with_reducible refine LeO.bind ?_ (fun _ => ?_))
      | exact ih0 _ _ _ _ _
      | exact ih1 _ _ _ _
      | exact ih2 _ _ _ _
      | exact cubbylaw20_small.mono _ _ _
      | exact cubbylaw20_theirs.mono _ _
      | exact cubbyref20_Victims.mono _ _ _ _
      | exact evict_Victims.mono _ _ _ _
      | exact LeO.none _
      | refine LeO.ite ?_ ?_
      | refine LeO.bind ?_ (fun _ => ?_)
    · intro y0 y1 y2 y3
      unfold cubbylaw20_EvictPins.l1
      repeat' first
      | (with_reducible exact ih0 _ _ _ _ _)
      | (with_reducible exact ih1 _ _ _ _)
      | (with_reducible exact ih2 _ _ _ _)
      | (with_reducible exact cubbylaw20_small.mono _ _ _)
      | (with_reducible exact cubbylaw20_theirs.mono _ _)
      | (with_reducible exact cubbyref20_Victims.mono _ _ _ _)
      | (with_reducible exact evict_Victims.mono _ _ _ _)
      | (with_reducible exact LeO.refl _)
      | (with_reducible exact LeO.none _)
      | (with_reducible refine LeO.ite ?_ ?_)
      | (with_reducible refine LeO.bind ?_ (fun _ => ?_))
      | exact ih0 _ _ _ _ _
      | exact ih1 _ _ _ _
      | exact ih2 _ _ _ _
      | exact cubbylaw20_small.mono _ _ _
      | exact cubbylaw20_theirs.mono _ _
      | exact cubbyref20_Victims.mono _ _ _ _
      | exact evict_Victims.mono _ _ _ _
      | exact LeO.none _
      | refine LeO.ite ?_ ?_
      | refine LeO.bind ?_ (fun _ => ?_)
theorem cubbylaw20_EvictPins.mono : ∀ a0 a1 a2 k, LeO (cubbylaw20_EvictPins.f k a0 a1 a2) (cubbylaw20_EvictPins.f (k + 1) a0 a1 a2) := by
  intro a0 a1 a2 k
  obtain ⟨ih0, ih1, ih2⟩ := cubbylaw20_EvictPins.mono_l k
  unfold cubbylaw20_EvictPins.f
  repeat' first
      | (with_reducible exact ih0 _ _ _ _ _)
      | (with_reducible exact ih1 _ _ _ _)
      | (with_reducible exact ih2 _ _ _ _)
      | (with_reducible exact cubbylaw20_small.mono _ _ _)
      | (with_reducible exact cubbylaw20_theirs.mono _ _)
      | (with_reducible exact cubbyref20_Victims.mono _ _ _ _)
      | (with_reducible exact evict_Victims.mono _ _ _ _)
      | (with_reducible exact LeO.refl _)
      | (with_reducible exact LeO.none _)
      | (with_reducible refine LeO.ite ?_ ?_)
      | (with_reducible refine LeO.bind ?_ (fun _ => ?_))
      | exact ih0 _ _ _ _ _
      | exact ih1 _ _ _ _
      | exact ih2 _ _ _ _
      | exact cubbylaw20_small.mono _ _ _
      | exact cubbylaw20_theirs.mono _ _
      | exact cubbyref20_Victims.mono _ _ _ _
      | exact evict_Victims.mono _ _ _ _
      | exact LeO.none _
      | refine LeO.ite ?_ ?_
      | refine LeO.bind ?_ (fun _ => ?_)
set_option maxHeartbeats 8000000 in
set_option maxRecDepth 100000 in
theorem cubbylaw20_EvictPins.calls (k : Nat) (A0 : Option Addr) (c0 : Nat) (l0 : List Int) (a1 : Int) (a2 : Int) (r : Bool) (w : World) (hr0 : Kd.C (Kd.int .u8) w A0 l0.length l0) (hc0 : l0.length ≤ c0) (h : cubbylaw20_EvictPins.f k l0 a1 a2 = some r) :
    Calls Try.prog 4 #[.slice A0 l0.length c0, .int .u16 a1, .int .u16 a2] w fun e w' => e = .returned (.bool r) ∧ Below w.heap.size w w' := by
  have HR0 := Aside0.mk hr0
  have HC0 := Aside0.mk hc0
  clear hr0 hc0
  have HB := Aside0.mk (Below.refl w.heap.size w)
  have H : ((cubbylaw20_small.f k l0 ([] : List Bool)).bind fun t167 => (cubbylaw20_EvictPins.l0 k a1 a2 t167 (wrap64 (a1)) 0)) = some r := h
  clear h
  replace H := Option.bind_eq_some_iff.mp H
  obtain ⟨t167, A40, H⟩ := H
  replace H : (cubbylaw20_EvictPins.l0 k a1 a2 t167 (wrap64 (a1)) 0) = some r := H
  have A4 := Aside0.mk A40
  clear A40
  have H' := Aside0.mk H
  clear H
  go_enter Try.func4, Try.ntmps4
  go_wp2_with (first | ((with_reducible refine gate_callee (f := 12) rfl ?_); refine goesL_ (some 18) rfl rfl Try.func12 (by kernel_rfl) rfl #[.slice A0 l0.length c0, .slice none 0 0] rfl (by (try simp only [List.map_toArray, List.map_cons, List.map_nil]); first | done | rfl | (simp only [List.length_drop, List.length_take]; rfl)) ?_; (refine (cubbylaw20_small.calls k _ _ l0 _ _ ([] : List Bool) t167 _ ?side1 ?side2 ?side3 ?side4 A4.out).mono ?_); (case side1 => repeat (first | exact HR0.out | (with_reducible refine Kd.C_alloc ?_ _) | (with_reducible refine Kd.C_drewN ?_ _) | (with_reducible refine Kd.C_drew ?_))); (case side2 => exact HC0.out); (case side3 => exact Kd.C_nil _ _); (case side4 => exact Nat.le_refl _); rintro e w5 ⟨v168, rfl, ho0, hb⟩; refine ⟨_, rfl, ?_⟩; have n0_ := Aside0.mk (Kd.R_lower ho0 (below_size (by repeat (first | (with_reducible first | exact HB.out | apply below_alloc | apply pw_below_drewN | apply below_drew1) | exact HB.out)))); have n1_ := Aside0.mk (below_step (by repeat (first | (with_reducible first | exact HB.out | apply below_alloc | apply pw_below_drewN | apply below_drew1) | exact HB.out)) hb); clear HB; have HO169 := n0_; have HB := n1_; clear n0_ n1_; (try clear hb); (try clear hb2); (try clear hk); (try clear hi); (try clear ho0)))
  go_loopg [8, 9] k (fun kq v8 v9 w' => ∃ (x7_1 : List (S29)) (x8_1 : Int) (x9_1 : Int), v8 = .int .i64 x8_1 ∧ v9 = .int .i64 x9_1 ∧ Aside0 (cubbylaw20_EvictPins.l0 kq a1 a2 x7_1 x8_1 x9_1 = some r) ∧ Aside0 (kq ≤ k) ∧ Aside0 (Kd.R k29 29 w' w.heap.size (fun _ => True) v168 x7_1) ∧ Aside0 (Below w.heap.size w w'))
  case atStart => exact ⟨(t167), (wrap64 (a1)), (0), (by first | rfl | (simp; done) | (simp [*]; done)), (by first | rfl | (simp; done) | (simp [*]; done)), H', ⟨Nat.le_refl _⟩, ⟨by (with_reducible repeat (first | apply Kd.R_alloc | apply Kd.R_drewN | apply Kd.R_drew)); exact HO169.out⟩, ⟨by repeat (first | (with_reducible first | exact HB.out | apply below_alloc | apply pw_below_drewN | apply below_drew1) | exact HB.out)⟩⟩
  case round =>
    clear H'
    try clear c1
    try clear p2
    try clear c4
    obtain ⟨x7_1, x8_1, x9_1, rfl, rfl, HA, HK1, HO_7, HB⟩ := hrel
    cases gk with
    | zero => exact absurd HA.out (by simp [cubbylaw20_EvictPins.l0])
    | succ k1 =>
      have H := HA.out
      clear HA
      simp only [cubbylaw20_EvictPins.l0] at H
      by_cases c6 : x9_1 < (x7_1.length : Int)
      · rw [if_pos c6] at H
        have c6b0 : decide (x9_1 < (x7_1.length : Int)) = true := decide_eq_true c6
        clear c6
        by_cases c7 : 0 ≤ x9_1
        · rw [if_pos c7] at H
          have c7b0 : decide (0 ≤ x9_1) = true := decide_eq_true c7
          clear c7
          obtain ⟨y170, hy170⟩ : ∃ y_ : List (S29), y_ = (x7_1.set (x9_1 : Int).toNat (⟨(rd_T29 x7_1 x9_1).f0, (rd_T29 x7_1 x9_1).f1, (rd_T29 x7_1 x9_1).f2, true⟩ : S29)) := ⟨_, rfl⟩
          replace H : (cubbylaw20_EvictPins.l0 k1 a1 a2 y170 (wrap64 (x8_1 + ((rd_T29 y170 x9_1).f1))) (wrap64 (x9_1 + 1))) = some r := by first | (rw [hy170]; with_reducible exact H) | (have H2_ := (Option.bind_some _ _).symm.trans H; rw [hy170]; with_reducible exact H2_) | (have H2_ := (Option.bind_some _ _).symm.trans H; with_reducible exact H2_) | with_reducible exact H | (rw [hy170]; exact H) | exact H
          have Ny170 := Aside0.mk hy170
          clear hy170
          have H' := Aside0.mk H
          clear H
          obtain ⟨Ao9, co9, eo9⟩ := Kd.R_slice HO_7.out
          subst eo9
          have p8 : 0 ≤ (x9_1 : Int) := of_decide_eq_true (by first | (with_reducible assumption) | assumption)
          have q8 : (x9_1 : Int) < ((x7_1.length : Int) : Int) := of_decide_eq_true (by first | (with_reducible assumption) | assumption)
          obtain ⟨go8, co8, eo8, gb8, gl8, cl8, HG8⟩ := Kd.R_form HO_7.out (by omega)
          (first | cases eo8 | (injection eo8 with ea_ en_ ec_; (first | subst ea_ | (injection ea_ with ea_; subst ea_)); subst ec_; clear en_))
          have GB8 := Aside0.mk gb8
          have GG8 := Aside0.mk HG8
          clear gb8 gl8 HG8
          obtain ⟨ce8, hcl8, hM8, hcc8, hfr8⟩ := Kd.R_elem HO_7.out z29 (x9_1 : Int) p8 q8
          obtain rfl := k29_openM hM8
          have hx8_0 : wr.cell? ⟨go8, (x9_1 : Int).toNat * 4, none⟩ = some (.string ((rd_T29 x7_1 x9_1).f0)) := hcc8 0 _ rfl
          have hx8_1 : wr.cell? ⟨go8, (x9_1 : Int).toNat * 4 + 1, none⟩ = some (.int .i64 ((rd_T29 x7_1 x9_1).f1)) := hcc8 1 _ rfl
          have hx8_2 : wr.cell? ⟨go8, (x9_1 : Int).toNat * 4 + 2, none⟩ = some (.int .i64 ((rd_T29 x7_1 x9_1).f2)) := hcc8 2 _ rfl
          have hx8_3 : wr.cell? ⟨go8, (x9_1 : Int).toNat * 4 + 3, none⟩ = some (.bool ((rd_T29 x7_1 x9_1).f3)) := hcc8 3 _ rfl
          have hf8_0 : wr.frozen? ⟨go8, (x9_1 : Int).toNat * 4, none⟩ = false := hfr8 0
          have hf8_1 : wr.frozen? ⟨go8, (x9_1 : Int).toNat * 4 + 1, none⟩ = false := hfr8 1
          have hf8_2 : wr.frozen? ⟨go8, (x9_1 : Int).toNat * 4 + 2, none⟩ = false := hfr8 2
          have hf8_3 : wr.frozen? ⟨go8, (x9_1 : Int).toNat * 4 + 3, none⟩ = false := hfr8 3
          clear hcl8 hcc8 hfr8 hM8
          replace p8 := eq_true p8
          replace q8 := eq_true q8
          have HX10 := Aside0.mk (show Kd.R k29 29 wr w.heap.size (fun _ => True) (.slice (some ⟨go8, 0, none⟩) x7_1.length co9) x7_1 from (by (with_reducible repeat (first | apply Kd.R_alloc | apply Kd.R_drewN | apply Kd.R_drew)); exact HO_7.out))
          obtain ⟨ce10, hcl10, hM10, hcc10, hfr10⟩ := Kd.R_elem HX10.out z29 (x9_1 : Int) (of_decide_eq_true (by first | (with_reducible assumption) | assumption)) (by have h_ : (x9_1 : Int) < ((x7_1.length : Int) : Int) := of_decide_eq_true (by first | (with_reducible assumption) | assumption); first | exact h_ | (have e_ := (Kd.R_reads' HO_7.out).1; omega) | simpa using h_)
          obtain rfl := k29_openM hM10
          have HP10 := Kd.R_seg HX10.out (x9_1 : Int) (of_decide_eq_true (by first | (with_reducible assumption) | assumption)) (by have h_ : (x9_1 : Int) < ((x7_1.length : Int) : Int) := of_decide_eq_true (by first | (with_reducible assumption) | assumption); first | exact h_ | (have e_ := (Kd.R_reads' HO_7.out).1; omega) | simpa using h_) (seg := [.bool true]) (j := 3) hcl10 hcc10 (show 4 ≤ 4 from by decide) (x' := (⟨(rd_T29 x7_1 x9_1).f0, (rd_T29 x7_1 x9_1).f1, (rd_T29 x7_1 x9_1).f2, true⟩ : S29)) (k29_mkM _ _ _ (⟨(rd_T29 x7_1 x9_1).f0, (rd_T29 x7_1 x9_1).f1, (rd_T29 x7_1 x9_1).f2, true⟩ : S29) ) (fun _ hk => hk)
          have hx10_3 := hcc10 3 _ rfl
          (try simp only [show (k29).sz = 4 from rfl, Nat.mul_one, Nat.add_zero] at hx10_3)
          have hf10_3 := hfr10 3
          (try simp only [show (k29).sz = 4 from rfl, Nat.mul_one, Nat.add_zero] at hf10_3)
          clear hcl10 hcc10 hfr10 hM10
          go_wp2_with (first | ((with_reducible refine gate_store (t := 4) (p := 30) rfl ?_); refine store_event (t := 4) (p := 30) (v := ?vo_w11) (w1 := (wr.setCell ⟨go8, (x9_1 : Int).toNat * 4 + 3, none⟩ (.bool true))) ?hg ?ho ?hn ?hr ?_; (case ho => rfl); (case hg => rfl); (case hn => rfl); (case hr => first | (go_simp; done) | (go_simp; rfl)); intro w11 hw; have hg : wr.grownBy w11 (some go8) := (by rw [hw]; exact HP10.2); have hp_ : Kd.R k29 29 w11 w.heap.size (fun _ => True) (.slice (some ⟨go8, 0, none⟩) x7_1.length co9) y170 := (by rw [hw, Ny170.out]; exact HP10.1); clear HP10; have n0_ := Aside0.mk (hp_); have n1_ := Aside0.mk ((by rw [hw]; exact below_set (HB.out) GB8.out : Below w.heap.size w w11)); clear HO_7; clear HB; have HO_7 := n0_; have HB := n1_; clear n0_ n1_; clear hg hw hp_; have p171 : 0 ≤ (x9_1 : Int) := of_decide_eq_true (by first | (with_reducible assumption) | assumption); have q171 : x9_1 < (y170.length : Int) := (by have h_ : (x9_1 : Int) < ((x7_1.length : Int) : Int) := of_decide_eq_true (by first | (with_reducible assumption) | assumption); first | (have e_ := (Kd.R_reads' HO_7.out).1; omega) | simpa only [Ny170.out, List.length_set] using h_); have ql171 : ((x9_1 : Int) < ((x7_1.length : Int) : Int)) = True := eq_true (of_decide_eq_true (by first | (with_reducible assumption) | assumption)); obtain ⟨ad171, e171, hx171_0, hx171_1, hx171_2, hx171_3⟩ := at_T29 (Kd.R_reads' HO_7.out).2.2 x9_1 p171 q171; obtain rfl : (⟨go8, 0, none⟩ : Addr) = ad171 := (by injection e171); (first | simp only [add_plain] at hx171_0 | simp only [add_at] at hx171_0 | simp only [Addr.add, Nat.zero_add] at hx171_0 | skip); (first | simp only [add_plain] at hx171_1 | simp only [add_at] at hx171_1 | simp only [Addr.add, Nat.zero_add] at hx171_1 | skip); (first | simp only [add_plain] at hx171_2 | simp only [add_at] at hx171_2 | simp only [Addr.add, Nat.zero_add] at hx171_2 | skip); (first | simp only [add_plain] at hx171_3 | simp only [add_at] at hx171_3 | simp only [Addr.add, Nat.zero_add] at hx171_3 | skip); replace p171 := eq_true p171; replace q171 := eq_true q171))
          go_roundg k1
          case measure => have := HK1.out; omega
          case rel => exact ⟨(y170), (wrap64 (x8_1 + ((rd_T29 y170 x9_1).f1))), (wrap64 (x9_1 + 1)), (by first | rfl | (simp; done) | (simp [*]; done)), (by first | rfl | (simp; done) | (simp [*]; done)), H', ⟨by have := HK1.out; omega⟩, ⟨by (with_reducible repeat (first | apply Kd.R_alloc | apply Kd.R_drewN | apply Kd.R_drew)); exact HO_7.out⟩, ⟨by repeat (first | (with_reducible first | exact HB.out | apply below_alloc | apply pw_below_drewN | apply below_drew1) | exact HB.out)⟩⟩
        · rw [if_neg c7] at H
          exact absurd H (by simp)
      · rw [if_neg c6] at H
        have c6b0 : decide (x9_1 < (x7_1.length : Int)) = false := decide_eq_false c6
        clear c6
        replace H := Option.bind_eq_some_iff.mp H
        obtain ⟨⟨t172, t173⟩, A120, H⟩ := H
        replace H : ((cubbylaw20_theirs.f k1 x7_1).bind fun t176 => ((cubbyref20_Victims.f k1 t176 (wrap64 (a1)) (wrap64 (a2))).bind fun bt179 => (if t173 = bt179.2 then (if (t172.length : Int) = 0 then (cubbylaw20_EvictPins.j1 k1 a1 a2 x7_1 ((t173 == 0) != (decide (x8_1 ≤ (wrap64 (a2)))))) else (cubbylaw20_EvictPins.j1 k1 a1 a2 x7_1 true)) else (cubbylaw20_EvictPins.j1 k1 a1 a2 x7_1 true)))) = some r := H
        have A12 := Aside0.mk A120
        clear A120
        replace H := Option.bind_eq_some_iff.mp H
        obtain ⟨t176, A130, H⟩ := H
        replace H : ((cubbyref20_Victims.f k1 t176 (wrap64 (a1)) (wrap64 (a2))).bind fun bt179 => (if t173 = bt179.2 then (if (t172.length : Int) = 0 then (cubbylaw20_EvictPins.j1 k1 a1 a2 x7_1 ((t173 == 0) != (decide (x8_1 ≤ (wrap64 (a2)))))) else (cubbylaw20_EvictPins.j1 k1 a1 a2 x7_1 true)) else (cubbylaw20_EvictPins.j1 k1 a1 a2 x7_1 true))) = some r := H
        have A13 := Aside0.mk A130
        clear A130
        replace H := Option.bind_eq_some_iff.mp H
        obtain ⟨⟨t179, t180⟩, A140, H⟩ := H
        replace H : (if t173 = t180 then (if (t172.length : Int) = 0 then (cubbylaw20_EvictPins.j1 k1 a1 a2 x7_1 ((t173 == 0) != (decide (x8_1 ≤ (wrap64 (a2)))))) else (cubbylaw20_EvictPins.j1 k1 a1 a2 x7_1 true)) else (cubbylaw20_EvictPins.j1 k1 a1 a2 x7_1 true)) = some r := H
        have A14 := Aside0.mk A140
        clear A140
        have HC15 := Aside0.mk H
        clear H
        obtain ⟨Ao16, co16, eo16⟩ := Kd.R_slice HO_7.out
        subst eo16
        go_upto_region 10 with (first | ((with_reducible refine gate_callee (f := 13) rfl ?_); refine goesL_ (some 44) rfl rfl Try.func13 (by kernel_rfl) rfl #[.slice Ao16 x7_1.length co16, .int .i64 (wrap64 (a1)), .int .i64 (wrap64 (a2))] rfl (by (try simp only [List.map_toArray, List.map_cons, List.map_nil]); first | done | rfl | (simp only [List.length_drop, List.length_take]; rfl)) ?_; (with_reducible refine (evict_Victims.calls k1 _ _ x7_1 (wrap64 (a1)) (wrap64 (a2)) t172 t173 _ ?side1 ?side2 A12.out).mono ?_); (case side1 => repeat (first | exact (Kd.R_reads' HO_7.out).2.2 | (with_reducible refine Kd.C_alloc ?_ _) | (with_reducible refine Kd.C_drewN ?_ _) | (with_reducible refine Kd.C_drew ?_))); (case side2 => exact (Kd.R_reads' HO_7.out).2.1); rintro e w17 ⟨v174, rfl, ho0, hb⟩; refine ⟨_, rfl, ?_⟩; have n0_ := Aside0.mk (Kd.R_below (by (with_reducible repeat (first | apply Kd.R_alloc | apply Kd.R_drewN | apply Kd.R_drew)); exact HO_7.out) hb); have n1_ := Aside0.mk (Kd.R_lower ho0 (below_size (by repeat (first | (with_reducible first | exact HB.out | apply below_alloc | apply pw_below_drewN | apply below_drew1) | exact HB.out)))); have n2_ := Aside0.mk (below_step (by repeat (first | (with_reducible first | exact HB.out | apply below_alloc | apply pw_below_drewN | apply below_drew1) | exact HB.out)) hb); clear HO_7; clear HB; have HO_7 := n0_; have HO175 := n1_; have HB := n2_; clear n0_ n1_ n2_; (try clear hb); (try clear hb2); (try clear hk); (try clear hi); (try clear ho0)) | ((with_reducible refine gate_callee (f := 11) rfl ?_); refine goesL_ (some 49) rfl rfl Try.func11 (by kernel_rfl) rfl #[.slice Ao16 x7_1.length co16] rfl (by (try simp only [List.map_toArray, List.map_cons, List.map_nil]); first | done | rfl | (simp only [List.length_drop, List.length_take]; rfl)) ?_; (with_reducible refine (cubbylaw20_theirs.calls k1 _ _ x7_1 t176 _ ?side1 ?side2 A13.out).mono ?_); (case side1 => repeat (first | exact (Kd.R_reads' HO_7.out).2.2 | (with_reducible refine Kd.C_alloc ?_ _) | (with_reducible refine Kd.C_drewN ?_ _) | (with_reducible refine Kd.C_drew ?_))); (case side2 => exact (Kd.R_reads' HO_7.out).2.1); rintro e w18 ⟨v177, rfl, ho0, hb⟩; refine ⟨_, rfl, ?_⟩; have n0_ := Aside0.mk (Kd.R_below (by (with_reducible repeat (first | apply Kd.R_alloc | apply Kd.R_drewN | apply Kd.R_drew)); exact HO_7.out) hb); have n1_ := Aside0.mk (Kd.R_below (by (with_reducible repeat (first | apply Kd.R_alloc | apply Kd.R_drewN | apply Kd.R_drew)); exact HO175.out) hb); have n2_ := Aside0.mk (Kd.R_lower ho0 (below_size (by repeat (first | (with_reducible first | exact HB.out | apply below_alloc | apply pw_below_drewN | apply below_drew1) | exact HB.out)))); have n3_ := Aside0.mk (below_step (by repeat (first | (with_reducible first | exact HB.out | apply below_alloc | apply pw_below_drewN | apply below_drew1) | exact HB.out)) hb); clear HO_7; clear HO175; clear HB; have HO_7 := n0_; have HO175 := n1_; have HO178 := n2_; have HB := n3_; clear n0_ n1_ n2_ n3_; (try clear hb); (try clear hb2); (try clear hk); (try clear hi); (try clear ho0); obtain ⟨Ao19, co19, eo19⟩ := Kd.R_slice HO178.out; subst eo19) | ((with_reducible refine gate_callee (f := 14) rfl ?_); refine goesL_ (some 54) rfl rfl Try.func14 (by kernel_rfl) rfl #[.slice Ao19 t176.length co19, .int .i64 (wrap64 (a1)), .int .i64 (wrap64 (a2))] rfl (by (try simp only [List.map_toArray, List.map_cons, List.map_nil]); first | done | rfl | (simp only [List.length_drop, List.length_take]; rfl)) ?_; (with_reducible refine (cubbyref20_Victims.calls k1 _ _ t176 (wrap64 (a1)) (wrap64 (a2)) t179 t180 _ ?side1 ?side2 A14.out).mono ?_); (case side1 => repeat (first | exact (Kd.R_reads' HO178.out).2.2 | (with_reducible refine Kd.C_alloc ?_ _) | (with_reducible refine Kd.C_drewN ?_ _) | (with_reducible refine Kd.C_drew ?_))); (case side2 => exact (Kd.R_reads' HO178.out).2.1); rintro e w20 ⟨v181, rfl, ho0, hb⟩; refine ⟨_, rfl, ?_⟩; have n0_ := Aside0.mk (Kd.R_below (by (with_reducible repeat (first | apply Kd.R_alloc | apply Kd.R_drewN | apply Kd.R_drew)); exact HO_7.out) hb); have n1_ := Aside0.mk (Kd.R_elder' (by (with_reducible repeat (first | apply Kd.R_alloc | apply Kd.R_drewN | apply Kd.R_drew)); exact HO175.out) (Kd.R_base ho0) hb); have n2_ := Aside0.mk (Kd.R_below (by (with_reducible repeat (first | apply Kd.R_alloc | apply Kd.R_drewN | apply Kd.R_drew)); exact HO178.out) hb); have n3_ := Aside0.mk (Kd.R_lower (Kd.R_new' ho0 (Kd.R_lt (by (with_reducible repeat (first | apply Kd.R_alloc | apply Kd.R_drewN | apply Kd.R_drew)); exact HO175.out))) (below_size (by repeat (first | (with_reducible first | exact HB.out | apply below_alloc | apply pw_below_drewN | apply below_drew1) | exact HB.out)))); have n4_ := Aside0.mk (below_step (by repeat (first | (with_reducible first | exact HB.out | apply below_alloc | apply pw_below_drewN | apply below_drew1) | exact HB.out)) hb); clear HO_7; clear HO175; clear HO178; clear HB; have HO_7 := n0_; have HO175 := n1_; have HO178 := n2_; have HO182 := n3_; have HB := n4_; clear n0_ n1_ n2_ n3_ n4_; (try clear hb); (try clear hb2); (try clear hk); (try clear hi); (try clear ho0)))
        (try simp only [Act.put, List.setIfInBounds_toArray, List.set_cons_zero, List.set_cons_succ])
        go_cut [73] (fun v73 wc => ∃ (kq : Nat) (x73_14 : Bool), v73 = .bool x73_14 ∧ Aside0 (cubbylaw20_EvictPins.j1 kq a1 a2 x7_1 x73_14 = some r) ∧ Aside0 (kq ≤ k1) ∧ Aside0 (Kd.R k29 29 wc w.heap.size (fun _ => True) (.slice Ao16 x7_1.length co16) x7_1) ∧ Aside0 (Below w.heap.size w wc))
        case first =>
          have H := HC15.out
          clear HC15
          by_cases c21 : t173 = t180
          · rw [if_pos c21] at H
            have c21b0 : (t173 == t180) = true := beq_iff_eq.mpr c21
            have c21b1 : (t173 != t180) = false := bne_eq_false_iff_eq.mpr c21
            clear c21
            (first | rw [c21b0] | (simp only [i64_w, i32_w]; rw [c21b0]) | skip)
            by_cases c22 : (t172.length : Int) = 0
            · rw [if_pos c22] at H
              have c22b0 : ((t172.length : Int) == 0) = true := beq_iff_eq.mpr c22
              have c22b1 : ((t172.length : Int) != 0) = false := bne_eq_false_iff_eq.mpr c22
              clear c22
              have H' := Aside0.mk H
              clear H
              obtain ⟨Ao23, co23, eo23⟩ := Kd.R_slice HO175.out
              subst eo23
              go_wp2
              go_meet
              case rel => exact ⟨_, (((t173 == 0) != (decide (x8_1 ≤ (wrap64 (a2)))))), (by first | rfl | (simp; done) | (simp [*]; done)), H', ⟨by have := HK1.out; first | omega | exact Nat.le_refl _⟩, ⟨by (with_reducible repeat (first | apply Kd.R_alloc | apply Kd.R_drewN | apply Kd.R_drew)); exact HO_7.out⟩, ⟨by repeat (first | (with_reducible first | exact HB.out | apply below_alloc | apply pw_below_drewN | apply below_drew1) | exact HB.out)⟩⟩
            · rw [if_neg c22] at H
              have c22b0 : ((t172.length : Int) == 0) = false := beq_eq_false_iff_ne.mpr c22
              have c22b1 : ((t172.length : Int) != 0) = true := bne_iff_ne.mpr c22
              have c22b2 : ¬ (t172 = []) := fun h_ => c22 (by rw [h_]; rfl)
              have H' := Aside0.mk H
              clear H
              obtain ⟨Ao24, co24, eo24⟩ := Kd.R_slice HO175.out
              subst eo24
              go_wp2
              go_meet
              case rel => exact ⟨_, (true), (by first | rfl | (simp; done) | (simp [*]; done)), H', ⟨by have := HK1.out; first | omega | exact Nat.le_refl _⟩, ⟨by (with_reducible repeat (first | apply Kd.R_alloc | apply Kd.R_drewN | apply Kd.R_drew)); exact HO_7.out⟩, ⟨by repeat (first | (with_reducible first | exact HB.out | apply below_alloc | apply pw_below_drewN | apply below_drew1) | exact HB.out)⟩⟩
          · rw [if_neg c21] at H
            have c21b0 : (t173 == t180) = false := beq_eq_false_iff_ne.mpr c21
            have c21b1 : (t173 != t180) = true := bne_iff_ne.mpr c21
            (first | rw [c21b0] | (simp only [i64_w, i32_w]; rw [c21b0]) | skip)
            have H' := Aside0.mk H
            clear H
            go_wp2
            go_meet
            case rel => exact ⟨_, (true), (by first | rfl | (simp; done) | (simp [*]; done)), H', ⟨by have := HK1.out; first | omega | exact Nat.le_refl _⟩, ⟨by (with_reducible repeat (first | apply Kd.R_alloc | apply Kd.R_drewN | apply Kd.R_drew)); exact HO_7.out⟩, ⟨by repeat (first | (with_reducible first | exact HB.out | apply below_alloc | apply pw_below_drewN | apply below_drew1) | exact HB.out)⟩⟩
        case rest =>
          clear HC15
          try clear c1
          try clear p1
          try clear q1
          try clear hx1
          try clear c2
          try clear p2
          try clear c4
          try clear c6
          try clear c6b0
          try clear p6
          try clear c7
          try clear c7b0
          try clear c8
          try clear p8
          try clear q8
          try clear hx8
          try clear hf8
          try clear c10
          try clear hx10
          try clear hf10
          try clear c11
          try clear c12
          try clear c13
          try clear c14
          try clear p17
          try clear q17
          try clear hx17
          try clear c21
          try clear c21b0
          try clear c21b1
          try clear c22
          try clear c22b0
          try clear c22b1
          try clear c22b2
          try clear hx10_3
          try clear hx171_0
          try clear hx171_1
          try clear hx171_2
          try clear hx171_3
          try clear hx8_0
          try clear hx8_1
          try clear hx8_2
          try clear hx8_3
          try clear p171
          try clear p2
          try clear p8
          try clear q171
          try clear q8
          obtain ⟨kq, x73_14, rfl, HA, HJ14, HO_7, HB⟩ := hcut
          cases kq with
          | zero => exact absurd HA.out (by simp [cubbylaw20_EvictPins.j1])
          | succ kj14 =>
            have H := HA.out
            clear HA
            simp only [cubbylaw20_EvictPins.j1] at H
            by_cases c25 : x73_14 = true
            · subst c25
              have H1 : (some false) = some r := by rw [if_pos rfl] at H; exact H
              clear H
              have H := H1
              clear H1
              obtain rfl := Option.some.inj H
              go_wp2
              go_ret
              exact ⟨by first | rfl | (simp [errW_none, errW_some] <;> rfl) | (simp [*, errW_none, errW_some] <;> rfl), by repeat (first | (with_reducible first | exact HB.out | apply below_alloc | apply pw_below_drewN | apply below_drew1) | exact HB.out)⟩
            · replace c25 := Bool.eq_false_iff.mpr c25
              subst c25
              have H1 : (cubbylaw20_EvictPins.l1 kj14 a1 a2 x7_1 0) = some r := by rw [if_neg (show ¬ (false = true) by decide)] at H; exact H
              clear H
              have H := H1
              clear H1
              have H' := Aside0.mk H
              clear H
              go_wp2
              go_loopg [14] kj14 (fun kq v14 w' => ∃ (x7_3 : List (S29)) (x14_3 : Int), v14 = .int .i64 x14_3 ∧ Aside0 (cubbylaw20_EvictPins.l1 kq a1 a2 x7_3 x14_3 = some r) ∧ Aside0 (kq ≤ kj14) ∧ Aside0 (Kd.R k29 29 w' w.heap.size (fun _ => True) (.slice Ao16 x7_1.length co16) x7_3) ∧ Aside0 (Below w.heap.size w w'))
              case atStart => exact ⟨(x7_1), (0), (by first | rfl | (simp; done) | (simp [*]; done)), H', ⟨Nat.le_refl _⟩, ⟨by (with_reducible repeat (first | apply Kd.R_alloc | apply Kd.R_drewN | apply Kd.R_drew)); exact HO_7.out⟩, ⟨by repeat (first | (with_reducible first | exact HB.out | apply below_alloc | apply pw_below_drewN | apply below_drew1) | exact HB.out)⟩⟩
              case round =>
                clear H'
                try clear c1
                try clear p1
                try clear q1
                try clear hx1
                try clear c2
                try clear p2
                try clear c4
                try clear c6
                try clear c6b0
                try clear p6
                try clear c7
                try clear c7b0
                try clear c8
                try clear p8
                try clear q8
                try clear hx8
                try clear hf8
                try clear c10
                try clear hx10
                try clear hf10
                try clear c11
                try clear c12
                try clear c13
                try clear c14
                try clear p17
                try clear q17
                try clear hx17
                try clear c21
                try clear c21b0
                try clear c21b1
                try clear c22
                try clear c22b0
                try clear c22b1
                try clear c22b2
                try clear c25
                try clear hx10_3
                try clear hx171_0
                try clear hx171_1
                try clear hx171_2
                try clear hx171_3
                try clear hx8_0
                try clear hx8_1
                try clear hx8_2
                try clear hx8_3
                try clear p1
                try clear p17
                try clear p171
                try clear p2
                try clear p6
                try clear p8
                try clear q1
                try clear q17
                try clear q171
                try clear q8
                obtain ⟨x7_3, x14_3, rfl, HA, HK3, HO_7, HB⟩ := hrel
                have hl7_3 := (Kd.R_reads' HO_7.out).1
                rw [hl7_3] at HO_7
                (try simp only [hl7_3])
                cases gk with
                | zero => exact absurd HA.out (by simp [cubbylaw20_EvictPins.l1])
                | succ k3 =>
                  have H := HA.out
                  clear HA
                  simp only [cubbylaw20_EvictPins.l1] at H
                  by_cases c26 : x14_3 < (x7_3.length : Int)
                  · rw [if_pos c26] at H
                    have c26b0 : decide (x14_3 < (x7_3.length : Int)) = true := decide_eq_true c26
                    have c26b0h := c26b0
                    (try simp only [hl7_3] at c26b0h)
                    clear c26
                    by_cases c27 : 0 ≤ x14_3
                    · rw [if_pos c27] at H
                      have c27b0 : decide (0 ≤ x14_3) = true := decide_eq_true c27
                      clear c27
                      obtain ⟨y183, hy183⟩ : ∃ y_ : List (S29), y_ = (x7_3.set (x14_3 : Int).toNat (⟨(rd_T29 x7_3 x14_3).f0, (rd_T29 x7_3 x14_3).f1, (rd_T29 x7_3 x14_3).f2, false⟩ : S29)) := ⟨_, rfl⟩
                      replace H : (cubbylaw20_EvictPins.l1 k3 a1 a2 y183 (wrap64 (x14_3 + 1))) = some r := by first | (rw [hy183]; with_reducible exact H) | (have H2_ := (Option.bind_some _ _).symm.trans H; rw [hy183]; with_reducible exact H2_) | (have H2_ := (Option.bind_some _ _).symm.trans H; with_reducible exact H2_) | with_reducible exact H | (rw [hy183]; exact H) | exact H
                      have Ny183 := Aside0.mk hy183
                      clear hy183
                      have H' := Aside0.mk H
                      clear H
                      have p28 : 0 ≤ (x14_3 : Int) := of_decide_eq_true (by first | (with_reducible assumption) | assumption)
                      have q28 : (x14_3 : Int) < ((x7_3.length : Int) : Int) := of_decide_eq_true (by first | (with_reducible assumption) | assumption)
                      obtain ⟨go28, co28, eo28, gb28, gl28, cl28, HG28⟩ := Kd.R_form HO_7.out (by omega)
                      (first | cases eo28 | (injection eo28 with ea_ en_ ec_; (first | subst ea_ | (injection ea_ with ea_; subst ea_)); subst ec_; clear en_))
                      have GB28 := Aside0.mk gb28
                      have GG28 := Aside0.mk HG28
                      clear gb28 gl28 HG28
                      obtain ⟨ce28, hcl28, hM28, hcc28, hfr28⟩ := Kd.R_elem HO_7.out z29 (x14_3 : Int) p28 q28
                      obtain rfl := k29_openM hM28
                      have hx28_0 : wr.cell? ⟨go28, (x14_3 : Int).toNat * 4, none⟩ = some (.string ((rd_T29 x7_3 x14_3).f0)) := hcc28 0 _ rfl
                      have hx28_1 : wr.cell? ⟨go28, (x14_3 : Int).toNat * 4 + 1, none⟩ = some (.int .i64 ((rd_T29 x7_3 x14_3).f1)) := hcc28 1 _ rfl
                      have hx28_2 : wr.cell? ⟨go28, (x14_3 : Int).toNat * 4 + 2, none⟩ = some (.int .i64 ((rd_T29 x7_3 x14_3).f2)) := hcc28 2 _ rfl
                      have hx28_3 : wr.cell? ⟨go28, (x14_3 : Int).toNat * 4 + 3, none⟩ = some (.bool ((rd_T29 x7_3 x14_3).f3)) := hcc28 3 _ rfl
                      have hf28_0 : wr.frozen? ⟨go28, (x14_3 : Int).toNat * 4, none⟩ = false := hfr28 0
                      have hf28_1 : wr.frozen? ⟨go28, (x14_3 : Int).toNat * 4 + 1, none⟩ = false := hfr28 1
                      have hf28_2 : wr.frozen? ⟨go28, (x14_3 : Int).toNat * 4 + 2, none⟩ = false := hfr28 2
                      have hf28_3 : wr.frozen? ⟨go28, (x14_3 : Int).toNat * 4 + 3, none⟩ = false := hfr28 3
                      clear hcl28 hcc28 hfr28 hM28
                      replace p28 := eq_true p28
                      replace q28 := eq_true q28
                      have HX29 := Aside0.mk (show Kd.R k29 29 wr w.heap.size (fun _ => True) (.slice (some ⟨go28, 0, none⟩) x7_3.length co16) x7_3 from (by (with_reducible repeat (first | apply Kd.R_alloc | apply Kd.R_drewN | apply Kd.R_drew)); exact HO_7.out))
                      obtain ⟨ce29, hcl29, hM29, hcc29, hfr29⟩ := Kd.R_elem HX29.out z29 (x14_3 : Int) (of_decide_eq_true (by first | (with_reducible assumption) | assumption)) (by have h_ : (x14_3 : Int) < ((x7_3.length : Int) : Int) := of_decide_eq_true (by first | (with_reducible assumption) | assumption); first | exact h_ | (have e_ := (Kd.R_reads' HO_7.out).1; omega) | simpa using h_)
                      obtain rfl := k29_openM hM29
                      have HP29 := Kd.R_seg HX29.out (x14_3 : Int) (of_decide_eq_true (by first | (with_reducible assumption) | assumption)) (by have h_ : (x14_3 : Int) < ((x7_3.length : Int) : Int) := of_decide_eq_true (by first | (with_reducible assumption) | assumption); first | exact h_ | (have e_ := (Kd.R_reads' HO_7.out).1; omega) | simpa using h_) (seg := [.bool false]) (j := 3) hcl29 hcc29 (show 4 ≤ 4 from by decide) (x' := (⟨(rd_T29 x7_3 x14_3).f0, (rd_T29 x7_3 x14_3).f1, (rd_T29 x7_3 x14_3).f2, false⟩ : S29)) (k29_mkM _ _ _ (⟨(rd_T29 x7_3 x14_3).f0, (rd_T29 x7_3 x14_3).f1, (rd_T29 x7_3 x14_3).f2, false⟩ : S29) ) (fun _ hk => hk)
                      have hx29_3 := hcc29 3 _ rfl
                      (try simp only [show (k29).sz = 4 from rfl, Nat.mul_one, Nat.add_zero] at hx29_3)
                      have hf29_3 := hfr29 3
                      (try simp only [show (k29).sz = 4 from rfl, Nat.mul_one, Nat.add_zero] at hf29_3)
                      clear hcl29 hcc29 hfr29 hM29
                      go_wp2_with (first | ((with_reducible refine gate_store (t := 4) (p := 83) rfl ?_); refine store_event (t := 4) (p := 83) (v := ?vo_w30) (w1 := (wr.setCell ⟨go28, (x14_3 : Int).toNat * 4 + 3, none⟩ (.bool false))) ?hg ?ho ?hn ?hr ?_; (case ho => rfl); (case hg => rfl); (case hn => rfl); (case hr => first | (go_simp; done) | (go_simp; rfl)); intro w30 hw; have hg : wr.grownBy w30 (some go28) := (by rw [hw]; exact HP29.2); have hp_ : Kd.R k29 29 w30 w.heap.size (fun _ => True) (.slice (some ⟨go28, 0, none⟩) x7_3.length co16) y183 := (by rw [hw, Ny183.out]; exact HP29.1); clear HP29; have n0_ := Aside0.mk (hp_); have n1_ := Aside0.mk ((by rw [hw]; exact below_set (HB.out) GB28.out : Below w.heap.size w w30)); clear HO_7; clear HB; have HO_7 := n0_; have HB := n1_; clear n0_ n1_; clear hg hw hp_))
                      (try simp only [← hl7_3])
                      go_roundg k3
                      case measure => have := HK1.out; have := HJ14.out; have := HK3.out; omega
                      case rel => exact ⟨(y183), (wrap64 (x14_3 + 1)), (by first | rfl | (simp; done) | (simp [*]; done)), H', ⟨by have := HK1.out; have := HJ14.out; have := HK3.out; omega⟩, ⟨by (try simp only [hl7_3]); (with_reducible repeat (first | apply Kd.R_alloc | apply Kd.R_drewN | apply Kd.R_drew)); exact HO_7.out⟩, ⟨by repeat (first | (with_reducible first | exact HB.out | apply below_alloc | apply pw_below_drewN | apply below_drew1) | exact HB.out)⟩⟩
                    · rw [if_neg c27] at H
                      exact absurd H (by simp)
                  · rw [if_neg c26] at H
                    have c26b0 : decide (x14_3 < (x7_3.length : Int)) = false := decide_eq_false c26
                    have c26b0h := c26b0
                    (try simp only [hl7_3] at c26b0h)
                    clear c26
                    replace H := Option.bind_eq_some_iff.mp H
                    obtain ⟨⟨t184, t185⟩, A310, H⟩ := H
                    replace H : (some ((t185 == 0) == (decide (a1 ≤ a2)))) = some r := H
                    have A31 := Aside0.mk A310
                    clear A310
                    obtain rfl := Option.some.inj H
                    go_wp2_with (first | ((with_reducible refine gate_callee (f := 13) rfl ?_); refine goesL_ (some 90) rfl rfl Try.func13 (by kernel_rfl) rfl #[.slice Ao16 x7_3.length co16, .int .i64 (wrap64 (a1)), .int .i64 (wrap64 (a2))] rfl (by (try simp only [List.map_toArray, List.map_cons, List.map_nil]); first | done | rfl | (simp only [List.length_drop, List.length_take]; rfl)) ?_; (with_reducible refine (evict_Victims.calls k3 _ _ x7_3 (wrap64 (a1)) (wrap64 (a2)) t184 t185 _ ?side1 ?side2 A31.out).mono ?_); (case side1 => repeat (first | exact (Kd.R_reads' HO_7.out).2.2 | (with_reducible refine Kd.C_alloc ?_ _) | (with_reducible refine Kd.C_drewN ?_ _) | (with_reducible refine Kd.C_drew ?_))); (case side2 => exact (Kd.R_reads' HO_7.out).2.1); rintro e w32 ⟨v186, rfl, ho0, hb⟩; refine ⟨_, rfl, ?_⟩; have n0_ := Aside0.mk (Kd.R_below (by (with_reducible repeat (first | apply Kd.R_alloc | apply Kd.R_drewN | apply Kd.R_drew)); exact HO_7.out) hb); have n1_ := Aside0.mk (Kd.R_lower ho0 (below_size (by repeat (first | (with_reducible first | exact HB.out | apply below_alloc | apply pw_below_drewN | apply below_drew1) | exact HB.out)))); have n2_ := Aside0.mk (below_step (by repeat (first | (with_reducible first | exact HB.out | apply below_alloc | apply pw_below_drewN | apply below_drew1) | exact HB.out)) hb); clear HO_7; clear HB; have HO_7 := n0_; have HO187 := n1_; have HB := n2_; clear n0_ n1_ n2_; (try clear hb); (try clear hb2); (try clear hk); (try clear hi); (try clear ho0)))
                    go_ret
                    exact ⟨by first | rfl | (simp [errW_none, errW_some] <;> rfl) | (simp [*, errW_none, errW_some] <;> rfl), by repeat (first | (with_reducible first | exact HB.out | apply below_alloc | apply pw_below_drewN | apply below_drew1) | exact HB.out)⟩

/-- THE ONE PURE STATEMENT of cubbylaw20_EvictPins: yours. -/
def cubbylaw20_EvictPins.Pure : Prop := ∀ (l0 : List Int) (a1 : Int) (a2 : Int), l0.length ≤ maxLen → l0.length * 1 ≤ 140737488351232 → (∀ x ∈ l0, (Lit.int .u8 x).wf = true) → (Lit.int .u16 a1).wf = true → (Lit.int .u16 a2).wf = true → ∃ k, cubbylaw20_EvictPins.f k l0 a1 a2 = some true
theorem cubbylaw20_EvictPins.walk (P : cubbylaw20_EvictPins.Pure) (a0 : Option Addr) (len0 cap0 : Nat) (z0 : List Int) (a1 : Int) (a2 : Int) (w : World) (w0 : (a0 = none ∧ len0 = 0 ∧ cap0 = 0 ∧ z0 = []) ∨ ∃ x, a0 = some x ∧ len0 ≤ cap0 ∧ cap0 ≤ maxLen ∧ z0.length = cap0 ∧ (∀ i, i < z0.length → w.cell? (x.add i) = some (.int .u8 (z0.getD i 0))) ∧ ∀ n ∈ z0, (Lit.int .u8 n).wf = true) (y0 : len0 * 1 ≤ 140737488351232) (w1 : (Lit.int .u16 a1).wf = true) (w2 : (Lit.int .u16 a2).wf = true) :
    Calls Try.prog 4 #[.slice a0 len0 cap0, .int .u16 a1, .int .u16 a2] w fun e w' => e = .returned (.bool true) ∧ Below w.heap.size w w' := by
  obtain ⟨l0, rfl, hr0, hm0, hw0, hc0⟩ := ReadsInt.ofRowC w0
  obtain ⟨k, h⟩ := P l0 a1 a2 hm0 y0 hw0 w1 w2
  refine (cubbylaw20_EvictPins.calls k _ _ l0 a1 a2 true w (Kd.C_of_reads (d := (0 : Int)) (h1 := fun _ => rfl) hr0) hc0 h).mono ?_
  rintro e w' ⟨rfl, hd⟩
  exact ⟨rfl, hd⟩

end Go.Proofs.Ytbpblefamjmkjaa.PEvictPins
