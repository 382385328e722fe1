-- By a program of this session (wip/tools/mkprint.py), for this claim.
import Derived.Test.YtbpblefamjmkjaaPEvictFewx0
import Derived.Test.YtbpblefamjmkjaaPEvictFewx1
import Derived.Test.YtbpblefamjmkjaaPEvictFewx2
import Derived.Test.YtbpblefamjmkjaaPEvictFewx4
import Derived.Test.YtbpblefamjmkjaaPEvictFewx5
namespace Go.Proofs.Ytbpblefamjmkjaa.PEvictFew
open Go.RowKit Go.Proofs.YtbpblefamjmkjaaW.PrintWords Go.Proofs.YtbpblefamjmkjaaW.PrintLast Go.Proofs.YtbpblefamjmkjaaW.PrintMore
attribute [local go_sem] max2_int min2_int max_two min_two max_three min_three max_four min_four   -- for this text's walks alone
set_option linter.unusedVariables false
set_option linter.unusedSimpArgs false

/-! ### cubbylaw20_EvictFew: function 6 -/
mutual
def cubbylaw20_EvictFew.j0 : Nat → Int → Int → List (S29) → List ByteArray → Int → Bool → Option (Bool)
  | 0, _, _, _, _, _, _ => none
  | k + 1, x2, x3, x9, x10, x11, x50 => if x50 = true then (some false) else (if x11 = 0 then (cubbylaw20_EvictFew.l0 k x3 x9 x10 (wrap64 (x2)) 0 0) else (some (x11 == 221)))
def cubbylaw20_EvictFew.l0 : Nat → Int → List (S29) → List ByteArray → Int → Int → Int → Option (Bool)
  | 0, _, _, _, _, _, _ => none
  | k + 1, x3, x9, x10, x14, x15, x16 => if x16 < (x9.length : Int) then (cubbylaw20_EvictFew.l1 k x3 x9 x10 x14 x15 x16 false 0) else (if x14 ≤ (wrap64 (x3)) then (if (x10.length : Int) = 0 then (some true) else (some (decide ((wrap64 (x14 + x15)) > (wrap64 (x3)))))) else (some false))
def cubbylaw20_EvictFew.l1 : Nat → Int → List (S29) → List ByteArray → Int → Int → Int → Bool → Int → Option (Bool)
  | 0, _, _, _, _, _, _, _, _ => none
  | k + 1, x3, x9, x10, x14, x15, x16, x17, x18 => if x18 < (x10.length : Int) then (if x17 = true then (cubbylaw20_EvictFew.l1 k x3 x9 x10 x14 x15 x16 true (wrap64 (x18 + 1))) else (if 0 ≤ x18 then (if 0 ≤ x16 then (if x16 < (x9.length : Int) then (cubbylaw20_EvictFew.l1 k x3 x9 x10 x14 x15 x16 ((rdOf ByteArray.empty x10 x18).toList == ((rd_T29 x9 x16).f0).toList) (wrap64 (x18 + 1))) else (none)) else (none)) else (none))) else (if x17 = true then (if 0 ≤ x16 then (if x16 < (x9.length : Int) then (cubbylaw20_EvictFew.j3 k x3 x9 x10 x14 x15 x16 x17 ((rd_T29 x9 x16).f3)) else (none)) else (none)) else (cubbylaw20_EvictFew.j3 k x3 x9 x10 x14 x15 x16 x17 false))
def cubbylaw20_EvictFew.j3 : Nat → Int → List (S29) → List ByteArray → Int → Int → Int → Bool → Bool → Option (Bool)
  | 0, _, _, _, _, _, _, _, _ => none
  | k + 1, x3, x9, x10, x14, x15, x16, x17, x89 => if x89 = true then (some false) else (if x17 = true then (if (x10.length : Int) > 0 then (if 0 ≤ x16 then (if x16 < (x9.length : Int) then (if 0 ≤ (wrap64 ((x10.length : Int) - 1)) then (if (wrap64 ((x10.length : Int) - 1)) < (x10.length : Int) then (if ((rd_T29 x9 x16).f0).toList = (rdOf ByteArray.empty x10 (wrap64 ((x10.length : Int) - 1))).toList then (cubbylaw20_EvictFew.l0 k x3 x9 x10 x14 ((rd_T29 x9 x16).f1) (wrap64 (x16 + 1))) else (cubbylaw20_EvictFew.l0 k x3 x9 x10 x14 x15 (wrap64 (x16 + 1)))) else (none)) else (none)) else (none)) else (none)) else (cubbylaw20_EvictFew.l0 k x3 x9 x10 x14 x15 (wrap64 (x16 + 1)))) else (if 0 ≤ x16 then (if x16 < (x9.length : Int) then (if (x10.length : Int) > 0 then (if 0 ≤ (wrap64 ((x10.length : Int) - 1)) then (if (wrap64 ((x10.length : Int) - 1)) < (x10.length : Int) then (if ((rd_T29 x9 x16).f0).toList = (rdOf ByteArray.empty x10 (wrap64 ((x10.length : Int) - 1))).toList then (cubbylaw20_EvictFew.l0 k x3 x9 x10 (wrap64 (x14 + ((rd_T29 x9 x16).f1))) ((rd_T29 x9 x16).f1) (wrap64 (x16 + 1))) else (cubbylaw20_EvictFew.l0 k x3 x9 x10 (wrap64 (x14 + ((rd_T29 x9 x16).f1))) x15 (wrap64 (x16 + 1)))) else (none)) else (none)) else (cubbylaw20_EvictFew.l0 k x3 x9 x10 (wrap64 (x14 + ((rd_T29 x9 x16).f1))) x15 (wrap64 (x16 + 1)))) else (none)) else (none)))
end
def cubbylaw20_EvictFew.f (k : Nat) (l0 : List Int) (l1 : List Bool) (a2 : Int) (a3 : Int) : Option (Bool) := (cubbylaw20_small.f k l0 l1).bind fun t167 => ((evict_Victims.f k t167 (wrap64 (a2)) (wrap64 (a3))).bind fun bt170 => ((cubbylaw20_theirs.f k t167).bind fun t174 => ((cubbyref20_Victims.f k t174 (wrap64 (a2)) (wrap64 (a3))).bind fun bt177 => (if bt170.2 = bt177.2 then (cubbylaw20_EvictFew.j0 k a2 a3 t167 bt170.1 bt170.2 ((bt170.1.length : Int) != (bt177.1.length : Int))) else (cubbylaw20_EvictFew.j0 k a2 a3 t167 bt170.1 bt170.2 true)))))
theorem cubbylaw20_EvictFew.mono_l : ∀ k, (∀ y0 y1 y2 y3 y4 y5, LeO (cubbylaw20_EvictFew.j0 k y0 y1 y2 y3 y4 y5) (cubbylaw20_EvictFew.j0 (k + 1) y0 y1 y2 y3 y4 y5)) ∧ (∀ y0 y1 y2 y3 y4 y5, LeO (cubbylaw20_EvictFew.l0 k y0 y1 y2 y3 y4 y5) (cubbylaw20_EvictFew.l0 (k + 1) y0 y1 y2 y3 y4 y5)) ∧ (∀ y0 y1 y2 y3 y4 y5 y6 y7, LeO (cubbylaw20_EvictFew.l1 k y0 y1 y2 y3 y4 y5 y6 y7) (cubbylaw20_EvictFew.l1 (k + 1) y0 y1 y2 y3 y4 y5 y6 y7)) ∧ (∀ y0 y1 y2 y3 y4 y5 y6 y7, LeO (cubbylaw20_EvictFew.j3 k y0 y1 y2 y3 y4 y5 y6 y7) (cubbylaw20_EvictFew.j3 (k + 1) y0 y1 y2 y3 y4 y5 y6 y7))
  | 0 => ⟨fun _ _ _ _ _ _ r h => by simp [cubbylaw20_EvictFew.j0] at h, fun _ _ _ _ _ _ r h => by simp [cubbylaw20_EvictFew.l0] at h, fun _ _ _ _ _ _ _ _ r h => by simp [cubbylaw20_EvictFew.l1] at h, fun _ _ _ _ _ _ _ _ r h => by simp [cubbylaw20_EvictFew.j3] at h⟩
  | k + 1 => by
    obtain ⟨ih0, ih1, ih2, ih3⟩ := cubbylaw20_EvictFew.mono_l k
    refine ⟨?_, ?_, ?_, ?_⟩
    · intro y0 y1 y2 y3 y4 y5
      unfold cubbylaw20_EvictFew.j0
      repeat' first
      | (with_reducible exact ih0 _ _ _ _ _ _)
      | (with_reducible exact ih1 _ _ _ _ _ _)
      | (with_reducible exact ih2 _ _ _ _ _ _ _ _)
      | (with_reducible exact ih3 _ _ _ _ _ _ _ _)
      | (with_reducible exact cubbylaw20_small.mono _ _ _)
      | (with_reducible exact cubbylaw20_theirs.mono _ _)
      | (with_reducible exact cubbyref20_Victims.mono _ _ _ _)
      | (with_reducible exact evict_Victims.mono _ _ _ _)
      | (with_reducible exact LeO.refl _)
      | (with_reducible exact LeO.none _)
      | (with_reducible refine LeO.ite ?_ ?_)
      | (with_reducible refine LeO.bind ?_ (fun _ => ?_))
      | exact ih0 _ _ _ _ _ _
      | exact ih1 _ _ _ _ _ _
      | exact ih2 _ _ _ _ _ _ _ _
      | exact ih3 _ _ _ _ _ _ _ _
      | exact cubbylaw20_small.mono _ _ _
      | exact cubbylaw20_theirs.mono _ _
      | exact cubbyref20_Victims.mono _ _ _ _
      | exact evict_Victims.mono _ _ _ _
      | exact LeO.none _
      | refine LeO.ite ?_ ?_
      | refine LeO.bind ?_ (fun _ => ?_)
    · intro y0 y1 y2 y3 y4 y5
      unfold cubbylaw20_EvictFew.l0
      repeat' first
      | (with_reducible exact ih0 _ _ _ _ _ _)
      | (with_reducible exact ih1 _ _ _ _ _ _)
      | (with_reducible exact ih2 _ _ _ _ _ _ _ _)
      | (with_reducible exact ih3 _ _ _ _ _ _ _ _)
      | (with_reducible exact cubbylaw20_small.mono _ _ _)
      | (with_reducible exact cubbylaw20_theirs.mono _ _)
      | (with_reducible exact cubbyref20_Victims.mono _ _ _ _)
      | (with_reducible exact evict_Victims.mono _ _ _ _)
      | (with_reducible exact LeO.refl _)
      | (with_reducible exact LeO.none _)
      | (with_reducible refine LeO.ite ?_ ?_)
      | (with_reducible refine LeO.bind ?_ (fun _ => ?_))
      | exact ih0 _ _ _ _ _ _
      | exact ih1 _ _ _ _ _ _
      | exact ih2 _ _ _ _ _ _ _ _
      | exact ih3 _ _ _ _ _ _ _ _
      | exact cubbylaw20_small.mono _ _ _
      | exact cubbylaw20_theirs.mono _ _
      | exact cubbyref20_Victims.mono _ _ _ _
      | exact evict_Victims.mono _ _ _ _
      | exact LeO.none _
      | refine LeO.ite ?_ ?_
      | refine LeO.bind ?_ (fun _ => ?_)
    · intro y0 y1 y2 y3 y4 y5 y6 y7
      unfold cubbylaw20_EvictFew.l1
      repeat' first
      | (with_reducible exact ih0 _ _ _ _ _ _)
      | (with_reducible exact ih1 _ _ _ _ _ _)
      | (with_reducible exact ih2 _ _ _ _ _ _ _ _)
      | (with_reducible exact ih3 _ _ _ _ _ _ _ _)
      | (with_reducible exact cubbylaw20_small.mono _ _ _)
      | (with_reducible exact cubbylaw20_theirs.mono _ _)
      | (with_reducible exact cubbyref20_Victims.mono _ _ _ _)
      | (with_reducible exact evict_Victims.mono _ _ _ _)
      | (with_reducible exact LeO.refl _)
      | (with_reducible exact LeO.none _)
      | (with_reducible refine LeO.ite ?_ ?_)
      | (with_reducible refine LeO.bind ?_ (fun _ => ?_))
      | exact ih0 _ _ _ _ _ _
      | exact ih1 _ _ _ _ _ _
      | exact ih2 _ _ _ _ _ _ _ _
      | exact ih3 _ _ _ _ _ _ _ _
      | exact cubbylaw20_small.mono _ _ _
      | exact cubbylaw20_theirs.mono _ _
      | exact cubbyref20_Victims.mono _ _ _ _
      | exact evict_Victims.mono _ _ _ _
      | exact LeO.none _
      | refine LeO.ite ?_ ?_
      | refine LeO.bind ?_ (fun _ => ?_)
    · intro y0 y1 y2 y3 y4 y5 y6 y7
      unfold cubbylaw20_EvictFew.j3
      repeat' first
      | (with_reducible exact ih0 _ _ _ _ _ _)
      | (with_reducible exact ih1 _ _ _ _ _ _)
      | (with_reducible exact ih2 _ _ _ _ _ _ _ _)
      | (with_reducible exact ih3 _ _ _ _ _ _ _ _)
      | (with_reducible exact cubbylaw20_small.mono _ _ _)
      | (with_reducible exact cubbylaw20_theirs.mono _ _)
      | (with_reducible exact cubbyref20_Victims.mono _ _ _ _)
      | (with_reducible exact evict_Victims.mono _ _ _ _)
      | (with_reducible exact LeO.refl _)
      | (with_reducible exact LeO.none _)
      | (with_reducible refine LeO.ite ?_ ?_)
      | (with_reducible refine LeO.bind ?_ (fun _ => ?_))
      | exact ih0 _ _ _ _ _ _
      | exact ih1 _ _ _ _ _ _
      | exact ih2 _ _ _ _ _ _ _ _
      | exact ih3 _ _ _ _ _ _ _ _
      | exact cubbylaw20_small.mono _ _ _
      | exact cubbylaw20_theirs.mono _ _
      | exact cubbyref20_Victims.mono _ _ _ _
      | exact evict_Victims.mono _ _ _ _
      | exact LeO.none _
      | refine LeO.ite ?_ ?_
      | refine LeO.bind ?_ (fun _ => ?_)
theorem cubbylaw20_EvictFew.mono : ∀ a0 a1 a2 a3 k, LeO (cubbylaw20_EvictFew.f k a0 a1 a2 a3) (cubbylaw20_EvictFew.f (k + 1) a0 a1 a2 a3) := by
  intro a0 a1 a2 a3 k
  obtain ⟨ih0, ih1, ih2, ih3⟩ := cubbylaw20_EvictFew.mono_l k
  unfold cubbylaw20_EvictFew.f
  repeat' first
      | (with_reducible exact ih0 _ _ _ _ _ _)
      | (with_reducible exact ih1 _ _ _ _ _ _)
      | (with_reducible exact ih2 _ _ _ _ _ _ _ _)
      | (with_reducible exact ih3 _ _ _ _ _ _ _ _)
      | (with_reducible exact cubbylaw20_small.mono _ _ _)
      | (with_reducible exact cubbylaw20_theirs.mono _ _)
      | (with_reducible exact cubbyref20_Victims.mono _ _ _ _)
      | (with_reducible exact evict_Victims.mono _ _ _ _)
      | (with_reducible exact LeO.refl _)
      | (with_reducible exact LeO.none _)
      | (with_reducible refine LeO.ite ?_ ?_)
      | (with_reducible refine LeO.bind ?_ (fun _ => ?_))
      | exact ih0 _ _ _ _ _ _
      | exact ih1 _ _ _ _ _ _
      | exact ih2 _ _ _ _ _ _ _ _
      | exact ih3 _ _ _ _ _ _ _ _
      | exact cubbylaw20_small.mono _ _ _
      | exact cubbylaw20_theirs.mono _ _
      | exact cubbyref20_Victims.mono _ _ _ _
      | exact evict_Victims.mono _ _ _ _
      | exact LeO.none _
      | refine LeO.ite ?_ ?_
      | refine LeO.bind ?_ (fun _ => ?_)
set_option maxHeartbeats 8000000 in
set_option maxRecDepth 100000 in
theorem cubbylaw20_EvictFew.calls (k : Nat) (A0 : Option Addr) (c0 : Nat) (l0 : List Int) (A1 : Option Addr) (c1 : Nat) (l1 : List Bool) (a2 : Int) (a3 : Int) (r : Bool) (w : World) (hr0 : Kd.C (Kd.int .u8) w A0 l0.length l0) (hc0 : l0.length ≤ c0) (hr1 : Kd.C Kd.bool w A1 l1.length l1) (hc1 : l1.length ≤ c1) (h : cubbylaw20_EvictFew.f k l0 l1 a2 a3 = some r) :
    Calls Try.prog 6 #[.slice A0 l0.length c0, .slice A1 l1.length c1, .int .u16 a2, .int .u16 a3] w fun e w' => e = .returned (.bool r) ∧ Below w.heap.size w w' := by
  have HR0 := Aside0.mk hr0
  have HC0 := Aside0.mk hc0
  clear hr0 hc0
  have HR1 := Aside0.mk hr1
  have HC1 := Aside0.mk hc1
  clear hr1 hc1
  have HB := Aside0.mk (Below.refl w.heap.size w)
  have H : ((cubbylaw20_small.f k l0 l1).bind fun t167 => ((evict_Victims.f k t167 (wrap64 (a2)) (wrap64 (a3))).bind fun bt170 => ((cubbylaw20_theirs.f k t167).bind fun t174 => ((cubbyref20_Victims.f k t174 (wrap64 (a2)) (wrap64 (a3))).bind fun bt177 => (if bt170.2 = bt177.2 then (cubbylaw20_EvictFew.j0 k a2 a3 t167 bt170.1 bt170.2 ((bt170.1.length : Int) != (bt177.1.length : Int))) else (cubbylaw20_EvictFew.j0 k a2 a3 t167 bt170.1 bt170.2 true)))))) = some r := h
  clear h
  replace H := Option.bind_eq_some_iff.mp H
  obtain ⟨t167, A50, H⟩ := H
  replace H : ((evict_Victims.f k t167 (wrap64 (a2)) (wrap64 (a3))).bind fun bt170 => ((cubbylaw20_theirs.f k t167).bind fun t174 => ((cubbyref20_Victims.f k t174 (wrap64 (a2)) (wrap64 (a3))).bind fun bt177 => (if bt170.2 = bt177.2 then (cubbylaw20_EvictFew.j0 k a2 a3 t167 bt170.1 bt170.2 ((bt170.1.length : Int) != (bt177.1.length : Int))) else (cubbylaw20_EvictFew.j0 k a2 a3 t167 bt170.1 bt170.2 true))))) = some r := H
  have A5 := Aside0.mk A50
  clear A50
  replace H := Option.bind_eq_some_iff.mp H
  obtain ⟨⟨t170, t171⟩, A60, H⟩ := H
  replace H : ((cubbylaw20_theirs.f k t167).bind fun t174 => ((cubbyref20_Victims.f k t174 (wrap64 (a2)) (wrap64 (a3))).bind fun bt177 => (if t171 = bt177.2 then (cubbylaw20_EvictFew.j0 k a2 a3 t167 t170 t171 ((t170.length : Int) != (bt177.1.length : Int))) else (cubbylaw20_EvictFew.j0 k a2 a3 t167 t170 t171 true)))) = some r := H
  have A6 := Aside0.mk A60
  clear A60
  replace H := Option.bind_eq_some_iff.mp H
  obtain ⟨t174, A70, H⟩ := H
  replace H : ((cubbyref20_Victims.f k t174 (wrap64 (a2)) (wrap64 (a3))).bind fun bt177 => (if t171 = bt177.2 then (cubbylaw20_EvictFew.j0 k a2 a3 t167 t170 t171 ((t170.length : Int) != (bt177.1.length : Int))) else (cubbylaw20_EvictFew.j0 k a2 a3 t167 t170 t171 true))) = some r := H
  have A7 := Aside0.mk A70
  clear A70
  replace H := Option.bind_eq_some_iff.mp H
  obtain ⟨⟨t177, t178⟩, A80, H⟩ := H
  replace H : (if t171 = t178 then (cubbylaw20_EvictFew.j0 k a2 a3 t167 t170 t171 ((t170.length : Int) != (t177.length : Int))) else (cubbylaw20_EvictFew.j0 k a2 a3 t167 t170 t171 true)) = some r := H
  have A8 := Aside0.mk A80
  clear A80
  have HC9 := Aside0.mk H
  clear H
  go_enter Try.func6, Try.ntmps6
  go_upto_region 4 with (first | (go_at_call 12; (with_reducible refine (cubbylaw20_small.calls k _ _ l0 _ _ l1 t167 _ ?side1 ?side2 ?side3 ?side4 A5.out).mono ?_); (case side1 => repeat (first | exact HR0.out | (with_reducible refine Kd.C_alloc ?_ _) | (with_reducible refine Kd.C_drewN ?_ _) | (with_reducible refine Kd.C_drew ?_))); (case side2 => exact HC0.out); (case side3 => repeat (first | exact HR1.out | (with_reducible refine Kd.C_alloc ?_ _) | (with_reducible refine Kd.C_drewN ?_ _) | (with_reducible refine Kd.C_drew ?_))); (case side4 => exact HC1.out); rintro e w10 ⟨v168, rfl, ho0, hb⟩; have n0_ := Aside0.mk (Kd.R_lower ho0 (below_size (by repeat (first | (with_reducible first | exact HB.out | apply below_alloc | apply pw_below_drewN | apply below_drew1) | exact HB.out)))); have n1_ := Aside0.mk (below_step (by repeat (first | (with_reducible first | exact HB.out | apply below_alloc | apply pw_below_drewN | apply below_drew1) | exact HB.out)) hb); clear HB; have HO169 := n0_; have HB := n1_; clear n0_ n1_; (try clear hb); (try clear hb2); (try clear hk); (try clear hi); (try clear ho0); obtain ⟨Ao11, co11, eo11⟩ := Kd.R_slice HO169.out; subst eo11) | (go_at_call 13; (with_reducible refine (evict_Victims.calls k _ _ t167 (wrap64 (a2)) (wrap64 (a3)) t170 t171 _ ?side1 ?side2 A6.out).mono ?_); (case side1 => repeat (first | exact (Kd.R_reads' HO169.out).2.2 | (with_reducible refine Kd.C_alloc ?_ _) | (with_reducible refine Kd.C_drewN ?_ _) | (with_reducible refine Kd.C_drew ?_))); (case side2 => exact (Kd.R_reads' HO169.out).2.1); rintro e w12 ⟨v172, rfl, ho0, hb⟩; have n0_ := Aside0.mk (Kd.R_below (by (with_reducible repeat (first | apply Kd.R_alloc | apply Kd.R_drewN | apply Kd.R_drew)); exact HO169.out) hb); have n1_ := Aside0.mk (Kd.R_lower ho0 (below_size (by repeat (first | (with_reducible first | exact HB.out | apply below_alloc | apply pw_below_drewN | apply below_drew1) | exact HB.out)))); have n2_ := Aside0.mk (below_step (by repeat (first | (with_reducible first | exact HB.out | apply below_alloc | apply pw_below_drewN | apply below_drew1) | exact HB.out)) hb); clear HO169; clear HB; have HO169 := n0_; have HO173 := n1_; have HB := n2_; clear n0_ n1_ n2_; (try clear hb); (try clear hb2); (try clear hk); (try clear hi); (try clear ho0)) | (go_at_call 11; (with_reducible refine (cubbylaw20_theirs.calls k _ _ t167 t174 _ ?side1 ?side2 A7.out).mono ?_); (case side1 => repeat (first | exact (Kd.R_reads' HO169.out).2.2 | (with_reducible refine Kd.C_alloc ?_ _) | (with_reducible refine Kd.C_drewN ?_ _) | (with_reducible refine Kd.C_drew ?_))); (case side2 => exact (Kd.R_reads' HO169.out).2.1); rintro e w13 ⟨v175, rfl, ho0, hb⟩; have n0_ := Aside0.mk (Kd.R_below (by (with_reducible repeat (first | apply Kd.R_alloc | apply Kd.R_drewN | apply Kd.R_drew)); exact HO169.out) hb); have n1_ := Aside0.mk (Kd.R_below (by (with_reducible repeat (first | apply Kd.R_alloc | apply Kd.R_drewN | apply Kd.R_drew)); exact HO173.out) hb); have n2_ := Aside0.mk (Kd.R_lower ho0 (below_size (by repeat (first | (with_reducible first | exact HB.out | apply below_alloc | apply pw_below_drewN | apply below_drew1) | exact HB.out)))); have n3_ := Aside0.mk (below_step (by repeat (first | (with_reducible first | exact HB.out | apply below_alloc | apply pw_below_drewN | apply below_drew1) | exact HB.out)) hb); clear HO169; clear HO173; clear HB; have HO169 := n0_; have HO173 := n1_; have HO176 := n2_; have HB := n3_; clear n0_ n1_ n2_ n3_; (try clear hb); (try clear hb2); (try clear hk); (try clear hi); (try clear ho0); obtain ⟨Ao14, co14, eo14⟩ := Kd.R_slice HO176.out; subst eo14) | (go_at_call 14; (with_reducible refine (cubbyref20_Victims.calls k _ _ t174 (wrap64 (a2)) (wrap64 (a3)) t177 t178 _ ?side1 ?side2 A8.out).mono ?_); (case side1 => repeat (first | exact (Kd.R_reads' HO176.out).2.2 | (with_reducible refine Kd.C_alloc ?_ _) | (with_reducible refine Kd.C_drewN ?_ _) | (with_reducible refine Kd.C_drew ?_))); (case side2 => exact (Kd.R_reads' HO176.out).2.1); rintro e w15 ⟨v179, rfl, ho0, hb⟩; have n0_ := Aside0.mk (Kd.R_below (by (with_reducible repeat (first | apply Kd.R_alloc | apply Kd.R_drewN | apply Kd.R_drew)); exact HO169.out) hb); have n1_ := Aside0.mk (Kd.R_elder' (by (with_reducible repeat (first | apply Kd.R_alloc | apply Kd.R_drewN | apply Kd.R_drew)); exact HO173.out) (Kd.R_base ho0) hb); have n2_ := Aside0.mk (Kd.R_below (by (with_reducible repeat (first | apply Kd.R_alloc | apply Kd.R_drewN | apply Kd.R_drew)); exact HO176.out) hb); have n3_ := Aside0.mk (Kd.R_lower (Kd.R_new' ho0 (Kd.R_lt (by (with_reducible repeat (first | apply Kd.R_alloc | apply Kd.R_drewN | apply Kd.R_drew)); exact HO173.out))) (below_size (by repeat (first | (with_reducible first | exact HB.out | apply below_alloc | apply pw_below_drewN | apply below_drew1) | exact HB.out)))); have n4_ := Aside0.mk (below_step (by repeat (first | (with_reducible first | exact HB.out | apply below_alloc | apply pw_below_drewN | apply below_drew1) | exact HB.out)) hb); clear HO169; clear HO173; clear HO176; clear HB; have HO169 := n0_; have HO173 := n1_; have HO176 := n2_; have HO180 := n3_; have HB := n4_; clear n0_ n1_ n2_ n3_ n4_; (try clear hb); (try clear hb2); (try clear hk); (try clear hi); (try clear ho0)))
  repeat (go_quiet (first | (go_at_call 12; (with_reducible refine (cubbylaw20_small.calls k _ _ l0 _ _ l1 t167 _ ?side1 ?side2 ?side3 ?side4 A5.out).mono ?_); (case side1 => repeat (first | exact HR0.out | (with_reducible refine Kd.C_alloc ?_ _) | (with_reducible refine Kd.C_drewN ?_ _) | (with_reducible refine Kd.C_drew ?_))); (case side2 => exact HC0.out); (case side3 => repeat (first | exact HR1.out | (with_reducible refine Kd.C_alloc ?_ _) | (with_reducible refine Kd.C_drewN ?_ _) | (with_reducible refine Kd.C_drew ?_))); (case side4 => exact HC1.out); rintro e w10 ⟨v168, rfl, ho0, hb⟩; have n0_ := Aside0.mk (Kd.R_lower ho0 (below_size (by repeat (first | (with_reducible first | exact HB.out | apply below_alloc | apply pw_below_drewN | apply below_drew1) | exact HB.out)))); have n1_ := Aside0.mk (below_step (by repeat (first | (with_reducible first | exact HB.out | apply below_alloc | apply pw_below_drewN | apply below_drew1) | exact HB.out)) hb); clear HB; have HO169 := n0_; have HB := n1_; clear n0_ n1_; (try clear hb); (try clear hb2); (try clear hk); (try clear hi); (try clear ho0); obtain ⟨Ao11, co11, eo11⟩ := Kd.R_slice HO169.out; subst eo11) | (go_at_call 13; (with_reducible refine (evict_Victims.calls k _ _ t167 (wrap64 (a2)) (wrap64 (a3)) t170 t171 _ ?side1 ?side2 A6.out).mono ?_); (case side1 => repeat (first | exact (Kd.R_reads' HO169.out).2.2 | (with_reducible refine Kd.C_alloc ?_ _) | (with_reducible refine Kd.C_drewN ?_ _) | (with_reducible refine Kd.C_drew ?_))); (case side2 => exact (Kd.R_reads' HO169.out).2.1); rintro e w12 ⟨v172, rfl, ho0, hb⟩; have n0_ := Aside0.mk (Kd.R_below (by (with_reducible repeat (first | apply Kd.R_alloc | apply Kd.R_drewN | apply Kd.R_drew)); exact HO169.out) hb); have n1_ := Aside0.mk (Kd.R_lower ho0 (below_size (by repeat (first | (with_reducible first | exact HB.out | apply below_alloc | apply pw_below_drewN | apply below_drew1) | exact HB.out)))); have n2_ := Aside0.mk (below_step (by repeat (first | (with_reducible first | exact HB.out | apply below_alloc | apply pw_below_drewN | apply below_drew1) | exact HB.out)) hb); clear HO169; clear HB; have HO169 := n0_; have HO173 := n1_; have HB := n2_; clear n0_ n1_ n2_; (try clear hb); (try clear hb2); (try clear hk); (try clear hi); (try clear ho0)) | (go_at_call 11; (with_reducible refine (cubbylaw20_theirs.calls k _ _ t167 t174 _ ?side1 ?side2 A7.out).mono ?_); (case side1 => repeat (first | exact (Kd.R_reads' HO169.out).2.2 | (with_reducible refine Kd.C_alloc ?_ _) | (with_reducible refine Kd.C_drewN ?_ _) | (with_reducible refine Kd.C_drew ?_))); (case side2 => exact (Kd.R_reads' HO169.out).2.1); rintro e w13 ⟨v175, rfl, ho0, hb⟩; have n0_ := Aside0.mk (Kd.R_below (by (with_reducible repeat (first | apply Kd.R_alloc | apply Kd.R_drewN | apply Kd.R_drew)); exact HO169.out) hb); have n1_ := Aside0.mk (Kd.R_below (by (with_reducible repeat (first | apply Kd.R_alloc | apply Kd.R_drewN | apply Kd.R_drew)); exact HO173.out) hb); have n2_ := Aside0.mk (Kd.R_lower ho0 (below_size (by repeat (first | (with_reducible first | exact HB.out | apply below_alloc | apply pw_below_drewN | apply below_drew1) | exact HB.out)))); have n3_ := Aside0.mk (below_step (by repeat (first | (with_reducible first | exact HB.out | apply below_alloc | apply pw_below_drewN | apply below_drew1) | exact HB.out)) hb); clear HO169; clear HO173; clear HB; have HO169 := n0_; have HO173 := n1_; have HO176 := n2_; have HB := n3_; clear n0_ n1_ n2_ n3_; (try clear hb); (try clear hb2); (try clear hk); (try clear hi); (try clear ho0); obtain ⟨Ao14, co14, eo14⟩ := Kd.R_slice HO176.out; subst eo14) | (go_at_call 14; (with_reducible refine (cubbyref20_Victims.calls k _ _ t174 (wrap64 (a2)) (wrap64 (a3)) t177 t178 _ ?side1 ?side2 A8.out).mono ?_); (case side1 => repeat (first | exact (Kd.R_reads' HO176.out).2.2 | (with_reducible refine Kd.C_alloc ?_ _) | (with_reducible refine Kd.C_drewN ?_ _) | (with_reducible refine Kd.C_drew ?_))); (case side2 => exact (Kd.R_reads' HO176.out).2.1); rintro e w15 ⟨v179, rfl, ho0, hb⟩; have n0_ := Aside0.mk (Kd.R_below (by (with_reducible repeat (first | apply Kd.R_alloc | apply Kd.R_drewN | apply Kd.R_drew)); exact HO169.out) hb); have n1_ := Aside0.mk (Kd.R_elder' (by (with_reducible repeat (first | apply Kd.R_alloc | apply Kd.R_drewN | apply Kd.R_drew)); exact HO173.out) (Kd.R_base ho0) hb); have n2_ := Aside0.mk (Kd.R_below (by (with_reducible repeat (first | apply Kd.R_alloc | apply Kd.R_drewN | apply Kd.R_drew)); exact HO176.out) hb); have n3_ := Aside0.mk (Kd.R_lower (Kd.R_new' ho0 (Kd.R_lt (by (with_reducible repeat (first | apply Kd.R_alloc | apply Kd.R_drewN | apply Kd.R_drew)); exact HO173.out))) (below_size (by repeat (first | (with_reducible first | exact HB.out | apply below_alloc | apply pw_below_drewN | apply below_drew1) | exact HB.out)))); have n4_ := Aside0.mk (below_step (by repeat (first | (with_reducible first | exact HB.out | apply below_alloc | apply pw_below_drewN | apply below_drew1) | exact HB.out)) hb); clear HO169; clear HO173; clear HO176; clear HB; have HO169 := n0_; have HO173 := n1_; have HO176 := n2_; have HO180 := n3_; have HB := n4_; clear n0_ n1_ n2_ n3_ n4_; (try clear hb); (try clear hb2); (try clear hk); (try clear hi); (try clear ho0))); go_upto_region 4 with (first | (go_at_call 12; (with_reducible refine (cubbylaw20_small.calls k _ _ l0 _ _ l1 t167 _ ?side1 ?side2 ?side3 ?side4 A5.out).mono ?_); (case side1 => repeat (first | exact HR0.out | (with_reducible refine Kd.C_alloc ?_ _) | (with_reducible refine Kd.C_drewN ?_ _) | (with_reducible refine Kd.C_drew ?_))); (case side2 => exact HC0.out); (case side3 => repeat (first | exact HR1.out | (with_reducible refine Kd.C_alloc ?_ _) | (with_reducible refine Kd.C_drewN ?_ _) | (with_reducible refine Kd.C_drew ?_))); (case side4 => exact HC1.out); rintro e w10 ⟨v168, rfl, ho0, hb⟩; have n0_ := Aside0.mk (Kd.R_lower ho0 (below_size (by repeat (first | (with_reducible first | exact HB.out | apply below_alloc | apply pw_below_drewN | apply below_drew1) | exact HB.out)))); have n1_ := Aside0.mk (below_step (by repeat (first | (with_reducible first | exact HB.out | apply below_alloc | apply pw_below_drewN | apply below_drew1) | exact HB.out)) hb); clear HB; have HO169 := n0_; have HB := n1_; clear n0_ n1_; (try clear hb); (try clear hb2); (try clear hk); (try clear hi); (try clear ho0); obtain ⟨Ao11, co11, eo11⟩ := Kd.R_slice HO169.out; subst eo11) | (go_at_call 13; (with_reducible refine (evict_Victims.calls k _ _ t167 (wrap64 (a2)) (wrap64 (a3)) t170 t171 _ ?side1 ?side2 A6.out).mono ?_); (case side1 => repeat (first | exact (Kd.R_reads' HO169.out).2.2 | (with_reducible refine Kd.C_alloc ?_ _) | (with_reducible refine Kd.C_drewN ?_ _) | (with_reducible refine Kd.C_drew ?_))); (case side2 => exact (Kd.R_reads' HO169.out).2.1); rintro e w12 ⟨v172, rfl, ho0, hb⟩; have n0_ := Aside0.mk (Kd.R_below (by (with_reducible repeat (first | apply Kd.R_alloc | apply Kd.R_drewN | apply Kd.R_drew)); exact HO169.out) hb); have n1_ := Aside0.mk (Kd.R_lower ho0 (below_size (by repeat (first | (with_reducible first | exact HB.out | apply below_alloc | apply pw_below_drewN | apply below_drew1) | exact HB.out)))); have n2_ := Aside0.mk (below_step (by repeat (first | (with_reducible first | exact HB.out | apply below_alloc | apply pw_below_drewN | apply below_drew1) | exact HB.out)) hb); clear HO169; clear HB; have HO169 := n0_; have HO173 := n1_; have HB := n2_; clear n0_ n1_ n2_; (try clear hb); (try clear hb2); (try clear hk); (try clear hi); (try clear ho0)) | (go_at_call 11; (with_reducible refine (cubbylaw20_theirs.calls k _ _ t167 t174 _ ?side1 ?side2 A7.out).mono ?_); (case side1 => repeat (first | exact (Kd.R_reads' HO169.out).2.2 | (with_reducible refine Kd.C_alloc ?_ _) | (with_reducible refine Kd.C_drewN ?_ _) | (with_reducible refine Kd.C_drew ?_))); (case side2 => exact (Kd.R_reads' HO169.out).2.1); rintro e w13 ⟨v175, rfl, ho0, hb⟩; have n0_ := Aside0.mk (Kd.R_below (by (with_reducible repeat (first | apply Kd.R_alloc | apply Kd.R_drewN | apply Kd.R_drew)); exact HO169.out) hb); have n1_ := Aside0.mk (Kd.R_below (by (with_reducible repeat (first | apply Kd.R_alloc | apply Kd.R_drewN | apply Kd.R_drew)); exact HO173.out) hb); have n2_ := Aside0.mk (Kd.R_lower ho0 (below_size (by repeat (first | (with_reducible first | exact HB.out | apply below_alloc | apply pw_below_drewN | apply below_drew1) | exact HB.out)))); have n3_ := Aside0.mk (below_step (by repeat (first | (with_reducible first | exact HB.out | apply below_alloc | apply pw_below_drewN | apply below_drew1) | exact HB.out)) hb); clear HO169; clear HO173; clear HB; have HO169 := n0_; have HO173 := n1_; have HO176 := n2_; have HB := n3_; clear n0_ n1_ n2_ n3_; (try clear hb); (try clear hb2); (try clear hk); (try clear hi); (try clear ho0); obtain ⟨Ao14, co14, eo14⟩ := Kd.R_slice HO176.out; subst eo14) | (go_at_call 14; (with_reducible refine (cubbyref20_Victims.calls k _ _ t174 (wrap64 (a2)) (wrap64 (a3)) t177 t178 _ ?side1 ?side2 A8.out).mono ?_); (case side1 => repeat (first | exact (Kd.R_reads' HO176.out).2.2 | (with_reducible refine Kd.C_alloc ?_ _) | (with_reducible refine Kd.C_drewN ?_ _) | (with_reducible refine Kd.C_drew ?_))); (case side2 => exact (Kd.R_reads' HO176.out).2.1); rintro e w15 ⟨v179, rfl, ho0, hb⟩; have n0_ := Aside0.mk (Kd.R_below (by (with_reducible repeat (first | apply Kd.R_alloc | apply Kd.R_drewN | apply Kd.R_drew)); exact HO169.out) hb); have n1_ := Aside0.mk (Kd.R_elder' (by (with_reducible repeat (first | apply Kd.R_alloc | apply Kd.R_drewN | apply Kd.R_drew)); exact HO173.out) (Kd.R_base ho0) hb); have n2_ := Aside0.mk (Kd.R_below (by (with_reducible repeat (first | apply Kd.R_alloc | apply Kd.R_drewN | apply Kd.R_drew)); exact HO176.out) hb); have n3_ := Aside0.mk (Kd.R_lower (Kd.R_new' ho0 (Kd.R_lt (by (with_reducible repeat (first | apply Kd.R_alloc | apply Kd.R_drewN | apply Kd.R_drew)); exact HO173.out))) (below_size (by repeat (first | (with_reducible first | exact HB.out | apply below_alloc | apply pw_below_drewN | apply below_drew1) | exact HB.out)))); have n4_ := Aside0.mk (below_step (by repeat (first | (with_reducible first | exact HB.out | apply below_alloc | apply pw_below_drewN | apply below_drew1) | exact HB.out)) hb); clear HO169; clear HO173; clear HO176; clear HB; have HO169 := n0_; have HO173 := n1_; have HO176 := n2_; have HO180 := n3_; have HB := n4_; clear n0_ n1_ n2_ n3_ n4_; (try clear hb); (try clear hb2); (try clear hk); (try clear hi); (try clear ho0))))
  (try simp only [Act.put, List.setIfInBounds_toArray, List.set_cons_zero, List.set_cons_succ])
  go_cut [50] (fun v50 wc => ∃ (kq : Nat) (x50_8 : Bool), v50 = .bool x50_8 ∧ Aside0 (cubbylaw20_EvictFew.j0 kq a2 a3 t167 t170 t171 x50_8 = some r) ∧ Aside0 (kq ≤ k) ∧ Aside0 (Kd.R k29 29 wc w.heap.size (fun _ => True) (.slice Ao11 t167.length co11) t167) ∧ Aside0 (Kd.R Kd.string 9 wc w.heap.size (fun _ => True) v172 t170) ∧ Aside0 (Below w.heap.size w wc))
  case first =>
    have H := HC9.out
    clear HC9
    by_cases c16 : t171 = t178
    · rw [if_pos c16] at H
      have c16b0 : (t171 == t178) = true := beq_iff_eq.mpr c16
      have c16b1 : (t171 != t178) = false := bne_eq_false_iff_eq.mpr c16
      clear c16
      (first | rw [c16b0] | (simp only [i64_w, i32_w]; rw [c16b0]) | skip)
      have H' := Aside0.mk H
      clear H
      obtain ⟨Ao17, co17, eo17⟩ := Kd.R_slice HO173.out
      subst eo17
      obtain ⟨Ao18, co18, eo18⟩ := Kd.R_slice HO180.out
      subst eo18
      go_wp2
      repeat (go_quiet (fail); try go_wp2)
      go_meet
      case rel => exact ⟨_, (((t170.length : Int) != (t177.length : Int))), (by first | rfl | (simp; done) | (simp [*]; done)), H', ⟨by first | omega | exact Nat.le_refl _⟩, ⟨by (with_reducible repeat (first | apply Kd.R_alloc | apply Kd.R_drewN | apply Kd.R_drew)); exact HO169.out⟩, ⟨by (with_reducible repeat (first | apply Kd.R_alloc | apply Kd.R_drewN | apply Kd.R_drew)); exact Kd.R_mono HO173.out (fun _ hk => trivial)⟩, ⟨by repeat (first | (with_reducible first | exact HB.out | apply below_alloc | apply pw_below_drewN | apply below_drew1) | exact HB.out)⟩⟩
    · rw [if_neg c16] at H
      have c16b0 : (t171 == t178) = false := beq_eq_false_iff_ne.mpr c16
      have c16b1 : (t171 != t178) = true := bne_iff_ne.mpr c16
      (first | rw [c16b0] | (simp only [i64_w, i32_w]; rw [c16b0]) | skip)
      have H' := Aside0.mk H
      clear H
      go_wp2
      repeat (go_quiet (fail); try go_wp2)
      go_meet
      case rel => exact ⟨_, (true), (by first | rfl | (simp; done) | (simp [*]; done)), H', ⟨by first | omega | exact Nat.le_refl _⟩, ⟨by (with_reducible repeat (first | apply Kd.R_alloc | apply Kd.R_drewN | apply Kd.R_drew)); exact HO169.out⟩, ⟨by (with_reducible repeat (first | apply Kd.R_alloc | apply Kd.R_drewN | apply Kd.R_drew)); exact Kd.R_mono HO173.out (fun _ hk => trivial)⟩, ⟨by repeat (first | (with_reducible first | exact HB.out | apply below_alloc | apply pw_below_drewN | apply below_drew1) | exact HB.out)⟩⟩
  case rest =>
    clear HC9
    try clear c1
    try clear p2
    try clear c6
    try clear p6
    try clear c16
    try clear c16b0
    try clear c16b1
    obtain ⟨kq, x50_8, rfl, HA, HJ8, HO_9, HO_10, HB⟩ := hcut
    cases kq with
    | zero => exact absurd HA.out (by simp [cubbylaw20_EvictFew.j0])
    | succ kj8 =>
      have H := HA.out
      clear HA
      simp only [cubbylaw20_EvictFew.j0] at H
      by_cases c19 : x50_8 = true
      · subst c19
        have H1 : (some false) = some r := by rw [if_pos rfl] at H; exact H
        clear H
        have H := H1
        clear H1
        obtain rfl := Option.some.inj H
        go_wp2
        repeat (go_quiet (fail); try go_wp2)
        go_ret
        exact ⟨by first | rfl | (simp [errW_none, errW_some] <;> rfl) | (simp [*, errW_none, errW_some] <;> rfl), by repeat (first | (with_reducible first | exact HB.out | apply below_alloc | apply pw_below_drewN | apply below_drew1) | exact HB.out)⟩
      · replace c19 := Bool.eq_false_iff.mpr c19
        subst c19
        have H1 : (if t171 = 0 then (cubbylaw20_EvictFew.l0 kj8 a3 t167 t170 (wrap64 (a2)) 0 0) else (some (t171 == 221))) = some r := by rw [if_neg (show ¬ (false = true) by decide)] at H; exact H
        clear H
        have H := H1
        clear H1
        by_cases c20 : t171 = 0
        · rw [if_pos c20] at H
          have c20b0 : (t171 == 0) = true := beq_iff_eq.mpr c20
          have c20b1 : (t171 != 0) = false := bne_eq_false_iff_eq.mpr c20
          clear c20
          have H' := Aside0.mk H
          clear H
          go_wp2
          repeat (go_quiet (fail); try go_wp2)
          go_loopg [14, 15, 16] kj8 (fun kq v14 v15 v16 w' => ∃ (x14_2 : Int) (x15_2 : Int) (x16_2 : Int), v14 = .int .i64 x14_2 ∧ v15 = .int .i64 x15_2 ∧ v16 = .int .i64 x16_2 ∧ Aside0 (cubbylaw20_EvictFew.l0 kq a3 t167 t170 x14_2 x15_2 x16_2 = some r) ∧ Aside0 (kq ≤ kj8) ∧ Aside0 (Kd.R k29 29 w' w.heap.size (fun _ => True) (.slice Ao11 t167.length co11) t167) ∧ Aside0 (Kd.R Kd.string 9 w' w.heap.size (fun _ => True) v172 t170) ∧ Aside0 (Below w.heap.size w w'))
          case atStart => exact ⟨(wrap64 (a2)), (0), (0), (by first | rfl | (simp; done) | (simp [*]; done)), (by first | rfl | (simp; done) | (simp [*]; done)), (by first | rfl | (simp; done) | (simp [*]; done)), H', ⟨Nat.le_refl _⟩, ⟨by (with_reducible repeat (first | apply Kd.R_alloc | apply Kd.R_drewN | apply Kd.R_drew)); exact HO_9.out⟩, ⟨by (with_reducible repeat (first | apply Kd.R_alloc | apply Kd.R_drewN | apply Kd.R_drew)); exact HO_10.out⟩, ⟨by repeat (first | (with_reducible first | exact HB.out | apply below_alloc | apply pw_below_drewN | apply below_drew1) | exact HB.out)⟩⟩
          case round =>
            clear H'
            try clear c1
            try clear c2
            try clear p2
            try clear c6
            try clear p6
            try clear c16
            try clear c16b0
            try clear c16b1
            try clear c19
            try clear c20
            try clear c20b0
            try clear c20b1
            try clear p2
            try clear p6
            obtain ⟨x14_2, x15_2, x16_2, rfl, rfl, rfl, HA, HK2, HO_9, HO_10, HB⟩ := hrel
            cases gk with
            | zero => exact absurd HA.out (by simp [cubbylaw20_EvictFew.l0])
            | succ k2 =>
              have H := HA.out
              clear HA
              simp only [cubbylaw20_EvictFew.l0] at H
              by_cases c21 : x16_2 < (t167.length : Int)
              · rw [if_pos c21] at H
                have c21b0 : decide (x16_2 < (t167.length : Int)) = true := decide_eq_true c21
                clear c21
                have H' := Aside0.mk H
                clear H
                go_wp2
                repeat (go_quiet (fail); try go_wp2)
                go_loopg [17, 18] k2 (fun kq v17 v18 w' => ∃ (x17_3 : Bool) (x18_3 : Int), v17 = .bool x17_3 ∧ v18 = .int .i64 x18_3 ∧ Aside0 (cubbylaw20_EvictFew.l1 kq a3 t167 t170 x14_2 x15_2 x16_2 x17_3 x18_3 = some r) ∧ Aside0 (kq ≤ k2) ∧ Aside0 (Kd.R k29 29 w' w.heap.size (fun _ => True) (.slice Ao11 t167.length co11) t167) ∧ Aside0 (Kd.R Kd.string 9 w' w.heap.size (fun _ => True) v172 t170) ∧ Aside0 (Below w.heap.size w w'))
                case atStart => exact ⟨(false), (0), (by first | rfl | (simp; done) | (simp [*]; done)), (by first | rfl | (simp; done) | (simp [*]; done)), H', ⟨Nat.le_refl _⟩, ⟨by (with_reducible repeat (first | apply Kd.R_alloc | apply Kd.R_drewN | apply Kd.R_drew)); exact HO_9.out⟩, ⟨by (with_reducible repeat (first | apply Kd.R_alloc | apply Kd.R_drewN | apply Kd.R_drew)); exact HO_10.out⟩, ⟨by repeat (first | (with_reducible first | exact HB.out | apply below_alloc | apply pw_below_drewN | apply below_drew1) | exact HB.out)⟩⟩
                case round =>
                  clear H'
                  try clear c1
                  try clear c2
                  try clear p2
                  try clear c6
                  try clear p6
                  try clear c16
                  try clear c16b0
                  try clear c16b1
                  try clear c19
                  try clear c20
                  try clear c20b0
                  try clear c20b1
                  try clear c21
                  try clear c21b0
                  try clear p2
                  try clear p6
                  obtain ⟨x17_3, x18_3, rfl, rfl, HA, HK3, HO_9, HO_10, HB⟩ := hrel
                  cases gk with
                  | zero => exact absurd HA.out (by simp [cubbylaw20_EvictFew.l1])
                  | succ k3 =>
                    have H := HA.out
                    clear HA
                    simp only [cubbylaw20_EvictFew.l1] at H
                    by_cases c22 : x18_3 < (t170.length : Int)
                    · rw [if_pos c22] at H
                      have c22b0 : decide (x18_3 < (t170.length : Int)) = true := decide_eq_true c22
                      clear c22
                      by_cases c23 : x17_3 = true
                      · subst c23
                        have H1 : (cubbylaw20_EvictFew.l1 k3 a3 t167 t170 x14_2 x15_2 x16_2 true (wrap64 (x18_3 + 1))) = some r := by rw [if_pos rfl] at H; exact H
                        clear H
                        have H := H1
                        clear H1
                        have H' := Aside0.mk H
                        clear H
                        obtain ⟨Ao24, co24, eo24⟩ := Kd.R_slice HO_10.out
                        subst eo24
                        go_wp2
                        repeat (go_quiet (fail); try go_wp2)
                        go_roundg k3
                        case measure => have := HJ8.out; have := HK2.out; have := HK3.out; omega
                        case rel => exact ⟨(true), (wrap64 (x18_3 + 1)), (by first | rfl | (simp; done) | (simp [*]; done)), (by first | rfl | (simp; done) | (simp [*]; done)), H', ⟨by have := HJ8.out; have := HK2.out; have := HK3.out; omega⟩, ⟨by (with_reducible repeat (first | apply Kd.R_alloc | apply Kd.R_drewN | apply Kd.R_drew)); exact HO_9.out⟩, ⟨by (with_reducible repeat (first | apply Kd.R_alloc | apply Kd.R_drewN | apply Kd.R_drew)); exact HO_10.out⟩, ⟨by repeat (first | (with_reducible first | exact HB.out | apply below_alloc | apply pw_below_drewN | apply below_drew1) | exact HB.out)⟩⟩
                      · replace c23 := Bool.eq_false_iff.mpr c23
                        subst c23
                        have H1 : (if 0 ≤ x18_3 then (if 0 ≤ x16_2 then (if x16_2 < (t167.length : Int) then (cubbylaw20_EvictFew.l1 k3 a3 t167 t170 x14_2 x15_2 x16_2 ((rdOf ByteArray.empty t170 x18_3).toList == ((rd_T29 t167 x16_2).f0).toList) (wrap64 (x18_3 + 1))) else (none)) else (none)) else (none)) = some r := by rw [if_neg (show ¬ (false = true) by decide)] at H; exact H
                        clear H
                        have H := H1
                        clear H1
                        by_cases c25 : 0 ≤ x18_3
                        · rw [if_pos c25] at H
                          have c25b0 : decide (0 ≤ x18_3) = true := decide_eq_true c25
                          clear c25
                          by_cases c26 : 0 ≤ x16_2
                          · rw [if_pos c26] at H
                            have c26b0 : decide (0 ≤ x16_2) = true := decide_eq_true c26
                            clear c26
                            by_cases c27 : x16_2 < (t167.length : Int)
                            · rw [if_pos c27] at H
                              have c27b0 : decide (x16_2 < (t167.length : Int)) = true := decide_eq_true c27
                              clear c27
                              have H' := Aside0.mk H
                              clear H
                              obtain ⟨Ao28, co28, eo28⟩ := Kd.R_slice HO_10.out
                              subst eo28
                              have p181 : 0 ≤ (x18_3 : Int) := of_decide_eq_true (by first | (with_reducible assumption) | assumption)
                              have q181 : x18_3 < (t170.length : Int) := of_decide_eq_true (by first | (with_reducible assumption) | assumption)
                              obtain ⟨ad181, e181, hx181_0⟩ := Kd.at_string (Kd.R_reads' HO_10.out).2.2 x18_3 p181 q181
                              cases e181
                              replace p181 := eq_true p181
                              replace q181 := eq_true q181
                              have p182 : 0 ≤ (x16_2 : Int) := of_decide_eq_true (by first | (with_reducible assumption) | assumption)
                              have q182 : x16_2 < (t167.length : Int) := of_decide_eq_true (by first | (with_reducible assumption) | assumption)
                              obtain ⟨ad182, e182, hx182_0, hx182_1, hx182_2, hx182_3⟩ := at_T29 (Kd.R_reads' HO_9.out).2.2 x16_2 p182 q182
                              cases e182
                              replace p182 := eq_true p182
                              replace q182 := eq_true q182
                              go_wp2
                              repeat (go_quiet (fail); try go_wp2)
                              go_roundg k3
                              case measure => have := HJ8.out; have := HK2.out; have := HK3.out; omega
                              case rel => exact ⟨(((rdOf ByteArray.empty t170 x18_3).toList == ((rd_T29 t167 x16_2).f0).toList)), (wrap64 (x18_3 + 1)), (by first | rfl | (simp; done) | (simp [*]; done)), (by first | rfl | (simp; done) | (simp [*]; done)), H', ⟨by have := HJ8.out; have := HK2.out; have := HK3.out; omega⟩, ⟨by (with_reducible repeat (first | apply Kd.R_alloc | apply Kd.R_drewN | apply Kd.R_drew)); exact HO_9.out⟩, ⟨by (with_reducible repeat (first | apply Kd.R_alloc | apply Kd.R_drewN | apply Kd.R_drew)); exact HO_10.out⟩, ⟨by repeat (first | (with_reducible first | exact HB.out | apply below_alloc | apply pw_below_drewN | apply below_drew1) | exact HB.out)⟩⟩
                            · rw [if_neg c27] at H
                              exact absurd H (by simp)
                          · rw [if_neg c26] at H
                            exact absurd H (by simp)
                        · rw [if_neg c25] at H
                          exact absurd H (by simp)
                    · rw [if_neg c22] at H
                      have c22b0 : decide (x18_3 < (t170.length : Int)) = false := decide_eq_false c22
                      clear c22
                      have HC29 := Aside0.mk H
                      clear H
                      obtain ⟨Ao30, co30, eo30⟩ := Kd.R_slice HO_10.out
                      subst eo30
                      go_upto_region 18 with (fail)
                      repeat (go_quiet (fail); go_upto_region 18 with (fail))
                      go_cut [89] (fun v89 wc => ∃ (kq : Nat) (x89_28 : Bool), v89 = .bool x89_28 ∧ Aside0 (cubbylaw20_EvictFew.j3 kq a3 t167 t170 x14_2 x15_2 x16_2 x17_3 x89_28 = some r) ∧ Aside0 (kq ≤ k3) ∧ Aside0 (Kd.R k29 29 wc w.heap.size (fun _ => True) (.slice Ao11 t167.length co11) t167) ∧ Aside0 (Kd.R Kd.string 9 wc w.heap.size (fun _ => True) (.slice Ao30 t170.length co30) t170) ∧ Aside0 (Below w.heap.size w wc))
                      case first =>
                        have H := HC29.out
                        clear HC29
                        by_cases c31 : x17_3 = true
                        · subst c31
                          have H1 : (if 0 ≤ x16_2 then (if x16_2 < (t167.length : Int) then (cubbylaw20_EvictFew.j3 k3 a3 t167 t170 x14_2 x15_2 x16_2 true ((rd_T29 t167 x16_2).f3)) else (none)) else (none)) = some r := by rw [if_pos rfl] at H; exact H
                          clear H
                          have H := H1
                          clear H1
                          by_cases c32 : 0 ≤ x16_2
                          · rw [if_pos c32] at H
                            have c32b0 : decide (0 ≤ x16_2) = true := decide_eq_true c32
                            clear c32
                            (first | rw [c32b0] | (simp only [i64_w, i32_w]; rw [c32b0]) | skip)
                            by_cases c33 : x16_2 < (t167.length : Int)
                            · rw [if_pos c33] at H
                              have c33b0 : decide (x16_2 < (t167.length : Int)) = true := decide_eq_true c33
                              clear c33
                              have H' := Aside0.mk H
                              clear H
                              have p183 : 0 ≤ (x16_2 : Int) := of_decide_eq_true (by first | (with_reducible assumption) | assumption)
                              have q183 : x16_2 < (t167.length : Int) := of_decide_eq_true (by first | (with_reducible assumption) | assumption)
                              obtain ⟨ad183, e183, hx183_0, hx183_1, hx183_2, hx183_3⟩ := at_T29 (Kd.R_reads' HO_9.out).2.2 x16_2 p183 q183
                              cases e183
                              replace p183 := eq_true p183
                              replace q183 := eq_true q183
                              go_wp2
                              repeat (go_quiet (fail); try go_wp2)
                              go_meet
                              case rel => exact ⟨_, ((rd_T29 t167 x16_2).f3), (by first | rfl | (simp; done) | (simp [*]; done)), H', ⟨by have := HJ8.out; have := HK2.out; have := HK3.out; first | omega | exact Nat.le_refl _⟩, ⟨by (with_reducible repeat (first | apply Kd.R_alloc | apply Kd.R_drewN | apply Kd.R_drew)); exact HO_9.out⟩, ⟨by (with_reducible repeat (first | apply Kd.R_alloc | apply Kd.R_drewN | apply Kd.R_drew)); exact HO_10.out⟩, ⟨by repeat (first | (with_reducible first | exact HB.out | apply below_alloc | apply pw_below_drewN | apply below_drew1) | exact HB.out)⟩⟩
                            · rw [if_neg c33] at H
                              exact absurd H (by simp)
                          · rw [if_neg c32] at H
                            exact absurd H (by simp)
                        · replace c31 := Bool.eq_false_iff.mpr c31
                          subst c31
                          have H1 : (cubbylaw20_EvictFew.j3 k3 a3 t167 t170 x14_2 x15_2 x16_2 false false) = some r := by rw [if_neg (show ¬ (false = true) by decide)] at H; exact H
                          clear H
                          have H := H1
                          clear H1
                          have H' := Aside0.mk H
                          clear H
                          go_wp2
                          repeat (go_quiet (fail); try go_wp2)
                          go_meet
                          case rel => exact ⟨_, (false), (by first | rfl | (simp; done) | (simp [*]; done)), H', ⟨by have := HJ8.out; have := HK2.out; have := HK3.out; first | omega | exact Nat.le_refl _⟩, ⟨by (with_reducible repeat (first | apply Kd.R_alloc | apply Kd.R_drewN | apply Kd.R_drew)); exact HO_9.out⟩, ⟨by (with_reducible repeat (first | apply Kd.R_alloc | apply Kd.R_drewN | apply Kd.R_drew)); exact HO_10.out⟩, ⟨by repeat (first | (with_reducible first | exact HB.out | apply below_alloc | apply pw_below_drewN | apply below_drew1) | exact HB.out)⟩⟩
                      case rest =>
                        clear HC29
                        try clear c1
                        try clear p1
                        try clear q1
                        try clear hx1
                        try clear c2
                        try clear p2
                        try clear c3
                        try clear c6
                        try clear p6
                        try clear c16
                        try clear c16b0
                        try clear c16b1
                        try clear p18
                        try clear q18
                        try clear hx18
                        try clear c19
                        try clear c20
                        try clear c20b0
                        try clear c20b1
                        try clear c21
                        try clear c21b0
                        try clear c22
                        try clear c22b0
                        try clear c23
                        try clear c25
                        try clear c25b0
                        try clear c26
                        try clear c26b0
                        try clear c27
                        try clear c27b0
                        try clear c31
                        try clear c32
                        try clear c32b0
                        try clear c33
                        try clear c33b0
                        try clear hx181_0
                        try clear hx182_0
                        try clear hx182_1
                        try clear hx182_2
                        try clear hx182_3
                        try clear hx183_0
                        try clear hx183_1
                        try clear hx183_2
                        try clear hx183_3
                        try clear p181
                        try clear p182
                        try clear p183
                        try clear p2
                        try clear p6
                        try clear q181
                        try clear q182
                        try clear q183
                        obtain ⟨kq, x89_28, rfl, HA, HJ28, HO_9, HO_10, HB⟩ := hcut
                        cases kq with
                        | zero => exact absurd HA.out (by simp [cubbylaw20_EvictFew.j3])
                        | succ kj28 =>
                          have H := HA.out
                          clear HA
                          simp only [cubbylaw20_EvictFew.j3] at H
                          by_cases c34 : x89_28 = true
                          · subst c34
                            have H1 : (some false) = some r := by rw [if_pos rfl] at H; exact H
                            clear H
                            have H := H1
                            clear H1
                            obtain rfl := Option.some.inj H
                            go_wp2
                            repeat (go_quiet (fail); try go_wp2)
                            go_ret
                            exact ⟨by first | rfl | (simp [errW_none, errW_some] <;> rfl) | (simp [*, errW_none, errW_some] <;> rfl), by repeat (first | (with_reducible first | exact HB.out | apply below_alloc | apply pw_below_drewN | apply below_drew1) | exact HB.out)⟩
                          · replace c34 := Bool.eq_false_iff.mpr c34
                            subst c34
                            have H1 : (if x17_3 = true then (if (t170.length : Int) > 0 then (if 0 ≤ x16_2 then (if x16_2 < (t167.length : Int) then (if 0 ≤ (wrap64 ((t170.length : Int) - 1)) then (if (wrap64 ((t170.length : Int) - 1)) < (t170.length : Int) then (if ((rd_T29 t167 x16_2).f0).toList = (rdOf ByteArray.empty t170 (wrap64 ((t170.length : Int) - 1))).toList then (cubbylaw20_EvictFew.l0 kj28 a3 t167 t170 x14_2 ((rd_T29 t167 x16_2).f1) (wrap64 (x16_2 + 1))) else (cubbylaw20_EvictFew.l0 kj28 a3 t167 t170 x14_2 x15_2 (wrap64 (x16_2 + 1)))) else (none)) else (none)) else (none)) else (none)) else (cubbylaw20_EvictFew.l0 kj28 a3 t167 t170 x14_2 x15_2 (wrap64 (x16_2 + 1)))) else (if 0 ≤ x16_2 then (if x16_2 < (t167.length : Int) then (if (t170.length : Int) > 0 then (if 0 ≤ (wrap64 ((t170.length : Int) - 1)) then (if (wrap64 ((t170.length : Int) - 1)) < (t170.length : Int) then (if ((rd_T29 t167 x16_2).f0).toList = (rdOf ByteArray.empty t170 (wrap64 ((t170.length : Int) - 1))).toList then (cubbylaw20_EvictFew.l0 kj28 a3 t167 t170 (wrap64 (x14_2 + ((rd_T29 t167 x16_2).f1))) ((rd_T29 t167 x16_2).f1) (wrap64 (x16_2 + 1))) else (cubbylaw20_EvictFew.l0 kj28 a3 t167 t170 (wrap64 (x14_2 + ((rd_T29 t167 x16_2).f1))) x15_2 (wrap64 (x16_2 + 1)))) else (none)) else (none)) else (cubbylaw20_EvictFew.l0 kj28 a3 t167 t170 (wrap64 (x14_2 + ((rd_T29 t167 x16_2).f1))) x15_2 (wrap64 (x16_2 + 1)))) else (none)) else (none))) = some r := by rw [if_neg (show ¬ (false = true) by decide)] at H; exact H
                            clear H
                            have H := H1
                            clear H1
                            by_cases c35 : x17_3 = true
                            · subst c35
                              have H1 : (if (t170.length : Int) > 0 then (if 0 ≤ x16_2 then (if x16_2 < (t167.length : Int) then (if 0 ≤ (wrap64 ((t170.length : Int) - 1)) then (if (wrap64 ((t170.length : Int) - 1)) < (t170.length : Int) then (if ((rd_T29 t167 x16_2).f0).toList = (rdOf ByteArray.empty t170 (wrap64 ((t170.length : Int) - 1))).toList then (cubbylaw20_EvictFew.l0 kj28 a3 t167 t170 x14_2 ((rd_T29 t167 x16_2).f1) (wrap64 (x16_2 + 1))) else (cubbylaw20_EvictFew.l0 kj28 a3 t167 t170 x14_2 x15_2 (wrap64 (x16_2 + 1)))) else (none)) else (none)) else (none)) else (none)) else (cubbylaw20_EvictFew.l0 kj28 a3 t167 t170 x14_2 x15_2 (wrap64 (x16_2 + 1)))) = some r := by rw [if_pos rfl] at H; exact H
                              clear H
                              have H := H1
                              clear H1
                              by_cases c36 : (t170.length : Int) > 0
                              · rw [if_pos c36] at H
                                have c36b0 : decide (0 < (t170.length : Int)) = true := decide_eq_true c36
                                have c36b1 : decide (0 < t170.length) = true := decide_eq_true (by omega)
                                clear c36
                                by_cases c37 : 0 ≤ x16_2
                                · rw [if_pos c37] at H
                                  have c37b0 : decide (0 ≤ x16_2) = true := decide_eq_true c37
                                  clear c37
                                  by_cases c38 : x16_2 < (t167.length : Int)
                                  · rw [if_pos c38] at H
                                    have c38b0 : decide (x16_2 < (t167.length : Int)) = true := decide_eq_true c38
                                    clear c38
                                    obtain ⟨ji39, hji39⟩ : ∃ j_ : Int, (wrap64 ((t170.length : Int) - 1)) = j_ := ⟨_, rfl⟩
                                    replace H : (if 0 ≤ (ji39) then (if (ji39) < (t170.length : Int) then (if ((rd_T29 t167 x16_2).f0).toList = (rdOf ByteArray.empty t170 (ji39)).toList then (cubbylaw20_EvictFew.l0 kj28 a3 t167 t170 x14_2 ((rd_T29 t167 x16_2).f1) (wrap64 (x16_2 + 1))) else (cubbylaw20_EvictFew.l0 kj28 a3 t167 t170 x14_2 x15_2 (wrap64 (x16_2 + 1)))) else (none)) else (none)) = some r := by first | (rw [hji39] at H; exact H) | (simp only [hji39] at H ⊢; exact H)
                                    have hji39w : (IntKind.i64.wrap ((t170.length : Int) - 1)) = ji39 := (i64_w _).trans hji39
                                    by_cases c40 : 0 ≤ (ji39)
                                    · rw [if_pos c40] at H
                                      have c40b0 : decide (0 ≤ (ji39)) = true := decide_eq_true c40
                                      clear c40
                                      by_cases c41 : (ji39) < (t170.length : Int)
                                      · rw [if_pos c41] at H
                                        have c41b0 : decide ((ji39) < (t170.length : Int)) = true := decide_eq_true c41
                                        clear c41
                                        by_cases c42 : ((rd_T29 t167 x16_2).f0).toList = (rdOf ByteArray.empty t170 (ji39)).toList
                                        · rw [if_pos c42] at H
                                          have c42b0 : (((rd_T29 t167 x16_2).f0).toList == (rdOf ByteArray.empty t170 (ji39)).toList) = true := beq_iff_eq.mpr c42
                                          have c42b1 : (((rd_T29 t167 x16_2).f0).toList != (rdOf ByteArray.empty t170 (ji39)).toList) = false := bne_eq_false_iff_eq.mpr c42
                                          clear c42
                                          have H' := Aside0.mk H
                                          clear H
                                          have p184 : 0 ≤ (x16_2 : Int) := of_decide_eq_true (by first | (with_reducible assumption) | assumption)
                                          have q184 : x16_2 < (t167.length : Int) := of_decide_eq_true (by first | (with_reducible assumption) | assumption)
                                          obtain ⟨ad184, e184, hx184_0, hx184_1, hx184_2, hx184_3⟩ := at_T29 (Kd.R_reads' HO_9.out).2.2 x16_2 p184 q184
                                          cases e184
                                          replace p184 := eq_true p184
                                          replace q184 := eq_true q184
                                          have p185 : 0 ≤ ((ji39) : Int) := of_decide_eq_true (by first | (with_reducible assumption) | assumption)
                                          have q185 : (ji39) < (t170.length : Int) := of_decide_eq_true (by first | (with_reducible assumption) | assumption)
                                          obtain ⟨ad185, e185, hx185_0⟩ := Kd.at_string (Kd.R_reads' HO_10.out).2.2 (ji39) p185 q185
                                          cases e185
                                          replace p185 := eq_true p185
                                          replace q185 := eq_true q185
                                          have p186 : 0 ≤ (x16_2 : Int) := of_decide_eq_true (by first | (with_reducible assumption) | assumption)
                                          have q186 : x16_2 < (t167.length : Int) := of_decide_eq_true (by first | (with_reducible assumption) | assumption)
                                          obtain ⟨ad186, e186, hx186_0, hx186_1, hx186_2, hx186_3⟩ := at_T29 (Kd.R_reads' HO_9.out).2.2 x16_2 p186 q186
                                          obtain rfl : ad184 = ad186 := (by injection e186)
                                          replace p186 := eq_true p186
                                          replace q186 := eq_true q186
                                          go_wp2
                                          repeat (go_quiet (fail); try go_wp2)
                                          go_roundg kj28
                                          case measure => have := HJ8.out; have := HK2.out; have := HK3.out; have := HJ28.out; omega
                                          case rel => exact ⟨(x14_2), ((rd_T29 t167 x16_2).f1), (wrap64 (x16_2 + 1)), (by first | rfl | (simp; done) | (simp [*]; done)), (by first | rfl | (simp; done) | (simp [*]; done)), (by first | rfl | (simp; done) | (simp [*]; done)), H', ⟨by have := HJ8.out; have := HK2.out; have := HK3.out; have := HJ28.out; omega⟩, ⟨by (with_reducible repeat (first | apply Kd.R_alloc | apply Kd.R_drewN | apply Kd.R_drew)); exact HO_9.out⟩, ⟨by (with_reducible repeat (first | apply Kd.R_alloc | apply Kd.R_drewN | apply Kd.R_drew)); exact HO_10.out⟩, ⟨by repeat (first | (with_reducible first | exact HB.out | apply below_alloc | apply pw_below_drewN | apply below_drew1) | exact HB.out)⟩⟩
                                        · rw [if_neg c42] at H
                                          have c42b0 : (((rd_T29 t167 x16_2).f0).toList == (rdOf ByteArray.empty t170 (ji39)).toList) = false := beq_eq_false_iff_ne.mpr c42
                                          have c42b1 : (((rd_T29 t167 x16_2).f0).toList != (rdOf ByteArray.empty t170 (ji39)).toList) = true := bne_iff_ne.mpr c42
                                          have H' := Aside0.mk H
                                          clear H
                                          have p184 : 0 ≤ (x16_2 : Int) := of_decide_eq_true (by first | (with_reducible assumption) | assumption)
                                          have q184 : x16_2 < (t167.length : Int) := of_decide_eq_true (by first | (with_reducible assumption) | assumption)
                                          obtain ⟨ad184, e184, hx184_0, hx184_1, hx184_2, hx184_3⟩ := at_T29 (Kd.R_reads' HO_9.out).2.2 x16_2 p184 q184
                                          cases e184
                                          replace p184 := eq_true p184
                                          replace q184 := eq_true q184
                                          have p185 : 0 ≤ ((ji39) : Int) := of_decide_eq_true (by first | (with_reducible assumption) | assumption)
                                          have q185 : (ji39) < (t170.length : Int) := of_decide_eq_true (by first | (with_reducible assumption) | assumption)
                                          obtain ⟨ad185, e185, hx185_0⟩ := Kd.at_string (Kd.R_reads' HO_10.out).2.2 (ji39) p185 q185
                                          cases e185
                                          replace p185 := eq_true p185
                                          replace q185 := eq_true q185
                                          go_wp2
                                          repeat (go_quiet (fail); try go_wp2)
                                          go_roundg kj28
                                          case measure => have := HJ8.out; have := HK2.out; have := HK3.out; have := HJ28.out; omega
                                          case rel => exact ⟨(x14_2), (x15_2), (wrap64 (x16_2 + 1)), (by first | rfl | (simp; done) | (simp [*]; done)), (by first | rfl | (simp; done) | (simp [*]; done)), (by first | rfl | (simp; done) | (simp [*]; done)), H', ⟨by have := HJ8.out; have := HK2.out; have := HK3.out; have := HJ28.out; omega⟩, ⟨by (with_reducible repeat (first | apply Kd.R_alloc | apply Kd.R_drewN | apply Kd.R_drew)); exact HO_9.out⟩, ⟨by (with_reducible repeat (first | apply Kd.R_alloc | apply Kd.R_drewN | apply Kd.R_drew)); exact HO_10.out⟩, ⟨by repeat (first | (with_reducible first | exact HB.out | apply below_alloc | apply pw_below_drewN | apply below_drew1) | exact HB.out)⟩⟩
                                      · rw [if_neg c41] at H
                                        exact absurd H (by simp)
                                    · rw [if_neg c40] at H
                                      exact absurd H (by simp)
                                  · rw [if_neg c38] at H
                                    exact absurd H (by simp)
                                · rw [if_neg c37] at H
                                  exact absurd H (by simp)
                              · rw [if_neg c36] at H
                                have c36b0 : decide (0 < (t170.length : Int)) = false := decide_eq_false c36
                                have c36b1 : decide (0 < t170.length) = false := decide_eq_false (by omega)
                                clear c36
                                have H' := Aside0.mk H
                                clear H
                                go_wp2
                                repeat (go_quiet (fail); try go_wp2)
                                go_roundg kj28
                                case measure => have := HJ8.out; have := HK2.out; have := HK3.out; have := HJ28.out; omega
                                case rel => exact ⟨(x14_2), (x15_2), (wrap64 (x16_2 + 1)), (by first | rfl | (simp; done) | (simp [*]; done)), (by first | rfl | (simp; done) | (simp [*]; done)), (by first | rfl | (simp; done) | (simp [*]; done)), H', ⟨by have := HJ8.out; have := HK2.out; have := HK3.out; have := HJ28.out; omega⟩, ⟨by (with_reducible repeat (first | apply Kd.R_alloc | apply Kd.R_drewN | apply Kd.R_drew)); exact HO_9.out⟩, ⟨by (with_reducible repeat (first | apply Kd.R_alloc | apply Kd.R_drewN | apply Kd.R_drew)); exact HO_10.out⟩, ⟨by repeat (first | (with_reducible first | exact HB.out | apply below_alloc | apply pw_below_drewN | apply below_drew1) | exact HB.out)⟩⟩
                            · replace c35 := Bool.eq_false_iff.mpr c35
                              subst c35
                              have H1 : (if 0 ≤ x16_2 then (if x16_2 < (t167.length : Int) then (if (t170.length : Int) > 0 then (if 0 ≤ (wrap64 ((t170.length : Int) - 1)) then (if (wrap64 ((t170.length : Int) - 1)) < (t170.length : Int) then (if ((rd_T29 t167 x16_2).f0).toList = (rdOf ByteArray.empty t170 (wrap64 ((t170.length : Int) - 1))).toList then (cubbylaw20_EvictFew.l0 kj28 a3 t167 t170 (wrap64 (x14_2 + ((rd_T29 t167 x16_2).f1))) ((rd_T29 t167 x16_2).f1) (wrap64 (x16_2 + 1))) else (cubbylaw20_EvictFew.l0 kj28 a3 t167 t170 (wrap64 (x14_2 + ((rd_T29 t167 x16_2).f1))) x15_2 (wrap64 (x16_2 + 1)))) else (none)) else (none)) else (cubbylaw20_EvictFew.l0 kj28 a3 t167 t170 (wrap64 (x14_2 + ((rd_T29 t167 x16_2).f1))) x15_2 (wrap64 (x16_2 + 1)))) else (none)) else (none)) = some r := by rw [if_neg (show ¬ (false = true) by decide)] at H; exact H
                              clear H
                              have H := H1
                              clear H1
                              by_cases c43 : 0 ≤ x16_2
                              · rw [if_pos c43] at H
                                have c43b0 : decide (0 ≤ x16_2) = true := decide_eq_true c43
                                clear c43
                                by_cases c44 : x16_2 < (t167.length : Int)
                                · rw [if_pos c44] at H
                                  have c44b0 : decide (x16_2 < (t167.length : Int)) = true := decide_eq_true c44
                                  clear c44
                                  by_cases c45 : (t170.length : Int) > 0
                                  · rw [if_pos c45] at H
                                    have c45b0 : decide (0 < (t170.length : Int)) = true := decide_eq_true c45
                                    have c45b1 : decide (0 < t170.length) = true := decide_eq_true (by omega)
                                    clear c45
                                    obtain ⟨ji46, hji46⟩ : ∃ j_ : Int, (wrap64 ((t170.length : Int) - 1)) = j_ := ⟨_, rfl⟩
                                    replace H : (if 0 ≤ (ji46) then (if (ji46) < (t170.length : Int) then (if ((rd_T29 t167 x16_2).f0).toList = (rdOf ByteArray.empty t170 (ji46)).toList then (cubbylaw20_EvictFew.l0 kj28 a3 t167 t170 (wrap64 (x14_2 + ((rd_T29 t167 x16_2).f1))) ((rd_T29 t167 x16_2).f1) (wrap64 (x16_2 + 1))) else (cubbylaw20_EvictFew.l0 kj28 a3 t167 t170 (wrap64 (x14_2 + ((rd_T29 t167 x16_2).f1))) x15_2 (wrap64 (x16_2 + 1)))) else (none)) else (none)) = some r := by first | (rw [hji46] at H; exact H) | (simp only [hji46] at H ⊢; exact H)
                                    have hji46w : (IntKind.i64.wrap ((t170.length : Int) - 1)) = ji46 := (i64_w _).trans hji46
                                    by_cases c47 : 0 ≤ (ji46)
                                    · rw [if_pos c47] at H
                                      have c47b0 : decide (0 ≤ (ji46)) = true := decide_eq_true c47
                                      clear c47
                                      by_cases c48 : (ji46) < (t170.length : Int)
                                      · rw [if_pos c48] at H
                                        have c48b0 : decide ((ji46) < (t170.length : Int)) = true := decide_eq_true c48
                                        clear c48
                                        by_cases c49 : ((rd_T29 t167 x16_2).f0).toList = (rdOf ByteArray.empty t170 (ji46)).toList
                                        · rw [if_pos c49] at H
                                          have c49b0 : (((rd_T29 t167 x16_2).f0).toList == (rdOf ByteArray.empty t170 (ji46)).toList) = true := beq_iff_eq.mpr c49
                                          have c49b1 : (((rd_T29 t167 x16_2).f0).toList != (rdOf ByteArray.empty t170 (ji46)).toList) = false := bne_eq_false_iff_eq.mpr c49
                                          clear c49
                                          have H' := Aside0.mk H
                                          clear H
                                          have p187 : 0 ≤ (x16_2 : Int) := of_decide_eq_true (by first | (with_reducible assumption) | assumption)
                                          have q187 : x16_2 < (t167.length : Int) := of_decide_eq_true (by first | (with_reducible assumption) | assumption)
                                          obtain ⟨ad187, e187, hx187_0, hx187_1, hx187_2, hx187_3⟩ := at_T29 (Kd.R_reads' HO_9.out).2.2 x16_2 p187 q187
                                          cases e187
                                          replace p187 := eq_true p187
                                          replace q187 := eq_true q187
                                          have p188 : 0 ≤ (x16_2 : Int) := of_decide_eq_true (by first | (with_reducible assumption) | assumption)
                                          have q188 : x16_2 < (t167.length : Int) := of_decide_eq_true (by first | (with_reducible assumption) | assumption)
                                          obtain ⟨ad188, e188, hx188_0, hx188_1, hx188_2, hx188_3⟩ := at_T29 (Kd.R_reads' HO_9.out).2.2 x16_2 p188 q188
                                          obtain rfl : ad187 = ad188 := (by injection e188)
                                          replace p188 := eq_true p188
                                          replace q188 := eq_true q188
                                          have p189 : 0 ≤ ((ji46) : Int) := of_decide_eq_true (by first | (with_reducible assumption) | assumption)
                                          have q189 : (ji46) < (t170.length : Int) := of_decide_eq_true (by first | (with_reducible assumption) | assumption)
                                          obtain ⟨ad189, e189, hx189_0⟩ := Kd.at_string (Kd.R_reads' HO_10.out).2.2 (ji46) p189 q189
                                          cases e189
                                          replace p189 := eq_true p189
                                          replace q189 := eq_true q189
                                          have p190 : 0 ≤ (x16_2 : Int) := of_decide_eq_true (by first | (with_reducible assumption) | assumption)
                                          have q190 : x16_2 < (t167.length : Int) := of_decide_eq_true (by first | (with_reducible assumption) | assumption)
                                          obtain ⟨ad190, e190, hx190_0, hx190_1, hx190_2, hx190_3⟩ := at_T29 (Kd.R_reads' HO_9.out).2.2 x16_2 p190 q190
                                          obtain rfl : ad187 = ad190 := (by injection e190)
                                          replace p190 := eq_true p190
                                          replace q190 := eq_true q190
                                          go_wp2
                                          repeat (go_quiet (fail); try go_wp2)
                                          go_roundg kj28
                                          case measure => have := HJ8.out; have := HK2.out; have := HK3.out; have := HJ28.out; omega
                                          case rel => exact ⟨(wrap64 (x14_2 + ((rd_T29 t167 x16_2).f1))), ((rd_T29 t167 x16_2).f1), (wrap64 (x16_2 + 1)), (by first | rfl | (simp; done) | (simp [*]; done)), (by first | rfl | (simp; done) | (simp [*]; done)), (by first | rfl | (simp; done) | (simp [*]; done)), H', ⟨by have := HJ8.out; have := HK2.out; have := HK3.out; have := HJ28.out; omega⟩, ⟨by (with_reducible repeat (first | apply Kd.R_alloc | apply Kd.R_drewN | apply Kd.R_drew)); exact HO_9.out⟩, ⟨by (with_reducible repeat (first | apply Kd.R_alloc | apply Kd.R_drewN | apply Kd.R_drew)); exact HO_10.out⟩, ⟨by repeat (first | (with_reducible first | exact HB.out | apply below_alloc | apply pw_below_drewN | apply below_drew1) | exact HB.out)⟩⟩
                                        · rw [if_neg c49] at H
                                          have c49b0 : (((rd_T29 t167 x16_2).f0).toList == (rdOf ByteArray.empty t170 (ji46)).toList) = false := beq_eq_false_iff_ne.mpr c49
                                          have c49b1 : (((rd_T29 t167 x16_2).f0).toList != (rdOf ByteArray.empty t170 (ji46)).toList) = true := bne_iff_ne.mpr c49
                                          have H' := Aside0.mk H
                                          clear H
                                          have p187 : 0 ≤ (x16_2 : Int) := of_decide_eq_true (by first | (with_reducible assumption) | assumption)
                                          have q187 : x16_2 < (t167.length : Int) := of_decide_eq_true (by first | (with_reducible assumption) | assumption)
                                          obtain ⟨ad187, e187, hx187_0, hx187_1, hx187_2, hx187_3⟩ := at_T29 (Kd.R_reads' HO_9.out).2.2 x16_2 p187 q187
                                          cases e187
                                          replace p187 := eq_true p187
                                          replace q187 := eq_true q187
                                          have p188 : 0 ≤ (x16_2 : Int) := of_decide_eq_true (by first | (with_reducible assumption) | assumption)
                                          have q188 : x16_2 < (t167.length : Int) := of_decide_eq_true (by first | (with_reducible assumption) | assumption)
                                          obtain ⟨ad188, e188, hx188_0, hx188_1, hx188_2, hx188_3⟩ := at_T29 (Kd.R_reads' HO_9.out).2.2 x16_2 p188 q188
                                          obtain rfl : ad187 = ad188 := (by injection e188)
                                          replace p188 := eq_true p188
                                          replace q188 := eq_true q188
                                          have p189 : 0 ≤ ((ji46) : Int) := of_decide_eq_true (by first | (with_reducible assumption) | assumption)
                                          have q189 : (ji46) < (t170.length : Int) := of_decide_eq_true (by first | (with_reducible assumption) | assumption)
                                          obtain ⟨ad189, e189, hx189_0⟩ := Kd.at_string (Kd.R_reads' HO_10.out).2.2 (ji46) p189 q189
                                          cases e189
                                          replace p189 := eq_true p189
                                          replace q189 := eq_true q189
                                          go_wp2
                                          repeat (go_quiet (fail); try go_wp2)
                                          go_roundg kj28
                                          case measure => have := HJ8.out; have := HK2.out; have := HK3.out; have := HJ28.out; omega
                                          case rel => exact ⟨(wrap64 (x14_2 + ((rd_T29 t167 x16_2).f1))), (x15_2), (wrap64 (x16_2 + 1)), (by first | rfl | (simp; done) | (simp [*]; done)), (by first | rfl | (simp; done) | (simp [*]; done)), (by first | rfl | (simp; done) | (simp [*]; done)), H', ⟨by have := HJ8.out; have := HK2.out; have := HK3.out; have := HJ28.out; omega⟩, ⟨by (with_reducible repeat (first | apply Kd.R_alloc | apply Kd.R_drewN | apply Kd.R_drew)); exact HO_9.out⟩, ⟨by (with_reducible repeat (first | apply Kd.R_alloc | apply Kd.R_drewN | apply Kd.R_drew)); exact HO_10.out⟩, ⟨by repeat (first | (with_reducible first | exact HB.out | apply below_alloc | apply pw_below_drewN | apply below_drew1) | exact HB.out)⟩⟩
                                      · rw [if_neg c48] at H
                                        exact absurd H (by simp)
                                    · rw [if_neg c47] at H
                                      exact absurd H (by simp)
                                  · rw [if_neg c45] at H
                                    have c45b0 : decide (0 < (t170.length : Int)) = false := decide_eq_false c45
                                    have c45b1 : decide (0 < t170.length) = false := decide_eq_false (by omega)
                                    clear c45
                                    have H' := Aside0.mk H
                                    clear H
                                    have p187 : 0 ≤ (x16_2 : Int) := of_decide_eq_true (by first | (with_reducible assumption) | assumption)
                                    have q187 : x16_2 < (t167.length : Int) := of_decide_eq_true (by first | (with_reducible assumption) | assumption)
                                    obtain ⟨ad187, e187, hx187_0, hx187_1, hx187_2, hx187_3⟩ := at_T29 (Kd.R_reads' HO_9.out).2.2 x16_2 p187 q187
                                    cases e187
                                    replace p187 := eq_true p187
                                    replace q187 := eq_true q187
                                    go_wp2
                                    repeat (go_quiet (fail); try go_wp2)
                                    go_roundg kj28
                                    case measure => have := HJ8.out; have := HK2.out; have := HK3.out; have := HJ28.out; omega
                                    case rel => exact ⟨(wrap64 (x14_2 + ((rd_T29 t167 x16_2).f1))), (x15_2), (wrap64 (x16_2 + 1)), (by first | rfl | (simp; done) | (simp [*]; done)), (by first | rfl | (simp; done) | (simp [*]; done)), (by first | rfl | (simp; done) | (simp [*]; done)), H', ⟨by have := HJ8.out; have := HK2.out; have := HK3.out; have := HJ28.out; omega⟩, ⟨by (with_reducible repeat (first | apply Kd.R_alloc | apply Kd.R_drewN | apply Kd.R_drew)); exact HO_9.out⟩, ⟨by (with_reducible repeat (first | apply Kd.R_alloc | apply Kd.R_drewN | apply Kd.R_drew)); exact HO_10.out⟩, ⟨by repeat (first | (with_reducible first | exact HB.out | apply below_alloc | apply pw_below_drewN | apply below_drew1) | exact HB.out)⟩⟩
                                · rw [if_neg c44] at H
                                  exact absurd H (by simp)
                              · rw [if_neg c43] at H
                                exact absurd H (by simp)
              · rw [if_neg c21] at H
                have c21b0 : decide (x16_2 < (t167.length : Int)) = false := decide_eq_false c21
                clear c21
                by_cases c50 : x14_2 ≤ (wrap64 (a3))
                · rw [if_pos c50] at H
                  have c50b0 : decide (x14_2 ≤ (wrap64 (a3))) = true := decide_eq_true c50
                  clear c50
                  by_cases c51 : (t170.length : Int) = 0
                  · rw [if_pos c51] at H
                    have c51b0 : ((t170.length : Int) == 0) = true := beq_iff_eq.mpr c51
                    have c51b1 : ((t170.length : Int) != 0) = false := bne_eq_false_iff_eq.mpr c51
                    clear c51
                    obtain rfl := Option.some.inj H
                    obtain ⟨Ao52, co52, eo52⟩ := Kd.R_slice HO_10.out
                    subst eo52
                    go_wp2
                    repeat (go_quiet (fail); try go_wp2)
                    go_ret
                    exact ⟨by first | rfl | (simp [errW_none, errW_some] <;> rfl) | (simp [*, errW_none, errW_some] <;> rfl), by repeat (first | (with_reducible first | exact HB.out | apply below_alloc | apply pw_below_drewN | apply below_drew1) | exact HB.out)⟩
                  · rw [if_neg c51] at H
                    have c51b0 : ((t170.length : Int) == 0) = false := beq_eq_false_iff_ne.mpr c51
                    have c51b1 : ((t170.length : Int) != 0) = true := bne_iff_ne.mpr c51
                    have c51b2 : ¬ (t170 = []) := fun h_ => c51 (by rw [h_]; rfl)
                    obtain rfl := Option.some.inj H
                    obtain ⟨Ao53, co53, eo53⟩ := Kd.R_slice HO_10.out
                    subst eo53
                    go_wp2
                    repeat (go_quiet (fail); try go_wp2)
                    go_ret
                    exact ⟨by first | rfl | (simp [errW_none, errW_some] <;> rfl) | (simp [*, errW_none, errW_some] <;> rfl), by repeat (first | (with_reducible first | exact HB.out | apply below_alloc | apply pw_below_drewN | apply below_drew1) | exact HB.out)⟩
                · rw [if_neg c50] at H
                  have c50b0 : decide (x14_2 ≤ (wrap64 (a3))) = false := decide_eq_false c50
                  clear c50
                  obtain rfl := Option.some.inj H
                  go_wp2
                  repeat (go_quiet (fail); try go_wp2)
                  go_ret
                  exact ⟨by first | rfl | (simp [errW_none, errW_some] <;> rfl) | (simp [*, errW_none, errW_some] <;> rfl), by repeat (first | (with_reducible first | exact HB.out | apply below_alloc | apply pw_below_drewN | apply below_drew1) | exact HB.out)⟩
        · rw [if_neg c20] at H
          have c20b0 : (t171 == 0) = false := beq_eq_false_iff_ne.mpr c20
          have c20b1 : (t171 != 0) = true := bne_iff_ne.mpr c20
          obtain rfl := Option.some.inj H
          go_wp2
          repeat (go_quiet (fail); try go_wp2)
          go_ret
          exact ⟨by first | rfl | (simp [errW_none, errW_some] <;> rfl) | (simp [*, errW_none, errW_some] <;> rfl), by repeat (first | (with_reducible first | exact HB.out | apply below_alloc | apply pw_below_drewN | apply below_drew1) | exact HB.out)⟩
/-- THE ONE PURE STATEMENT of cubbylaw20_EvictFew: yours. -/
def cubbylaw20_EvictFew.Pure : Prop := ∀ (l0 : List Int) (l1 : List Bool) (a2 : Int) (a3 : Int), (l0.length ≤ maxLen ∧ l0.length * 1 ≤ 140737488351232 ∧ ∀ x ∈ l0, (Lit.int .u8 x).wf = true) → (l1.length ≤ maxLen ∧ l1.length * 1 ≤ 140737488351232 ∧ ∀ x ∈ l1, True) → (Lit.int .u16 a2).wf = true → (Lit.int .u16 a3).wf = true → ∃ k, cubbylaw20_EvictFew.f k l0 l1 a2 a3 = some true
theorem cubbylaw20_EvictFew.walk (P : cubbylaw20_EvictFew.Pure) (A0 : Option Addr) (c0 : Nat) (l0 : List Int) (A1 : Option Addr) (c1 : Nat) (l1 : List Bool) (a2 : Int) (a3 : Int) (w : World) (hr0 : Kd.C (Kd.int .u8) w A0 l0.length l0) (hc0 : l0.length ≤ c0) (hr1 : Kd.C Kd.bool w A1 l1.length l1) (hc1 : l1.length ≤ c1) (o0 : (l0.length ≤ maxLen ∧ l0.length * 1 ≤ 140737488351232 ∧ ∀ x ∈ l0, (Lit.int .u8 x).wf = true)) (o1 : (l1.length ≤ maxLen ∧ l1.length * 1 ≤ 140737488351232 ∧ ∀ x ∈ l1, True)) (o2 : (Lit.int .u16 a2).wf = true) (o3 : (Lit.int .u16 a3).wf = true) :
    Calls Try.prog 6 #[.slice A0 l0.length c0, .slice A1 l1.length c1, .int .u16 a2, .int .u16 a3] w fun e w' => e = .returned (.bool true) ∧ Below w.heap.size w w' := by
  obtain ⟨k, h⟩ := P l0 l1 a2 a3 o0 o1 o2 o3
  refine (cubbylaw20_EvictFew.calls k A0 c0 l0 A1 c1 l1 a2 a3 true w hr0 hc0 hr1 hc1 h).mono ?_
  rintro e w' ⟨rfl, hd⟩
  exact ⟨rfl, hd⟩

end Go.Proofs.Ytbpblefamjmkjaa.PEvictFew
