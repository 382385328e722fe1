-- By a program of this session (wip/tools/mkprint.py), for this claim.
import Derived.Test.YtfdccgpbdcdgmaaPLogRoomx0
import Derived.Test.YtfdccgpbdcdgmaaPLogRoomx7
namespace Go.Proofs.Ytfdccgpbdcdgmaa.PLogRoom
open Go.RowKit Go.Proofs.YtfdccgpbdcdgmaaW.PrintWords Go.Proofs.YtfdccgpbdcdgmaaW.PrintLast Go.Proofs.YtfdccgpbdcdgmaaW.PrintMore
attribute [local go_sem] max2_int min2_int max_two min_two max_three min_three max_four min_four   -- for this text's walks alone
set_option linter.unusedVariables false
set_option linter.unusedSimpArgs false

/-! ### slices_Index_int_int: function 56 -/
def slices_Index_int_int.l0 : Nat → List Int → Int → Int → Int → Option (Int)
  | 0, _, _, _, _ => none
  | k + 1, x0, x1, x7, x8 => if x8 < x7 then (if 0 ≤ x8 then (if x8 < (x0.length : Int) then (if x1 = (rd x0 x8) then (some x8) else (slices_Index_int_int.l0 k x0 x1 x7 (wrap64 (x8 + 1)))) else (none)) else (none)) else (some (-1))
def slices_Index_int_int.f (k : Nat) (l0 : List Int) (a1 : Int) : Option (Int) := slices_Index_int_int.l0 k l0 a1 (l0.length : Int) 0
theorem slices_Index_int_int.mono_l : ∀ k, (∀ y0 y1 y2 y3, LeO (slices_Index_int_int.l0 k y0 y1 y2 y3) (slices_Index_int_int.l0 (k + 1) y0 y1 y2 y3))
  | 0 => fun _ _ _ _ r h => by simp [slices_Index_int_int.l0] at h
  | k + 1 => by
    have ih0 := slices_Index_int_int.mono_l k
    · intro y0 y1 y2 y3
      unfold slices_Index_int_int.l0
      repeat' first
      | (with_reducible exact ih0 _ _ _ _)
      | (with_reducible exact LeO.refl _)
      | (with_reducible exact LeO.none _)
      | (with_reducible refine LeO.ite ?_ ?_)
      | (with_reducible refine LeO.bind ?_ (fun _ => ?_))
      | exact ih0 _ _ _ _
      | exact LeO.none _
      | refine LeO.ite ?_ ?_
      | refine LeO.bind ?_ (fun _ => ?_)
theorem slices_Index_int_int.mono : ∀ a0 a1 k, LeO (slices_Index_int_int.f k a0 a1) (slices_Index_int_int.f (k + 1) a0 a1) := by
  intro a0 a1 k
  have ih0 := slices_Index_int_int.mono_l k
  unfold slices_Index_int_int.f
  repeat' first
      | (with_reducible exact ih0 _ _ _ _)
      | (with_reducible exact LeO.refl _)
      | (with_reducible exact LeO.none _)
      | (with_reducible refine LeO.ite ?_ ?_)
      | (with_reducible refine LeO.bind ?_ (fun _ => ?_))
      | exact ih0 _ _ _ _
      | exact LeO.none _
      | refine LeO.ite ?_ ?_
      | refine LeO.bind ?_ (fun _ => ?_)
set_option maxHeartbeats 8000000 in
set_option maxRecDepth 100000 in
theorem slices_Index_int_int.calls (k : Nat) (A0 : Option Addr) (c0 : Nat) (l0 : List Int) (a1 : Int) (r : Int) (w : World) (hr0 : Kd.C (Kd.int .i64) w A0 l0.length l0) (hc0 : l0.length ≤ c0) (h : slices_Index_int_int.f k l0 a1 = some r) :
    Calls Try.prog 56 #[.slice A0 l0.length c0, .int .i64 a1] w fun e w' => e = .returned (.int .i64 r) ∧ Drawn0 w w' := by
  have HR0 := Aside0.mk hr0
  have HC0 := Aside0.mk hc0
  clear hr0 hc0
  have H : (slices_Index_int_int.l0 k l0 a1 (l0.length : Int) 0) = some r := h
  clear h
  have H' := Aside0.mk H
  clear H
  go_enter Try.func56, Try.ntmps56
  go_wp2
  go_loopg [8] k (fun kq v8 w' => ∃ (x8_1 : Int), v8 = .int .i64 x8_1 ∧ Aside0 (slices_Index_int_int.l0 kq l0 a1 (l0.length : Int) x8_1 = some r) ∧ Aside0 (kq ≤ k) ∧ Drawn0 w w')
  case atStart => exact ⟨(0), (by first | rfl | (simp; done) | (simp [*]; done)), H', ⟨Nat.le_refl _⟩, by repeat (first | exact Drawn0.refl _ | apply Drawn0.step)⟩
  case round =>
    clear H'
    try clear p2
    obtain ⟨x8_1, rfl, HA, HK1, ⟨m1, rfl⟩⟩ := hrel
    cases gk with
    | zero => exact absurd HA.out (by simp [slices_Index_int_int.l0])
    | succ k1 =>
      have H := HA.out
      clear HA
      simp only [slices_Index_int_int.l0] at H
      by_cases c3 : x8_1 < (l0.length : Int)
      · rw [if_pos c3] at H
        have c3b0 : decide (x8_1 < (l0.length : Int)) = true := decide_eq_true c3
        clear c3
        by_cases c4 : 0 ≤ x8_1
        · rw [if_pos c4] at H
          have c4b0 : decide (0 ≤ x8_1) = true := decide_eq_true c4
          clear c4
          by_cases c5 : x8_1 < (l0.length : Int)
          · rw [if_pos c5] at H
            have c5b0 : decide (x8_1 < (l0.length : Int)) = true := decide_eq_true c5
            clear c5
            by_cases c6 : a1 = (rd l0 x8_1)
            · rw [if_pos c6] at H
              have c6b0 : (a1 == (rd l0 x8_1)) = true := beq_iff_eq.mpr c6
              have c6b1 : (a1 != (rd l0 x8_1)) = false := bne_eq_false_iff_eq.mpr c6
              clear c6
              obtain rfl := Option.some.inj H
              have p128 : 0 ≤ (x8_1 : Int) := of_decide_eq_true (by first | (with_reducible assumption) | assumption)
              have q128 : x8_1 < (l0.length : Int) := of_decide_eq_true (by first | (with_reducible assumption) | assumption)
              obtain ⟨ad128, e128, hx128_0⟩ := Kd.at_int HR0.out x8_1 p128 q128
              cases e128
              replace p128 := eq_true p128
              replace q128 := eq_true q128
              go_wp2
              go_ret
              exact ⟨by first | rfl | (simp; done) | (simp [*]; done), by repeat (first | exact Drawn0.refl _ | apply Drawn0.step)⟩
            · rw [if_neg c6] at H
              have c6b0 : (a1 == (rd l0 x8_1)) = false := beq_eq_false_iff_ne.mpr c6
              have c6b1 : (a1 != (rd l0 x8_1)) = true := bne_iff_ne.mpr c6
              have H' := Aside0.mk H
              clear H
              have p128 : 0 ≤ (x8_1 : Int) := of_decide_eq_true (by first | (with_reducible assumption) | assumption)
              have q128 : x8_1 < (l0.length : Int) := of_decide_eq_true (by first | (with_reducible assumption) | assumption)
              obtain ⟨ad128, e128, hx128_0⟩ := Kd.at_int HR0.out x8_1 p128 q128
              cases e128
              replace p128 := eq_true p128
              replace q128 := eq_true q128
              go_wp2
              go_roundg k1
              case measure => have := HK1.out; omega
              case rel => exact ⟨(wrap64 (x8_1 + 1)), (by first | rfl | (simp; done) | (simp [*]; done)), H', ⟨by have := HK1.out; omega⟩, by repeat (first | exact Drawn0.refl _ | apply Drawn0.step)⟩
          · rw [if_neg c5] at H
            exact absurd H (by simp)
        · rw [if_neg c4] at H
          exact absurd H (by simp)
      · rw [if_neg c3] at H
        have c3b0 : decide (x8_1 < (l0.length : Int)) = false := decide_eq_false c3
        clear c3
        obtain rfl := Option.some.inj H
        go_wp2
        go_ret
        exact ⟨by first | rfl | (simp; done) | (simp [*]; done), by repeat (first | exact Drawn0.refl _ | apply Drawn0.step)⟩

/-! ### slices_Contains_int_int: function 31 -/
def slices_Contains_int_int.f (k : Nat) (l0 : List Int) (a1 : Int) : Option (Bool) := (slices_Index_int_int.f k l0 a1).bind fun t129 => (some (decide (t129 ≥ 0)))
theorem slices_Contains_int_int.mono : ∀ a0 a1 k, LeO (slices_Contains_int_int.f k a0 a1) (slices_Contains_int_int.f (k + 1) a0 a1) := by
  intro a0 a1 k
  unfold slices_Contains_int_int.f
  repeat' first
      | (with_reducible exact slices_Index_int_int.mono _ _ _)
      | (with_reducible exact LeO.refl _)
      | (with_reducible exact LeO.none _)
      | (with_reducible refine LeO.ite ?_ ?_)
      | (with_reducible refine LeO.bind ?_ (fun _ => ?_))
      | exact slices_Index_int_int.mono _ _ _
      | exact LeO.none _
      | refine LeO.ite ?_ ?_
      | refine LeO.bind ?_ (fun _ => ?_)
set_option maxHeartbeats 8000000 in
set_option maxRecDepth 100000 in
theorem slices_Contains_int_int.calls (k : Nat) (A0 : Option Addr) (c0 : Nat) (l0 : List Int) (a1 : Int) (r : Bool) (w : World) (hr0 : Kd.C (Kd.int .i64) w A0 l0.length l0) (hc0 : l0.length ≤ c0) (h : slices_Contains_int_int.f k l0 a1 = some r) :
    Calls Try.prog 31 #[.slice A0 l0.length c0, .int .i64 a1] w fun e w' => e = .returned (.bool r) ∧ Drawn0 w w' := by
  have HR0 := Aside0.mk hr0
  have HC0 := Aside0.mk hc0
  clear hr0 hc0
  have H : ((slices_Index_int_int.f k l0 a1).bind fun t129 => (some (decide (t129 ≥ 0)))) = some r := h
  clear h
  replace H := Option.bind_eq_some_iff.mp H
  obtain ⟨t129, A30, H⟩ := H
  replace H : (some (decide (t129 ≥ 0))) = some r := H
  have A3 := Aside0.mk A30
  clear A30
  obtain rfl := Option.some.inj H
  go_enter Try.func31, Try.ntmps31
  go_wp2_with (first | ((with_reducible refine gate_callee (f := 56) rfl ?_); refine goesL_ (some 7) rfl rfl Try.func56 (by kernel_rfl) rfl #[.slice A0 l0.length c0, .int .i64 a1] rfl (by (try simp only [List.map_toArray, List.map_cons, List.map_nil]); first | done | rfl | (simp only [List.length_drop, List.length_take]; rfl)) ?_; (with_reducible refine (slices_Index_int_int.calls k _ _ l0 a1 t129 _ ?side1 ?side2 A3.out).mono ?_); (case side1 => repeat (first | exact HR0.out | (with_reducible refine Kd.C_alloc ?_ _) | (with_reducible refine Kd.C_drewN ?_ _) | (with_reducible refine Kd.C_drew ?_))); (case side2 => exact HC0.out); rintro e w' ⟨rfl, ⟨nd, rfl⟩⟩; refine ⟨_, rfl, ?_⟩))
  go_ret
  exact ⟨by first | rfl | (simp; done) | (simp [*]; done), by repeat (first | exact Drawn0.refl _ | apply Drawn0.step)⟩

/-! ### disk_Disk_settle: function 51 (by hand) -/
set_option maxHeartbeats 4000000 in
set_option maxRecDepth 100000 in
theorem disk_Disk_settle.calls (s : Dk.S) (base g mb n : Nat) (ov : Value) (w : World) (h : Dk.D w base g s mb n ov) (hn : s.l.length ≤ 100000) :
    Calls Try.prog 51 #[.pointer (some ⟨g, 0, none⟩)] w fun e w' => e = .returned (.tuple #[]) ∧ Dk.D w' base g { s with l := [] } mb n (.slice none 0 0) ∧ Dk.B base w w' := by
  obtain ⟨A, c, rfl⟩ := Kd.R_slice h.ro
  have hl : (s.l.map Prod.fst).length = s.l.length := List.length_map _
  rw [hl] at h
  have h1 : w.cell? ⟨g, 257, none⟩ = some (.slice A s.l.length c) := h.at 1
  have HH := Aside0.mk h
  obtain ⟨D0, hD0, hq⟩ := h.mp
  have HD0 := Aside0.mk hD0
  clear h hD0 hq
  go_enter Try.func51, Try.ntmps51
  go_wp2
  go_loopg [9] s.l.length (fun gg v9 wq => ∃ (i : Nat) (D' : DataW Unit), v9 = .int .i64 (i : Int) ∧ i ≤ s.l.length ∧ s.l.length - i ≤ gg ∧ Aside0 (wq.ownsMap Try.prog 3 (plainElem Try.prog 9) mb n D') ∧ Aside0 (wq.heap[g]? = some (.cells (Dk.arr s mb (.slice A s.l.length c)) 61 (0, 0))) ∧ Aside0 (Kd.R (Kd.int .i64) 3 wq base (fun _ => True) (.slice A s.l.length c) (s.l.map Prod.fst)) ∧ Aside0 (Dk.B base w wq))
  case atStart => exact ⟨0, D0, rfl, Nat.zero_le _, by omega, HD0, ⟨HH.out.ob⟩, ⟨HH.out.ro⟩, ⟨Dk.B.refl _ _⟩⟩
  case round =>
    obtain ⟨i, D', rfl, hi, hgg, HM, HO, HR, HB⟩ := hrel
    by_cases hil : i < s.l.length
    · obtain ⟨b2, c2, e2, _, _, _⟩ := Kd.R_form HR.out (by rw [hl]; omega)
      injection e2 with e2 e3 e4
      clear e3
      subst e4
      subst e2
      obtain ⟨k0, _⟩ := Dk.ints HR.out i (by rw [hl]; exact hil)
      have hx : ∃ x : Int, (s.l.map Prod.fst).getD i 0 = x ∧ 0 ≤ x ∧ x < 256 := by
        refine ⟨_, rfl, ?_⟩
        rw [List.getD_eq_getElem?_getD, List.getElem?_map, List.getElem?_eq_getElem hil]
        exact HH.out.kk _ (List.getElem_mem hil)
      obtain ⟨x, hx, hx2⟩ := hx
      rw [hx] at k0
      have hm : wr.cell? ⟨g, 256, none⟩ = some (.map (some mb)) := by rw [cell_of_row wr g _ _ _ _ HO.out]; exact Dk.arr_get s mb _ 0 HH.out.hl
      have hk := Dk.key x hx2
      have HK := Aside0.mk hk
      clear hk hx hx2
      have q1 : (0 : Int) ≤ (i : Int) := by omega
      have q2 : (i : Int) < (s.l.length : Int) := by omega
      obtain ⟨gk, rfl⟩ : ∃ q, gk = q + 1 := by
        cases gk with
        | zero => omega
        | succ q => exact ⟨q, rfl⟩
      go_wp2_with (at_delete; refine wpList_delete_own _ rfl (.tmp 16) (.tmp 17) 57 3 rfl 9 Dk.keyed (by kernel_rfl) _ mb n D' rfl HM.out _ _ rfl HK.out ?_; intro w1 hown1 hturn1)
      obtain ⟨es, clock, hes, _⟩ := HM.out
      have hg1 := hturn1.grown
      have hne : some g ≠ some mb := by
        intro e
        cases e
        rw [HO.out] at hes
        cases hes
      have ho1 := (hg1.block g (Array.getElem?_eq_some_iff.1 HO.out).1 hne).trans HO.out
      have hr1 := Dk.row_map HR.out hes hg1
      have hb1 := HB.out.grownM hg1 (Nat.le_trans HH.out.hb HB.out.size) HH.out.hm hes
      go_roundg gk
      case measure => omega
      case rel => exact ⟨i + 1, _, by rw [Int.natCast_add]; rfl, by omega, by omega, ⟨hown1⟩, ⟨ho1⟩, ⟨hr1⟩, ⟨hb1⟩⟩
    · have h257 : wr.cell? ⟨g, 257, none⟩ = some (.slice A s.l.length c) := by rw [cell_of_row wr g _ _ _ _ HO.out]; exact Dk.arr_get s mb _ 1 HH.out.hl
      have hfz : wr.frozen? ⟨g, 257, none⟩ = false := by simp [World.frozen?, HO.out]
      go_wp2_with (fail)
      go_end0
      have hes := HM.out
      obtain ⟨es, clock, hes, _⟩ := hes
      have hne : some mb ≠ some g := by
        intro e
        cases e
        rw [HO.out] at hes
        cases hes
      have hob := blk_set HO.out 257 (.slice none 0 0)
      rw [Dk.arr_set s mb _ 1 _ HH.out.hl] at hob
      have hbw := Nat.le_trans HH.out.hb HB.out.size
      exact ⟨rfl, ⟨hob, HH.out.hl, HH.out.hg, HH.out.hm, Dk.nilrow _ _, ⟨_, HM.out.kept (Dk.gset wr g 257 _) hne, fun p hp => absurd hp List.not_mem_nil⟩, fun p hp => absurd hp List.not_mem_nil, Nat.le_trans hbw (Dk.gset wr g 257 (.slice none 0 0)).size⟩, HB.out.set hbw HH.out.hg HO.out (.inr rfl) _⟩

/-! ### disk_Disk_die: function 32 (by hand) -/
set_option maxHeartbeats 4000000 in
set_option maxRecDepth 100000 in
theorem disk_Disk_die.calls (s : Dk.S) (base g mb n : Nat) (ov : Value) (w : World) (h : Dk.D w base g s mb n ov) (hn : s.l.length ≤ 100000) (hkp : 0 ≤ s.keep ∧ s.keep < 18446744073709551616) :
    Calls Try.prog 32 #[.pointer (some ⟨g, 0, none⟩)] w fun e w' => e = .returned (.int .i64 33) ∧ Dk.D w' base g (Dk.dieS s) mb n (.slice none 0 0) ∧ Dk.B base w w' := by
  obtain ⟨A, c, rfl⟩ := Kd.R_slice h.ro
  have hl : (s.l.map Prod.fst).length = s.l.length := List.length_map _
  rw [hl] at h
  have h1 : w.cell? ⟨g, 257, none⟩ = some (.slice A s.l.length c) := h.at 1
  have HH := Aside0.mk h
  have HS := Aside0.mk (fun s base g mb n ov w => disk_Disk_settle.calls s base g mb n ov w)
  clear h
  go_enter Try.func32, Try.ntmps32
  go_wp2_with (fail)
  go_loopg [10] s.l.length (fun gg v10 wq => ∃ (i : Nat) (sec : List ByteArray), v10 = .int .i64 (i : Int) ∧ i ≤ s.l.length ∧ s.l.length - i ≤ gg ∧ Aside0 (Dk.dieF s.keep (s.l.drop i) i sec = Dk.dieF s.keep s.l 0 s.sec) ∧ Aside0 (Dk.D wq base g { s with sec := sec } mb n (.slice A s.l.length c)) ∧ Aside0 (Dk.B base w wq))
  case atStart => exact ⟨0, s.sec, rfl, Nat.zero_le _, by omega, ⟨rfl⟩, HH, ⟨Dk.B.refl _ _⟩⟩
  case round =>
    obtain ⟨i, sec, rfl, hi, hgg, HF, HD, HB⟩ := hrel
    by_cases hil : i < s.l.length
    · obtain ⟨p, hp⟩ : ∃ p, s.l[i] = p := ⟨_, rfl⟩
      have hpm : p ∈ s.l := by rw [← hp]; exact List.getElem_mem hil
      have hpk := HH.out.kk p hpm
      have hdr : s.l.drop i = p :: s.l.drop (i + 1) := by rw [List.drop_eq_getElem_cons hil, hp]
      have HDR := Aside0.mk hdr
      have hgx : (s.l.map Prod.fst).getD i 0 = p.1 := by rw [List.getD_eq_getElem?_getD, List.getElem?_map, List.getElem?_eq_getElem hil, hp]; rfl
      obtain ⟨b2, c2, e2, _, _, _⟩ := Kd.R_form HD.out.ro (by show 0 < (s.l.map Prod.fst).length; rw [hl]; omega)
      injection e2 with e2 e3 e4
      clear e3
      subst e4
      subst e2
      obtain ⟨k0, _⟩ := Dk.ints HD.out.ro i (by show i < (s.l.map Prod.fst).length; rw [hl]; exact hil)
      replace k0 : wr.cell? ⟨b2, i, none⟩ = some (.int .i64 p.1) := by rw [← hgx]; exact k0
      have HPM := Aside0.mk hpm
      obtain ⟨px, py⟩ := p
      obtain ⟨xn, rfl⟩ : ∃ xn : Nat, px = (xn : Int) := ⟨px.toNat, by have := hpk.1; simp only at this; omega⟩
      have HPK := Aside0.mk hpk
      have x1 : (0 : Int) ≤ (xn : Int) := by omega
      have x2 : (xn : Int) < 256 := hpk.2
      have x3 : xn < 256 := by omega
      clear hgx hdr hp hpm
      have q1 : (0 : Int) ≤ (i : Int) := by omega
      have q2 : (i : Int) < (s.l.length : Int) := by omega
      have m0 : wr.cell? ⟨g, 256, none⟩ = some (.map (some mb)) := HD.out.at 0
      have m5 : wr.cell? ⟨g, 261, none⟩ = some (.int .u64 s.keep) := HD.out.at 5
      have hlook : (Instr.lookup 57 (.map (some mb)) (.int .i64 (xn : Int)) false).run Try.prog wr.drew = .ok (.string py) wr.drew := Dk.Mp.look (W := wr.drew) HD.out.mp _ HPM.out hpk
      have HLK := Aside0.mk hlook
      have m6 := HD.out.sec xn x3
      have m7 := HD.out.fz xn
      obtain ⟨gk, rfl⟩ : ∃ q, gk = q + 1 := by
        cases gk with
        | zero => omega
        | succ q => exact ⟨q, rfl⟩
      clear hlook hpk
      cases hlost : (Go.bits .and .u64 (s.keep / 2 ^ (i % 64)) 1 == 0)
      · go_wp2_with (fail)
        go_roundg gk
        case measure => omega
        case rel => exact ⟨i + 1, sec, by rw [Int.natCast_add]; rfl, by omega, by omega, ⟨by have e := HF.out; rw [HDR.out, Dk.dieF, if_neg (by unfold Dk.lost; rw [hlost]; decide)] at e; exact e⟩, HD, HB⟩
      · go_wp2_with (fail)
        -- REGION 5 BEGINS
        refine start_ (n := 12) (S := fun w' => w'.cell? ⟨g, 256, none⟩ = some (.map (some mb)) ∧ (Instr.lookup 57 (.map (some mb)) (.int .i64 (xn : Int)) false).run Try.prog w' = .ok (.string py) w') (ds := [11]) #[false, false, false, false, false, false, false, false, false, false, false, false] (by kernel_rfl) rfl rfl ⟨m0, HLK.out⟩ (fun hHeld => ?_)
        refine pure_ (i := 0) (N := some 25) (v := ?_) (a' := ?_) #[true, false, false, false, false, false, false, false, false, false, false, false] rfl rfl (by kernel_rfl) (fun _ _ _ h => h) (Or.inl ⟨by rfl, ?_⟩) ?_ ?_
        rotate_left
        · intro w'
          go_simp
          with_reducible rfl
        rotate_left
        · simp only [Act.put, List.setIfInBounds_toArray, List.set_cons_zero, List.set_cons_succ, i64_w, i32_w]
          rfl
        refine pure_ (i := 1) (N := some 26) (v := ?_) (a' := ?_) #[true, true, false, false, false, false, false, false, false, false, false, false] rfl rfl (by kernel_rfl) (fun _ _ _ h => h) (Or.inl ⟨by rfl, ?_⟩) ?_ ?_
        rotate_left
        · intro w'
          go_simp
          with_reducible rfl
        rotate_left
        · simp only [Act.put, List.setIfInBounds_toArray, List.set_cons_zero, List.set_cons_succ, i64_w, i32_w]
          rfl
        refine pure_ (i := 2) (N := some 27) (v := ?_) (a' := ?_) #[true, true, true, false, false, false, false, false, false, false, false, false] rfl rfl (by kernel_rfl) (fun _ _ _ h => h) (Or.inl ⟨by rfl, ?_⟩) ?_ ?_
        rotate_left
        · intro w'
          go_simp
          with_reducible rfl
        rotate_left
        · simp only [Act.put, List.setIfInBounds_toArray, List.set_cons_zero, List.set_cons_succ, i64_w, i32_w]
          rfl
        refine pure_ (i := 3) (N := some 28) (v := ?_) (a' := ?_) #[true, true, true, true, false, false, false, false, false, false, false, false] rfl rfl (by kernel_rfl) (fun _ _ _ h => h) (Or.inl ⟨by rfl, ?_⟩) ?_ ?_
        rotate_left
        · intro w'
          go_simp
          with_reducible rfl
        rotate_left
        · simp only [Act.put, List.setIfInBounds_toArray, List.set_cons_zero, List.set_cons_succ, i64_w, i32_w]
          rfl
        refine pure_ (i := 4) (N := some 29) (v := ?_) (a' := ?_) #[true, true, true, true, true, false, false, false, false, false, false, false] rfl rfl (by kernel_rfl) (fun _ _ _ h => h) (Or.inl ⟨by rfl, ?_⟩) ?_ ?_
        rotate_left
        · intro w'
          go_simp
          with_reducible rfl
        rotate_left
        · simp only [Act.put, List.setIfInBounds_toArray, List.set_cons_zero, List.set_cons_succ, i64_w, i32_w]
          rfl
        refine pure_ (i := 6) (N := some 31) (v := ?_) (a' := ?_) #[true, true, true, true, true, false, true, false, false, false, false, false] rfl rfl (by kernel_rfl) (fun _ _ _ h => h) (Or.inl ⟨by rfl, ?_⟩) ?_ ?_
        rotate_left
        · intro w'
          go_simp
          with_reducible rfl
        rotate_left
        · simp only [Act.put, List.setIfInBounds_toArray, List.set_cons_zero, List.set_cons_succ, i64_w, i32_w]
          rfl
        refine pure_ (i := 8) (N := some 33) (v := ?_) (a' := ?_) #[true, true, true, true, true, false, true, false, true, false, false, false] rfl rfl (by kernel_rfl) (fun _ _ _ h => h) (Or.inl ⟨by rfl, ?_⟩) ?_ ?_
        rotate_left
        · intro w'
          go_simp
          with_reducible rfl
        rotate_left
        · simp only [Act.put, List.setIfInBounds_toArray, List.set_cons_zero, List.set_cons_succ, i64_w, i32_w]
          rfl
        refine pure_ (i := 9) (N := some 34) (v := ?_) (a' := ?_) #[true, true, true, true, true, false, true, false, true, true, false, false] rfl rfl (by kernel_rfl) (fun _ _ _ h => h) (Or.inl ⟨by rfl, ?_⟩) ?_ ?_
        rotate_left
        · intro w'
          go_simp
          with_reducible rfl
        rotate_left
        · simp only [Act.put, List.setIfInBounds_toArray, List.set_cons_zero, List.set_cons_succ, i64_w, i32_w]
          rfl
        refine take_ (i := 5) (N := some 30) (v := ?_) (a' := ?_) #[true, true, true, true, true, true, true, false, true, true, false, false] rfl rfl (by kernel_rfl) (fun _ _ _ h => h) (Or.inl ⟨by rfl, ?_⟩) hHeld ?_ ?_
        rotate_left
        · rintro w' ⟨s0, s1⟩
          go_simp
          with_reducible rfl
        rotate_left
        · simp only [Act.put, List.setIfInBounds_toArray, List.set_cons_zero, List.set_cons_succ, i64_w, i32_w]
          rfl
        refine take_ (i := 7) (N := some 32) (v := ?_) (a' := ?_) #[true, true, true, true, true, true, true, true, true, true, false, false] rfl rfl (by kernel_rfl) (fun _ _ _ h => h) (Or.inl ⟨by rfl, ?_⟩) hHeld ?_ ?_
        rotate_left
        · rintro w' ⟨s0, s1⟩
          go_simp
          with_reducible rfl
        rotate_left
        · simp only [Act.put, List.setIfInBounds_toArray, List.set_cons_zero, List.set_cons_succ, i64_w, i32_w]
          rfl
        refine pure_ (i := 10) (N := some 35) (v := ?_) (a' := ?_) #[true, true, true, true, true, true, true, true, true, true, true, false] rfl rfl (by kernel_rfl) (fun _ _ _ h => h) (Or.inl ⟨by rfl, ?_⟩) ?_ ?_
        rotate_left
        · intro w'
          go_simp
          with_reducible rfl
        rotate_left
        · simp only [Act.put, List.setIfInBounds_toArray, List.set_cons_zero, List.set_cons_succ, i64_w, i32_w]
          rfl
        refine last_ (i := 11) (N := none) #[true, true, true, true, true, true, true, true, true, true, true, true] rfl rfl (by kernel_rfl) (by decide) (fun K hK => ?_)
        refine skip_ (w1 := ?_) (by rfl) rfl ?_ ?_
        rotate_left
        · go_simp
          rfl
        refine hK.out _ _ ?_
        clear hK K
        refine done_ (by kernel_rfl) ?_
        -- REGION 5 ENDS
        have hput := Dk.D.put (s' := { s with sec := sec.set xn py }) HD.out.drew xn (.string py) (Dk.arr_sec { s with sec := sec } mb _ xn py HD.out.hl x3) (by show (sec.set xn py).length = 256; rw [List.length_set]; exact HD.out.hl) rfl
        go_wp2_with (fail)
        go_roundg gk
        case measure => omega
        case rel => exact ⟨i + 1, sec.set xn py, by rw [Int.natCast_add]; rfl, by omega, by omega, ⟨by have e := HF.out; rw [HDR.out, Dk.dieF, if_pos (by unfold Dk.lost; exact hlost)] at e; exact e⟩, ⟨hput.1⟩, ⟨HB.out.drew.trans hput.2⟩⟩
    · have hd : s.l.drop i = [] := List.drop_eq_nil_of_le (by omega)
      have hf : sec = Dk.dieF s.keep s.l 0 s.sec := by have e := HF.out; rw [hd, Dk.dieF] at e; exact e
      go_wp2_with (go_at_call 51; (with_reducible refine (HS.out _ base g mb n _ wr HD.out hn).mono ?_); rintro e w3 ⟨rfl, hd3, hb3⟩; have HD3 := Aside0.mk hd3; have HB3 := Aside0.mk (HB.out.trans hb3); have m2 := hd3.at 2; have m2f := hd3.fz 258; replace m2 : w3.cell? ⟨g, 258, none⟩ = some (.bool s.off) := m2; clear hd3 hb3)
      go_ret
      have ha : (Dk.arr { s with sec := sec, l := [] } mb (.slice none 0 0)).setIfInBounds 258 (.bool true) = Dk.arr (Dk.dieS s) mb (.slice none 0 0) := by
        rw [Dk.arr_set { s with sec := sec, l := [] } mb _ 2 _ HD.out.hl]
        unfold Dk.dieS Dk.arr Dk.tl
        rw [← hf]
        rfl
      have hput := Dk.D.put (s' := Dk.dieS s) HD3.out 258 (.bool true) ha (by show (Dk.dieF s.keep s.l 0 s.sec).length = 256; rw [Dk.dieF_len]; exact HH.out.hl) rfl
      exact ⟨rfl, hput.1, HB3.out.trans hput.2⟩

/-! ### disk_Disk_Write: function 12 (by hand) -/
theorem disk_Disk_Write.index (l : List Int) (a : Int) (hl : l.length ≤ 1000000) (d : Nat) : ∀ (k i : Nat), i + d = l.length → d < k → ∃ r, slices_Index_int_int.l0 k l a (l.length : Int) (i : Int) = some r ∧ decide (r ≥ 0) = decide (a ∈ l.drop i) := by
  induction d with
  | zero =>
    intro k i hi hk
    obtain ⟨k, rfl⟩ : ∃ m, k = m + 1 := ⟨k - 1, by omega⟩
    refine ⟨-1, ?_, ?_⟩
    · rw [slices_Index_int_int.l0, if_neg (by omega)]
    · rw [List.drop_eq_nil_of_le (by omega)]
      simp
  | succ d ih =>
    intro k i hi hk
    obtain ⟨k, rfl⟩ : ∃ m, k = m + 1 := ⟨k - 1, by omega⟩
    have hlt : i < l.length := by omega
    have er : rd l (i : Int) = l[i] := by
      unfold rd
      simp [List.getD_eq_getElem?_getD, hlt]
    rw [slices_Index_int_int.l0, if_pos (by omega), if_pos (by omega), if_pos (by omega), er, List.drop_eq_getElem_cons hlt]
    by_cases h : a = l[i]
    · refine ⟨(i : Int), by rw [if_pos h], ?_⟩
      rw [decide_eq_true (by omega), decide_eq_true (by rw [h]; exact List.mem_cons_self)]
    · obtain ⟨r, h1, h2⟩ := ih k (i + 1) (by omega) (by omega)
      refine ⟨r, ?_, ?_⟩
      · rw [if_neg h, Hw.wnat i (by omega)]
        exact h1
      · rw [h2]
        congr 1
        rw [List.mem_cons]
        exact propext ⟨fun q => .inr q, fun q => q.resolve_left h⟩
theorem disk_Disk_Write.has (l : List Int) (a : Int) (hl : l.length ≤ 1000000) : slices_Contains_int_int.f (l.length + 1) l a = some (decide (a ∈ l)) := by
  obtain ⟨r, h1, h2⟩ := disk_Disk_Write.index l a hl l.length (l.length + 1) 0 (by omega) (by omega)
  unfold slices_Contains_int_int.f slices_Index_int_int.f
  rw [show ((0 : Int)) = ((0 : Nat) : Int) from rfl, h1, Option.bind_some]
  rw [List.drop_zero] at h2
  exact congrArg some h2
/-! ### disk_write: function 1013 (by hand) -/
set_option maxHeartbeats 8000000 in
set_option maxRecDepth 100000 in
theorem disk_Disk_Write.calls (s : Dk.S) (base g mb n : Nat) (ov : Value) (i : Int) (x : ByteArray) (w : World) (h : Dk.D w base g s mb n ov) (hin : Dk.In s) (hn : n ≤ 1000000) :
    Calls Try.prog 12 #[.pointer (some ⟨g, 0, none⟩), .int .i64 i, .string x] w fun e w' => e = .returned (.int .i64 (Dk.writ s i x).2) ∧ (∃ ov' n', n' ≤ n + 1 ∧ Dk.D w' base g (Dk.writ s i x).1 mb n' ov') ∧ Dk.B base w w' := by
  have m2 : w.cell? ⟨g, 258, none⟩ = some (.bool s.off) := h.at 2
  have m6 : w.cell? ⟨g, 262, none⟩ = some (.int .i64 s.many) := h.at 6
  have f6 := h.fz 262
  obtain ⟨A, c, rfl⟩ := Kd.R_slice h.ro
  have hl : (s.l.map Prod.fst).length = s.l.length := List.length_map _
  rw [hl] at h
  have HH := Aside0.mk h
  have HDIE := Aside0.mk (fun s base g mb n ov w => disk_Disk_die.calls s base g mb n ov w)
  have HDUE := Aside0.mk (fun b k cs t n w => disk_due.calls b k cs t n w)
  have n1 : 0 ≤ s.many := hin.2.2.2.1.1
  have n2 : s.many ≤ 90000 := hin.2.2.2.1.2
  have u1 := hin.1
  have u2 := hin.2.1
  have HIN := Aside0.mk hin
  have HN := Aside0.mk hn
  clear h hin hn
  cases ho : s.off
  case true =>
    rw [ho] at m2
    have hb : Dk.writ s i x = (s, 33) := by unfold Dk.writ; rw [ho, if_pos rfl]
    rw [hb]
    clear hb
    go_enter Try.func12, Try.ntmps12
    go_wp2_with (fail)
    go_ret
    exact ⟨rfl, ⟨_, _, Nat.le_succ _, HH.out⟩, Dk.B.refl _ _⟩
  case false =>
    rw [ho] at m2
    by_cases hi : i < 0 ∨ 256 ≤ i
    · have hb : Dk.writ s i x = (s, 30) := by unfold Dk.writ; rw [ho, if_neg (by decide), if_pos hi]
      rw [hb]
      clear hb
      by_cases c1 : i < 0
      · clear hi
        go_enter Try.func12, Try.ntmps12
        go_wp2_with (fail)
        go_ret
        exact ⟨rfl, ⟨_, _, Nat.le_succ _, HH.out⟩, Dk.B.refl _ _⟩
      · have c2 : 256 ≤ i := hi.resolve_left c1
        have c3 : decide (i < 0) = false := decide_eq_false c1
        clear hi
        go_enter Try.func12, Try.ntmps12
        go_wp2_with (fail)
        go_ret
        exact ⟨rfl, ⟨_, _, Nat.le_succ _, HH.out⟩, Dk.B.refl _ _⟩
    · obtain ⟨xn, rfl⟩ : ∃ xn : Nat, i = (xn : Int) := ⟨i.toNat, by omega⟩
      have x1 : (0 : Int) ≤ (xn : Int) := by omega
      have x2 : (xn : Int) < 256 := by omega
      have x3 : xn < 256 := by omega
      have x4 : ¬ (xn : Int) < 0 := by omega
      have x5 : ¬ 256 ≤ (xn : Int) := by omega
      by_cases hs : 128 < x.size
      · have hb : Dk.writ s (xn : Int) x = (s, 31) := by unfold Dk.writ; rw [ho, if_neg (by decide), if_neg hi, if_pos hs]
        rw [hb]
        clear hb hi
        have hs1 : (128 : Int) < (x.size : Int) := by omega
        go_enter Try.func12, Try.ntmps12
        go_wp2_with (fail)
        go_ret
        exact ⟨rfl, ⟨_, _, Nat.le_succ _, HH.out⟩, Dk.B.refl _ _⟩
      · have hs1 : ¬ (128 : Int) < (x.size : Int) := by omega
        have hb : Dk.writ s (xn : Int) x = (if s.fail = 1 ∧ s.cut ≠ 1 then (Dk.tick s, 32) else if s.cut = 1 then (Dk.dieS (Dk.putS (Dk.tick s) (xn : Int) x), 33) else (Dk.putS (Dk.tick s) (xn : Int) x, 0)) := by
          unfold Dk.writ
          rw [ho, if_neg (by decide), if_neg hi, if_neg hs]
        rw [hb]
        clear hb hi
        obtain ⟨R, hR⟩ : ∃ R, (if s.fail = 1 ∧ s.cut ≠ 1 then (Dk.tick s, (32 : Int)) else if s.cut = 1 then (Dk.dieS (Dk.putS (Dk.tick s) (xn : Int) x), 33) else (Dk.putS (Dk.tick s) (xn : Int) x, 0)) = R := ⟨_, rfl⟩
        rw [hR]
        have HRR := Aside0.mk hR
        clear hR
        obtain ⟨bc, hbc⟩ : ∃ b, decide (s.cut = 1) = b := ⟨_, rfl⟩
        obtain ⟨bf, hbf⟩ : ∃ b, decide (s.fail = 1) = b := ⟨_, rfl⟩
        have HBC := Aside0.mk hbc
        have HBF := Aside0.mk hbf
        go_enter Try.func12, Try.ntmps12
        go_wp2_with (fail)
        obtain ⟨hp1, hp2⟩ := Dk.D.put (s' := { s with many := s.many + 1 }) HH.out 262 (.int .i64 (s.many + 1)) (by rw [Dk.arr_set s mb _ 6 _ HH.out.hl]; rfl) HH.out.hl rfl
        have HP := Aside0.mk hp1
        have HB := Aside0.mk hp2
        clear hp1 hp2 m6 f6 m2
        generalize w.setCell ⟨g, 262, none⟩ (.int .i64 (s.many + 1)) = W5 at HP HB ⊢
        have HP := Aside0.mk HP.out.drew
        have HO := Aside0.mk HP.out.ob
        have HK1 := Aside0.mk (Dk.arr259 { s with many := s.many + 1 } mb (.slice A s.l.length c) HH.out.hl)
        have HK2 := Aside0.mk (Dk.arr260 { s with many := s.many + 1 } mb (.slice A s.l.length c) (.int .i64 (Dk.dn s.cut)) HH.out.hl)
        have hn1 : -9223372036854775808 ≤ s.cut ∧ s.cut < 9223372036854775808 := by omega
        have hn2 : -9223372036854775808 ≤ s.fail ∧ s.fail < 9223372036854775808 := by omega
        go_region_held3 (fun _ => True) (trivial) ((first | (go_at_call 30; (with_reducible refine (HDUE.out g 259 _ _ _ _ HO.out HK1.out hn1).mono ?_); rintro e w3 ⟨rfl, ho3, hg3⟩; have HO3 := Aside0.mk ho3; have HG3 := Aside0.mk hg3; clear ho3 hg3) | (go_at_call 30; (with_reducible refine (HDUE.out g 260 _ _ _ _ HO3.out HK2.out hn2).mono ?_); rintro e w4 ⟨rfl, ho4, hg4⟩; have HO4 := Aside0.mk ho4; have HG4 := Aside0.mk hg4; clear ho4 hg4)))
        have HT := Aside0.mk (Dk.D.ticked HP.out HO3.out HG3.out HO4.out HG4.out)
        have HB := Aside0.mk ((HB.out.trans (Dk.B.drew (Dk.B.refl _ _))).trans HT.out.2)
        have HT := Aside0.mk HT.out.1
        clear HO HK1 HK2 HP HO3 HO4 HG3 HG4
        have t1 : w4.cell? ⟨g, 257, none⟩ = some (.slice A s.l.length c) := HT.out.at 1
        have HCR : Aside0 (Kd.C (Kd.int .i64) w4 A (s.l.map Prod.fst).length (s.l.map Prod.fst)) := ⟨(Kd.R_reads' HT.out.ro).2.2⟩
        have HCL : Aside0 ((s.l.map Prod.fst).length ≤ c) := ⟨by rw [hl]; exact (Kd.R_reads' HT.out.ro).2.1⟩
        have hll : s.l.length ≤ 100000 := by have := HIN.out.2.2.2.2.1; omega
        have hch := disk_Disk_Write.has (s.l.map Prod.fst) (xn : Int) (by rw [hl]; omega)
        obtain ⟨bk, hbk⟩ : ∃ b, decide ((xn : Int) ∈ s.l.map Prod.fst) = b := ⟨_, rfl⟩
        rw [hbk] at hch
        have HCH := Aside0.mk hch
        have HBK := Aside0.mk hbk
        have HCON : Aside0 (Calls Try.prog 31 #[.slice A s.l.length c, .int .i64 (xn : Int)] w4 fun e w' => e = .returned (.bool bk) ∧ Drawn0 w4 w') := ⟨by
          have h9 := slices_Contains_int_int.calls _ A c _ (xn : Int) _ _ HCR.out HCL.out HCH.out
          rw [hl] at h9
          exact h9⟩
        have HLT : Aside0 (∀ sec : List ByteArray, ({ Dk.tick s with sec := sec } : Dk.S).l.length ≤ 100000) := ⟨fun _ => hll⟩
        have HKT : Aside0 (∀ sec : List ByteArray, 0 ≤ ({ Dk.tick s with sec := sec } : Dk.S).keep ∧ ({ Dk.tick s with sec := sec } : Dk.S).keep < 18446744073709551616) := ⟨fun _ => HIN.out.2.2.1⟩
        clear hch hbk hbc hbf
        by_cases hearly : bf = true ∧ bc = false
        · obtain ⟨rfl, rfl⟩ := hearly
          have hRR : R = (Dk.tick s, 32) := by rw [← HRR.out, if_pos ⟨of_decide_eq_true HBF.out, of_decide_eq_false HBC.out⟩]
          subst hRR
          go_wp2_with (fail)
          go_ret
          exact ⟨rfl, ⟨_, _, Nat.le_succ _, HT.out⟩, HB.out⟩
        · have hnf : ¬ (s.fail = 1 ∧ s.cut ≠ 1) := fun q => hearly ⟨by rw [← HBF.out]; exact decide_eq_true q.1, by rw [← HBC.out]; exact decide_eq_false q.2⟩
          have hRR : R = (if s.cut = 1 then (Dk.dieS (Dk.putS (Dk.tick s) (xn : Int) x), 33) else (Dk.putS (Dk.tick s) (xn : Int) x, 0)) := by rw [← HRR.out, if_neg hnf]
          have HR2 := Aside0.mk hRR
          have HEA := Aside0.mk hearly
          clear hnf hRR hearly
          cases bk
          · have hno : ¬ (xn : Int) ∈ s.l.map Prod.fst := of_decide_eq_false HBK.out
            obtain ⟨y, hy⟩ : ∃ y, s.sec.getD xn ⟨#[]⟩ = y := ⟨_, rfl⟩
            have hys : y.size ≤ 128 := by
              rw [← hy, List.getD_eq_getElem?_getD, List.getElem?_eq_getElem (by rw [HH.out.hl]; exact x3)]
              exact HIN.out.2.2.2.2.2.1 _ (List.getElem_mem _)
            have hput : Dk.putS (Dk.tick s) (xn : Int) x = { Dk.tick s with l := s.l ++ [((xn : Int), y)], sec := s.sec.set xn x } := by
              unfold Dk.putS
              rw [if_neg (show ¬ (xn : Int) ∈ (Dk.tick s).l.map Prod.fst from hno), ← hy]
              rfl
            rw [hput] at HR2
            clear hput
            have HNO := Aside0.mk hno
            have HYS := Aside0.mk hys
            have HY := Aside0.mk hy
            clear hno hys hy
            have HLM : Aside0 (s.l.length + 1 ≤ 100000) := ⟨by have := HIN.out.2.2.2.2.1; omega⟩
            cases bc
            · cases bf
              case true => exact absurd ⟨rfl, rfl⟩ HEA.out
              case false =>
                go_wp2_with (first | (go_at_call 31; (with_reducible refine HCON.out.mono ?_); rintro e w6 ⟨rfl, ⟨nd, rfl⟩⟩; have HT := Aside0.mk (HT.out.drewN nd); have HB := Aside0.mk (HB.out.drewN nd); have s1 := HT.out.sec xn x3; have s2 := HT.out.fz xn) | ((with_reducible refine gate_builtin (b := .append) (xs := #[.tmp 56, .tmp 58]) rfl ?_); (try (refine gate_guard (by rfl) ?_; dsimp only)); at_builtin; refine Kd.R_append (Kd.int .i64) (w0 := w4.drewN nd) (W := w4.drewN nd) base rfl (.tmp 56) (.tmp 58) 59 3 (.int .i64 0) 8 rfl (by kernel_rfl) (by kernel_rfl) rfl (by decide) (by decide) (.slice A s.l.length c) (s.l.map Prod.fst) (xn : Int) [.int .i64 (xn : Int)] (fun _ => True) (fun _ => False) rfl rfl rfl (fun _ hk => hk.elim) (fun _ _ => trivial) HT.out.ro (Below.refl _ _) HT.out.hb (by rw [hl]; omega) ?_; intro v1 w7 ho7 hb7 hg7 ha7; have HROW := Aside0.mk (Dk.D.row HT.out ho7 hg7); obtain ⟨A1, c1, e1⟩ := Kd.R_slice ho7; subst e1; have r257 : w7.cell? ⟨g, 257, none⟩ = some (.slice A s.l.length c) := (by rw [cell_of_row w7 g _ _ _ _ HROW.out.1]; exact Dk.arr_get (Dk.tick s) mb _ 1 HH.out.hl); have f257 : w7.frozen? ⟨g, 257, none⟩ = false := (by simp [World.frozen?, HROW.out.1]); clear ho7 hb7 hg7 ha7))
                have HE : Aside0 (((s.l.map Prod.fst) ++ [(xn : Int)]).length = s.l.length + 1) := ⟨by rw [List.length_append, hl]; rfl⟩
                rw [HE.out] at HROW
                generalize w7.setCell ⟨g, 257, none⟩ (.slice A1 (s.l.length + 1) c1) = W8 at HROW ⊢
                obtain ⟨_, hw8, hr8, hmp8, hB8, hb7⟩ := HROW.out
                have hb8 := Nat.le_trans HH.out.hb (Nat.le_trans HB.out.size hB8.size)
                obtain ⟨w9, hupd, hmp9, hg9, hes9⟩ := Dk.Mp.upd (W := W8.drew) (hmp8.kept (Hw.grown_drew W8 (some g)) HH.out.ne) (Nat.lt_of_le_of_lt HN.out (by decide)) (xn : Int) ⟨x1, x2⟩ HH.out.kk HNO.out y HYS.out
                have HMORE := Aside0.mk (Dk.D.more (W := W8.drew) (s := Dk.tick s) (i := (xn : Int)) (y := y) HH.out.hl HH.out.hg HH.out.hm HH.out.kk ⟨x1, x2⟩ hb8 hw8 (Kd.R_drew hr8) hmp9 hg9 hes9)
                have m0 : W8.drew.cell? ⟨g, 256, none⟩ = some (.map (some mb)) := by rw [cell_of_row W8.drew g _ _ _ _ hw8]; exact Dk.arr_get (Dk.tick s) mb _ 0 HH.out.hl
                have m1 : W8.drew.cell? ⟨g, xn, none⟩ = some (.string y) := by
                  rw [cell_of_row W8.drew g _ _ _ _ hw8]
                  have e := Dk.arr_low (Dk.tick s) mb (.slice A1 (s.l.length + 1) c1) xn HH.out.hl x3
                  rw [e]
                  exact congrArg (fun q => some (Value.string q)) HY.out
                have s8 := HMORE.out.1.sec xn x3
                have f8 := HMORE.out.1.fz xn
                have HBB := Aside0.mk (((HB.out.trans hB8).trans (Dk.B.drew (Dk.B.refl _ _))).trans HMORE.out.2)
                clear hw8 hr8 hmp8 hB8 hb7 hb8 hmp9 hg9 hes9 r257 f257 HROW s1 s2
                -- REGION 13 A BEGINS
                refine start_ (n := 12) (S := fun w' => w'.cell? ⟨g, 256, none⟩ = some (.map (some mb)) ∧ w'.cell? ⟨g, xn, none⟩ = some (.string y)) (ds := [11]) #[false, false, false, false, false, false, false, false, false, false, false, false] (by kernel_rfl) rfl rfl ⟨m0, m1⟩ (fun hHeld => ?_)
                refine pure_ (i := 0) (N := some 62) (v := ?_) (a' := ?_) #[true, false, false, false, false, false, false, false, false, false, false, false] rfl rfl (by kernel_rfl) (fun _ _ _ h => h) (Or.inl ⟨by rfl, ?_⟩) ?_ ?_
                rotate_left
                · intro w'
                  go_simp
                  with_reducible rfl
                rotate_left
                · simp only [Act.put, List.setIfInBounds_toArray, List.set_cons_zero, List.set_cons_succ, i64_w, i32_w]
                  rfl
                refine pure_ (i := 1) (N := some 63) (v := ?_) (a' := ?_) #[true, true, false, false, false, false, false, false, false, false, false, false] rfl rfl (by kernel_rfl) (fun _ _ _ h => h) (Or.inl ⟨by rfl, ?_⟩) ?_ ?_
                rotate_left
                · intro w'
                  go_simp
                  with_reducible rfl
                rotate_left
                · simp only [Act.put, List.setIfInBounds_toArray, List.set_cons_zero, List.set_cons_succ, i64_w, i32_w]
                  rfl
                refine pure_ (i := 2) (N := some 64) (v := ?_) (a' := ?_) #[true, true, true, false, false, false, false, false, false, false, false, false] rfl rfl (by kernel_rfl) (fun _ _ _ h => h) (Or.inl ⟨by rfl, ?_⟩) ?_ ?_
                rotate_left
                · intro w'
                  go_simp
                  with_reducible rfl
                rotate_left
                · simp only [Act.put, List.setIfInBounds_toArray, List.set_cons_zero, List.set_cons_succ, i64_w, i32_w]
                  rfl
                refine pure_ (i := 4) (N := some 66) (v := ?_) (a' := ?_) #[true, true, true, false, true, false, false, false, false, false, false, false] rfl rfl (by kernel_rfl) (fun _ _ _ h => h) (Or.inl ⟨by rfl, ?_⟩) ?_ ?_
                rotate_left
                · intro w'
                  go_simp
                  with_reducible rfl
                rotate_left
                · simp only [Act.put, List.setIfInBounds_toArray, List.set_cons_zero, List.set_cons_succ, i64_w, i32_w]
                  rfl
                refine pure_ (i := 5) (N := some 67) (v := ?_) (a' := ?_) #[true, true, true, false, true, true, false, false, false, false, false, false] rfl rfl (by kernel_rfl) (fun _ _ _ h => h) (Or.inl ⟨by rfl, ?_⟩) ?_ ?_
                rotate_left
                · intro w'
                  go_simp
                  with_reducible rfl
                rotate_left
                · simp only [Act.put, List.setIfInBounds_toArray, List.set_cons_zero, List.set_cons_succ, i64_w, i32_w]
                  rfl
                refine pure_ (i := 6) (N := some 68) (v := ?_) (a' := ?_) #[true, true, true, false, true, true, true, false, false, false, false, false] rfl rfl (by kernel_rfl) (fun _ _ _ h => h) (Or.inl ⟨by rfl, ?_⟩) ?_ ?_
                rotate_left
                · intro w'
                  go_simp
                  with_reducible rfl
                rotate_left
                · simp only [Act.put, List.setIfInBounds_toArray, List.set_cons_zero, List.set_cons_succ, i64_w, i32_w]
                  rfl
                refine pure_ (i := 7) (N := some 69) (v := ?_) (a' := ?_) #[true, true, true, false, true, true, true, true, false, false, false, false] rfl rfl (by kernel_rfl) (fun _ _ _ h => h) (Or.inl ⟨by rfl, ?_⟩) ?_ ?_
                rotate_left
                · intro w'
                  go_simp
                  with_reducible rfl
                rotate_left
                · simp only [Act.put, List.setIfInBounds_toArray, List.set_cons_zero, List.set_cons_succ, i64_w, i32_w]
                  rfl
                refine pure_ (i := 8) (N := some 70) (v := ?_) (a' := ?_) #[true, true, true, false, true, true, true, true, true, false, false, false] rfl rfl (by kernel_rfl) (fun _ _ _ h => h) (Or.inl ⟨by rfl, ?_⟩) ?_ ?_
                rotate_left
                · intro w'
                  go_simp
                  with_reducible rfl
                rotate_left
                · simp only [Act.put, List.setIfInBounds_toArray, List.set_cons_zero, List.set_cons_succ, i64_w, i32_w]
                  rfl
                refine pure_ (i := 9) (N := some 71) (v := ?_) (a' := ?_) #[true, true, true, false, true, true, true, true, true, true, false, false] rfl rfl (by kernel_rfl) (fun _ _ _ h => h) (Or.inl ⟨by rfl, ?_⟩) ?_ ?_
                rotate_left
                · intro w'
                  go_simp
                  with_reducible rfl
                rotate_left
                · simp only [Act.put, List.setIfInBounds_toArray, List.set_cons_zero, List.set_cons_succ, i64_w, i32_w]
                  rfl
                refine take_ (i := 3) (N := some 65) (v := ?_) (a' := ?_) #[true, true, true, true, true, true, true, true, true, true, false, false] rfl rfl (by kernel_rfl) (fun _ _ _ h => h) (Or.inl ⟨by rfl, ?_⟩) hHeld ?_ ?_
                rotate_left
                · rintro w' ⟨s0, s1⟩
                  go_simp
                  with_reducible rfl
                rotate_left
                · simp only [Act.put, List.setIfInBounds_toArray, List.set_cons_zero, List.set_cons_succ, i64_w, i32_w]
                  rfl
                refine take_ (i := 10) (N := some 72) (v := ?_) (a' := ?_) #[true, true, true, true, true, true, true, true, true, true, true, false] rfl rfl (by kernel_rfl) (fun _ _ _ h => h) (Or.inl ⟨by rfl, ?_⟩) hHeld ?_ ?_
                rotate_left
                · rintro w' ⟨s0, s1⟩
                  go_simp
                  with_reducible rfl
                rotate_left
                · simp only [Act.put, List.setIfInBounds_toArray, List.set_cons_zero, List.set_cons_succ, i64_w, i32_w]
                  rfl
                refine last_ (i := 11) (N := none) #[true, true, true, true, true, true, true, true, true, true, true, true] rfl rfl (by kernel_rfl) (by decide) (fun K hK => ?_)
                refine skip_ (w1 := ?_) (by rfl) rfl ?_ ?_
                rotate_left
                · go_simp
                  rfl
                refine hK.out _ _ ?_
                clear hK K
                refine done_ (by kernel_rfl) ?_
                -- REGION 13 A ENDS
                go_wp2_with (fail)
                go_ret
                have hRR : R = ({ Dk.tick s with l := s.l ++ [((xn : Int), y)], sec := s.sec.set xn x }, 0) := by rw [HR2.out, if_neg (of_decide_eq_false HBC.out)]
                subst hRR
                obtain ⟨p1, p2⟩ := Dk.D.put (s' := { Dk.tick s with l := s.l ++ [((xn : Int), y)], sec := s.sec.set xn x }) HMORE.out.1 xn (.string x) (Dk.arr_sec _ _ _ _ _ HMORE.out.1.hl x3) (by show (s.sec.set xn x).length = 256; rw [List.length_set]; exact HMORE.out.1.hl) rfl
                exact ⟨rfl, ⟨_, _, Nat.le_refl _, p1⟩, HBB.out.trans p2⟩
            · cases bf
              all_goals
                go_wp2_with (first | (go_at_call 31; (with_reducible refine HCON.out.mono ?_); rintro e w6 ⟨rfl, ⟨nd, rfl⟩⟩; have HT := Aside0.mk (HT.out.drewN nd); have HB := Aside0.mk (HB.out.drewN nd); have s1 := HT.out.sec xn x3; have s2 := HT.out.fz xn) | ((with_reducible refine gate_builtin (b := .append) (xs := #[.tmp 56, .tmp 58]) rfl ?_); (try (refine gate_guard (by rfl) ?_; dsimp only)); at_builtin; refine Kd.R_append (Kd.int .i64) (w0 := w4.drewN nd) (W := w4.drewN nd) base rfl (.tmp 56) (.tmp 58) 59 3 (.int .i64 0) 8 rfl (by kernel_rfl) (by kernel_rfl) rfl (by decide) (by decide) (.slice A s.l.length c) (s.l.map Prod.fst) (xn : Int) [.int .i64 (xn : Int)] (fun _ => True) (fun _ => False) rfl rfl rfl (fun _ hk => hk.elim) (fun _ _ => trivial) HT.out.ro (Below.refl _ _) HT.out.hb (by rw [hl]; omega) ?_; intro v1 w7 ho7 hb7 hg7 ha7; have HROW := Aside0.mk (Dk.D.row HT.out ho7 hg7); obtain ⟨A1, c1, e1⟩ := Kd.R_slice ho7; subst e1; have r257 : w7.cell? ⟨g, 257, none⟩ = some (.slice A s.l.length c) := (by rw [cell_of_row w7 g _ _ _ _ HROW.out.1]; exact Dk.arr_get (Dk.tick s) mb _ 1 HH.out.hl); have f257 : w7.frozen? ⟨g, 257, none⟩ = false := (by simp [World.frozen?, HROW.out.1]); clear ho7 hb7 hg7 ha7))
                have HE : Aside0 (((s.l.map Prod.fst) ++ [(xn : Int)]).length = s.l.length + 1) := ⟨by rw [List.length_append, hl]; rfl⟩
                rw [HE.out] at HROW
                generalize w7.setCell ⟨g, 257, none⟩ (.slice A1 (s.l.length + 1) c1) = W8 at HROW ⊢
                obtain ⟨_, hw8, hr8, hmp8, hB8, hb7⟩ := HROW.out
                have hb8 := Nat.le_trans HH.out.hb (Nat.le_trans HB.out.size hB8.size)
                obtain ⟨w9, hupd, hmp9, hg9, hes9⟩ := Dk.Mp.upd (W := W8.drew) (hmp8.kept (Hw.grown_drew W8 (some g)) HH.out.ne) (Nat.lt_of_le_of_lt HN.out (by decide)) (xn : Int) ⟨x1, x2⟩ HH.out.kk HNO.out y HYS.out
                have HMORE := Aside0.mk (Dk.D.more (W := W8.drew) (s := Dk.tick s) (i := (xn : Int)) (y := y) HH.out.hl HH.out.hg HH.out.hm HH.out.kk ⟨x1, x2⟩ hb8 hw8 (Kd.R_drew hr8) hmp9 hg9 hes9)
                have m0 : W8.drew.cell? ⟨g, 256, none⟩ = some (.map (some mb)) := by rw [cell_of_row W8.drew g _ _ _ _ hw8]; exact Dk.arr_get (Dk.tick s) mb _ 0 HH.out.hl
                have m1 : W8.drew.cell? ⟨g, xn, none⟩ = some (.string y) := by
                  rw [cell_of_row W8.drew g _ _ _ _ hw8]
                  have e := Dk.arr_low (Dk.tick s) mb (.slice A1 (s.l.length + 1) c1) xn HH.out.hl x3
                  rw [e]
                  exact congrArg (fun q => some (Value.string q)) HY.out
                have s8 := HMORE.out.1.sec xn x3
                have f8 := HMORE.out.1.fz xn
                have HBB := Aside0.mk (((HB.out.trans hB8).trans (Dk.B.drew (Dk.B.refl _ _))).trans HMORE.out.2)
                clear hw8 hr8 hmp8 hB8 hb7 hb8 hmp9 hg9 hes9 r257 f257 HROW s1 s2
                -- REGION 13 B BEGINS
                refine start_ (n := 12) (S := fun w' => w'.cell? ⟨g, 256, none⟩ = some (.map (some mb)) ∧ w'.cell? ⟨g, xn, none⟩ = some (.string y)) (ds := [11]) #[false, false, false, false, false, false, false, false, false, false, false, false] (by kernel_rfl) rfl rfl ⟨m0, m1⟩ (fun hHeld => ?_)
                refine pure_ (i := 0) (N := some 62) (v := ?_) (a' := ?_) #[true, false, false, false, false, false, false, false, false, false, false, false] rfl rfl (by kernel_rfl) (fun _ _ _ h => h) (Or.inl ⟨by rfl, ?_⟩) ?_ ?_
                rotate_left
                · intro w'
                  go_simp
                  with_reducible rfl
                rotate_left
                · simp only [Act.put, List.setIfInBounds_toArray, List.set_cons_zero, List.set_cons_succ, i64_w, i32_w]
                  rfl
                refine pure_ (i := 1) (N := some 63) (v := ?_) (a' := ?_) #[true, true, false, false, false, false, false, false, false, false, false, false] rfl rfl (by kernel_rfl) (fun _ _ _ h => h) (Or.inl ⟨by rfl, ?_⟩) ?_ ?_
                rotate_left
                · intro w'
                  go_simp
                  with_reducible rfl
                rotate_left
                · simp only [Act.put, List.setIfInBounds_toArray, List.set_cons_zero, List.set_cons_succ, i64_w, i32_w]
                  rfl
                refine pure_ (i := 2) (N := some 64) (v := ?_) (a' := ?_) #[true, true, true, false, false, false, false, false, false, false, false, false] rfl rfl (by kernel_rfl) (fun _ _ _ h => h) (Or.inl ⟨by rfl, ?_⟩) ?_ ?_
                rotate_left
                · intro w'
                  go_simp
                  with_reducible rfl
                rotate_left
                · simp only [Act.put, List.setIfInBounds_toArray, List.set_cons_zero, List.set_cons_succ, i64_w, i32_w]
                  rfl
                refine pure_ (i := 4) (N := some 66) (v := ?_) (a' := ?_) #[true, true, true, false, true, false, false, false, false, false, false, false] rfl rfl (by kernel_rfl) (fun _ _ _ h => h) (Or.inl ⟨by rfl, ?_⟩) ?_ ?_
                rotate_left
                · intro w'
                  go_simp
                  with_reducible rfl
                rotate_left
                · simp only [Act.put, List.setIfInBounds_toArray, List.set_cons_zero, List.set_cons_succ, i64_w, i32_w]
                  rfl
                refine pure_ (i := 5) (N := some 67) (v := ?_) (a' := ?_) #[true, true, true, false, true, true, false, false, false, false, false, false] rfl rfl (by kernel_rfl) (fun _ _ _ h => h) (Or.inl ⟨by rfl, ?_⟩) ?_ ?_
                rotate_left
                · intro w'
                  go_simp
                  with_reducible rfl
                rotate_left
                · simp only [Act.put, List.setIfInBounds_toArray, List.set_cons_zero, List.set_cons_succ, i64_w, i32_w]
                  rfl
                refine pure_ (i := 6) (N := some 68) (v := ?_) (a' := ?_) #[true, true, true, false, true, true, true, false, false, false, false, false] rfl rfl (by kernel_rfl) (fun _ _ _ h => h) (Or.inl ⟨by rfl, ?_⟩) ?_ ?_
                rotate_left
                · intro w'
                  go_simp
                  with_reducible rfl
                rotate_left
                · simp only [Act.put, List.setIfInBounds_toArray, List.set_cons_zero, List.set_cons_succ, i64_w, i32_w]
                  rfl
                refine pure_ (i := 7) (N := some 69) (v := ?_) (a' := ?_) #[true, true, true, false, true, true, true, true, false, false, false, false] rfl rfl (by kernel_rfl) (fun _ _ _ h => h) (Or.inl ⟨by rfl, ?_⟩) ?_ ?_
                rotate_left
                · intro w'
                  go_simp
                  with_reducible rfl
                rotate_left
                · simp only [Act.put, List.setIfInBounds_toArray, List.set_cons_zero, List.set_cons_succ, i64_w, i32_w]
                  rfl
                refine pure_ (i := 8) (N := some 70) (v := ?_) (a' := ?_) #[true, true, true, false, true, true, true, true, true, false, false, false] rfl rfl (by kernel_rfl) (fun _ _ _ h => h) (Or.inl ⟨by rfl, ?_⟩) ?_ ?_
                rotate_left
                · intro w'
                  go_simp
                  with_reducible rfl
                rotate_left
                · simp only [Act.put, List.setIfInBounds_toArray, List.set_cons_zero, List.set_cons_succ, i64_w, i32_w]
                  rfl
                refine pure_ (i := 9) (N := some 71) (v := ?_) (a' := ?_) #[true, true, true, false, true, true, true, true, true, true, false, false] rfl rfl (by kernel_rfl) (fun _ _ _ h => h) (Or.inl ⟨by rfl, ?_⟩) ?_ ?_
                rotate_left
                · intro w'
                  go_simp
                  with_reducible rfl
                rotate_left
                · simp only [Act.put, List.setIfInBounds_toArray, List.set_cons_zero, List.set_cons_succ, i64_w, i32_w]
                  rfl
                refine take_ (i := 3) (N := some 65) (v := ?_) (a' := ?_) #[true, true, true, true, true, true, true, true, true, true, false, false] rfl rfl (by kernel_rfl) (fun _ _ _ h => h) (Or.inl ⟨by rfl, ?_⟩) hHeld ?_ ?_
                rotate_left
                · rintro w' ⟨s0, s1⟩
                  go_simp
                  with_reducible rfl
                rotate_left
                · simp only [Act.put, List.setIfInBounds_toArray, List.set_cons_zero, List.set_cons_succ, i64_w, i32_w]
                  rfl
                refine take_ (i := 10) (N := some 72) (v := ?_) (a' := ?_) #[true, true, true, true, true, true, true, true, true, true, true, false] rfl rfl (by kernel_rfl) (fun _ _ _ h => h) (Or.inl ⟨by rfl, ?_⟩) hHeld ?_ ?_
                rotate_left
                · rintro w' ⟨s0, s1⟩
                  go_simp
                  with_reducible rfl
                rotate_left
                · simp only [Act.put, List.setIfInBounds_toArray, List.set_cons_zero, List.set_cons_succ, i64_w, i32_w]
                  rfl
                refine last_ (i := 11) (N := none) #[true, true, true, true, true, true, true, true, true, true, true, true] rfl rfl (by kernel_rfl) (by decide) (fun K hK => ?_)
                refine skip_ (w1 := ?_) (by rfl) rfl ?_ ?_
                rotate_left
                · go_simp
                  rfl
                refine hK.out _ _ ?_
                clear hK K
                refine done_ (by kernel_rfl) ?_
                -- REGION 13 B ENDS
                have hRR : R = (Dk.dieS { Dk.tick s with l := s.l ++ [((xn : Int), y)], sec := s.sec.set xn x }, 33) := by rw [HR2.out, if_pos (of_decide_eq_true HBC.out)]
                subst hRR
                have hp := Dk.D.put (s' := { Dk.tick s with l := s.l ++ [((xn : Int), y)], sec := s.sec.set xn x }) HMORE.out.1 xn (.string x) (Dk.arr_sec _ _ _ _ _ HMORE.out.1.hl x3) (by show (s.sec.set xn x).length = 256; rw [List.length_set]; exact HMORE.out.1.hl) rfl
                have HPP := Aside0.mk hp
                clear hp
                have hd := HDIE.out { Dk.tick s with l := s.l ++ [((xn : Int), y)], sec := s.sec.set xn x } base g mb (n + 1) _ _ HPP.out.1 (by show (s.l ++ [((xn : Int), y)]).length ≤ 100000; rw [List.length_append]; exact HLM.out) HIN.out.2.2.1
                have HDD := Aside0.mk hd
                clear hd
                go_wp2_with (go_at_call 32; (with_reducible refine HDD.out.mono ?_); rintro e w10 ⟨rfl, hd5, hb5⟩; have HD5 := Aside0.mk hd5; have HB5 := Aside0.mk ((HBB.out.trans HPP.out.2).trans hb5); clear hd5 hb5)
                go_ret
                exact ⟨rfl, ⟨_, _, Nat.le_refl _, HD5.out⟩, HB5.out⟩
          · have hput : Dk.putS (Dk.tick s) (xn : Int) x = { Dk.tick s with sec := s.sec.set xn x } := by
              unfold Dk.putS
              rw [if_pos (show (xn : Int) ∈ (Dk.tick s).l.map Prod.fst from of_decide_eq_true HBK.out)]
              rfl
            rw [hput] at HR2
            clear hput
            cases bc
            · have hRR : R = ({ Dk.tick s with sec := s.sec.set xn x }, 0) := by rw [HR2.out, if_neg (of_decide_eq_false HBC.out)]
              subst hRR
              cases bf
              · go_wp2_with (go_at_call 31; (with_reducible refine HCON.out.mono ?_); rintro e w6 ⟨rfl, ⟨nd, rfl⟩⟩; have HT := Aside0.mk (HT.out.drewN nd); have HB := Aside0.mk (HB.out.drewN nd); have s1 := HT.out.sec xn x3; have s2 := HT.out.fz xn)
                go_ret
                obtain ⟨p1, p2⟩ := Dk.D.put (s' := { Dk.tick s with sec := s.sec.set xn x }) HT.out xn (.string x) (Dk.arr_sec _ _ _ _ _ HT.out.hl x3) (by show (s.sec.set xn x).length = 256; rw [List.length_set]; exact HT.out.hl) rfl
                exact ⟨rfl, ⟨_, _, Nat.le_succ _, p1⟩, HB.out.trans p2⟩
              · exact absurd ⟨rfl, rfl⟩ HEA.out
            · have hRR : R = (Dk.dieS { Dk.tick s with sec := s.sec.set xn x }, 33) := by rw [HR2.out, if_pos (of_decide_eq_true HBC.out)]
              subst hRR
              cases bf
              all_goals
                have HPUT := Aside0.mk (fun (W : World) (h : Dk.D W base g (Dk.tick s) mb n (.slice A s.l.length c)) => Dk.D.put (s' := { Dk.tick s with sec := s.sec.set xn x }) h xn (.string x) (Dk.arr_sec _ _ _ _ _ h.hl x3) (by show (s.sec.set xn x).length = 256; rw [List.length_set]; exact h.hl) rfl)
                have HDIE2 := Aside0.mk (fun (W : World) (h : Dk.D W base g (Dk.tick s) mb n (.slice A s.l.length c)) => HDIE.out { Dk.tick s with sec := s.sec.set xn x } base g mb n _ _ (HPUT.out W h).1 hll HIN.out.2.2.1)
                go_wp2_with (first | (go_at_call 31; (with_reducible refine HCON.out.mono ?_); rintro e w6 ⟨rfl, ⟨nd, rfl⟩⟩; have HT := Aside0.mk (HT.out.drewN nd); have HB := Aside0.mk (HB.out.drewN nd); have s1 := HT.out.sec xn x3; have s2 := HT.out.fz xn) | (go_at_call 32; (with_reducible refine (HDIE2.out _ HT.out).mono ?_); rintro e w7 ⟨rfl, hd5, hb5⟩; have HD5 := Aside0.mk hd5; have HB5 := Aside0.mk ((HB.out.trans (HPUT.out _ HT.out).2).trans hb5); clear hd5 hb5))
                go_ret
                exact ⟨rfl, ⟨_, _, Nat.le_succ _, HD5.out⟩, HB5.out⟩

end Go.Proofs.Ytfdccgpbdcdgmaa.PLogRoom
