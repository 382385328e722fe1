-- By a program of this session (wip/tools/mkprint.py), for this claim.
import Derived.Test.YtjofkmeaofpbfaaPMoveSpreadx0
namespace Go.Proofs.Ytjofkmeaofpbfaa.PMoveSpread
open Go.RowKit Go.Proofs.YtjofkmeaofpbfaaW.PrintWords Go.Proofs.YtjofkmeaofpbfaaW.PrintLast Go.Proofs.YtjofkmeaofpbfaaW.PrintMore
attribute [local go_sem] max2_int min2_int max_two min_two max_three min_three max_four min_four   -- for this text's walks alone
set_option linter.unusedVariables false
set_option linter.unusedSimpArgs false

/-! ### api_Move_26: function 26 (by hand) -/
/-- Where the first of which p holds stands; -1. -/
def api_Move_26.ix (p : S31 → Bool) (l : List (S31)) : Int := match l.findIdx? p with | some i => (i : Int) | none => -1
theorem api_Move_26.ix_hit (p : S31 → Bool) (l : List (S31)) (i : Nat) (h : i < l.length) (hp : p l[i] = true) (hn : ∀ j (hj : j < l.length), j < i → p l[j] = false) : api_Move_26.ix p l = (i : Int) := by
  have e : l.findIdx? p = some i := by
    rw [List.findIdx?_eq_some_iff_getElem]
    exact ⟨h, hp, fun j hj => by rw [hn j (by omega) hj]; simp⟩
  unfold api_Move_26.ix
  rw [e]
theorem api_Move_26.ix_miss (p : S31 → Bool) (l : List (S31)) (hn : ∀ j (hj : j < l.length), p l[j] = false) : api_Move_26.ix p l = -1 := by
  have e : l.findIdx? p = none := by
    rw [List.findIdx?_eq_none_iff]
    intro x hx
    obtain ⟨j, hj, rfl⟩ := List.getElem_of_mem hx
    exact hn j hj
  unfold api_Move_26.ix
  rw [e]
set_option maxHeartbeats 2000000 in
theorem api_Move_26.callsP (p : S31 → Bool) (g : Nat) (lb : Array Value) (eg : ∀ args w, (callFunc g args).run Try.prog w = .ok (.enter g args) w) (A0 : Option Addr) (c0 : Nat) (l0 : List (S31)) (w : World) (hr0 : Kd.C k31 w A0 l0.length l0) (hc0 : l0.length ≤ c0)
    (hp : ∀ (W : World) (x : S31) (cs : List Value), (k31).K W x cs → Below w.heap.size w W → Calls Try.prog g (#[.agg cs.toArray] ++ lb) W fun e w' => e = .returned (.bool (p x)) ∧ Below W.heap.size W w') :
    Calls Try.prog 26 #[.slice A0 l0.length c0, .func (.func g) #[] lb] w fun e w' => e = .returned (.int .i64 (api_Move_26.ix p l0)) ∧ Below w.heap.size w w' := by
  have HR := Aside0.mk hr0
  have HP := Aside0.mk hp
  have hmax : l0.length ≤ 9223372036854775807 := hr0.2.1
  clear hr0 hp
  go_enter Try.func26, Try.ntmps26
  go_wp2
  go_loopg [5, 8] l0.length (fun gg _ s8 wr => ∃ kk : Nat, kk ≤ l0.length ∧ l0.length - kk ≤ gg ∧ s8 = .int .i64 kk ∧ Aside0 (Below w.heap.size w wr) ∧ Aside0 (∀ j (hj : j < l0.length), j < kk → p l0[j] = false))
  case atStart => exact ⟨0, Nat.zero_le _, by omega, rfl, ⟨Below.refl _ w⟩, ⟨fun j hj h => absurd h (Nat.not_lt_zero _)⟩⟩
  case round =>
    obtain ⟨kk, hkk, hg, rfl, BW, AF⟩ := hrel
    by_cases hlt : kk < l0.length
    · have hltz : (kk : Int) < (l0.length : Int) := by omega
      have h0z : (0 : Int) ≤ (kk : Int) := by omega
      have hx : rd_T31 l0 (kk : Int) = l0[kk] := by
        unfold rd_T31
        simp [List.getD_eq_getElem?_getD, hlt]
      obtain ⟨ad, hA0, hx_0, hx_1⟩ := at_T31 (Kd.C_below HR.out BW.out) (kk : Int) h0z hltz
      subst hA0
      simp only [Int.toNat_natCast] at hx_0 hx_1
      have hcall := HP.out wr (rd_T31 l0 (kk : Int)) _ (k31_mk wr _ ) BW.out
      have HX := Lib.hid hx
      clear hx
      cases hq : p (rd_T31 l0 (kk : Int)) with
      | true =>
        have HQ := Lib.hid hq
        rw [hq] at hcall
        clear hq
        go_wp2_with (go_at_fn g; refine hcall.mono ?_; rintro e w' ⟨rfl, hb'⟩)
        go_ret
        refine ⟨?_, below_step BW.out hb'⟩
        rw [api_Move_26.ix_hit p l0 kk hlt (by rw [← HX.out]; exact HQ.out) AF.out]
        rfl
      | false =>
        have HQ := Lib.hid hq
        rw [hq] at hcall
        clear hq
        go_wp2_with (go_at_fn g; refine hcall.mono ?_; rintro e w' ⟨rfl, hb'⟩)
        go_roundg (l0.length - (kk + 1))
        case measure => omega
        case rel =>
          refine ⟨kk + 1, by omega, by omega, by go_num, ⟨below_step BW.out hb'⟩, ⟨fun j hj h => ?_⟩⟩
          by_cases e : j = kk
          · subst e
            rw [← HX.out]; exact HQ.out
          · exact AF.out j hj (by omega)
    · have hltz : ¬ (kk : Int) < (l0.length : Int) := by omega
      go_wp2
      go_ret
      refine ⟨?_, BW.out⟩
      rw [api_Move_26.ix_miss p l0 (fun j hj => AF.out j hj (by omega))]
      rfl

/-! ### api_Move_19: function 19 (by hand) -/
/-- Behind j elements: the row holds what was kept of them, then whatever, then what is still to come. -/
def api_Move_19.Inv (p : S31 → Bool) (xs : List (S31)) (i j : Nat) (ys : List (S31)) : Prop := ys.length = xs.length ∧ i ≤ j ∧ j ≤ xs.length ∧ ys.take i = (xs.take j).filter (fun x => !p x) ∧ ys.drop j = xs.drop j
theorem api_Move_19.inv_skip (p : S31 → Bool) (xs : List (S31)) (i j : Nat) (ys : List (S31)) (h : api_Move_19.Inv p xs i j ys) (hj : j < xs.length) (hp : p xs[j] = true) : api_Move_19.Inv p xs i (j + 1) ys := by
  obtain ⟨h1, h2, h3, h4, h5⟩ := h
  refine ⟨h1, by omega, by omega, ?_, ?_⟩
  · rw [h4, List.take_succ_eq_append_getElem hj, List.filter_append]
    simp [hp]
  · rw [← List.drop_drop, h5, List.drop_drop]
theorem api_Move_19.inv_at (p : S31 → Bool) (xs : List (S31)) (i j : Nat) (ys : List (S31)) (h : api_Move_19.Inv p xs i j ys) (hj : j < xs.length) : ys[j]? = some xs[j] := by
  obtain ⟨h1, h2, h3, h4, h5⟩ := h
  have := congrArg (fun l => l[0]?) h5
  simp only [List.getElem?_drop, Nat.add_zero] at this
  rw [this, List.getElem?_eq_getElem hj]
theorem api_Move_19.inv_keep (p : S31 → Bool) (xs : List (S31)) (i j : Nat) (ys : List (S31)) (h : api_Move_19.Inv p xs i j ys) (hj : j < xs.length) (hp : p xs[j] = false) : api_Move_19.Inv p xs (i + 1) (j + 1) (ys.set i xs[j]) := by
  obtain ⟨h1, h2, h3, h4, h5⟩ := h
  have hi : i < ys.length := by omega
  refine ⟨by simp [h1], by omega, by omega, ?_, ?_⟩
  · rw [List.take_succ_eq_append_getElem (by simpa using hi), List.getElem_set_self, List.take_set_of_le (Nat.le_refl i), h4, List.take_succ_eq_append_getElem hj, List.filter_append]
    simp [hp]
  · rw [List.drop_set_of_lt (by omega), ← List.drop_drop, h5, List.drop_drop]
theorem api_Move_19.inv_start (p : S31 → Bool) (xs : List (S31)) (i : Nat) (hi : i < xs.length) (hp : p xs[i] = true) (hn : ∀ j (hj : j < xs.length), j < i → p xs[j] = false) : api_Move_19.Inv p xs i (i + 1) xs := by
  refine ⟨rfl, by omega, by omega, ?_, rfl⟩
  rw [List.take_succ_eq_append_getElem hi, List.filter_append]
  have : (xs.take i).filter (fun x => !p x) = xs.take i := by
    rw [List.filter_eq_self]
    intro x hx
    obtain ⟨j, hj, rfl⟩ := List.getElem_of_mem hx
    rw [List.length_take] at hj
    rw [List.getElem_take, hn j (by omega) (by omega)]
    rfl
  rw [this]
  simp [hp]
theorem api_Move_19.ix_cases (p : S31 → Bool) (l : List (S31)) : (api_Move_26.ix p l = -1 ∧ l.filter (fun x => !p x) = l) ∨ ∃ i, ∃ (h : i < l.length), api_Move_26.ix p l = (i : Int) ∧ p l[i] = true ∧ ∀ j (hj : j < l.length), j < i → p l[j] = false := by
  unfold api_Move_26.ix
  cases h : l.findIdx? p with
  | none =>
    left
    refine ⟨rfl, ?_⟩
    rw [List.findIdx?_eq_none_iff] at h
    rw [List.filter_eq_self]
    intro x hx
    rw [h x hx]; rfl
  | some i =>
    right
    rw [List.findIdx?_eq_some_iff_getElem] at h
    obtain ⟨h1, h2, h3⟩ := h
    exact ⟨i, h1, rfl, h2, fun j hj hlt => by simpa using h3 j hlt⟩
set_option maxHeartbeats 4000000 in
theorem api_Move_19.callsR (p : S31 → Bool) (g : Nat) (lb : Array Value) (eg : ∀ args w, (callFunc g args).run Try.prog w = .ok (.enter g args) w) (base : Nat) (ok : Nat → Prop) (v : Value) (xs : List (S31)) (w : World) (hr0 : Kd.R k31 31 w base ok v xs) (hb : base ≤ w.heap.size)
    (hp : ∀ (W : World) (x : S31) (cs : List Value), (k31).K W x cs → Calls Try.prog g (#[.agg cs.toArray] ++ lb) W fun e w' => e = .returned (.bool (p x)) ∧ Below W.heap.size W w') :
    Calls Try.prog 19 #[v, .func (.func g) #[] lb] w fun e w' => ∃ v', e = .returned v' ∧ Kd.R k31 31 w' base ok v' (xs.filter (fun x => !p x)) ∧ Below base w w' := by
  obtain ⟨A, c, rfl, hlc, hC⟩ := Kd.R_reads hr0
  have HP := Aside0.mk hp
  have HIF := Aside0.mk (api_Move_26.callsP p g lb eg A c xs w hC hlc (fun W x cs hk _ => hp W x cs hk))
  have HR := Aside0.mk hr0
  have hmax : xs.length ≤ 9223372036854775807 := hC.2.1
  clear hp hr0 hC
  rcases api_Move_19.ix_cases p xs with ⟨h1, h2⟩ | ⟨i, hi, h1, h2, h3⟩
  · rw [h1] at HIF
    rw [h2]
    clear h1 h2
    go_enter Try.func19, Try.ntmps19
    go_wp2_with (go_at_call 26; refine HIF.out.mono ?_; rintro e w' ⟨rfl, hb'⟩)
    go_ret
    exact ⟨_, rfl, Kd.R_below HR.out hb', hb'.mono hb⟩
  · rw [h1] at HIF
    have hne1 : ((i : Int) == -1) = false := beq_eq_false_iff_ne.2 (by omega)
    have HS := Aside0.mk (api_Move_19.inv_start p xs i hi h2 h3)
    clear h1 h2 h3
    obtain ⟨gb, cap, he, _, _, _⟩ := Kd.R_form HR.out (by omega)
    injection he with ha _ hcc
    subst ha
    clear hcc
    obtain ⟨hnc, hcm⟩ := Hw.R_cap HR.out
    unfold maxLen at hcm
    go_enter Try.func19, Try.ntmps19
    go_wp2_with (go_at_call 26; refine HIF.out.mono ?_; rintro e w' ⟨rfl, hb'⟩)
    have HB1 := Aside0.mk hb'
    clear hb'
    go_loopg [5, 6] xs.length (fun gg v5 v6 wr => ∃ (i j : Nat) (ys : List (S31)), v5 = .int .i64 i ∧ v6 = .int .i64 j ∧ j ≤ xs.length ∧ xs.length - j ≤ gg ∧ i < j ∧ Aside0 (api_Move_19.Inv p xs i j ys) ∧ Aside0 (Kd.R k31 31 wr base ok (.slice (some ⟨gb, 0, none⟩) xs.length c) ys) ∧ Aside0 (Below base w wr) ∧ Aside0 (base ≤ wr.heap.size))
    case atStart => exact ⟨i, i + 1, xs, rfl, by go_num, by omega, by omega, by omega, HS, ⟨Kd.R_below HR.out HB1.out⟩, ⟨HB1.out.mono hb⟩, ⟨Nat.le_trans hb HB1.out.size⟩⟩
    case round =>
      clear HS HB1 HIF HR hne1 hi
      obtain ⟨i, j, ys, rfl, rfl, hjn, hgg, hij, HI, HR, HB, HZ⟩ := hrel
      by_cases hlt : j < xs.length
      · have hltz : (j : Int) < (xs.length : Int) := by omega
        have h0z : (0 : Int) ≤ (j : Int) := by omega
        have hiz : (i : Int) < (xs.length : Int) := by omega
        have hi0 : (0 : Int) ≤ (i : Int) := by omega
        have HYL := Lib.hid HI.out.1
        obtain ⟨ad, hA0, hx_0, hx_1⟩ := at_T31 (Kd.R_reads' HR.out).2.2 (j : Int) h0z (by rw [HYL.out]; exact hltz)
        cases hA0
        simp only [add_plain, Int.toNat_natCast] at hx_0 hx_1
        have hrd : rd_T31 ys (j : Int) = xs[j] := by
          have := api_Move_19.inv_at p xs i j ys HI.out hlt
          unfold rd_T31
          rw [List.getD_eq_getElem?_getD, Int.toNat_natCast, this]
          rfl
        rw [hrd] at hx_0 hx_1
        clear hrd
        have HXJ : Aside0 (∃ x, xs[j] = x) := ⟨_, rfl⟩
        obtain ⟨x, hx⟩ := HXJ.out
        rw [hx] at hx_0 hx_1
        have HX := Lib.hid hx
        clear hx HXJ
        cases hq : p x with
        | true =>
          have hcall := fun (W : World) => HP.out W x _ (k31_mk W x)
          rw [hq] at hcall
          have HQ := Lib.hid hq
          have HCA := Aside0.mk hcall
          clear hq hcall
          go_wp2_with (go_at_fn g; refine (HCA.out _).mono ?_; rintro e w2 ⟨rfl, hb2⟩; have HB2 := Aside0.mk hb2; clear hb2)
          go_roundg (xs.length - (j + 1))
          case measure => omega
          case rel => exact ⟨i, j + 1, ys, rfl, by go_num, by omega, by omega, by omega, ⟨api_Move_19.inv_skip p xs i j ys HI.out hlt (by rw [HX.out]; exact HQ.out)⟩, ⟨Kd.R_below (Kd.R_alloc HR.out _) HB2.out⟩, ⟨(HB.out.alloc HZ.out _).trans (HB2.out.mono (by simp; exact Nat.le_succ_of_le HZ.out))⟩, ⟨Nat.le_trans HZ.out (Nat.le_trans (by simp) HB2.out.size)⟩⟩
        | false =>
          have hcall := fun (W : World) => HP.out W x _ (k31_mk W x)
          rw [hq] at hcall
          have HQ := Lib.hid hq
          have HCA := Aside0.mk hcall
          clear hq hcall
          go_wp2_with (go_at_fn g; refine (HCA.out _).mono ?_; rintro e w2 ⟨rfl, hb2⟩; have HB2 := Aside0.mk hb2; clear hb2; have hz_0 : w2.cell? ⟨wr.heap.size, 0, none⟩ = some (.int .i64 x.f0) := (HB2.out.cell (p := ⟨wr.heap.size, 0, none⟩) (by simp)).trans (by simp); have hz_1 : w2.cell? ⟨wr.heap.size, 1, none⟩ = some (.int .i64 x.f1) := (HB2.out.cell (p := ⟨wr.heap.size, 1, none⟩) (by simp)).trans (by simp); have HR2 := Aside0.mk (Kd.R_below (Kd.R_alloc HR.out _) HB2.out); obtain ⟨ce, hcl, hM, hcc, hfr⟩ := Kd.R_elem HR2.out z31 (i : Int) hi0 hiz; obtain rfl := k31_openM hM; have HS2 := Aside0.mk (Kd.R_seg HR2.out (i : Int) hi0 hiz (seg := [.int .i64 x.f0, .int .i64 x.f1]) (j := 0) hcl hcc (by show 2 ≤ 2; omega) (x' := x) (k31_mkM w2 base (fun _ => False) x) (fun _ h => h.elim)); have hy_0 : w2.cell? ⟨gb, i * 2, none⟩ = _ := hcc 0 _ rfl; have hy_1 : w2.cell? ⟨gb, i * 2 + 1, none⟩ = _ := hcc 1 _ rfl; have hv_0 : w2.frozen? ⟨gb, i * 2, none⟩ = false := hfr 0; have hv_1 : w2.frozen? ⟨gb, i * 2 + 1, none⟩ = false := hfr 1; clear hcl hM hcc hfr)
          go_roundg (xs.length - (j + 1))
          case measure => omega
          case rel =>
            refine ⟨i + 1, j + 1, ys.set i x, by go_num, by go_num, by omega, by omega, by omega, ⟨?_⟩, ⟨HS2.out.1⟩, ⟨?_⟩, ⟨?_⟩⟩
            · have := api_Move_19.inv_keep p xs i j ys HI.out hlt (by rw [HX.out]; exact HQ.out)
              rw [HX.out] at this
              exact this
            · have hB2 : Below base w w2 := (HB.out.alloc HZ.out _).trans (HB2.out.mono (by simp; exact Nat.le_succ_of_le HZ.out))
              have hS : w2.grownBy _ (some gb) := HS2.out.2
              have := hB2.grown hS (Nat.le_trans HZ.out (Nat.le_trans (by simp) HB2.out.size)) (fun k hk => by injection hk with hk; subst hk; exact Kd.R_base HR2.out _ (by simp [Value.ownBlock]))
              exact this
            · have h1 : wr.heap.size + 1 ≤ w2.heap.size := by simpa using HB2.out.size
              have := HZ.out
              simp
              omega
      · have hltz : ¬ (j : Int) < (xs.length : Int) := by omega
        have HJ : Hid (j = xs.length) := Lib.hid (by omega)
        have hin : i < xs.length := by omega
        have hi0 : (0 : Int) ≤ (i : Int) := by omega
        have hiz : (i : Int) ≤ (xs.length : Int) := by omega
        have hic : (i : Int) ≤ (c : Int) := by omega
        have hie : ¬ (c : Int) = (i : Int) := by omega
        have HYL := Lib.hid HI.out.1
        have HT := Aside0.mk (Kd.R_take (m := i) HR.out (by rw [HYL.out]; omega))
        have HCL : Aside0 (∀ (ty : TypeId), (Builtin.clear_ #[22] ty #[.slice (some ⟨gb, i * 2, none⟩) (xs.length - i) (c - i)]).run Try.prog wr = .ok (.tuple #[]) (wr.setCells gb (i * 2) (Builtin.zeroCells (Value.cells (.agg #[(.int .i64 0), (.int .i64 0)])) (xs.length - i)).toList)) := ⟨fun ty =>
          Hw.run_clear_row wr 22 31 ty (.agg #[(.int .i64 0), (.int .i64 0)]) Try.underlying22 (fun _ => by kernel_rfl) (by intro u hu; simp [Value.cells] at hu; rcases hu with hu; (repeat (first | (rcases hu with rfl | hu) | (subst hu))) <;> rfl) gb (i * 2) (xs.length - i) (c - i) (by omega)
            (fun q hq => (Hw.R_room HR.out (i * 2 + q) (by have hq' : q < (xs.length - i) * 2 := hq; show _ < c * 2; omega)).1)
            (fun q hq => (Hw.R_room HR.out (i * 2 + q) (by have hq' : q < (xs.length - i) * 2 := hq; show _ < c * 2; omega)).2)⟩
        have hcl := HCL.out
        clear HCL
        go_wp2
        go_ret
        obtain ⟨h8, h9⟩ := Hw.R_beyond (Builtin.zeroCells (Value.cells (.agg #[(.int .i64 0), (.int .i64 0)])) (xs.length - i)).toList HT.out (i * 2) (Nat.le_refl _)
        have he : ys.take i = xs.filter (fun x => !p x) := by
          have := HI.out.2.2.2.1
          rw [HJ.out, List.take_of_length_le (Nat.le_refl _)] at this
          exact this
        rw [he] at h8
        exact ⟨_, rfl, h8, HB.out.grown h9 HZ.out (fun k hk => by injection hk with hk; subst hk; exact Kd.R_base HR.out _ (by simp [Value.ownBlock]))⟩

/-! ### api_Move_20: function 20 (by hand) -/
def api_Move_20.f (l0 : List (S31)) : Option (List (S31)) := if l0.length < 8796093022208 then some l0 else none
theorem api_Move_20.calls (A0 : Option Addr) (c0 : Nat) (l0 : List (S31)) (r : List (S31)) (w : World) (hr0 : Kd.C k31 w A0 l0.length l0) (hc0 : l0.length ≤ c0) (h : api_Move_20.f l0 = some r) :
    Calls Try.prog 20 #[.slice A0 l0.length c0] w fun e w' => ∃ v0_ : Value, e = .returned (v0_) ∧ Kd.R k31 31 w' w.heap.size (fun _ => True) v0_ r ∧ Below w.heap.size w w' := by
  have hl : l0.length < 8796093022208 := by
    unfold api_Move_20.f at h
    split at h
    · assumption
    · cases h
  obtain rfl : l0 = r := by
    unfold api_Move_20.f at h
    rw [if_pos hl] at h
    exact Option.some.inj h
  clear h
  have hu := Try.underlying22
  have he := fun (W : World) => Lib.run_eql_slice_nil (P := Try.prog) W 22 31 A0 l0.length c0 0 0 Try.underlying22
  cases A0 with
  | none =>
    obtain rfl : l0 = [] := by
      rcases Nat.eq_zero_or_pos l0.length with h0 | h0
      · exact List.eq_nil_of_length_eq_zero h0
      · obtain ⟨ad, h1, _⟩ := hr0.2.2 h0
        cases h1
    clear hr0
    simp only [List.length_nil] at he hc0 ⊢
    go_enter Try.func20, Try.ntmps20
    go_wp2
    go_ret
    exact ⟨_, rfl, Kd.R_nil _ _ _ _ _, Below.refl _ _⟩
  | some ad =>
    have HR := Aside0.mk hr0
    clear hr0
    go_enter Try.func20, Try.ntmps20
    have HB := Aside0.mk (Below.refl w.heap.size w)
    go_wp2_with (first | ((with_reducible refine gate_dst (N := 5) rfl ?_); refine Kd.R_lit k31 _ 31 ?hg (N := 5) ?hd (xs := ([] : List (S31))) (inner := []) (ok := fun _ => True) (okp := fun _ => True) ?hr ?hp (fun _ hk => hk) trivial (Below.refl _ _) (Nat.le_refl _) (by simp) ?_; (case hd => rfl); (case hg => rfl); (case hr => first | (go_simp; done) | (go_simp; rfl)); (case hp => exact (Reps.none _ _)); intro v5 w3 ho4 hb hg_ hnew_; clear hg_ hnew_; have HO := Aside0.mk ho4; have HC := Aside0.mk (Kd.C_below HR.out hb); have HB1 := Aside0.mk hb; clear ho4 hb HB HR) | ((with_reducible refine gate_builtin (b := .append) (xs := #[.tmp 5, .tmp 6]) rfl ?_); at_builtin; refine Kd.R_append_rows k31 (w0 := w) w.heap.size rfl (.tmp 5) (.tmp 6) 22 31 (.agg #[(.int .i64 0), (.int .i64 0)]) 16 rfl Try.underlying22 info31 rfl (by decide) (by omega) v5 ([] : List (S31)) l0 _ _ _ (fun _ => True) (fun _ => False) rfl rfl ?aO ?aR (fun _ _ h => h) ?aK ?aF ?aB ?aS ?aL ?_; (case aO => exact HO.out); (case aR => exact HC.out); (case aK => exact fun _ h => h.elim); (case aF => exact fun _ _ => trivial); (case aB => exact HB1.out); (case aS => exact HB1.out.size); (case aL => simp; omega); intro v7 w7 ho7 hb7 hg7 hat7; clear HC HO HB1))
    go_ret
    rw [List.nil_append] at ho7
    exact ⟨_, rfl, ho7, hb7⟩

/-! ### api_Move_22: function 22 (by hand) -/
theorem api_Move_22.any_ix (p : S31 → Bool) (l : List (S31)) : l.any p = decide (0 ≤ api_Move_26.ix p l) := by
  unfold api_Move_26.ix
  have h := List.findIdx?_isSome (xs := l) (p := p)
  rw [← h]
  cases l.findIdx? p with
  | none => rfl
  | some i => simp
set_option maxHeartbeats 2000000 in
theorem api_Move_22.callsP (p : S31 → Bool) (g : Nat) (lb : Array Value) (eg : ∀ args w, (callFunc g args).run Try.prog w = .ok (.enter g args) w) (A0 : Option Addr) (c0 : Nat) (l0 : List (S31)) (w : World) (hr0 : Kd.C k31 w A0 l0.length l0) (hc0 : l0.length ≤ c0)
    (hp : ∀ (W : World) (x : S31) (cs : List Value), (k31).K W x cs → Below w.heap.size w W → Calls Try.prog g (#[.agg cs.toArray] ++ lb) W fun e w' => e = .returned (.bool (p x)) ∧ Below W.heap.size W w') :
    Calls Try.prog 22 #[.slice A0 l0.length c0, .func (.func g) #[] lb] w fun e w' => e = .returned (.bool (l0.any p)) ∧ Below w.heap.size w w' := by
  have HC := Aside0.mk (api_Move_26.callsP p g lb eg A0 c0 l0 w hr0 hc0 hp)
  clear hp hr0
  rw [api_Move_22.any_ix]
  go_enter Try.func22, Try.ntmps22
  go_wp2_with (go_at_call 26; refine HC.out.mono ?_; rintro e w' ⟨rfl, hb'⟩)
  go_ret
  exact ⟨rfl, hb'⟩

/-! ### api_Move_24: function 24 (by hand) -/
set_option maxHeartbeats 2000000 in
theorem api_Move_24.callsR (g n c k base : Nat) (ok : Nat → Prop) (xs : List (S31)) (w : World) (hr0 : Kd.R k31 31 w base ok (.slice (some ⟨g, 0, none⟩) n c) xs) (hk : k < n) (hb : base ≤ w.heap.size) :
    Calls Try.prog 24 #[.slice (some ⟨g, 0, none⟩) n c, .int .i64 (k : Int), .int .i64 ((k : Int) + 1)] w fun e w' => e = .returned (.slice (some ⟨g, 0, none⟩) (n - 1) c) ∧ Kd.R k31 31 w' base ok (.slice (some ⟨g, 0, none⟩) (n - 1) c) (xs.eraseIdx k) ∧ w.grownBy w' (some g) := by
  have HR := Aside0.mk hr0
  obtain ⟨hnc, hcm⟩ := Hw.R_cap hr0
  unfold maxLen at hcm
  have hz0 : (0 : Int) ≤ (k : Int) := by omega
  have hz1 : (k : Int) < (n : Int) := by omega
  have hz2 : (n : Int) ≤ (c : Int) := by omega
  have hz4 : (k : Int) ≤ (c : Int) := by omega
  have hz5 : (k : Int) + 1 ≤ (n : Int) := by omega
  have hz6 : (0 : Int) ≤ (k : Int) + 1 := by omega
  have hy1 : ((n - 1 : Nat) : Int) ≤ (n : Int) := by omega
  have hy2 : (0 : Int) ≤ ((n - 1 : Nat) : Int) := by omega
  clear hr0
  have hinf : (Try.prog.info? 31).map (·.size) = some (k31).sz := by kernel_rfl
  have HI := Lib.hid hinf
  clear hinf
  have HCL : Aside0 (∀ (w7 : World) (ty : TypeId), Kd.R k31 31 w7 base ok (.slice (some ⟨g, 0, none⟩) (n - 1) c) (xs.eraseIdx k) → (Builtin.clear_ #[22] ty #[.slice (some ⟨g, (n - 1) * 2, none⟩) (n - (n - 1)) (c - (n - 1))]).run Try.prog w7 = .ok (.tuple #[]) (w7.setCells g ((n - 1) * 2) (Builtin.zeroCells (Value.cells (.agg #[(.int .i64 0), (.int .i64 0)])) (n - (n - 1))).toList)) := ⟨fun w7 ty h7 =>
    Hw.run_clear_row w7 22 31 ty (.agg #[(.int .i64 0), (.int .i64 0)]) Try.underlying22 (fun _ => by kernel_rfl) (by intro u hu; simp [Value.cells] at hu; rcases hu with hu; (repeat (first | (rcases hu with rfl | hu) | (subst hu))) <;> rfl) g ((n - 1) * 2) (n - (n - 1)) (c - (n - 1)) (by omega)
      (fun j hj => (Hw.R_room h7 ((n - 1) * 2 + j) (by have hj' : j < (n - (n - 1)) * 2 := hj; show _ < c * 2; omega)).1)
      (fun j hj => (Hw.R_room h7 ((n - 1) * 2 + j) (by have hj' : j < (n - (n - 1)) * 2 := hj; show _ < c * 2; omega)).2)⟩
  by_cases hck : c = k + 1
  · have hA : (some (⟨g, 0, none⟩ : Addr)) = if c = k + 1 then some ⟨g, 0, none⟩ else (some (⟨g, 0, none⟩ : Addr)).map (·.add ((k + 1) * (k31).sz)) := by
      rw [if_pos hck]
    have HA := Lib.hid hA
    clear hA
    have HCK := Lib.hid hck
    clear hck
    go_enter Try.func24, Try.ntmps24
    go_wp2_with (fail)
    go_region_law (refine Hw.step_delete k31 rfl base (.tmp 22) (.tmp 25) 22 31 rfl Try.underlying22 HI.out g n c k (n - (k + 1)) (c - (k + 1)) (some ⟨g, 0, none⟩) xs ok (by simp [Act.eval, Act.put]) (by simp [Act.eval, Act.put]; exact HCK.out) HA.out rfl (Kd.R_drew HR.out) hk hb ?_; intro w7 ho7 hg7)
    have hcl := fun ty => HCL.out w7 ty ho7
    have HO7 := Aside0.mk ho7
    have HG7 := Aside0.mk hg7
    clear ho7 hg7
    go_wp2
    go_ret
    obtain ⟨h8, h9⟩ := Hw.R_beyond (Builtin.zeroCells (Value.cells (.agg #[(.int .i64 0), (.int .i64 0)])) (n - (n - 1))).toList HO7.out ((n - 1) * 2) (Nat.le_refl _)
    exact ⟨rfl, by rw [← HCK.out]; exact h8, World.grownBy.trans (World.grownBy.trans (Hw.grown_drew _ _) HG7.out) h9⟩
  · have hz3 : ¬ (c : Int) = (k : Int) + 1 := by omega
    have hA : (some (⟨g, (k + 1) * 2, none⟩ : Addr)) = if c = k + 1 then some ⟨g, 0, none⟩ else (some (⟨g, 0, none⟩ : Addr)).map (·.add ((k + 1) * (k31).sz)) := by
      rw [if_neg hck]
      show some _ = some ((⟨g, 0, none⟩ : Addr).add ((k + 1) * 2))
      rw [add_plain]
    have HA := Lib.hid hA
    clear hA
    go_enter Try.func24, Try.ntmps24
    go_wp2_with (fail)
    go_region_law (refine Hw.step_delete k31 rfl base (.tmp 22) (.tmp 25) 22 31 rfl Try.underlying22 HI.out g n c k (n - (k + 1)) (c - (k + 1)) (some ⟨g, (k + 1) * 2, none⟩) xs ok (by simp [Act.eval, Act.put]) (by simp [Act.eval, Act.put]) HA.out rfl (Kd.R_drew HR.out) hk hb ?_; intro w7 ho7 hg7)
    have hcl := fun ty => HCL.out w7 ty ho7
    have HO7 := Aside0.mk ho7
    have HG7 := Aside0.mk hg7
    clear ho7 hg7
    go_wp2
    go_ret
    obtain ⟨h8, h9⟩ := Hw.R_beyond (Builtin.zeroCells (Value.cells (.agg #[(.int .i64 0), (.int .i64 0)])) (n - (n - 1))).toList HO7.out ((n - 1) * 2) (Nat.le_refl _)
    exact ⟨rfl, h8, World.grownBy.trans (World.grownBy.trans (Hw.grown_drew _ _) HG7.out) h9⟩

/-! ### move_Order: function 13 (by hand) -/
/-- The moves that wait, and what is out: n steps. -/
def move_Order.go (sp : Int) : Nat → List S31 → List S31 → List S31
  | 0, _, out => out
  | n + 1, wait, out =>
    if wait = [] then out else
      match wait.findIdx? (fun m => !(wait.any fun x => x.f1 == m.f0)) with
      | some k => move_Order.go sp n (wait.eraseIdx k) (out ++ [wait.getD k z31])
      | none => move_Order.go sp n (wait.map fun x => if x.f1 = (wait.getD 0 z31).f0 then (⟨x.f0, sp⟩ : S31) else x) (out ++ [(⟨sp, (wait.getD 0 z31).f0⟩ : S31)])
def move_Order.f (l0 : List (S31)) (a1 : Int) : Option (List (S31)) := if l0.length ≤ 1000000 then some (move_Order.go a1 (2 * l0.length + 2) (l0.filter fun m => !(m.f0 == m.f1)) []) else none
theorem move_Order.same_calls (x : S31) (cs : List Value) (W : World) (h : k31.K W x cs) : Calls Try.prog 21 (#[.agg cs.toArray] ++ #[]) W fun e w' => e = .returned (.bool (x.f0 == x.f1)) ∧ Below W.heap.size W w' := by
  obtain rfl := k31_open h
  clear h
  show Calls Try.prog 21 #[.agg #[.int .i64 x.f0, .int .i64 x.f1]] W _
  go_enter Try.func21, Try.ntmps21
  go_wp2
  go_ret
  exact ⟨rfl, below_alloc (Below.refl _ _) _⟩
theorem move_Order.busy_calls (t : Int) (B : Nat) (x : S31) (cs : List Value) (W : World) (h : k31.K W x cs) (hB : W.cell? ⟨B, 0, none⟩ = some (.int .i64 t)) (hlt : B < W.heap.size) : Calls Try.prog 23 (#[.agg cs.toArray] ++ #[.pointer (some ⟨B, 0, none⟩)]) W fun e w' => e = .returned (.bool (x.f1 == t)) ∧ Below W.heap.size W w' := by
  obtain rfl := k31_open h
  clear h
  show Calls Try.prog 23 #[.agg #[.int .i64 x.f0, .int .i64 x.f1], .pointer (some ⟨B, 0, none⟩)] W _
  go_enter Try.func23, Try.ntmps23
  go_wp2
  go_ret
  exact ⟨rfl, below_alloc (Below.refl _ _) _⟩
theorem move_Order.go_nil (sp : Int) (n : Nat) (out : List S31) : move_Order.go sp n [] out = out := by
  cases n <;> simp [move_Order.go]
theorem move_Order.go_free (sp : Int) (n k : Nat) (wait out : List S31) (hk : k < wait.length) (hf : (wait.any fun x => x.f1 == wait[k].f0) = false) (hb : ∀ j (hj : j < wait.length), j < k → (wait.any fun x => x.f1 == wait[j].f0) = true) : move_Order.go sp (n + 1) wait out = move_Order.go sp n (wait.eraseIdx k) (out ++ [wait[k]]) := by
  have hne : ¬ wait = [] := by intro e; rw [e] at hk; exact absurd hk (Nat.not_lt_zero _)
  have he : wait.findIdx? (fun m => !(wait.any fun x => x.f1 == m.f0)) = some k := by
    rw [List.findIdx?_eq_some_iff_getElem]
    exact ⟨hk, by rw [hf]; rfl, fun j hj => by rw [hb j (by omega) hj]; simp⟩
  have hg : wait.getD k z31 = wait[k] := by rw [List.getD_eq_getElem?_getD, List.getElem?_eq_getElem hk]; rfl
  simp only [move_Order.go]
  rw [if_neg hne, he]
  simp only [hg]
theorem move_Order.go_busy (sp : Int) (n : Nat) (wait out : List S31) (hne : ¬ wait = []) (hb : ∀ j (hj : j < wait.length), (wait.any fun x => x.f1 == wait[j].f0) = true) : move_Order.go sp (n + 1) wait out = move_Order.go sp n (wait.map fun x => if x.f1 = (wait.getD 0 z31).f0 then (⟨x.f0, sp⟩ : S31) else x) (out ++ [(⟨sp, (wait.getD 0 z31).f0⟩ : S31)]) := by
  have he : wait.findIdx? (fun m => !(wait.any fun x => x.f1 == m.f0)) = none := by
    rw [List.findIdx?_eq_none_iff]
    intro x hx
    obtain ⟨j, hj, rfl⟩ := List.getElem_of_mem hx
    rw [hb j hj]; rfl
  simp only [move_Order.go]
  rw [if_neg hne, he]
def move_Order.up (sp t : Int) (x : S31) : S31 := if x.f1 = t then (⟨x.f0, sp⟩ : S31) else x
def move_Order.Upd (sp t : Int) (wait : List S31) (k : Nat) (ys : List S31) : Prop := ys = (wait.take k).map (move_Order.up sp t) ++ wait.drop k
theorem move_Order.upd_len {sp t : Int} {wait ys : List S31} {k : Nat} (h : move_Order.Upd sp t wait k ys) : ys.length = wait.length := by
  rw [h]; simp; omega
theorem move_Order.upd_at {sp t : Int} {wait ys : List S31} {k : Nat} (h : move_Order.Upd sp t wait k ys) (hk : k < wait.length) : ys[k]? = some wait[k] := by
  rw [h, List.getElem?_append_right (by simp; omega)]
  simp only [List.length_map, List.length_take, List.getElem?_drop]
  rw [List.getElem?_eq_some_iff]
  exact ⟨by omega, by congr 1; omega⟩
theorem move_Order.upd_step {sp t : Int} {wait ys : List S31} {k : Nat} (h : move_Order.Upd sp t wait k ys) (hk : k < wait.length) : move_Order.Upd sp t wait (k + 1) (ys.set k (move_Order.up sp t wait[k])) := by
  unfold move_Order.Upd at h ⊢
  rw [h, List.take_add_one, List.getElem?_eq_getElem hk, List.map_append]
  rw [List.set_append_right _ _ (by simp; omega)]
  simp only [List.length_map, List.length_take, Option.toList, List.map_cons, List.map_nil, List.append_assoc, List.singleton_append]
  rw [List.drop_eq_getElem_cons hk, show k - min k wait.length = 0 by omega]
  rfl
theorem move_Order.upd_same {sp t : Int} {wait ys : List S31} {k : Nat} (h : move_Order.Upd sp t wait k ys) (hk : k < wait.length) (hs : move_Order.up sp t wait[k] = wait[k]) : move_Order.Upd sp t wait (k + 1) ys := by
  have h2 := move_Order.upd_step h hk
  have : ys.set k wait[k] = ys := by
    apply List.ext_getElem?
    intro i
    by_cases e : k = i
    · subst e
      rw [List.getElem?_set_self (by rw [move_Order.upd_len h]; exact hk), move_Order.upd_at h hk]
    · rw [List.getElem?_set_ne e]
  rwa [hs, this] at h2
theorem move_Order.upd_end {sp t : Int} {wait ys : List S31} (h : move_Order.Upd sp t wait wait.length ys) : ys = wait.map (move_Order.up sp t) := by
  rw [h]; simp
def move_Order.lenOf : Value → Nat | .slice _ n _ => n | _ => 0
set_option maxHeartbeats 4000000 in
set_option maxRecDepth 100000 in
theorem move_Order.calls (A0 : Option Addr) (c0 : Nat) (l0 : List (S31)) (a1 : Int) (r : List (S31)) (w : World) (hr0 : Kd.C k31 w A0 l0.length l0) (hc0 : l0.length ≤ c0) (h : move_Order.f l0 a1 = some r) :
    Calls Try.prog 13 #[.slice A0 l0.length c0, .int .i64 a1] w fun e w' => ∃ v0_ : Value, e = .returned (v0_) ∧ Kd.R k31 31 w' w.heap.size (fun _ => True) v0_ r ∧ Below w.heap.size w w' := by
  unfold move_Order.f at h
  by_cases hl : l0.length ≤ 1000000
  case neg => rw [if_neg hl] at h; cases h
  rw [if_pos hl] at h
  have HF := Aside0.mk (Option.some.inj h)
  clear h
  have HCl := Aside0.mk (api_Move_20.calls A0 c0 l0 l0 w hr0 hc0 (by unfold api_Move_20.f; rw [if_pos (by omega)]))
  clear hr0
  have eg1 : ∀ args w, (callFunc 21 args).run Try.prog w = .ok (.enter 21 args) w := enters_of Try.func21 (by kernel_rfl) rfl
  have eg2 : ∀ args w, (callFunc 23 args).run Try.prog w = .ok (.enter 23 args) w := enters_of Try.func23 (by kernel_rfl) rfl
  have EG1 := Lib.hid eg1
  have EG2 := Lib.hid eg2
  clear eg1 eg2
  go_enter Try.func13, Try.ntmps13
  go_wp2_with (fail)
  refine Hw.wp_scope_label 0 (fun a' w' => ∃ (fuel : Nat) (wait out : List (S31)) (vw vo : Value), a' = { tmps := #[.slice A0 l0.length c0, .int .i64 a1, undef, undef, .slice none 0 0, vw, vo, .int .i64 (2 * (l0.length : Int) + 2), a'.tmps.getD 8 undef, a'.tmps.getD 9 undef, a'.tmps.getD 10 undef, a'.tmps.getD 11 undef, a'.tmps.getD 12 undef, a'.tmps.getD 13 undef, a'.tmps.getD 14 undef, a'.tmps.getD 15 undef, a'.tmps.getD 16 undef, a'.tmps.getD 17 undef, a'.tmps.getD 18 undef, a'.tmps.getD 19 undef, a'.tmps.getD 20 undef, a'.tmps.getD 21 undef, a'.tmps.getD 22 undef, a'.tmps.getD 23 undef, a'.tmps.getD 24 undef, a'.tmps.getD 25 undef, a'.tmps.getD 26 undef, a'.tmps.getD 27 undef, a'.tmps.getD 28 undef, a'.tmps.getD 29 undef, a'.tmps.getD 30 undef, a'.tmps.getD 31 undef, a'.tmps.getD 32 undef, a'.tmps.getD 33 undef, a'.tmps.getD 34 undef, a'.tmps.getD 35 undef, a'.tmps.getD 36 undef, a'.tmps.getD 37 undef, a'.tmps.getD 38 undef, a'.tmps.getD 39 undef, a'.tmps.getD 40 undef, a'.tmps.getD 41 undef, a'.tmps.getD 42 undef, a'.tmps.getD 43 undef, a'.tmps.getD 44 undef, a'.tmps.getD 45 undef, a'.tmps.getD 46 undef, a'.tmps.getD 47 undef, a'.tmps.getD 48 undef, a'.tmps.getD 49 undef, a'.tmps.getD 50 undef, a'.tmps.getD 51 undef, a'.tmps.getD 52 undef, a'.tmps.getD 53 undef, a'.tmps.getD 54 undef, a'.tmps.getD 55 undef, a'.tmps.getD 56 undef, a'.tmps.getD 57 undef, a'.tmps.getD 58 undef, a'.tmps.getD 59 undef, a'.tmps.getD 60 undef, a'.tmps.getD 61 undef, a'.tmps.getD 62 undef, a'.tmps.getD 63 undef, a'.tmps.getD 64 undef, a'.tmps.getD 65 undef, a'.tmps.getD 66 undef, a'.tmps.getD 67 undef, a'.tmps.getD 68 undef, a'.tmps.getD 69 undef, a'.tmps.getD 70 undef, a'.tmps.getD 71 undef, a'.tmps.getD 72 undef, a'.tmps.getD 73 undef, a'.tmps.getD 74 undef, a'.tmps.getD 75 undef, a'.tmps.getD 76 undef, a'.tmps.getD 77 undef], defers := [] } ∧ Aside0 (move_Order.go a1 fuel wait out = r) ∧ Aside0 (out.length + fuel = 2 * l0.length + 2) ∧ Aside0 (wait.length ≤ l0.length) ∧ Aside0 (Kd.R k31 31 w' w.heap.size (fun k => True ∧ some k ≠ vo.ownBlock) vw wait) ∧ Aside0 (Kd.R k31 31 w' w.heap.size (fun k => True ∧ some k ≠ vw.ownBlock) vo out) ∧ Aside0 (Below w.heap.size w w')) (fun a' _ => (2 * l0.length + 2) - (move_Order.lenOf (a'.tmps.getD 6 undef))) rfl ?_ ?_
  · intro a' wr hJ
    obtain ⟨fuel, wait, out, vw, vo, ha, HGO, HFU, HWL, HW, HO, HB⟩ := hJ
    obtain ⟨u, hu⟩ : ∃ u : Nat → Value, a' = { tmps := #[.slice A0 l0.length c0, .int .i64 a1, undef, undef, .slice none 0 0, vw, vo, .int .i64 (2 * (l0.length : Int) + 2), u 8, u 9, u 10, u 11, u 12, u 13, u 14, u 15, u 16, u 17, u 18, u 19, u 20, u 21, u 22, u 23, u 24, u 25, u 26, u 27, u 28, u 29, u 30, u 31, u 32, u 33, u 34, u 35, u 36, u 37, u 38, u 39, u 40, u 41, u 42, u 43, u 44, u 45, u 46, u 47, u 48, u 49, u 50, u 51, u 52, u 53, u 54, u 55, u 56, u 57, u 58, u 59, u 60, u 61, u 62, u 63, u 64, u 65, u 66, u 67, u 68, u 69, u 70, u 71, u 72, u 73, u 74, u 75, u 76, u 77], defers := [] } := ⟨fun i => a'.tmps.getD i undef, ha⟩
    clear ha
    subst hu
    obtain ⟨Aw, cw, rfl, hwc, hCw⟩ := Kd.R_reads HW.out
    obtain ⟨Ao, co, rfl, hoc, hCo⟩ := Kd.R_reads HO.out
    have HCW := Aside0.mk hCw
    clear hCw hCo
    have HSZ := Aside0.mk HB.out.size
    have hwl : wait.length ≤ 1000000 := Nat.le_trans HWL.out hl
    have hol : out.length ≤ 2 * l0.length + 2 := by have := HFU.out; omega
    by_cases hw0 : wait.length = 0
    · obtain rfl : wait = [] := List.eq_nil_of_length_eq_zero hw0
      have HG2 : Aside0 (out = r) := ⟨by rw [← HGO.out, move_Order.go_nil]⟩
      clear HGO hw0
      go_wp2
      simp only [Exit.jump]
      go_ret
      rw [← HG2.out]
      exact ⟨_, rfl, Kd.R_mono HO.out (fun _ _ => trivial), HB.out⟩
    · have hwz : ((wait.length : Int) == 0) = false := beq_eq_false_iff_ne.2 (by omega)
      by_cases hf0 : fuel = 0
      · subst hf0
        have HG2 : Aside0 (out = r) := ⟨by rw [← HGO.out]; rfl⟩
        have hoe : ((out.length : Int) == 2 * (l0.length : Int) + 2) = true := beq_iff_eq.2 (by have := HFU.out; omega)
        clear HGO
        go_wp2
        simp only [Exit.jump]
        go_ret
        rw [← HG2.out]
        exact ⟨_, rfl, Kd.R_mono HO.out (fun _ _ => trivial), HB.out⟩
      · obtain ⟨fuel, rfl⟩ : ∃ q, fuel = q + 1 := ⟨fuel - 1, by omega⟩
        have hoe : ((out.length : Int) == 2 * (l0.length : Int) + 2) = false := beq_eq_false_iff_ne.2 (by have := HFU.out; omega)
        go_wp2_with (fail)
        go_loopg [5, 6, 31] wait.length (fun gg v5 v6 v31 wq => ∃ k : Nat, k ≤ wait.length ∧ wait.length - k ≤ gg ∧ v5 = .slice Aw wait.length cw ∧ v6 = .slice Ao out.length co ∧ v31 = .int .i64 (k : Int) ∧ Aside0 (∀ j (hj : j < wait.length), j < k → (wait.any fun x => x.f1 == wait[j].f0) = true) ∧ Aside0 (Kd.R k31 31 wq w.heap.size (fun k => True ∧ some k ≠ (Value.slice Ao out.length co).ownBlock) (.slice Aw wait.length cw) wait) ∧ Aside0 (Kd.R k31 31 wq w.heap.size (fun k => True ∧ some k ≠ (Value.slice Aw wait.length cw).ownBlock) (.slice Ao out.length co) out) ∧ Aside0 (Below w.heap.size w wq))
        case atStart => exact ⟨0, by omega, by omega, rfl, rfl, rfl, ⟨fun j _ h => absurd h (Nat.not_lt_zero j)⟩, HW, HO, HB⟩
        case round =>
          clear HW HO HB HCW HSZ
          obtain ⟨k, hkn, hgg, rfl, rfl, rfl, HBU, HW, HO, HB⟩ := hrel
          by_cases hlt : k < wait.length
          · have hltz : (k : Int) < (wait.length : Int) := by omega
            have h0z : (0 : Int) ≤ (k : Int) := by omega
            have hcC := (Kd.R_reads' HW.out).2.2
            obtain ⟨gw, capw, he, _, _, _⟩ := Kd.R_form HW.out (by omega)
            injection he with ha _ hcc
            subst ha
            clear hcc
            obtain ⟨ad, hA0, hx_0, hx_1⟩ := at_T31 hcC (k : Int) h0z hltz
            cases hA0
            simp only [add_plain, Int.toNat_natCast] at hx_0 hx_1
            have hrd : rd_T31 wait (k : Int) = wait[k] := by
              unfold rd_T31
              rw [List.getD_eq_getElem?_getD, Int.toNat_natCast, List.getElem?_eq_getElem hlt]
              rfl
            rw [hrd] at hx_0 hx_1
            clear hrd
            obtain ⟨m, hm⟩ : ∃ m, wait[k] = m := ⟨_, rfl⟩
            rw [hm] at hx_0 hx_1
            have HM := Lib.hid hm
            clear hm
            have HCC := Aside0.mk (Kd.C_below hcC (below_alloc (Below.refl wr.heap.size wr) (.cells #[.int .i64 m.f0, .int .i64 m.f1] 31)))
            clear hcC
            have hcall := api_Move_22.callsP (fun x => x.f1 == m.f0) 23 #[.pointer (some ⟨wr.heap.size, 0, none⟩)] EG2.out _ cw wait _ HCC.out hwc (fun W x cs hk hb => move_Order.busy_calls m.f0 wr.heap.size x cs W hk ((hb.cell (p := ⟨wr.heap.size, 0, none⟩) (by simp)).trans (by simp)) (Nat.lt_of_lt_of_le (by simp) hb.size))
            cases hq : (wait.any fun x => x.f1 == m.f0) with
            | true =>
              rw [hq] at hcall
              have HQ := Lib.hid hq
              have HCA := Aside0.mk hcall
              clear hq hcall HCC
              go_wp2_with (go_at_call 22; refine HCA.out.mono ?_; rintro e w3 ⟨rfl, hb3⟩; have HB3 := Aside0.mk hb3; clear hb3)
              go_roundg (wait.length - (k + 1))
              case measure => omega
              case rel =>
                refine ⟨k + 1, by omega, by omega, rfl, rfl, by go_num, ⟨fun j hj h => ?_⟩, ⟨Kd.R_below (Kd.R_alloc HW.out _) HB3.out⟩, ⟨Kd.R_below (Kd.R_alloc HO.out _) HB3.out⟩, ⟨below_step (below_alloc HB.out _) HB3.out⟩⟩
                by_cases e : j = k
                · subst e
                  rw [HM.out]; exact HQ.out
                · exact HBU.out j hj (by omega)
            | false =>
              rw [hq] at hcall
              have HQ := Lib.hid hq
              have HCA := Aside0.mk hcall
              clear hq hcall HCC
              go_wp2_with (first | (go_at_call 22; refine HCA.out.mono ?_; rintro e w3 ⟨rfl, hb3⟩; have HB3 := Aside0.mk hb3; clear hb3; have hz_0 : w3.cell? ⟨wr.heap.size, 0, none⟩ = some (.int .i64 m.f0) := (HB3.out.cell (p := ⟨wr.heap.size, 0, none⟩) (by simp)).trans (by simp); have hz_1 : w3.cell? ⟨wr.heap.size, 1, none⟩ = some (.int .i64 m.f1) := (HB3.out.cell (p := ⟨wr.heap.size, 1, none⟩) (by simp)).trans (by simp); have HW3 := Aside0.mk (Kd.R_below (Kd.R_alloc HW.out _) HB3.out); have HO3 := Aside0.mk (Kd.R_below (Kd.R_alloc HO.out _) HB3.out); have HB03 := Aside0.mk (below_step (below_alloc HB.out _) HB3.out)) | ((with_reducible refine gate_builtin (b := .append) (xs := #[.tmp 40, .tmp 42]) rfl ?_); at_builtin; go_loud (refine Kd.R_append k31 (w0 := w) w.heap.size rfl (.tmp 40) (.tmp 42) 22 31 (.agg #[(.int .i64 0), (.int .i64 0)]) 16 rfl Try.underlying22 info31 rfl (by decide) (by omega) (.slice Ao out.length co) out m [.int .i64 m.f0, .int .i64 m.f1] (fun k => True ∧ some k ≠ (Value.slice (some ⟨gw, 0, none⟩) wait.length cw).ownBlock) (fun _ => False) rfl rfl ?aP (fun _ hk => hk.elim) ?aF ?aO ?aB ?aS ?aL ?_); (case aP => exact k31_mkM _ _ _ m); (case aB => exact HB03.out); (case aF => exact fun q hq => ⟨trivial, by have := Kd.R_lt HW3.out gw rfl; simp [Value.ownBlock]; omega⟩); (case aO => exact HO3.out); (case aS => exact HB03.out.size); (case aL => omega); intro v4 w4 ho4 hb4 hg4 hat4; obtain ⟨A4, c4, rfl, hc4, _⟩ := Kd.R_reads ho4; have HO4 := Aside0.mk ho4; have HB4 := Aside0.mk hb4; have HW4 := Aside0.mk (Kd.R_after HW3.out hg4 hat4); clear ho4 hb4 hg4 hat4) | (go_at_call 24; refine (api_Move_24.callsR gw wait.length cw k w.heap.size _ wait _ HW4.out hlt HB4.out.size).mono ?_; rintro e w5 ⟨rfl, h5, hg5⟩; have HW5 := Aside0.mk h5; have HO5 := Aside0.mk (Kd.R_grown HO4.out hg5 (fun q hq => hq.2)); clear h5))
              go_step3
              refine ⟨rfl, ⟨fuel, wait.eraseIdx k, out ++ [m], .slice (some ⟨gw, 0, none⟩) (wait.length - 1) cw, .slice A4 (out.length + 1) c4, rfl, ⟨?_⟩, ⟨?_⟩, ⟨?_⟩, ⟨?_⟩, ⟨?_⟩, ⟨?_⟩⟩, ?_⟩
              · have := move_Order.go_free a1 fuel k wait out hlt (by rw [HM.out]; exact HQ.out) HBU.out
                rw [HM.out] at this
                rw [← this]
                exact HGO.out
              · have := HFU.out
                simp only [List.length_append, List.length_singleton]
                omega
              · have := HWL.out
                rw [List.length_eraseIdx]
                split <;> omega
              · rw [show out.length + 1 = (out ++ [m]).length by simp]
                exact HW5.out
              · rw [show out.length + 1 = (out ++ [m]).length by simp]
                exact HO5.out
              · exact HB4.out.grown hg5 HB4.out.size (fun q hq => by injection hq with hq; subst hq; exact Kd.R_base HW4.out _ (by simp [Value.ownBlock]))
              · have := HFU.out
                show 2 * l0.length + 2 - (out.length + 1) < 2 * l0.length + 2 - out.length
                omega
          · have hltz : ¬ (k : Int) < (wait.length : Int) := by omega
            have HBA := Aside0.mk (fun j (hj : j < wait.length) => HBU.out j hj (by omega))
            clear HBU
            obtain ⟨gw, capw, he, _, _, _⟩ := Kd.R_form HW.out (by omega)
            injection he with ha _ hcc
            subst ha
            clear hcc
            have hwp : (0 : Int) < (wait.length : Int) := by omega
            have hcC := (Kd.R_reads' HW.out).2.2
            obtain ⟨ad, hA0, hx_0, hx_1⟩ := at_T31 hcC 0 (Int.le_refl 0) hwp
            cases hA0
            simp only [add_plain] at hx_0 hx_1
            obtain ⟨t, ht⟩ : ∃ t, (rd_T31 wait 0).f0 = t := ⟨_, rfl⟩
            rw [ht] at hx_0
            have HT := Lib.hid ht
            have hy_0 : wr.cell? ⟨gw, 0, none⟩ = some (.int .i64 t) := hx_0
            clear ht hcC hx_0 hx_1
            go_wp2_with ((with_reducible refine gate_builtin (b := .append) (xs := #[.tmp 54, .tmp 58]) rfl ?_); at_builtin; go_loud (refine Kd.R_append k31 (w0 := w) w.heap.size rfl (.tmp 54) (.tmp 58) 22 31 (.agg #[(.int .i64 0), (.int .i64 0)]) 16 rfl Try.underlying22 info31 rfl (by decide) (by omega) (.slice Ao out.length co) out (⟨a1, t⟩ : S31) [.int .i64 a1, .int .i64 t] (fun k => True ∧ some k ≠ (Value.slice (some ⟨gw, 0, none⟩) wait.length cw).ownBlock) (fun _ => False) rfl rfl ?aP (fun _ hk => hk.elim) ?aF ?aO ?aB ?aS ?aL ?_); (case aP => exact k31_mkM _ _ _ (⟨a1, t⟩ : S31)); (case aB => exact HB.out); (case aF => exact fun q hq => ⟨trivial, by have := Kd.R_lt HW.out gw rfl; simp [Value.ownBlock]; omega⟩); (case aO => exact HO.out); (case aS => exact HB.out.size); (case aL => omega); intro v4 w4 ho4 hb4 hg4 hat4; obtain ⟨A4, c4, rfl, hc4, _⟩ := Kd.R_reads ho4; have HO4 := Aside0.mk ho4; have HB4 := Aside0.mk hb4; have HW4 := Aside0.mk (Kd.R_after HW.out hg4 hat4); clear ho4 hb4 hg4 hat4)
            go_loopg [62] wait.length (fun gg v62 wq => ∃ (k2 : Nat) (ys : List S31), k2 ≤ wait.length ∧ wait.length - k2 ≤ gg ∧ v62 = .int .i64 (k2 : Int) ∧ Aside0 (move_Order.Upd a1 t wait k2 ys) ∧ Aside0 (Kd.R k31 31 wq w.heap.size (fun k => True ∧ some k ≠ (Value.slice A4 (out.length + 1) c4).ownBlock) (.slice (some ⟨gw, 0, none⟩) wait.length cw) ys) ∧ Aside0 (Kd.R k31 31 wq w.heap.size (fun k => True ∧ some k ≠ (Value.slice (some ⟨gw, 0, none⟩) wait.length cw).ownBlock) (.slice A4 (out.length + 1) c4) (out ++ [(⟨a1, t⟩ : S31)])) ∧ Aside0 (Below w.heap.size w wq))
            case atStart =>
              have hle : (out ++ [(⟨a1, t⟩ : S31)]).length = out.length + 1 := by simp
              rw [hle] at HW4 HO4
              exact ⟨0, wait, by omega, by omega, rfl, ⟨by simp [move_Order.Upd]⟩, HW4, HO4, HB4⟩
            case round =>
              clear HW HO HB HW4 HO4 HB4
              obtain ⟨k2, ys, hkn2, hgg2, rfl, HU, HW, HO, HB⟩ := hrel
              by_cases hlt2 : k2 < wait.length
              · have hltz2 : (k2 : Int) < (wait.length : Int) := by omega
                have h0z2 : (0 : Int) ≤ (k2 : Int) := by omega
                obtain ⟨ce, hcl, hM, hcc, hfr⟩ := Kd.R_elem HW.out z31 (k2 : Int) h0z2 hltz2
                have hxe : ys.getD (k2 : Int).toNat z31 = wait[k2] := by
                  rw [List.getD_eq_getElem?_getD, Int.toNat_natCast, move_Order.upd_at HU.out hlt2]
                  rfl
                rw [hxe] at hM
                clear hxe
                obtain ⟨m, hm⟩ : ∃ m, wait[k2] = m := ⟨_, rfl⟩
                rw [hm] at hM
                have HM := Lib.hid hm
                clear hm
                obtain rfl := k31_openM hM
                have HS2 := Aside0.mk (Kd.R_seg HW.out (k2 : Int) h0z2 hltz2 (seg := [.int .i64 a1]) (j := 1) hcl hcc (by show 2 ≤ 2; omega) (x' := (⟨m.f0, a1⟩ : S31)) (k31_mkM wr w.heap.size (fun _ => False) (⟨m.f0, a1⟩ : S31)) (fun _ h => h.elim))
                have hy_1 : wr.cell? ⟨gw, k2 * 2 + 1, none⟩ = some (.int .i64 m.f1) := hcc 1 _ rfl
                have hv_1 : wr.frozen? ⟨gw, k2 * 2 + 1, none⟩ = false := hfr 1
                clear hcl hM hcc hfr
                by_cases hq : m.f1 = t
                · have hqb : (m.f1 == t) = true := beq_iff_eq.2 hq
                  have HQ := Lib.hid hq
                  clear hq
                  go_wp2
                  go_roundg (wait.length - (k2 + 1))
                  case measure => omega
                  case rel =>
                    refine ⟨k2 + 1, ys.set k2 ⟨m.f0, a1⟩, by omega, by omega, by go_num, ⟨?_⟩, ⟨HS2.out.1⟩, ⟨?_⟩, ⟨?_⟩⟩
                    · have := move_Order.upd_step HU.out hlt2
                      rw [HM.out] at this
                      unfold move_Order.up at this
                      rw [if_pos HQ.out] at this
                      exact this
                    · have hS : wr.grownBy _ (some gw) := HS2.out.2
                      exact Kd.R_grown HO.out hS (fun q hq => hq.2)
                    · have hS : wr.grownBy _ (some gw) := HS2.out.2
                      exact HB.out.grown hS HB.out.size (fun q hq => by injection hq with hq; subst hq; exact Kd.R_base HW.out _ (by simp [Value.ownBlock]))
                · have hqb : (m.f1 == t) = false := beq_eq_false_iff_ne.2 hq
                  have HQ := Lib.hid hq
                  clear hq
                  go_wp2
                  go_roundg (wait.length - (k2 + 1))
                  case measure => omega
                  case rel =>
                    refine ⟨k2 + 1, ys, by omega, by omega, by go_num, ⟨?_⟩, HW, HO, HB⟩
                    refine move_Order.upd_same HU.out hlt2 ?_
                    rw [HM.out]
                    unfold move_Order.up
                    exact if_neg HQ.out
              · have hltz2 : ¬ (k2 : Int) < (wait.length : Int) := by omega
                obtain rfl : k2 = wait.length := by omega
                have HE := Lib.hid (move_Order.upd_end HU.out)
                clear HU
                go_wp2_with (fail)
                go_step3
                refine ⟨rfl, ⟨fuel, wait.map (move_Order.up a1 t), out ++ [(⟨a1, t⟩ : S31)], .slice (some ⟨gw, 0, none⟩) wait.length cw, .slice A4 (out.length + 1) c4, rfl, ⟨?_⟩, ⟨?_⟩, ⟨?_⟩, ⟨?_⟩, ⟨?_⟩, ⟨?_⟩⟩, ?_⟩
                · have := move_Order.go_busy a1 fuel wait out (by intro e; rw [e] at hw0; exact hw0 rfl) HBA.out
                  have ht : (wait.getD 0 z31).f0 = t := HT.out
                  rw [ht] at this
                  refine this.symm.trans HGO.out
                · have := HFU.out
                  simp only [List.length_append, List.length_singleton]
                  omega
                · rw [List.length_map]; exact HWL.out
                · rw [← HE.out]; exact HW.out
                · exact HO.out
                · exact HB.out
                · have := HFU.out
                  show 2 * l0.length + 2 - (out.length + 1) < 2 * l0.length + 2 - out.length
                  omega
  · intro hrest
    have HREST := Aside0.mk hrest
    clear hrest
    go_wp2_with (first | (go_at_call 20; refine HCl.out.mono ?_; rintro e w1 ⟨v1, rfl, h1, hb1⟩; have H1 := Aside0.mk h1; have HB1 := Aside0.mk hb1; clear h1 hb1) | (go_at_call 19; refine (api_Move_19.callsR (fun x => x.f0 == x.f1) 21 #[] EG1.out w.heap.size (fun _ => True) _ l0 _ H1.out HB1.out.size (fun W x cs hk => move_Order.same_calls x cs W hk)).mono ?_; rintro e w2 ⟨v2, rfl, h2, hb2⟩; have H2 := Aside0.mk h2; have HB2 := Aside0.mk hb2; clear h2 hb2))
    rename_i hK
    refine wp_label ?_
    refine hK _ _ (HREST.out _ _ ⟨2 * l0.length + 2, (l0.filter fun m => !(m.f0 == m.f1)), [], v2, .slice none 0 0, rfl, HF, ⟨by simp⟩, ⟨List.length_filter_le _ _⟩, ⟨Kd.R_mono H2.out (fun k _ => ⟨trivial, by simp [Value.ownBlock]⟩)⟩, ⟨Kd.R_nil _ _ _ _ _⟩, ⟨HB1.out.trans HB2.out⟩⟩)

/-! ### cubbyref15_Get: function 15 -/
def cubbyref15_Get.l0 : Nat → List (S50) → Int → Int → Option (Int)
  | 0, _, _, _ => none
  | k + 1, x0, x1, x5 => if x5 ≥ 0 then (if 0 ≤ x5 then (if x5 < (x0.length : Int) then (if ((rd_T50 x0 x5).f0) = x1 then (some ((rd_T50 x0 x5).f1)) else (cubbyref15_Get.l0 k x0 x1 (wrap64 (x5 - 1)))) else (none)) else (none)) else (some x1)
def cubbyref15_Get.f (k : Nat) (l0 : List (S50)) (a1 : Int) : Option (Int) := cubbyref15_Get.l0 k l0 a1 (wrap64 ((l0.length : Int) - 1))
theorem cubbyref15_Get.mono_l : ∀ k, (∀ y0 y1 y2, LeO (cubbyref15_Get.l0 k y0 y1 y2) (cubbyref15_Get.l0 (k + 1) y0 y1 y2))
  | 0 => fun _ _ _ r h => by simp [cubbyref15_Get.l0] at h
  | k + 1 => by
    have ih0 := cubbyref15_Get.mono_l k
    · intro y0 y1 y2
      unfold cubbyref15_Get.l0
      repeat' first
      | (with_reducible exact ih0 _ _ _)
      | (with_reducible exact LeO.refl _)
      | (with_reducible exact LeO.none _)
      | (with_reducible refine LeO.ite ?_ ?_)
      | (with_reducible refine LeO.bind ?_ (fun _ => ?_))
      | exact ih0 _ _ _
      | exact LeO.none _
      | refine LeO.ite ?_ ?_
      | refine LeO.bind ?_ (fun _ => ?_)
theorem cubbyref15_Get.mono : ∀ a0 a1 k, LeO (cubbyref15_Get.f k a0 a1) (cubbyref15_Get.f (k + 1) a0 a1) := by
  intro a0 a1 k
  have ih0 := cubbyref15_Get.mono_l k
  unfold cubbyref15_Get.f
  repeat' first
      | (with_reducible exact ih0 _ _ _)
      | (with_reducible exact LeO.refl _)
      | (with_reducible exact LeO.none _)
      | (with_reducible refine LeO.ite ?_ ?_)
      | (with_reducible refine LeO.bind ?_ (fun _ => ?_))
      | exact ih0 _ _ _
      | exact LeO.none _
      | refine LeO.ite ?_ ?_
      | refine LeO.bind ?_ (fun _ => ?_)
set_option maxHeartbeats 8000000 in
set_option maxRecDepth 100000 in
theorem cubbyref15_Get.calls (k : Nat) (A0 : Option Addr) (c0 : Nat) (l0 : List (S50)) (a1 : Int) (r : Int) (w : World) (hr0 : Kd.C k50 w A0 l0.length l0) (hc0 : l0.length ≤ c0) (h : cubbyref15_Get.f k l0 a1 = some r) :
    Calls Try.prog 15 #[.slice A0 l0.length c0, .int .i64 a1] w fun e w' => e = .returned (.int .i64 r) ∧ Drawn0 w w' := by
  have HR0 := Aside0.mk hr0
  have HC0 := Aside0.mk hc0
  clear hr0 hc0
  have H : (cubbyref15_Get.l0 k l0 a1 (wrap64 ((l0.length : Int) - 1))) = some r := h
  clear h
  have H' := Aside0.mk H
  clear H
  go_enter Try.func15, Try.ntmps15
  go_wp2
  go_loopg [5] k (fun kq v5 w' => ∃ (x5_1 : Int), v5 = .int .i64 x5_1 ∧ Aside0 (cubbyref15_Get.l0 kq l0 a1 x5_1 = some r) ∧ Aside0 (kq ≤ k) ∧ Drawn0 w w')
  case atStart => exact ⟨(wrap64 ((l0.length : Int) - 1)), (by first | rfl | (simp; done) | (simp [*]; done)), H', ⟨Nat.le_refl _⟩, by repeat (first | exact Drawn0.refl _ | apply Drawn0.step)⟩
  case round =>
    clear H'
    try clear c1
    try clear p2
    obtain ⟨x5_1, rfl, HA, HK1, ⟨m1, rfl⟩⟩ := hrel
    cases gk with
    | zero => exact absurd HA.out (by simp [cubbyref15_Get.l0])
    | succ k1 =>
      have H := HA.out
      clear HA
      simp only [cubbyref15_Get.l0] at H
      by_cases c3 : x5_1 ≥ 0
      · rw [if_pos c3] at H
        have c3b0 : decide (0 ≤ x5_1) = true := decide_eq_true c3
        clear c3
        by_cases c4 : 0 ≤ x5_1
        · rw [if_pos c4] at H
          have c4b0 : decide (0 ≤ x5_1) = true := decide_eq_true c4
          clear c4
          by_cases c5 : x5_1 < (l0.length : Int)
          · rw [if_pos c5] at H
            have c5b0 : decide (x5_1 < (l0.length : Int)) = true := decide_eq_true c5
            clear c5
            by_cases c6 : ((rd_T50 l0 x5_1).f0) = a1
            · rw [if_pos c6] at H
              have c6b0 : (((rd_T50 l0 x5_1).f0) == a1) = true := beq_iff_eq.mpr c6
              have c6b1 : (((rd_T50 l0 x5_1).f0) != a1) = false := bne_eq_false_iff_eq.mpr c6
              clear c6
              obtain rfl := Option.some.inj H
              have p101 : 0 ≤ (x5_1 : Int) := of_decide_eq_true (by first | (with_reducible assumption) | assumption)
              have q101 : x5_1 < (l0.length : Int) := of_decide_eq_true (by first | (with_reducible assumption) | assumption)
              obtain ⟨ad101, e101, hx101_0, hx101_1⟩ := at_T50 HR0.out x5_1 p101 q101
              cases e101
              replace p101 := eq_true p101
              replace q101 := eq_true q101
              have p102 : 0 ≤ (x5_1 : Int) := of_decide_eq_true (by first | (with_reducible assumption) | assumption)
              have q102 : x5_1 < (l0.length : Int) := of_decide_eq_true (by first | (with_reducible assumption) | assumption)
              obtain ⟨ad102, e102, hx102_0, hx102_1⟩ := at_T50 HR0.out x5_1 p102 q102
              obtain rfl : ad101 = ad102 := (by injection e102)
              replace p102 := eq_true p102
              replace q102 := eq_true q102
              go_wp2
              go_ret
              exact ⟨by first | rfl | (simp; done) | (simp [*]; done), by repeat (first | exact Drawn0.refl _ | apply Drawn0.step)⟩
            · rw [if_neg c6] at H
              have c6b0 : (((rd_T50 l0 x5_1).f0) == a1) = false := beq_eq_false_iff_ne.mpr c6
              have c6b1 : (((rd_T50 l0 x5_1).f0) != a1) = true := bne_iff_ne.mpr c6
              have H' := Aside0.mk H
              clear H
              have p101 : 0 ≤ (x5_1 : Int) := of_decide_eq_true (by first | (with_reducible assumption) | assumption)
              have q101 : x5_1 < (l0.length : Int) := of_decide_eq_true (by first | (with_reducible assumption) | assumption)
              obtain ⟨ad101, e101, hx101_0, hx101_1⟩ := at_T50 HR0.out x5_1 p101 q101
              cases e101
              replace p101 := eq_true p101
              replace q101 := eq_true q101
              go_wp2
              go_roundg k1
              case measure => have := HK1.out; omega
              case rel => exact ⟨(wrap64 (x5_1 - 1)), (by first | rfl | (simp; done) | (simp [*]; done)), H', ⟨by have := HK1.out; omega⟩, by repeat (first | exact Drawn0.refl _ | apply Drawn0.step)⟩
          · rw [if_neg c5] at H
            exact absurd H (by simp)
        · rw [if_neg c4] at H
          exact absurd H (by simp)
      · rw [if_neg c3] at H
        have c3b0 : decide (0 ≤ x5_1) = false := decide_eq_false c3
        clear c3
        obtain rfl := Option.some.inj H
        go_wp2
        go_ret
        exact ⟨by first | rfl | (simp; done) | (simp [*]; done), by repeat (first | exact Drawn0.refl _ | apply Drawn0.step)⟩

end Go.Proofs.Ytjofkmeaofpbfaa.PMoveSpread
