-- By a program of this session (wip/tools/mkprint.py), for this claim.
import Derived.Test.YtbikejfjfliamaaPDiskFailsx0
import Derived.Test.YtbikejfjfliamaaPDiskFailsx1
namespace Go.Proofs.Ytbikejfjfliamaa.PDiskFails
open Go.RowKit Go.Proofs.YtbikejfjfliamaaW.PrintWords Go.Proofs.YtbikejfjfliamaaW.PrintLast Go.Proofs.YtbikejfjfliamaaW.PrintMore
attribute [local go_sem] max2_int min2_int max_two min_two max_three min_three max_four min_four   -- for this text's walks alone
set_option linter.unusedVariables false
set_option linter.unusedSimpArgs false

/-! ### disk_Disk_Barrier: function 15 (by hand) -/
set_option maxHeartbeats 4000000 in
set_option maxRecDepth 100000 in
theorem disk_Disk_Barrier.calls (s : Dk.S) (base g mb n : Nat) (ov : Value) (w : World) (h : Dk.D w base g s mb n ov) (hin : Dk.In s) :
    Calls Try.prog 15 #[.pointer (some ⟨g, 0, none⟩)] w fun e w' => e = .returned (.int .i64 (Dk.barr s).2) ∧ (∃ ov', Dk.D w' base g (Dk.barr s).1 mb n ov') ∧ Dk.B base w w' := by
  have m2 : w.cell? ⟨g, 258, none⟩ = some (.bool s.off) := h.at 2
  have m6 : w.cell? ⟨g, 262, none⟩ = some (.int .i64 s.many) := h.at 6
  have f6 := h.fz 262
  have HH := Aside0.mk h
  have HIN := Aside0.mk hin
  have HDIE := Aside0.mk (fun s base g mb n ov w => disk_Disk_die.calls s base g mb n ov w)
  have HSET := Aside0.mk (fun s base g mb n ov w => disk_Disk_settle.calls s base g mb n ov w)
  have HDUE := Aside0.mk (fun b k cs t n w => disk_due.calls b k cs t n w)
  have n1 : 0 ≤ s.many := hin.2.2.2.1.1
  have n2 : s.many ≤ 90000 := hin.2.2.2.1.2
  have u1 := hin.1
  have u2 := hin.2.1
  have HL : Aside0 (s.l.length ≤ 100000) := ⟨by have := hin.2.2.2.2; omega⟩
  have HKP := Aside0.mk hin.2.2.1
  clear h hin
  have HLT : Aside0 ((Dk.tick s).l.length ≤ 100000) := ⟨HL.out⟩
  have HKT : Aside0 (0 ≤ (Dk.tick s).keep ∧ (Dk.tick s).keep < 18446744073709551616) := ⟨HKP.out⟩
  cases ho : s.off
  · rw [ho] at m2
    by_cases hc : s.cut = 1
    · have hc1 : decide (s.cut = 1) = true := decide_eq_true hc
      have hb : Dk.barr s = (Dk.dieS (Dk.tick s), 33) := by unfold Dk.barr; rw [ho, if_neg (by decide), if_pos hc]
      rw [hb]
      clear hb
      go_enter Try.func15, Try.ntmps15
      go_wp2_with (fail)
      obtain ⟨hp1, hp2⟩ := Dk.D.put (s' := { s with many := s.many + 1 }) HH.out 262 (.int .i64 (s.many + 1)) (by rw [Dk.arr_set s mb _ 6 _ HH.out.hl]; rfl) HH.out.hl rfl
      have HP := Aside0.mk hp1
      have HB := Aside0.mk hp2
      clear hp1 hp2 m6 f6 m2
      generalize w.setCell ⟨g, 262, none⟩ (.int .i64 (s.many + 1)) = W5 at HP HB ⊢
      have HP := Aside0.mk HP.out.drew
      have HO := Aside0.mk HP.out.ob
      have HK1 := Aside0.mk (Dk.arr259 { s with many := s.many + 1 } mb ov HH.out.hl)
      have HK2 := Aside0.mk (Dk.arr260 { s with many := s.many + 1 } mb ov (.int .i64 (Dk.dn s.cut)) HH.out.hl)
      have hn1 : -9223372036854775808 ≤ s.cut ∧ s.cut < 9223372036854775808 := by omega
      have hn2 : -9223372036854775808 ≤ s.fail ∧ s.fail < 9223372036854775808 := by omega
      go_region_held3 (fun _ => True) (trivial) ((first | (go_at_call 27; (with_reducible refine (HDUE.out g 259 _ _ _ _ HO.out HK1.out hn1).mono ?_); rintro e w3 ⟨rfl, ho3, hg3⟩; have HO3 := Aside0.mk ho3; have HG3 := Aside0.mk hg3; clear ho3 hg3) | (go_at_call 27; (with_reducible refine (HDUE.out g 260 _ _ _ _ HO3.out HK2.out hn2).mono ?_); rintro e w4 ⟨rfl, ho4, hg4⟩; have HO4 := Aside0.mk ho4; have HG4 := Aside0.mk hg4; clear ho4 hg4)))
      have HT := Aside0.mk (Dk.D.ticked HP.out HO3.out HG3.out HO4.out HG4.out)
      clear HO HK1 HK2 HP HO3 HO4 HG3 HG4
      go_wp2_with (go_at_call 29; (with_reducible refine (HDIE.out _ base g mb n _ _ HT.out.1 HLT.out HKT.out).mono ?_); rintro e w5 ⟨rfl, hd5, hb5⟩; have HD5 := Aside0.mk hd5; have HB5 := Aside0.mk hb5; clear hd5 hb5)
      go_ret
      exact ⟨rfl, ⟨_, HD5.out⟩, (HB.out.trans (Dk.B.drew (Dk.B.refl _ _))).trans (HT.out.2.trans HB5.out)⟩
    · have hc1 : decide (s.cut = 1) = false := decide_eq_false hc
      by_cases hf : s.fail = 1
      · have hf1 : decide (s.fail = 1) = true := decide_eq_true hf
        have hb : Dk.barr s = (Dk.tick s, 32) := by unfold Dk.barr; rw [ho, if_neg (by decide), if_neg hc, if_pos hf]
        rw [hb]
        clear hb
        go_enter Try.func15, Try.ntmps15
        go_wp2_with (fail)
        obtain ⟨hp1, hp2⟩ := Dk.D.put (s' := { s with many := s.many + 1 }) HH.out 262 (.int .i64 (s.many + 1)) (by rw [Dk.arr_set s mb _ 6 _ HH.out.hl]; rfl) HH.out.hl rfl
        have HP := Aside0.mk hp1
        have HB := Aside0.mk hp2
        clear hp1 hp2 m6 f6 m2
        generalize w.setCell ⟨g, 262, none⟩ (.int .i64 (s.many + 1)) = W5 at HP HB ⊢
        have HP := Aside0.mk HP.out.drew
        have HO := Aside0.mk HP.out.ob
        have HK1 := Aside0.mk (Dk.arr259 { s with many := s.many + 1 } mb ov HH.out.hl)
        have HK2 := Aside0.mk (Dk.arr260 { s with many := s.many + 1 } mb ov (.int .i64 (Dk.dn s.cut)) HH.out.hl)
        have hn1 : -9223372036854775808 ≤ s.cut ∧ s.cut < 9223372036854775808 := by omega
        have hn2 : -9223372036854775808 ≤ s.fail ∧ s.fail < 9223372036854775808 := by omega
        go_region_held3 (fun _ => True) (trivial) ((first | (go_at_call 27; (with_reducible refine (HDUE.out g 259 _ _ _ _ HO.out HK1.out hn1).mono ?_); rintro e w3 ⟨rfl, ho3, hg3⟩; have HO3 := Aside0.mk ho3; have HG3 := Aside0.mk hg3; clear ho3 hg3) | (go_at_call 27; (with_reducible refine (HDUE.out g 260 _ _ _ _ HO3.out HK2.out hn2).mono ?_); rintro e w4 ⟨rfl, ho4, hg4⟩; have HO4 := Aside0.mk ho4; have HG4 := Aside0.mk hg4; clear ho4 hg4)))
        have HT := Aside0.mk (Dk.D.ticked HP.out HO3.out HG3.out HO4.out HG4.out)
        clear HO HK1 HK2 HP HO3 HO4 HG3 HG4
        go_wp2_with (fail)
        go_ret
        exact ⟨rfl, ⟨_, HT.out.1⟩, (HB.out.trans (Dk.B.drew (Dk.B.refl _ _))).trans HT.out.2⟩
      · have hf1 : decide (s.fail = 1) = false := decide_eq_false hf
        have hb : Dk.barr s = ({ Dk.tick s with l := [] }, 0) := by unfold Dk.barr; rw [ho, if_neg (by decide), if_neg hc, if_neg hf]
        rw [hb]
        clear hb
        go_enter Try.func15, Try.ntmps15
        go_wp2_with (fail)
        obtain ⟨hp1, hp2⟩ := Dk.D.put (s' := { s with many := s.many + 1 }) HH.out 262 (.int .i64 (s.many + 1)) (by rw [Dk.arr_set s mb _ 6 _ HH.out.hl]; rfl) HH.out.hl rfl
        have HP := Aside0.mk hp1
        have HB := Aside0.mk hp2
        clear hp1 hp2 m6 f6 m2
        generalize w.setCell ⟨g, 262, none⟩ (.int .i64 (s.many + 1)) = W5 at HP HB ⊢
        have HP := Aside0.mk HP.out.drew
        have HO := Aside0.mk HP.out.ob
        have HK1 := Aside0.mk (Dk.arr259 { s with many := s.many + 1 } mb ov HH.out.hl)
        have HK2 := Aside0.mk (Dk.arr260 { s with many := s.many + 1 } mb ov (.int .i64 (Dk.dn s.cut)) HH.out.hl)
        have hn1 : -9223372036854775808 ≤ s.cut ∧ s.cut < 9223372036854775808 := by omega
        have hn2 : -9223372036854775808 ≤ s.fail ∧ s.fail < 9223372036854775808 := by omega
        go_region_held3 (fun _ => True) (trivial) ((first | (go_at_call 27; (with_reducible refine (HDUE.out g 259 _ _ _ _ HO.out HK1.out hn1).mono ?_); rintro e w3 ⟨rfl, ho3, hg3⟩; have HO3 := Aside0.mk ho3; have HG3 := Aside0.mk hg3; clear ho3 hg3) | (go_at_call 27; (with_reducible refine (HDUE.out g 260 _ _ _ _ HO3.out HK2.out hn2).mono ?_); rintro e w4 ⟨rfl, ho4, hg4⟩; have HO4 := Aside0.mk ho4; have HG4 := Aside0.mk hg4; clear ho4 hg4)))
        have HT := Aside0.mk (Dk.D.ticked HP.out HO3.out HG3.out HO4.out HG4.out)
        clear HO HK1 HK2 HP HO3 HO4 HG3 HG4
        go_wp2_with (go_at_call 33; (with_reducible refine (HSET.out _ base g mb n _ _ HT.out.1 HLT.out).mono ?_); rintro e w5 ⟨rfl, hd5, hb5⟩; have HD5 := Aside0.mk hd5; have HB5 := Aside0.mk hb5; clear hd5 hb5)
        go_ret
        exact ⟨rfl, ⟨_, HD5.out⟩, (HB.out.trans (Dk.B.drew (Dk.B.refl _ _))).trans (HT.out.2.trans HB5.out)⟩
  · rw [ho] at m2
    have hb : Dk.barr s = (s, 33) := by unfold Dk.barr; rw [ho, if_pos rfl]
    rw [hb]
    clear hb
    go_enter Try.func15, Try.ntmps15
    go_wp2_with (fail)
    go_ret
    exact ⟨rfl, ⟨_, HH.out⟩, Dk.B.refl _ _⟩

/-! ### disk_Disk_Calls: function 18 (by hand) -/
set_option maxHeartbeats 4000000 in
set_option maxRecDepth 100000 in
theorem disk_Disk_Calls.calls (s : Dk.S) (base g mb n : Nat) (ov : Value) (w : World) (h : Dk.D w base g s mb n ov) :
    Calls Try.prog 18 #[.pointer (some ⟨g, 0, none⟩)] w fun e w' => e = .returned (.int .i64 s.many) ∧ w' = w := by
  have m2 : w.cell? ⟨g, 262, none⟩ = some (.int .i64 s.many) := h.at 6
  clear h
  go_enter Try.func18, Try.ntmps18
  go_wp2
  go_ret
  exact ⟨rfl, rfl⟩

/-! ### disk_Disk_Fail: function 20 (by hand) -/
set_option maxHeartbeats 4000000 in
set_option maxRecDepth 100000 in
theorem disk_Disk_Fail.calls (s : Dk.S) (base g mb n : Nat) (ov : Value) (i : Int) (w : World) (h : Dk.D w base g s mb n ov) :
    Calls Try.prog 20 #[.pointer (some ⟨g, 0, none⟩), .int .i64 i] w fun e w' => e = .returned (.tuple #[]) ∧ Dk.D w' base g (Dk.failS s i) mb n ov ∧ Dk.B base w w' := by
  have m3 : w.cell? ⟨g, 260, none⟩ = some (.int .i64 s.fail) := h.at 4
  have f3 := h.fz 260
  have HH := Aside0.mk h
  clear h
  by_cases hi : i < 0
  · have em : mx i 0 = 0 := by unfold mx; split <;> omega
    go_enter Try.func20, Try.ntmps20
    go_wp2
    go_end0
    rw [← em]
    obtain ⟨h1, b1⟩ := Dk.D.put (s' := Dk.failS s i) HH.out 260 (.int .i64 (mx i 0)) (by rw [Dk.arr_set s mb _ 4 _ HH.out.hl]; rfl) HH.out.hl rfl
    exact ⟨rfl, h1, b1⟩
  · have em : mx i 0 = i := by unfold mx; split <;> omega
    go_enter Try.func20, Try.ntmps20
    go_wp2
    go_end0
    have e2 := em.symm
    obtain ⟨h1, b1⟩ := Dk.D.put (s' := Dk.failS s i) HH.out 260 (.int .i64 (i)) (by rw [Dk.arr_set s mb _ 4 _ HH.out.hl]; unfold Dk.failS; rw [em]; rfl) HH.out.hl rfl
    exact ⟨rfl, h1, b1⟩

/-! ### disk_Disk_Read: function 21 (by hand) -/
set_option maxHeartbeats 4000000 in
set_option maxRecDepth 100000 in
theorem disk_Disk_Read.calls (s : Dk.S) (base g mb n : Nat) (ov : Value) (i : Int) (w : World) (h : Dk.D w base g s mb n ov) :
    Calls Try.prog 21 #[.pointer (some ⟨g, 0, none⟩), .int .i64 i] w fun e w' => e = .returned (.tuple #[.string (Dk.read s i).1, .int .i64 (Dk.read s i).2]) ∧ w' = w := by
  have m2 : w.cell? ⟨g, 258, none⟩ = some (.bool s.off) := h.at 2
  unfold Dk.read
  cases ho : s.off
  · rw [ho] at m2
    rw [if_neg (by decide)]
    by_cases c1 : i < 0
    · rw [if_pos (.inl c1)]
      have c2 : decide (i < 0) = true := decide_eq_true c1
      clear h
      go_enter Try.func21, Try.ntmps21
      go_wp2
      go_ret2
      exact ⟨rfl, rfl⟩
    · have c2 : decide (i < 0) = false := decide_eq_false c1
      by_cases c3 : 256 ≤ i
      · rw [if_pos (.inr c3)]
        clear h
        go_enter Try.func21, Try.ntmps21
        go_wp2
        go_ret2
        exact ⟨rfl, rfl⟩
      · rw [if_neg (fun q => q.elim c1 c3)]
        obtain ⟨x, rfl⟩ : ∃ x : Nat, i = (x : Int) := ⟨i.toNat, by omega⟩
        have x1 : (0 : Int) ≤ (x : Int) := by omega
        have x2 : (x : Int) < 256 := by omega
        have m6 := h.sec x (by omega)
        rw [Int.toNat_natCast]
        clear h
        go_enter Try.func21, Try.ntmps21
        go_wp2
        go_ret2
        exact ⟨rfl, rfl⟩
  · rw [ho] at m2
    rw [if_pos rfl]
    clear h
    go_enter Try.func21, Try.ntmps21
    go_wp2
    go_ret2
    exact ⟨rfl, rfl⟩

/-! ### cubbylaw03_DiskFails: function 4 (by hand) -/
theorem cubbylaw03_DiskFails.dNew (w : World) (base : Nat) (hb : base ≤ w.heap.size) : Calls Try.prog 9 #[] w fun e w' => ∃ g, e = .returned (.pointer (some ⟨g, 0, none⟩)) ∧ Tw.D w' base g 0 Dk.S0 ∧ Below w.heap.size w w' := by
  refine (disk_New.calls w base hb).mono ?_
  rintro e w' ⟨g, mb, he, hd, hb⟩
  exact ⟨g, he, ⟨mb, 0, _, Nat.le_refl _, hd⟩, hb⟩
theorem cubbylaw03_DiskFails.dWrite (s : Dk.S) (base g n : Nat) (i : Int) (x : ByteArray) (w : World) (h : Tw.D w base g n s) (hin : Dk.In s) (hn : n ≤ 1000000) :
    Calls Try.prog 13 #[.pointer (some ⟨g, 0, none⟩), .int .i64 i, .string x] w fun e w' => e = .returned (.int .i64 (Dk.writ s i x).2) ∧ Tw.D w' base g (n + 1) ((Dk.writ s i x).1) ∧ Dk.B base w w' := by
  obtain ⟨mb, n', ov, hn', h⟩ := h
  refine (disk_Disk_Write.calls s base g mb n' ov i x w h hin (by omega)).mono ?_
  rintro e w' ⟨he, ⟨ov', n2, h2, hd⟩, hb⟩
  exact ⟨he, ⟨mb, n2, ov', by omega, hd⟩, hb⟩
theorem cubbylaw03_DiskFails.dFail (s : Dk.S) (base g n : Nat) (i : Int) (w : World) (h : Tw.D w base g n s) :
    Calls Try.prog 20 #[.pointer (some ⟨g, 0, none⟩), .int .i64 i] w fun e w' => e = .returned (.tuple #[]) ∧ Tw.D w' base g (n + 0) (Dk.failS s i) ∧ Dk.B base w w' := by
  obtain ⟨mb, n', ov, hn', h⟩ := h
  refine (disk_Disk_Fail.calls s base g mb n' ov i w h).mono ?_
  rintro e w' ⟨he, hd, hb⟩
  exact ⟨he, ⟨mb, n', ov, by omega, hd⟩, hb⟩
theorem cubbylaw03_DiskFails.dBarrier (s : Dk.S) (base g n : Nat) (w : World) (h : Tw.D w base g n s) (hin : Dk.In s) :
    Calls Try.prog 15 #[.pointer (some ⟨g, 0, none⟩)] w fun e w' => e = .returned (.int .i64 (Dk.barr s).2) ∧ Tw.D w' base g (n + 0) ((Dk.barr s).1) ∧ Dk.B base w w' := by
  obtain ⟨mb, n', ov, hn', h⟩ := h
  refine (disk_Disk_Barrier.calls s base g mb n' ov w h hin).mono ?_
  rintro e w' ⟨he, ⟨ov', hd⟩, hb⟩
  exact ⟨he, ⟨mb, n', ov', by omega, hd⟩, hb⟩
theorem cubbylaw03_DiskFails.dRead (s : Dk.S) (base g n : Nat) (i : Int) (w : World) (h : Tw.D w base g n s) :
    Calls Try.prog 21 #[.pointer (some ⟨g, 0, none⟩), .int .i64 i] w fun e w' => e = .returned (.tuple #[.string (Dk.read s i).1, .int .i64 (Dk.read s i).2]) ∧ w' = w := by
  obtain ⟨mb, n', ov, hn', h⟩ := h
  exact disk_Disk_Read.calls s base g mb n' ov i w h
theorem cubbylaw03_DiskFails.dCalls (s : Dk.S) (base g n : Nat) (w : World) (h : Tw.D w base g n s) :
    Calls Try.prog 18 #[.pointer (some ⟨g, 0, none⟩)] w fun e w' => e = .returned (.int .i64 s.many) ∧ w' = w := by
  obtain ⟨mb, n', ov, hn', h⟩ := h
  exact disk_Disk_Calls.calls s base g mb n' ov w h
def cubbylaw03_DiskFails.Fit (a b : ByteArray) : Prop := a.size + b.size < 9223372036854775808
instance (a b : ByteArray) : Decidable (cubbylaw03_DiskFails.Fit a b) := by unfold cubbylaw03_DiskFails.Fit; infer_instance
def cubbylaw03_DiskFails.f (l0 l1 : ByteArray) (l2 : Int) : Option Bool := if cubbylaw03_DiskFails.Fit l0 l1 then some true else none
theorem cubbylaw03_DiskFails.three (n : Int) : (n.tmod 3 = -2 ∨ n.tmod 3 = -1 ∨ n.tmod 3 = 0 ∨ n.tmod 3 = 1 ∨ n.tmod 3 = 2) := by
  have h1 : n.tmod 3 < 3 := Int.tmod_lt_of_pos n (by decide)
  have h2 : -3 < n.tmod 3 := Int.lt_tmod_of_pos n (by decide)
  omega
set_option maxHeartbeats 16000000 in
set_option maxRecDepth 100000 in
theorem cubbylaw03_DiskFails.main (a b : ByteArray) (n k e0 f0 g0 : Int) (x y : ByteArray) (w : World) (ha : a.size ≤ 128) (hb : b.size ≤ 128) (hF : Pl.F a b k e0 f0 g0 x y) (hn : n.tmod 3 = k - 1 ∨ n.tmod 3 = k - 4) (hc : (k = 1 ∧ e0 = 32 ∧ f0 = 0 ∧ g0 = 0 ∧ x = a ∧ y = b) ∨ (k = 2 ∧ e0 = 0 ∧ f0 = 32 ∧ g0 = 0 ∧ x = b ∧ y = b) ∨ (k = 3 ∧ e0 = 0 ∧ f0 = 0 ∧ g0 = 32 ∧ x = b ∧ y = ⟨#[]⟩)) :
    Calls Try.prog 4 #[.string a, .string b, .int .i64 n] w fun e w' => e = .returned (.bool true) ∧ Below w.heap.size w w' := by
  have hk : 1 ≤ k ∧ k ≤ 3 := by omega
  have I1 := Tw.writ_in _ Tw.S0_in (by decide) 5 a
  have H1 := Aside0.mk (fun base g W h => cubbylaw03_DiskFails.dWrite Dk.S0 base g 0 5 a W h Tw.S0_in (by decide))
  have H2 := Aside0.mk (fun base g W h => cubbylaw03_DiskFails.dFail (Dk.writ Dk.S0 5 a).1 base g 1 k W h)
  have I2 := Tw.fail_in _ I1.1 k (by omega)
  have M2 : (Dk.failS (Dk.writ Dk.S0 5 a).1 k).many ≤ 1 := I1.2
  obtain ⟨S2, hS2⟩ : ∃ S, (Dk.failS (Dk.writ Dk.S0 5 a).1 k) = S := ⟨_, rfl⟩
  obtain ⟨h1, h3, h4, h5, r5, r6, hm⟩ := hF
  rw [hS2] at h3 h4 h5 r5 r6 hm I2 H2 M2
  rw [h1] at H1
  clear hS2 h1
  have I3 := Tw.writ_in _ I2 (by omega) 5 b
  have H3 := Aside0.mk (fun base g W h => cubbylaw03_DiskFails.dWrite S2 base g 1 5 b W h I2 (by decide))
  rw [h3] at H3
  have H4 := Aside0.mk (fun base g W h => cubbylaw03_DiskFails.dBarrier (Dk.writ S2 5 b).1 base g 2 W h I3.1)
  have I4 := Tw.barr_in _ I3.1 (by omega)
  rw [h4] at H4
  have H5 := Aside0.mk (fun base g W h => cubbylaw03_DiskFails.dWrite (Dk.barr (Dk.writ S2 5 b).1).1 base g 2 6 b W h I4.1 (by decide))
  rw [h5] at H5
  obtain ⟨S5, hS5⟩ : ∃ S, (Dk.writ (Dk.barr (Dk.writ S2 5 b).1).1 6 b).1 = S := ⟨_, rfl⟩
  rw [hS5] at H5 r5 r6 hm
  have H6 := Aside0.mk (fun base g W h => cubbylaw03_DiskFails.dRead S5 base g 3 5 W h)
  have H7 := Aside0.mk (fun base g W h => cubbylaw03_DiskFails.dRead S5 base g 3 6 W h)
  have H8 := Aside0.mk (fun base g W h => cubbylaw03_DiskFails.dCalls S5 base g 3 W h)
  rw [r5] at H6
  rw [r6] at H7
  rw [hm] at H8
  clear h3 h4 h5 r5 r6 hm hS5 I1 I2 I3 I4 M2 hk
  have na : ¬ ((128 : Int) < (a.size : Int)) := by omega
  have nb : ¬ ((128 : Int) < (b.size : Int)) := by omega
  have w1 : wrap64 ((-2 : Int) + 3) = 1 := by decide +kernel
  rcases hc with ⟨rfl, rfl, rfl, rfl, rfl, rfl⟩ | ⟨rfl, rfl, rfl, rfl, rfl, rfl⟩ | ⟨rfl, rfl, rfl, rfl, rfl, rfl⟩ <;> rcases hn with hn | hn
  all_goals
    go_enter Try.func4, Try.ntmps4
    go_wp2_with (first
      | (go_at_call 9; (with_reducible refine (cubbylaw03_DiskFails.dNew _ w.heap.size (Nat.le_refl _)).mono ?_); rintro e w2 ⟨gd, rfl, hd2, hb2⟩; have HD := Aside0.mk hd2; have HB := Aside0.mk hb2; clear hd2 hb2)
      | (go_at_call 13; first
          | ((with_reducible refine (H1.out w.heap.size gd _ HD.out).mono ?_); rintro e w3 ⟨rfl, hd3, hb3⟩)
          | ((with_reducible refine (H3.out w.heap.size gd _ HD.out).mono ?_); rintro e w3 ⟨rfl, hd3, hb3⟩)
          | ((with_reducible refine (H5.out w.heap.size gd _ HD.out).mono ?_); rintro e w3 ⟨rfl, hd3, hb3⟩)
         have HD := Aside0.mk hd3
         have HB := Aside0.mk (HB.out.trans hb3.b)
         clear hd3 hb3)
      | (go_at_call 20; (with_reducible refine (H2.out w.heap.size gd _ HD.out).mono ?_); rintro e w3 ⟨rfl, hd3, hb3⟩; have HD := Aside0.mk hd3; have HB := Aside0.mk (HB.out.trans hb3.b); clear hd3 hb3)
      | (go_at_call 15; (with_reducible refine (H4.out w.heap.size gd _ HD.out).mono ?_); rintro e w3 ⟨rfl, hd3, hb3⟩; have HD := Aside0.mk hd3; have HB := Aside0.mk (HB.out.trans hb3.b); clear hd3 hb3)
      | (go_at_call 21; (with_reducible (first | refine (H6.out w.heap.size gd _ HD.out).mono ?_ | refine (H7.out w.heap.size gd _ HD.out).mono ?_)); rintro e w3 ⟨rfl, rfl⟩)
      | (go_at_call 18; (with_reducible refine (H8.out w.heap.size gd _ HD.out).mono ?_); rintro e w3 ⟨rfl, rfl⟩))
    go_ret
    exact ⟨by first | rfl | simp, HB.out⟩
set_option maxHeartbeats 16000000 in
set_option maxRecDepth 100000 in
theorem cubbylaw03_DiskFails.big (a b : ByteArray) (n : Int) (w : World) (h : 128 < a.size ∨ 128 < b.size) (hs : a.size + b.size < 9223372036854775808) :
    Calls Try.prog 4 #[.string a, .string b, .int .i64 n] w fun e w' => e = .returned (.bool true) ∧ Below w.heap.size w w' := by
  have hz : (Dk.writ Dk.S0 0 (a ++ b)).2 = 31 := by
    have e : 128 < a.size + b.size := by omega
    simp [Dk.writ, Dk.S0, e, -List.reduceReplicate]
  have H1 := Aside0.mk (fun base g W h => cubbylaw03_DiskFails.dWrite Dk.S0 base g 0 0 (a ++ b) W h Tw.S0_in (by decide))
  rw [hz] at H1
  clear hz
  have na : ¬ (9223372036854775807 < (a ++ b).size) := by rw [ByteArray.size_append]; omega
  have nb := eq_false na
  have nc : ¬ (9223372036854775807 < a.size + b.size) := by omega
  have nd := eq_false nc
  by_cases ha : 128 < a.size
  · have ha' : (128 : Int) < (a.size : Int) := by omega
    clear h hs
    go_enter Try.func4, Try.ntmps4
    go_wp2_with (first
      | (go_at_call 9; (with_reducible refine (cubbylaw03_DiskFails.dNew _ w.heap.size (Nat.le_refl _)).mono ?_); rintro e w2 ⟨gd, rfl, hd2, hb2⟩; have HD := Aside0.mk hd2; have HB := Aside0.mk hb2; clear hd2 hb2)
      | (go_at_call 13; (with_reducible refine (H1.out w.heap.size gd _ HD.out).mono ?_); rintro e w3 ⟨rfl, hd3, hb3⟩; have HB := Aside0.mk (HB.out.trans hb3.b); clear hd3 hb3))
    go_ret
    exact ⟨by first | rfl | simp, HB.out⟩
  · have ha' : ¬ ((128 : Int) < (a.size : Int)) := by omega
    have hb' : ((128 : Int) < (b.size : Int)) := by omega
    clear h hs
    go_enter Try.func4, Try.ntmps4
    go_wp2_with (first
      | (go_at_call 9; (with_reducible refine (cubbylaw03_DiskFails.dNew _ w.heap.size (Nat.le_refl _)).mono ?_); rintro e w2 ⟨gd, rfl, hd2, hb2⟩; have HD := Aside0.mk hd2; have HB := Aside0.mk hb2; clear hd2 hb2)
      | (go_at_call 13; (with_reducible refine (H1.out w.heap.size gd _ HD.out).mono ?_); rintro e w3 ⟨rfl, hd3, hb3⟩; have HB := Aside0.mk (HB.out.trans hb3.b); clear hd3 hb3))
    go_ret
    exact ⟨by first | rfl | simp, HB.out⟩
theorem cubbylaw03_DiskFails.calls (l0 l1 : ByteArray) (l2 : Int) (r : Bool) (w : World) (h : cubbylaw03_DiskFails.f l0 l1 l2 = some r) :
    Calls Try.prog 4 #[.string l0, .string l1, .int .i64 l2] w fun e w' => e = .returned (.bool r) ∧ Below w.heap.size w w' := by
  unfold cubbylaw03_DiskFails.f at h
  by_cases hl : cubbylaw03_DiskFails.Fit l0 l1
  case neg => rw [if_neg hl] at h; cases h
  rw [if_pos hl] at h
  obtain rfl := Option.some.inj h
  unfold cubbylaw03_DiskFails.Fit at hl
  clear h
  by_cases hs : 128 < l0.size ∨ 128 < l1.size
  · exact cubbylaw03_DiskFails.big l0 l1 l2 w hs hl
  · have h0 : l0.size ≤ 128 := by omega
    have h1 : l1.size ≤ 128 := by omega
    obtain ⟨f1, f2, f3⟩ := Pl.fails l0 l1 h0 h1
    rcases cubbylaw03_DiskFails.three l2 with e | e | e | e | e
    · exact cubbylaw03_DiskFails.main l0 l1 l2 _ _ _ _ _ _ w h0 h1 f2 (.inr (by omega)) (.inr (.inl ⟨rfl, rfl, rfl, rfl, rfl, rfl⟩))
    · exact cubbylaw03_DiskFails.main l0 l1 l2 _ _ _ _ _ _ w h0 h1 f3 (.inr (by omega)) (.inr (.inr ⟨rfl, rfl, rfl, rfl, rfl, rfl⟩))
    · exact cubbylaw03_DiskFails.main l0 l1 l2 _ _ _ _ _ _ w h0 h1 f1 (.inl (by omega)) (.inl ⟨rfl, rfl, rfl, rfl, rfl, rfl⟩)
    · exact cubbylaw03_DiskFails.main l0 l1 l2 _ _ _ _ _ _ w h0 h1 f2 (.inl (by omega)) (.inr (.inl ⟨rfl, rfl, rfl, rfl, rfl, rfl⟩))
    · exact cubbylaw03_DiskFails.main l0 l1 l2 _ _ _ _ _ _ w h0 h1 f3 (.inl (by omega)) (.inr (.inr ⟨rfl, rfl, rfl, rfl, rfl, rfl⟩))

/-- THE ONE PURE STATEMENT of cubbylaw03_DiskFails: yours. -/
def cubbylaw03_DiskFails.Pure : Prop := ∀ (a0 : ByteArray) (a1 : ByteArray) (a2 : Int), a0.size ≤ 140737488351232 → a1.size ≤ 140737488351232 → (Lit.int .i64 a2).wf = true → cubbylaw03_DiskFails.f a0 a1 a2 = some true
theorem cubbylaw03_DiskFails.walk (P : cubbylaw03_DiskFails.Pure) (a0 : ByteArray) (a1 : ByteArray) (a2 : Int) (w : World) (o0 : a0.size ≤ 140737488351232) (o1 : a1.size ≤ 140737488351232) (o2 : (Lit.int .i64 a2).wf = true) :
    Calls Try.prog 4 #[.string a0, .string a1, .int .i64 a2] w fun e w' => e = .returned (.bool true) ∧ Below w.heap.size w w' := by
  have h := P a0 a1 a2 o0 o1 o2
  refine (cubbylaw03_DiskFails.calls a0 a1 a2 true w h).mono ?_
  rintro e w' ⟨rfl, hd⟩
  exact ⟨rfl, hd⟩

end Go.Proofs.Ytbikejfjfliamaa.PDiskFails
