-- By a program of this session (wip/tools/mkprint.py), for this claim.
import Derived.Test.YtbikejfjfliamaaPDiskScriptx0
import Derived.Test.YtbikejfjfliamaaPDiskScriptx1
import Derived.Test.YtbikejfjfliamaaPDiskScriptx2
import Derived.Test.YtbikejfjfliamaaPDiskScriptx3
namespace Go.Proofs.Ytbikejfjfliamaa.PDiskScript
open Go.RowKit Go.Proofs.YtbikejfjfliamaaW.PrintWords Go.Proofs.YtbikejfjfliamaaW.PrintLast Go.Proofs.YtbikejfjfliamaaW.PrintMore
attribute [local go_sem] max2_int min2_int max_two min_two max_three min_three max_four min_four   -- for this text's walks alone
set_option linter.unusedVariables false
set_option linter.unusedSimpArgs false

/-! ### cubbyref03_Disk_Read: function 34 (by hand) -/
set_option maxHeartbeats 4000000 in
set_option maxRecDepth 100000 in
theorem cubbyref03_Disk_Read.calls (s : Dk.S) (base g : Nat) (iv lv : Value) (i : Int) (w : World) (h : Rf.D w base g s iv lv) :
    Calls Try.prog 34 #[.pointer (some ⟨g, 0, none⟩), .int .i64 i] w fun e w' => e = .returned (.tuple #[.string (Dk.read s i).1, .int .i64 (Dk.read s i).2]) ∧ w' = w := by
  have m2 : w.cell? ⟨g, 2, none⟩ = some (.bool s.off) := h.at 2
  unfold Dk.read
  cases ho : s.off
  · rw [ho] at m2
    rw [if_neg (by decide)]
    by_cases c1 : i < 0
    · rw [if_pos (.inl c1)]
      have c2 : decide (i < 0) = true := decide_eq_true c1
      clear h
      go_enter Try.func34, Try.ntmps34
      go_wp2
      go_ret2
      exact ⟨rfl, rfl⟩
    · have c2 : decide (i < 0) = false := decide_eq_false c1
      by_cases c3 : 256 ≤ i
      · rw [if_pos (.inr c3)]
        clear h
        go_enter Try.func34, Try.ntmps34
        go_wp2
        go_ret2
        exact ⟨rfl, rfl⟩
      · rw [if_neg (fun q => q.elim c1 c3)]
        obtain ⟨x, rfl⟩ : ∃ x : Nat, i = (x : Int) := ⟨i.toNat, by omega⟩
        have x1 : (0 : Int) ≤ (x : Int) := by omega
        have x2 : (x : Int) < 256 := by omega
        obtain ⟨b, c, rfl, _, _, _, hc⟩ := h.form
        have m0 : w.cell? ⟨g, 0, none⟩ = some (.slice (some ⟨b, 0, none⟩) 256 c) := h.at 0
        have m6 := (hc x (by omega)).1
        rw [Int.toNat_natCast]
        clear h hc
        go_enter Try.func34, Try.ntmps34
        go_wp2
        go_ret2
        exact ⟨rfl, rfl⟩
  · rw [ho] at m2
    rw [if_pos rfl]
    clear h
    go_enter Try.func34, Try.ntmps34
    go_wp2
    go_ret2
    exact ⟨rfl, rfl⟩

/-! ### cubbyref03_Disk_Fail: function 35 (by hand) -/
set_option maxHeartbeats 4000000 in
set_option maxRecDepth 100000 in
theorem cubbyref03_Disk_Fail.calls (s : Dk.S) (base g : Nat) (iv lv : Value) (i : Int) (w : World) (h : Rf.D w base g s iv lv) :
    Calls Try.prog 35 #[.pointer (some ⟨g, 0, none⟩), .int .i64 i] w fun e w' => e = .returned (.tuple #[]) ∧ Rf.D w' base g (Dk.failS s i) iv lv ∧ Rf.B base w w' := by
  have m3 : w.cell? ⟨g, 5, none⟩ = some (.int .i64 s.fail) := h.at 5
  have f3 := h.fz 5
  have HH := Aside0.mk h
  clear h
  have fin : ∀ m : Int, mx i 0 = m → Rf.D (w.setCell ⟨g, 5, none⟩ (.int .i64 m)) base g (Dk.failS s i) iv lv ∧ Rf.B base w (w.setCell ⟨g, 5, none⟩ (.int .i64 m)) := by
    rintro m rfl
    exact Rf.D.put (s' := Dk.failS s i) HH.out 5 (.int .i64 (mx i 0)) rfl rfl rfl
  have FIN := Aside0.mk fin
  clear fin
  by_cases hi : i < 0
  · go_enter Try.func35, Try.ntmps35
    go_wp2
    go_end0
    exact ⟨rfl, FIN.out 0 (by unfold mx; split <;> omega)⟩
  · go_enter Try.func35, Try.ntmps35
    go_wp2
    go_end0
    exact ⟨rfl, FIN.out i (by unfold mx; split <;> omega)⟩

/-! ### cubbyref03_Disk_Dead: function 36 (by hand) -/
set_option maxHeartbeats 4000000 in
set_option maxRecDepth 100000 in
theorem cubbyref03_Disk_Dead.calls (s : Dk.S) (base g : Nat) (iv lv : Value) (w : World) (h : Rf.D w base g s iv lv) :
    Calls Try.prog 36 #[.pointer (some ⟨g, 0, none⟩)] w fun e w' => e = .returned (.bool s.off) ∧ w' = w := by
  have m2 : w.cell? ⟨g, 2, none⟩ = some (.bool s.off) := h.at 2
  clear h
  go_enter Try.func36, Try.ntmps36
  go_wp2
  go_ret
  exact ⟨rfl, rfl⟩

/-! ### cubbylaw03_step: function 24 (by hand) -/
theorem cubbylaw03_step.dWrite (s : Dk.S) (base g n : Nat) (i : Int) (x : ByteArray) (w : World) (h : Tw.D w base g n s) (hin : Dk.In s) (hn : n ≤ 1000000) :
    Calls Try.prog 13 #[.pointer (some ⟨g, 0, none⟩), .int .i64 i, .string x] w fun e w' => e = .returned (.int .i64 (Dk.writ s i x).2) ∧ Tw.D w' base g (n + 1) ((Dk.writ s i x).1) ∧ Dk.B base w w' := by
  obtain ⟨mb, n', ov, hn', h⟩ := h
  refine (disk_Disk_Write.calls s base g mb n' ov i x w h hin (by omega)).mono ?_
  rintro e w' ⟨he, ⟨ov', n2, h2, hd⟩, hb⟩
  exact ⟨he, ⟨mb, n2, ov', by omega, hd⟩, hb⟩
theorem cubbylaw03_step.dBarrier (s : Dk.S) (base g n : Nat) (w : World) (h : Tw.D w base g n s) (hin : Dk.In s) :
    Calls Try.prog 15 #[.pointer (some ⟨g, 0, none⟩)] w fun e w' => e = .returned (.int .i64 (Dk.barr s).2) ∧ Tw.D w' base g (n + 0) ((Dk.barr s).1) ∧ Dk.B base w w' := by
  obtain ⟨mb, n', ov, hn', h⟩ := h
  refine (disk_Disk_Barrier.calls s base g mb n' ov w h hin).mono ?_
  rintro e w' ⟨he, ⟨ov', hd⟩, hb⟩
  exact ⟨he, ⟨mb, n', ov', by omega, hd⟩, hb⟩
theorem cubbylaw03_step.dCut (s : Dk.S) (base g n : Nat) (i k : Int) (w : World) (h : Tw.D w base g n s) :
    Calls Try.prog 11 #[.pointer (some ⟨g, 0, none⟩), .int .i64 i, .int .u64 k] w fun e w' => e = .returned (.tuple #[]) ∧ Tw.D w' base g (n + 0) (Dk.cutS s i k) ∧ Dk.B base w w' := by
  obtain ⟨mb, n', ov, hn', h⟩ := h
  refine (disk_Disk_Cut.calls s base g mb n' ov i k w h).mono ?_
  rintro e w' ⟨he, hd, hb⟩
  exact ⟨he, ⟨mb, n', ov, by omega, hd⟩, hb⟩
theorem cubbylaw03_step.dFail (s : Dk.S) (base g n : Nat) (i : Int) (w : World) (h : Tw.D w base g n s) :
    Calls Try.prog 20 #[.pointer (some ⟨g, 0, none⟩), .int .i64 i] w fun e w' => e = .returned (.tuple #[]) ∧ Tw.D w' base g (n + 0) (Dk.failS s i) ∧ Dk.B base w w' := by
  obtain ⟨mb, n', ov, hn', h⟩ := h
  refine (disk_Disk_Fail.calls s base g mb n' ov i w h).mono ?_
  rintro e w' ⟨he, hd, hb⟩
  exact ⟨he, ⟨mb, n', ov, by omega, hd⟩, hb⟩
theorem cubbylaw03_step.dPower (s : Dk.S) (base g n : Nat) (w : World) (h : Tw.D w base g n s) :
    Calls Try.prog 22 #[.pointer (some ⟨g, 0, none⟩)] w fun e w' => e = .returned (.tuple #[]) ∧ Tw.D w' base g (n + 0) (Dk.powS s) ∧ Dk.B base w w' := by
  obtain ⟨mb, n', ov, hn', h⟩ := h
  refine (disk_Disk_Power.calls s base g mb n' ov w h).mono ?_
  rintro e w' ⟨he, hd, hb⟩
  exact ⟨he, ⟨mb, n', ov, by omega, hd⟩, hb⟩
theorem cubbylaw03_step.dDead (s : Dk.S) (base g n : Nat) (w : World) (h : Tw.D w base g n s) :
    Calls Try.prog 17 #[.pointer (some ⟨g, 0, none⟩)] w fun e w' => e = .returned (.bool s.off) ∧ w' = w := by
  obtain ⟨mb, n', ov, hn', h⟩ := h
  exact disk_Disk_Dead.calls s base g mb n' ov w h
theorem cubbylaw03_step.dCalls (s : Dk.S) (base g n : Nat) (w : World) (h : Tw.D w base g n s) :
    Calls Try.prog 18 #[.pointer (some ⟨g, 0, none⟩)] w fun e w' => e = .returned (.int .i64 s.many) ∧ w' = w := by
  obtain ⟨mb, n', ov, hn', h⟩ := h
  exact disk_Disk_Calls.calls s base g mb n' ov w h
theorem cubbylaw03_step.dRead (s : Dk.S) (base g n : Nat) (i : Int) (w : World) (h : Tw.D w base g n s) :
    Calls Try.prog 21 #[.pointer (some ⟨g, 0, none⟩), .int .i64 i] w fun e w' => e = .returned (.tuple #[.string (Dk.read s i).1, .int .i64 (Dk.read s i).2]) ∧ w' = w := by
  obtain ⟨mb, n', ov, hn', h⟩ := h
  exact disk_Disk_Read.calls s base g mb n' ov i w h
theorem cubbylaw03_step.dNew (w : World) (base : Nat) (hb : base ≤ w.heap.size) : Calls Try.prog 9 #[] w fun e w' => ∃ g, e = .returned (.pointer (some ⟨g, 0, none⟩)) ∧ Tw.D w' base g 0 Dk.S0 ∧ Below w.heap.size w w' := by
  refine (disk_New.calls w base hb).mono ?_
  rintro e w' ⟨g, mb, he, hd, hb⟩
  exact ⟨g, he, ⟨mb, 0, _, Nat.le_refl _, hd⟩, hb⟩
theorem cubbylaw03_step.rWrite (s : Dk.S) (base g : Nat) (i : Int) (x : ByteArray) (w : World) (h : Tw.R w base g s) (hin : Dk.In s) :
    Calls Try.prog 14 #[.pointer (some ⟨g, 0, none⟩), .int .i64 i, .string x] w fun e w' => e = .returned (.int .i64 (Dk.writ s i x).2) ∧ Tw.R w' base g ((Dk.writ s i x).1) ∧ Rf.B base w w' := by
  obtain ⟨iv, lv, h⟩ := h
  refine (cubbyref03_Disk_Write.calls s base g iv lv i x w h hin).mono ?_
  rintro e w' ⟨he, ⟨lv', hd⟩, hb⟩
  exact ⟨he, ⟨iv, lv', hd⟩, hb⟩
theorem cubbylaw03_step.rBarrier (s : Dk.S) (base g : Nat) (w : World) (h : Tw.R w base g s) (hin : Dk.In s) :
    Calls Try.prog 16 #[.pointer (some ⟨g, 0, none⟩)] w fun e w' => e = .returned (.int .i64 (Dk.barr s).2) ∧ Tw.R w' base g ((Dk.barr s).1) ∧ Rf.B base w w' := by
  obtain ⟨iv, lv, h⟩ := h
  refine (cubbyref03_Disk_Barrier.calls s base g iv lv w h hin).mono ?_
  rintro e w' ⟨he, ⟨lv', hd⟩, hb⟩
  exact ⟨he, ⟨iv, lv', hd⟩, hb⟩
theorem cubbylaw03_step.rCut (s : Dk.S) (base g : Nat) (i k : Int) (w : World) (h : Tw.R w base g s) :
    Calls Try.prog 12 #[.pointer (some ⟨g, 0, none⟩), .int .i64 i, .int .u64 k] w fun e w' => e = .returned (.tuple #[]) ∧ Tw.R w' base g (Dk.cutS s i k) ∧ Rf.B base w w' := by
  obtain ⟨iv, lv, h⟩ := h
  refine (cubbyref03_Disk_Cut.calls s base g iv lv i k w h).mono ?_
  rintro e w' ⟨he, hd, hb⟩
  exact ⟨he, ⟨iv, lv, hd⟩, hb⟩
theorem cubbylaw03_step.rFail (s : Dk.S) (base g : Nat) (i : Int) (w : World) (h : Tw.R w base g s) :
    Calls Try.prog 35 #[.pointer (some ⟨g, 0, none⟩), .int .i64 i] w fun e w' => e = .returned (.tuple #[]) ∧ Tw.R w' base g (Dk.failS s i) ∧ Rf.B base w w' := by
  obtain ⟨iv, lv, h⟩ := h
  refine (cubbyref03_Disk_Fail.calls s base g iv lv i w h).mono ?_
  rintro e w' ⟨he, hd, hb⟩
  exact ⟨he, ⟨iv, lv, hd⟩, hb⟩
theorem cubbylaw03_step.rPower (s : Dk.S) (base g : Nat) (w : World) (h : Tw.R w base g s) :
    Calls Try.prog 25 #[.pointer (some ⟨g, 0, none⟩)] w fun e w' => e = .returned (.tuple #[]) ∧ Tw.R w' base g (Dk.powS s) ∧ Rf.B base w w' := by
  obtain ⟨iv, lv, h⟩ := h
  refine (cubbyref03_Disk_Power.calls s base g iv lv w h).mono ?_
  rintro e w' ⟨he, hd, hb⟩
  exact ⟨he, ⟨iv, lv, hd⟩, hb⟩
theorem cubbylaw03_step.rDead (s : Dk.S) (base g : Nat) (w : World) (h : Tw.R w base g s) :
    Calls Try.prog 36 #[.pointer (some ⟨g, 0, none⟩)] w fun e w' => e = .returned (.bool s.off) ∧ w' = w := by
  obtain ⟨iv, lv, h⟩ := h
  exact cubbyref03_Disk_Dead.calls s base g iv lv w h
theorem cubbylaw03_step.rCalls (s : Dk.S) (base g : Nat) (w : World) (h : Tw.R w base g s) :
    Calls Try.prog 19 #[.pointer (some ⟨g, 0, none⟩)] w fun e w' => e = .returned (.int .i64 s.many) ∧ w' = w := by
  obtain ⟨iv, lv, h⟩ := h
  exact cubbyref03_Disk_Calls.calls s base g iv lv w h
theorem cubbylaw03_step.rRead (s : Dk.S) (base g : Nat) (i : Int) (w : World) (h : Tw.R w base g s) :
    Calls Try.prog 34 #[.pointer (some ⟨g, 0, none⟩), .int .i64 i] w fun e w' => e = .returned (.tuple #[.string (Dk.read s i).1, .int .i64 (Dk.read s i).2]) ∧ w' = w := by
  obtain ⟨iv, lv, h⟩ := h
  exact cubbyref03_Disk_Read.calls s base g iv lv i w h
theorem cubbylaw03_step.rNew (w : World) (base : Nat) (hb : base ≤ w.heap.size) : Calls Try.prog 10 #[] w fun e w' => ∃ g, e = .returned (.pointer (some ⟨g, 0, none⟩)) ∧ Tw.R w' base g Dk.S0 ∧ Below w.heap.size w w' := by
  refine (cubbyref03_New.calls w base hb).mono ?_
  rintro e w' ⟨g, iv, he, hd, hb⟩
  exact ⟨g, he, ⟨iv, _, hd⟩, hb⟩
set_option maxHeartbeats 16000000 in
set_option maxRecDepth 100000 in
theorem cubbylaw03_step.calls (base gd gr n : Nat) (m kd N : Int) (x : ByteArray) (kp : Int) (w : World) (h : Tw.P w base gd gr n m) (hn : n ≤ 1000000) (hm : m ≤ 80000) (hN : N < 9223372036854775808) (hk : 0 ≤ kp ∧ kp < 18446744073709551616) :
    Calls Try.prog 24 #[.pointer (some ⟨gd, 0, none⟩), .pointer (some ⟨gr, 0, none⟩), .agg #[.int .i64 kd, .int .i64 N, .string x, .int .u64 kp]] w fun e w' => e = .returned (.bool true) ∧ Tw.P w' base gd gr (n + 1) (m + 1) ∧ Tw.B base w w' := by
  obtain ⟨s, s', hd, hr, hq, hi, hi', hmm⟩ := h
  have hm1 : s.many ≤ 80000 := by omega
  have hm2 : s'.many ≤ 80000 := by rw [← hq.many]; exact hm1
  have HB := Aside0.mk ((Tw.B.refl base w).alloc hd.hb (.cells #[.int .i64 kd, .int .i64 N, .string x, .int .u64 kp] 44))
  have HD := Aside0.mk (hd.alloc (.cells #[.int .i64 kd, .int .i64 N, .string x, .int .u64 kp] 44))
  have HR := Aside0.mk (hr.alloc (.cells #[.int .i64 kd, .int .i64 N, .string x, .int .u64 kp] 44))
  have HK := Aside0.mk (Hw.blk_nw w (.cells #[.int .i64 kd, .int .i64 N, .string x, .int .u64 kp] 44))
  have HQ := Aside0.mk hq
  have HI := Aside0.mk hi
  have HI2 := Aside0.mk hi'
  have HMM := Aside0.mk hmm
  have HN := Aside0.mk hn
  have HNN := Aside0.mk hN
  have HKP := Aside0.mk hk
  have k0 : (w.alloc (.cells #[.int .i64 kd, .int .i64 N, .string x, .int .u64 kp] 44)).cell? ⟨w.heap.size, 0, none⟩ = some (.int .i64 kd) := cell_of_row _ _ 0 _ _ _ HK.out
  have k1 : (w.alloc (.cells #[.int .i64 kd, .int .i64 N, .string x, .int .u64 kp] 44)).cell? ⟨w.heap.size, 1, none⟩ = some (.int .i64 N) := cell_of_row _ _ 1 _ _ _ HK.out
  have k2 : (w.alloc (.cells #[.int .i64 kd, .int .i64 N, .string x, .int .u64 kp] 44)).cell? ⟨w.heap.size, 2, none⟩ = some (.string x) := cell_of_row _ _ 2 _ _ _ HK.out
  have k3 : (w.alloc (.cells #[.int .i64 kd, .int .i64 N, .string x, .int .u64 kp] 44)).cell? ⟨w.heap.size, 3, none⟩ = some (.int .u64 kp) := cell_of_row _ _ 3 _ _ _ HK.out
  clear hd hr hq hi hi' hmm hn hN hk hm
  by_cases c0 : kd = 0
  · subst c0
    have hqw := HQ.out.writ N x
    have HQ1 := Aside0.mk hqw.2
    have HRW : Aside0 (∀ W, Tw.R W base gr s' → Calls Try.prog 14 #[.pointer (some ⟨gr, 0, none⟩), .int .i64 N, .string x] W fun e w' => e = .returned (.int .i64 (Dk.writ s N x).2) ∧ Tw.R w' base gr (Dk.writ s' N x).1 ∧ Rf.B base W w') := ⟨fun W hW => by
      have e := cubbylaw03_step.rWrite s' base gr N x W hW HI2.out
      rw [← hqw.1] at e
      exact e⟩
    have HIN := Aside0.mk (Tw.writ_in s HI.out hm1 N x)
    have HIN2 := Aside0.mk (Tw.writ_in s' HI2.out hm2 N x)
    clear hqw
    go_enter Try.func24, Try.ntmps24
    go_wp2_with (fail)
    generalize hW1 : w.alloc (.cells #[.int .i64 0, .int .i64 N, .string x, .int .u64 kp] 44) = W1 at HB HD HR HK k0 k1 k2 k3 ⊢
    clear hW1
    have HB := Aside0.mk HB.out.drew
    have HD := Aside0.mk HD.out.drew
    have HR := Aside0.mk HR.out.drew
    have HK : Aside0 (W1.drew.heap[w.heap.size]? = some (.cells #[.int .i64 0, .int .i64 N, .string x, .int .u64 kp] 44)) := HK
    -- REGION 3 BEGINS
    refine start_ (n := 14) (S := fun w' => w'.cell? ⟨w.heap.size, 1, none⟩ = some (.int .i64 N) ∧ w'.cell? ⟨w.heap.size, 2, none⟩ = some (.string x)) (ds := []) #[false, false, false, false, false, false, false, false, false, false, false, false, false, false] (by kernel_rfl) rfl rfl ⟨k1, k2⟩ (fun hHeld => ?_)
    refine pure_ (i := 0) (N := some 15) (v := ?_) (a' := ?_) #[true, false, false, false, false, false, false, false, false, false, false, false, false, false] rfl rfl (by kernel_rfl) (fun _ _ _ h => h) (Or.inl ⟨by rfl, ?_⟩) ?_ ?_
    rotate_left
    · intro w'
      go_simp
      with_reducible rfl
    rotate_left
    · simp only [Act.put, List.setIfInBounds_toArray, List.set_cons_zero, List.set_cons_succ, i64_w, i32_w]
      rfl
    refine pure_ (i := 1) (N := some 16) (v := ?_) (a' := ?_) #[true, true, false, false, false, false, false, false, false, false, false, false, false, false] rfl rfl (by kernel_rfl) (fun _ _ _ h => h) (Or.inl ⟨by rfl, ?_⟩) ?_ ?_
    rotate_left
    · intro w'
      go_simp
      with_reducible rfl
    rotate_left
    · simp only [Act.put, List.setIfInBounds_toArray, List.set_cons_zero, List.set_cons_succ, i64_w, i32_w]
      rfl
    refine pure_ (i := 3) (N := some 18) (v := ?_) (a' := ?_) #[true, true, false, true, false, false, false, false, false, false, false, false, false, false] rfl rfl (by kernel_rfl) (fun _ _ _ h => h) (Or.inl ⟨by rfl, ?_⟩) ?_ ?_
    rotate_left
    · intro w'
      go_simp
      with_reducible rfl
    rotate_left
    · simp only [Act.put, List.setIfInBounds_toArray, List.set_cons_zero, List.set_cons_succ, i64_w, i32_w]
      rfl
    refine pure_ (i := 6) (N := some 21) (v := ?_) (a' := ?_) #[true, true, false, true, false, false, true, false, false, false, false, false, false, false] rfl rfl (by kernel_rfl) (fun _ _ _ h => h) (Or.inl ⟨by rfl, ?_⟩) ?_ ?_
    rotate_left
    · intro w'
      go_simp
      with_reducible rfl
    rotate_left
    · simp only [Act.put, List.setIfInBounds_toArray, List.set_cons_zero, List.set_cons_succ, i64_w, i32_w]
      rfl
    refine pure_ (i := 7) (N := some 22) (v := ?_) (a' := ?_) #[true, true, false, true, false, false, true, true, false, false, false, false, false, false] rfl rfl (by kernel_rfl) (fun _ _ _ h => h) (Or.inl ⟨by rfl, ?_⟩) ?_ ?_
    rotate_left
    · intro w'
      go_simp
      with_reducible rfl
    rotate_left
    · simp only [Act.put, List.setIfInBounds_toArray, List.set_cons_zero, List.set_cons_succ, i64_w, i32_w]
      rfl
    refine pure_ (i := 9) (N := some 24) (v := ?_) (a' := ?_) #[true, true, false, true, false, false, true, true, false, true, false, false, false, false] rfl rfl (by kernel_rfl) (fun _ _ _ h => h) (Or.inl ⟨by rfl, ?_⟩) ?_ ?_
    rotate_left
    · intro w'
      go_simp
      with_reducible rfl
    rotate_left
    · simp only [Act.put, List.setIfInBounds_toArray, List.set_cons_zero, List.set_cons_succ, i64_w, i32_w]
      rfl
    refine take_ (i := 2) (N := some 17) (v := ?_) (a' := ?_) #[true, true, true, true, false, false, true, true, false, true, false, false, false, false] rfl rfl (by kernel_rfl) (fun _ _ _ h => h) (Or.inl ⟨by rfl, ?_⟩) hHeld ?_ ?_
    rotate_left
    · rintro w' ⟨s0, s1⟩
      go_simp
      with_reducible rfl
    rotate_left
    · simp only [Act.put, List.setIfInBounds_toArray, List.set_cons_zero, List.set_cons_succ, i64_w, i32_w]
      rfl
    refine take_ (i := 4) (N := some 19) (v := ?_) (a' := ?_) #[true, true, true, true, true, false, true, true, false, true, false, false, false, false] rfl rfl (by kernel_rfl) (fun _ _ _ h => h) (Or.inl ⟨by rfl, ?_⟩) hHeld ?_ ?_
    rotate_left
    · rintro w' ⟨s0, s1⟩
      go_simp
      with_reducible rfl
    rotate_left
    · simp only [Act.put, List.setIfInBounds_toArray, List.set_cons_zero, List.set_cons_succ, i64_w, i32_w]
      rfl
    refine take_ (i := 8) (N := some 23) (v := ?_) (a' := ?_) #[true, true, true, true, true, false, true, true, true, true, false, false, false, false] rfl rfl (by kernel_rfl) (fun _ _ _ h => h) (Or.inl ⟨by rfl, ?_⟩) hHeld ?_ ?_
    rotate_left
    · rintro w' ⟨s0, s1⟩
      go_simp
      with_reducible rfl
    rotate_left
    · simp only [Act.put, List.setIfInBounds_toArray, List.set_cons_zero, List.set_cons_succ, i64_w, i32_w]
      rfl
    refine take_ (i := 10) (N := some 25) (v := ?_) (a' := ?_) #[true, true, true, true, true, false, true, true, true, true, true, false, false, false] rfl rfl (by kernel_rfl) (fun _ _ _ h => h) (Or.inl ⟨by rfl, ?_⟩) hHeld ?_ ?_
    rotate_left
    · rintro w' ⟨s0, s1⟩
      go_simp
      with_reducible rfl
    rotate_left
    · simp only [Act.put, List.setIfInBounds_toArray, List.set_cons_zero, List.set_cons_succ, i64_w, i32_w]
      rfl
    refine one_ (i := 5) (N := some 20) #[true, true, true, true, true, true, true, true, true, true, true, false, false, false] rfl rfl (by kernel_rfl) (by decide) (fun K hK => ?_)
    refine goes_ Try.func13 (by kernel_rfl) rfl #[.pointer (some ⟨gd, 0, none⟩), .int .i64 N, .string x] (by rfl) rfl rfl (by simp only [List.map_toArray, List.map_cons, List.map_nil]; rfl) ?_
    with_reducible refine (cubbylaw03_step.dWrite s base gd n N x _ HD.out HI.out HN.out).mono ?_
    rintro e w3 ⟨rfl, hd3, hb3⟩
    refine ⟨_, rfl, ?_⟩
    have HD := Aside0.mk hd3
    have HR := Aside0.mk (HR.out.dk hb3)
    have HB3 := Aside0.mk (Tw.B.dk hb3)
    clear hd3 hb3
    have HB := Aside0.mk (HB.out.trans HB3.out)
    have HK := Aside0.mk (HB3.out.blk (t := 44) HK.out (by decide))
    have k1 : w3.cell? ⟨w.heap.size, 1, none⟩ = some (.int .i64 N) := cell_of_row _ _ 1 _ _ _ HK.out
    have k2 : w3.cell? ⟨w.heap.size, 2, none⟩ = some (.string x) := cell_of_row _ _ 2 _ _ _ HK.out
    clear HB3
    refine hK.out _ _ ⟨k1, k2⟩ (fun hHeld => ?_)
    clear hK K
    refine norm_ (a' := ?_) ?_ ?_
    rotate_left
    · show Act.put _ (some 20) _ = _
      simp only [Act.put, List.setIfInBounds_toArray, List.set_cons_zero, List.set_cons_succ, i64_w, i32_w]
      rfl
    refine one_ (i := 11) (N := some 26) #[true, true, true, true, true, true, true, true, true, true, true, true, false, false] rfl rfl (by kernel_rfl) (by decide) (fun K hK => ?_)
    refine goes_ Try.func14 (by kernel_rfl) rfl #[.pointer (some ⟨gr, 0, none⟩), .int .i64 N, .string x] (by rfl) rfl rfl (by simp only [List.map_toArray, List.map_cons, List.map_nil]; rfl) ?_
    with_reducible refine (HRW.out _ HR.out).mono ?_
    rintro e w4 ⟨rfl, hr4, hb4⟩
    refine ⟨_, rfl, ?_⟩
    have HD := Aside0.mk (HD.out.rf hb4)
    have HR := Aside0.mk hr4
    have HB3 := Aside0.mk (Tw.B.rf hb4)
    clear hr4 hb4
    have HB := Aside0.mk (HB.out.trans HB3.out)
    have HK := Aside0.mk (HB3.out.blk (t := 44) HK.out (by decide))
    have k1 : w4.cell? ⟨w.heap.size, 1, none⟩ = some (.int .i64 N) := cell_of_row _ _ 1 _ _ _ HK.out
    have k2 : w4.cell? ⟨w.heap.size, 2, none⟩ = some (.string x) := cell_of_row _ _ 2 _ _ _ HK.out
    clear HB3
    refine hK.out _ _ ⟨k1, k2⟩ (fun hHeld => ?_)
    clear hK K
    refine norm_ (a' := ?_) ?_ ?_
    rotate_left
    · show Act.put _ (some 26) _ = _
      simp only [Act.put, List.setIfInBounds_toArray, List.set_cons_zero, List.set_cons_succ, i64_w, i32_w]
      rfl
    refine pure_ (i := 12) (N := some 27) (v := ?_) (a' := ?_) #[true, true, true, true, true, true, true, true, true, true, true, true, true, false] rfl rfl (by kernel_rfl) (fun _ _ _ h => h) (Or.inl ⟨by rfl, ?_⟩) ?_ ?_
    rotate_left
    · intro w'
      go_simp
      with_reducible rfl
    rotate_left
    · simp only [Act.put, List.setIfInBounds_toArray, List.set_cons_zero, List.set_cons_succ, i64_w, i32_w]
      rfl
    refine pure_ (i := 13) (N := some 6) (v := ?_) (a' := ?_) #[true, true, true, true, true, true, true, true, true, true, true, true, true, true] rfl rfl (by kernel_rfl) (fun _ _ _ h => h) (Or.inl ⟨by rfl, ?_⟩) ?_ ?_
    rotate_left
    · intro w'
      go_simp
      with_reducible rfl
    rotate_left
    · simp only [Act.put, List.setIfInBounds_toArray, List.set_cons_zero, List.set_cons_succ, i64_w, i32_w]
      rfl
    refine done_ (by kernel_rfl) ?_
    -- REGION 3 ENDS
    go_wp2_with (fail)
    go_ret
    refine ⟨by first | rfl | simp, ⟨_, _, HD.out, HR.out, HQ1.out, HIN.out.1, HIN2.out.1, ?_⟩, HB.out⟩
    have := HIN.out.2
    have := HMM.out
    omega
  by_cases c1 : kd = 1
  · subst c1
    have HRR : Aside0 (∀ W, Tw.R W base gr s' → Calls Try.prog 34 #[.pointer (some ⟨gr, 0, none⟩), .int .i64 N] W fun e w' => e = .returned (.tuple #[.string (Dk.read s N).1, .int .i64 (Dk.read s N).2]) ∧ w' = W) := ⟨fun W hW => by
      have e := cubbylaw03_step.rRead s' base gr N W hW
      rw [← HQ.out.read N] at e
      exact e⟩
    have HDR := Aside0.mk (fun W => cubbylaw03_step.dRead s base gd n N W)
    generalize Dk.read s N = rr at HRR HDR
    obtain ⟨r1, r2⟩ := rr
    go_enter Try.func24, Try.ntmps24
    go_wp2_with (fail)
    generalize hW1 : w.alloc (.cells #[.int .i64 1, .int .i64 N, .string x, .int .u64 kp] 44) = W1 at HB HD HR HK k0 k1 k2 k3 ⊢
    clear hW1
    go_wp2_with (first | (go_at_call 21; (with_reducible refine (HDR.out _ HD.out).mono ?_); rintro e w3 ⟨rfl, rfl⟩) | (go_at_call 34; (with_reducible refine (HRR.out _ HR.out).mono ?_); rintro e w3 ⟨rfl, rfl⟩))
    go_ret
    refine ⟨by first | rfl | simp, ⟨_, _, ?_, HR.out, HQ.out, HI.out, HI2.out, ?_⟩, HB.out⟩
    · obtain ⟨mb, n', ov, h1, h2⟩ := HD.out
      exact ⟨mb, n', ov, by omega, h2⟩
    · have := HMM.out
      omega
  by_cases c2 : kd = 2
  · subst c2
    have hqw := HQ.out.barr
    have HQ1 := Aside0.mk hqw.2
    have HRW : Aside0 (∀ W, Tw.R W base gr s' → Calls Try.prog 16 #[.pointer (some ⟨gr, 0, none⟩)] W fun e w' => e = .returned (.int .i64 (Dk.barr s).2) ∧ Tw.R w' base gr (Dk.barr s').1 ∧ Rf.B base W w') := ⟨fun W hW => by
      have e := cubbylaw03_step.rBarrier s' base gr W hW HI2.out
      rw [← hqw.1] at e
      exact e⟩
    have HIN := Aside0.mk (Tw.barr_in s HI.out hm1)
    have HIN2 := Aside0.mk (Tw.barr_in s' HI2.out hm2)
    clear hqw
    go_enter Try.func24, Try.ntmps24
    go_wp2_with (fail)
    generalize hW1 : w.alloc (.cells #[.int .i64 2, .int .i64 N, .string x, .int .u64 kp] 44) = W1 at HB HD HR HK k0 k1 k2 k3 ⊢
    clear hW1
    go_wp2_with (first | (go_at_call 15; (with_reducible refine (cubbylaw03_step.dBarrier s base gd n _ HD.out HI.out).mono ?_); rintro e w3 ⟨rfl, hd3, hb3⟩; have HD := Aside0.mk hd3; have HR := Aside0.mk (HR.out.dk hb3); have HB := Aside0.mk (HB.out.trans (Tw.B.dk hb3)); clear hd3 hb3) | (go_at_call 16; (with_reducible refine (HRW.out _ HR.out).mono ?_); rintro e w4 ⟨rfl, hr4, hb4⟩; have HD := Aside0.mk (HD.out.rf hb4); have HR := Aside0.mk hr4; have HB := Aside0.mk (HB.out.trans (Tw.B.rf hb4)); clear hr4 hb4))
    go_ret
    refine ⟨by first | rfl | simp, ⟨_, _, ?_, HR.out, HQ1.out, HIN.out.1, HIN2.out.1, ?_⟩, HB.out⟩
    · obtain ⟨mb, n', ov, h1, h2⟩ := HD.out
      exact ⟨mb, n', ov, by omega, h2⟩
    · have := HIN.out.2
      have := HMM.out
      omega
  by_cases c3 : kd = 3
  · subst c3
    have HQ1 := Aside0.mk (HQ.out.cutS N kp)
    have HIN := Aside0.mk (Tw.cut_in s HI.out N kp HNN.out HKP.out)
    have HIN2 := Aside0.mk (Tw.cut_in s' HI2.out N kp HNN.out HKP.out)
    have HDE := Aside0.mk (fun W => cubbylaw03_step.dDead (Dk.cutS s N kp) base gd (n + 0) W)
    have HRE : Aside0 (∀ W, Tw.R W base gr (Dk.cutS s' N kp) → Calls Try.prog 36 #[.pointer (some ⟨gr, 0, none⟩)] W fun e w' => e = .returned (.bool (Dk.cutS s N kp).off) ∧ w' = W) := ⟨fun W hW => by
      have e := cubbylaw03_step.rDead (Dk.cutS s' N kp) base gr W hW
      rw [← HQ1.out.off] at e
      exact e⟩
    have HDC := Aside0.mk (fun W => cubbylaw03_step.dCalls (Dk.cutS s N kp) base gd (n + 0) W)
    have HRC : Aside0 (∀ W, Tw.R W base gr (Dk.cutS s' N kp) → Calls Try.prog 19 #[.pointer (some ⟨gr, 0, none⟩)] W fun e w' => e = .returned (.int .i64 (Dk.cutS s N kp).many) ∧ w' = W) := ⟨fun W hW => by
      have e := cubbylaw03_step.rCalls (Dk.cutS s' N kp) base gr W hW
      rw [← HQ1.out.many] at e
      exact e⟩
    have HMY : Aside0 ((Dk.cutS s N kp).many = s.many) := ⟨rfl⟩
    obtain ⟨S1, hS1⟩ : ∃ S, (Dk.cutS s N kp) = S := ⟨_, rfl⟩
    obtain ⟨S2, hS2⟩ : ∃ S, (Dk.cutS s' N kp) = S := ⟨_, rfl⟩
    have HF1 := Aside0.mk (fun W h => cubbylaw03_step.dCut s base gd n N kp W h)
    have HF2 := Aside0.mk (fun W h => cubbylaw03_step.rCut s' base gr N kp W h)
    rw [hS1] at HQ1 HIN HDE HRE HDC HRC HMY HF1
    rw [hS2] at HQ1 HIN2 HRE HRC HF2
    clear hS1 hS2
    obtain ⟨so, hso⟩ : ∃ q, S1.off = q := ⟨_, rfl⟩
    obtain ⟨sm, hsm⟩ : ∃ q, S1.many = q := ⟨_, rfl⟩
    rw [hso] at HDE HRE
    rw [hsm] at HDC HRC HMY
    have HSM := Aside0.mk hsm
    clear hso hsm
    go_enter Try.func24, Try.ntmps24
    go_wp2_with (fail)
    generalize hW1 : w.alloc (.cells #[.int .i64 3, .int .i64 N, .string x, .int .u64 kp] 44) = W1 at HB HD HR HK k0 k1 k2 k3 ⊢
    clear hW1
    go_wp2_with (first | (go_at_call 11; (with_reducible refine (HF1.out _ HD.out).mono ?_); rintro e w3 ⟨rfl, hd3, hb3⟩; have HD := Aside0.mk hd3; have HR := Aside0.mk (HR.out.dk hb3); have HB3 := Aside0.mk (Tw.B.dk hb3); have HB := Aside0.mk (HB.out.trans HB3.out); have HK := Aside0.mk (HB3.out.blk (t := 44) HK.out (by decide)); have k1 : w3.cell? ⟨w.heap.size, 1, none⟩ = some (.int .i64 N) := cell_of_row _ _ 1 _ _ _ HK.out; have k3 : w3.cell? ⟨w.heap.size, 3, none⟩ = some (.int .u64 kp) := cell_of_row _ _ 3 _ _ _ HK.out; clear hd3 hb3 HB3) | (go_at_call 12; (with_reducible refine (HF2.out _ HR.out).mono ?_); rintro e w4 ⟨rfl, hr4, hb4⟩; have HD := Aside0.mk (HD.out.rf hb4); have HR := Aside0.mk hr4; have HB := Aside0.mk (HB.out.trans (Tw.B.rf hb4)); clear hr4 hb4) | (go_at_call 17; (with_reducible refine (HDE.out _ HD.out).mono ?_); rintro e w5 ⟨rfl, rfl⟩) | (go_at_call 36; (with_reducible refine (HRE.out _ HR.out).mono ?_); rintro e w5 ⟨rfl, rfl⟩) | (go_at_call 18; (with_reducible refine (HDC.out _ HD.out).mono ?_); rintro e w5 ⟨rfl, rfl⟩) | (go_at_call 19; (with_reducible refine (HRC.out _ HR.out).mono ?_); rintro e w5 ⟨rfl, rfl⟩))
    go_ret
    refine ⟨by first | rfl | simp, ⟨_, _, ?_, HR.out, HQ1.out, HIN.out, HIN2.out, ?_⟩, HB.out⟩
    · obtain ⟨mb, n', ov, h1, h2⟩ := HD.out
      exact ⟨mb, n', ov, by omega, h2⟩
    · have e1 := HMM.out
      have e2 := HSM.out
      have e3 := HMY.out
      omega
  by_cases c4 : kd = 4
  · subst c4
    have HQ1 := Aside0.mk (HQ.out.failS N)
    have HIN := Aside0.mk (Tw.fail_in s HI.out N HNN.out)
    have HIN2 := Aside0.mk (Tw.fail_in s' HI2.out N HNN.out)
    have HDE := Aside0.mk (fun W => cubbylaw03_step.dDead (Dk.failS s N) base gd (n + 0) W)
    have HRE : Aside0 (∀ W, Tw.R W base gr (Dk.failS s' N) → Calls Try.prog 36 #[.pointer (some ⟨gr, 0, none⟩)] W fun e w' => e = .returned (.bool (Dk.failS s N).off) ∧ w' = W) := ⟨fun W hW => by
      have e := cubbylaw03_step.rDead (Dk.failS s' N) base gr W hW
      rw [← HQ1.out.off] at e
      exact e⟩
    have HDC := Aside0.mk (fun W => cubbylaw03_step.dCalls (Dk.failS s N) base gd (n + 0) W)
    have HRC : Aside0 (∀ W, Tw.R W base gr (Dk.failS s' N) → Calls Try.prog 19 #[.pointer (some ⟨gr, 0, none⟩)] W fun e w' => e = .returned (.int .i64 (Dk.failS s N).many) ∧ w' = W) := ⟨fun W hW => by
      have e := cubbylaw03_step.rCalls (Dk.failS s' N) base gr W hW
      rw [← HQ1.out.many] at e
      exact e⟩
    have HMY : Aside0 ((Dk.failS s N).many = s.many) := ⟨rfl⟩
    obtain ⟨S1, hS1⟩ : ∃ S, (Dk.failS s N) = S := ⟨_, rfl⟩
    obtain ⟨S2, hS2⟩ : ∃ S, (Dk.failS s' N) = S := ⟨_, rfl⟩
    have HF1 := Aside0.mk (fun W h => cubbylaw03_step.dFail s base gd n N W h)
    have HF2 := Aside0.mk (fun W h => cubbylaw03_step.rFail s' base gr N W h)
    rw [hS1] at HQ1 HIN HDE HRE HDC HRC HMY HF1
    rw [hS2] at HQ1 HIN2 HRE HRC HF2
    clear hS1 hS2
    obtain ⟨so, hso⟩ : ∃ q, S1.off = q := ⟨_, rfl⟩
    obtain ⟨sm, hsm⟩ : ∃ q, S1.many = q := ⟨_, rfl⟩
    rw [hso] at HDE HRE
    rw [hsm] at HDC HRC HMY
    have HSM := Aside0.mk hsm
    clear hso hsm
    go_enter Try.func24, Try.ntmps24
    go_wp2_with (fail)
    generalize hW1 : w.alloc (.cells #[.int .i64 4, .int .i64 N, .string x, .int .u64 kp] 44) = W1 at HB HD HR HK k0 k1 k2 k3 ⊢
    clear hW1
    go_wp2_with (first | (go_at_call 20; (with_reducible refine (HF1.out _ HD.out).mono ?_); rintro e w3 ⟨rfl, hd3, hb3⟩; have HD := Aside0.mk hd3; have HR := Aside0.mk (HR.out.dk hb3); have HB3 := Aside0.mk (Tw.B.dk hb3); have HB := Aside0.mk (HB.out.trans HB3.out); have HK := Aside0.mk (HB3.out.blk (t := 44) HK.out (by decide)); have k1 : w3.cell? ⟨w.heap.size, 1, none⟩ = some (.int .i64 N) := cell_of_row _ _ 1 _ _ _ HK.out; have k3 : w3.cell? ⟨w.heap.size, 3, none⟩ = some (.int .u64 kp) := cell_of_row _ _ 3 _ _ _ HK.out; clear hd3 hb3 HB3) | (go_at_call 35; (with_reducible refine (HF2.out _ HR.out).mono ?_); rintro e w4 ⟨rfl, hr4, hb4⟩; have HD := Aside0.mk (HD.out.rf hb4); have HR := Aside0.mk hr4; have HB := Aside0.mk (HB.out.trans (Tw.B.rf hb4)); clear hr4 hb4) | (go_at_call 17; (with_reducible refine (HDE.out _ HD.out).mono ?_); rintro e w5 ⟨rfl, rfl⟩) | (go_at_call 36; (with_reducible refine (HRE.out _ HR.out).mono ?_); rintro e w5 ⟨rfl, rfl⟩) | (go_at_call 18; (with_reducible refine (HDC.out _ HD.out).mono ?_); rintro e w5 ⟨rfl, rfl⟩) | (go_at_call 19; (with_reducible refine (HRC.out _ HR.out).mono ?_); rintro e w5 ⟨rfl, rfl⟩))
    go_ret
    refine ⟨by first | rfl | simp, ⟨_, _, ?_, HR.out, HQ1.out, HIN.out, HIN2.out, ?_⟩, HB.out⟩
    · obtain ⟨mb, n', ov, h1, h2⟩ := HD.out
      exact ⟨mb, n', ov, by omega, h2⟩
    · have e1 := HMM.out
      have e2 := HSM.out
      have e3 := HMY.out
      omega
  by_cases c5 : kd = 5
  · subst c5
    have HQ1 := Aside0.mk (HQ.out.powS)
    have HIN := Aside0.mk (Tw.pow_in s HI.out)
    have HIN2 := Aside0.mk (Tw.pow_in s' HI2.out)
    have HDE := Aside0.mk (fun W => cubbylaw03_step.dDead (Dk.powS s) base gd (n + 0) W)
    have HRE : Aside0 (∀ W, Tw.R W base gr (Dk.powS s') → Calls Try.prog 36 #[.pointer (some ⟨gr, 0, none⟩)] W fun e w' => e = .returned (.bool (Dk.powS s).off) ∧ w' = W) := ⟨fun W hW => by
      have e := cubbylaw03_step.rDead (Dk.powS s') base gr W hW
      rw [← HQ1.out.off] at e
      exact e⟩
    have HDC := Aside0.mk (fun W => cubbylaw03_step.dCalls (Dk.powS s) base gd (n + 0) W)
    have HRC : Aside0 (∀ W, Tw.R W base gr (Dk.powS s') → Calls Try.prog 19 #[.pointer (some ⟨gr, 0, none⟩)] W fun e w' => e = .returned (.int .i64 (Dk.powS s).many) ∧ w' = W) := ⟨fun W hW => by
      have e := cubbylaw03_step.rCalls (Dk.powS s') base gr W hW
      rw [← HQ1.out.many] at e
      exact e⟩
    have HMY : Aside0 ((Dk.powS s).many = s.many) := ⟨by unfold Dk.powS; split <;> rfl⟩
    obtain ⟨S1, hS1⟩ : ∃ S, (Dk.powS s) = S := ⟨_, rfl⟩
    obtain ⟨S2, hS2⟩ : ∃ S, (Dk.powS s') = S := ⟨_, rfl⟩
    have HF1 := Aside0.mk (fun W h => cubbylaw03_step.dPower s base gd n W h)
    have HF2 := Aside0.mk (fun W h => cubbylaw03_step.rPower s' base gr W h)
    rw [hS1] at HQ1 HIN HDE HRE HDC HRC HMY HF1
    rw [hS2] at HQ1 HIN2 HRE HRC HF2
    clear hS1 hS2
    obtain ⟨so, hso⟩ : ∃ q, S1.off = q := ⟨_, rfl⟩
    obtain ⟨sm, hsm⟩ : ∃ q, S1.many = q := ⟨_, rfl⟩
    rw [hso] at HDE HRE
    rw [hsm] at HDC HRC HMY
    have HSM := Aside0.mk hsm
    clear hso hsm
    go_enter Try.func24, Try.ntmps24
    go_wp2_with (fail)
    generalize hW1 : w.alloc (.cells #[.int .i64 5, .int .i64 N, .string x, .int .u64 kp] 44) = W1 at HB HD HR HK k0 k1 k2 k3 ⊢
    clear hW1
    go_wp2_with (first | (go_at_call 22; (with_reducible refine (HF1.out _ HD.out).mono ?_); rintro e w3 ⟨rfl, hd3, hb3⟩; have HD := Aside0.mk hd3; have HR := Aside0.mk (HR.out.dk hb3); have HB3 := Aside0.mk (Tw.B.dk hb3); have HB := Aside0.mk (HB.out.trans HB3.out); have HK := Aside0.mk (HB3.out.blk (t := 44) HK.out (by decide)); have k1 : w3.cell? ⟨w.heap.size, 1, none⟩ = some (.int .i64 N) := cell_of_row _ _ 1 _ _ _ HK.out; have k3 : w3.cell? ⟨w.heap.size, 3, none⟩ = some (.int .u64 kp) := cell_of_row _ _ 3 _ _ _ HK.out; clear hd3 hb3 HB3) | (go_at_call 25; (with_reducible refine (HF2.out _ HR.out).mono ?_); rintro e w4 ⟨rfl, hr4, hb4⟩; have HD := Aside0.mk (HD.out.rf hb4); have HR := Aside0.mk hr4; have HB := Aside0.mk (HB.out.trans (Tw.B.rf hb4)); clear hr4 hb4) | (go_at_call 17; (with_reducible refine (HDE.out _ HD.out).mono ?_); rintro e w5 ⟨rfl, rfl⟩) | (go_at_call 36; (with_reducible refine (HRE.out _ HR.out).mono ?_); rintro e w5 ⟨rfl, rfl⟩) | (go_at_call 18; (with_reducible refine (HDC.out _ HD.out).mono ?_); rintro e w5 ⟨rfl, rfl⟩) | (go_at_call 19; (with_reducible refine (HRC.out _ HR.out).mono ?_); rintro e w5 ⟨rfl, rfl⟩))
    go_ret
    refine ⟨by first | rfl | simp, ⟨_, _, ?_, HR.out, HQ1.out, HIN.out, HIN2.out, ?_⟩, HB.out⟩
    · obtain ⟨mb, n', ov, h1, h2⟩ := HD.out
      exact ⟨mb, n', ov, by omega, h2⟩
    · have e1 := HMM.out
      have e2 := HSM.out
      have e3 := HMY.out
      omega
  have HQ1 := Aside0.mk (HQ.out)
  have HIN := Aside0.mk (HI.out)
  have HIN2 := Aside0.mk (HI2.out)
  have HDE := Aside0.mk (fun W => cubbylaw03_step.dDead (s) base gd (n + 0) W)
  have HRE : Aside0 (∀ W, Tw.R W base gr (s') → Calls Try.prog 36 #[.pointer (some ⟨gr, 0, none⟩)] W fun e w' => e = .returned (.bool (s).off) ∧ w' = W) := ⟨fun W hW => by
    have e := cubbylaw03_step.rDead (s') base gr W hW
    rw [← HQ1.out.off] at e
    exact e⟩
  have HDC := Aside0.mk (fun W => cubbylaw03_step.dCalls (s) base gd (n + 0) W)
  have HRC : Aside0 (∀ W, Tw.R W base gr (s') → Calls Try.prog 19 #[.pointer (some ⟨gr, 0, none⟩)] W fun e w' => e = .returned (.int .i64 (s).many) ∧ w' = W) := ⟨fun W hW => by
    have e := cubbylaw03_step.rCalls (s') base gr W hW
    rw [← HQ1.out.many] at e
    exact e⟩
  have HMY : Aside0 ((s).many = s.many) := ⟨rfl⟩
  obtain ⟨S1, hS1⟩ : ∃ S, s = S := ⟨_, rfl⟩
  subst hS1
  obtain ⟨S2, hS2⟩ : ∃ S, s' = S := ⟨_, rfl⟩
  subst hS2
  obtain ⟨so, hso⟩ : ∃ q, s.off = q := ⟨_, rfl⟩
  obtain ⟨sm, hsm⟩ : ∃ q, s.many = q := ⟨_, rfl⟩
  rw [hso] at HDE HRE
  rw [hsm] at HDC HRC HMY
  have HSM := Aside0.mk hsm
  clear hso hsm
  go_enter Try.func24, Try.ntmps24
  go_wp2_with (fail)
  generalize hW1 : w.alloc (.cells #[.int .i64 kd, .int .i64 N, .string x, .int .u64 kp] 44) = W1 at HB HD HR HK k0 k1 k2 k3 ⊢
  clear hW1
  go_wp2_with (first
    | (go_at_call 17; (with_reducible refine (HDE.out _ HD.out).mono ?_); rintro e w5 ⟨rfl, rfl⟩)
    | (go_at_call 36; (with_reducible refine (HRE.out _ HR.out).mono ?_); rintro e w5 ⟨rfl, rfl⟩)
    | (go_at_call 18; (with_reducible refine (HDC.out _ HD.out).mono ?_); rintro e w5 ⟨rfl, rfl⟩)
    | (go_at_call 19; (with_reducible refine (HRC.out _ HR.out).mono ?_); rintro e w5 ⟨rfl, rfl⟩))
  go_ret
  refine ⟨by first | rfl | simp, ⟨_, _, ?_, HR.out, HQ1.out, HIN.out, HIN2.out, ?_⟩, HB.out⟩
  · obtain ⟨mb, n', ov, h1, h2⟩ := HD.out
    exact ⟨mb, n', ov, by omega, h2⟩
  · have e1 := HMM.out
    have e2 := HSM.out
    have e3 := HMY.out
    omega

/-! ### cubbylaw03_alike: function 26 (by hand) -/
theorem cubbylaw03_alike.dWrite (s : Dk.S) (base g n : Nat) (i : Int) (x : ByteArray) (w : World) (h : Tw.D w base g n s) (hin : Dk.In s) (hn : n ≤ 1000000) :
    Calls Try.prog 13 #[.pointer (some ⟨g, 0, none⟩), .int .i64 i, .string x] w fun e w' => e = .returned (.int .i64 (Dk.writ s i x).2) ∧ Tw.D w' base g (n + 1) ((Dk.writ s i x).1) ∧ Dk.B base w w' := by
  obtain ⟨mb, n', ov, hn', h⟩ := h
  refine (disk_Disk_Write.calls s base g mb n' ov i x w h hin (by omega)).mono ?_
  rintro e w' ⟨he, ⟨ov', n2, h2, hd⟩, hb⟩
  exact ⟨he, ⟨mb, n2, ov', by omega, hd⟩, hb⟩
theorem cubbylaw03_alike.dBarrier (s : Dk.S) (base g n : Nat) (w : World) (h : Tw.D w base g n s) (hin : Dk.In s) :
    Calls Try.prog 15 #[.pointer (some ⟨g, 0, none⟩)] w fun e w' => e = .returned (.int .i64 (Dk.barr s).2) ∧ Tw.D w' base g (n + 0) ((Dk.barr s).1) ∧ Dk.B base w w' := by
  obtain ⟨mb, n', ov, hn', h⟩ := h
  refine (disk_Disk_Barrier.calls s base g mb n' ov w h hin).mono ?_
  rintro e w' ⟨he, ⟨ov', hd⟩, hb⟩
  exact ⟨he, ⟨mb, n', ov', by omega, hd⟩, hb⟩
theorem cubbylaw03_alike.dCut (s : Dk.S) (base g n : Nat) (i k : Int) (w : World) (h : Tw.D w base g n s) :
    Calls Try.prog 11 #[.pointer (some ⟨g, 0, none⟩), .int .i64 i, .int .u64 k] w fun e w' => e = .returned (.tuple #[]) ∧ Tw.D w' base g (n + 0) (Dk.cutS s i k) ∧ Dk.B base w w' := by
  obtain ⟨mb, n', ov, hn', h⟩ := h
  refine (disk_Disk_Cut.calls s base g mb n' ov i k w h).mono ?_
  rintro e w' ⟨he, hd, hb⟩
  exact ⟨he, ⟨mb, n', ov, by omega, hd⟩, hb⟩
theorem cubbylaw03_alike.dFail (s : Dk.S) (base g n : Nat) (i : Int) (w : World) (h : Tw.D w base g n s) :
    Calls Try.prog 20 #[.pointer (some ⟨g, 0, none⟩), .int .i64 i] w fun e w' => e = .returned (.tuple #[]) ∧ Tw.D w' base g (n + 0) (Dk.failS s i) ∧ Dk.B base w w' := by
  obtain ⟨mb, n', ov, hn', h⟩ := h
  refine (disk_Disk_Fail.calls s base g mb n' ov i w h).mono ?_
  rintro e w' ⟨he, hd, hb⟩
  exact ⟨he, ⟨mb, n', ov, by omega, hd⟩, hb⟩
theorem cubbylaw03_alike.dPower (s : Dk.S) (base g n : Nat) (w : World) (h : Tw.D w base g n s) :
    Calls Try.prog 22 #[.pointer (some ⟨g, 0, none⟩)] w fun e w' => e = .returned (.tuple #[]) ∧ Tw.D w' base g (n + 0) (Dk.powS s) ∧ Dk.B base w w' := by
  obtain ⟨mb, n', ov, hn', h⟩ := h
  refine (disk_Disk_Power.calls s base g mb n' ov w h).mono ?_
  rintro e w' ⟨he, hd, hb⟩
  exact ⟨he, ⟨mb, n', ov, by omega, hd⟩, hb⟩
theorem cubbylaw03_alike.dDead (s : Dk.S) (base g n : Nat) (w : World) (h : Tw.D w base g n s) :
    Calls Try.prog 17 #[.pointer (some ⟨g, 0, none⟩)] w fun e w' => e = .returned (.bool s.off) ∧ w' = w := by
  obtain ⟨mb, n', ov, hn', h⟩ := h
  exact disk_Disk_Dead.calls s base g mb n' ov w h
theorem cubbylaw03_alike.dCalls (s : Dk.S) (base g n : Nat) (w : World) (h : Tw.D w base g n s) :
    Calls Try.prog 18 #[.pointer (some ⟨g, 0, none⟩)] w fun e w' => e = .returned (.int .i64 s.many) ∧ w' = w := by
  obtain ⟨mb, n', ov, hn', h⟩ := h
  exact disk_Disk_Calls.calls s base g mb n' ov w h
theorem cubbylaw03_alike.dRead (s : Dk.S) (base g n : Nat) (i : Int) (w : World) (h : Tw.D w base g n s) :
    Calls Try.prog 21 #[.pointer (some ⟨g, 0, none⟩), .int .i64 i] w fun e w' => e = .returned (.tuple #[.string (Dk.read s i).1, .int .i64 (Dk.read s i).2]) ∧ w' = w := by
  obtain ⟨mb, n', ov, hn', h⟩ := h
  exact disk_Disk_Read.calls s base g mb n' ov i w h
theorem cubbylaw03_alike.dNew (w : World) (base : Nat) (hb : base ≤ w.heap.size) : Calls Try.prog 9 #[] w fun e w' => ∃ g, e = .returned (.pointer (some ⟨g, 0, none⟩)) ∧ Tw.D w' base g 0 Dk.S0 ∧ Below w.heap.size w w' := by
  refine (disk_New.calls w base hb).mono ?_
  rintro e w' ⟨g, mb, he, hd, hb⟩
  exact ⟨g, he, ⟨mb, 0, _, Nat.le_refl _, hd⟩, hb⟩
theorem cubbylaw03_alike.rWrite (s : Dk.S) (base g : Nat) (i : Int) (x : ByteArray) (w : World) (h : Tw.R w base g s) (hin : Dk.In s) :
    Calls Try.prog 14 #[.pointer (some ⟨g, 0, none⟩), .int .i64 i, .string x] w fun e w' => e = .returned (.int .i64 (Dk.writ s i x).2) ∧ Tw.R w' base g ((Dk.writ s i x).1) ∧ Rf.B base w w' := by
  obtain ⟨iv, lv, h⟩ := h
  refine (cubbyref03_Disk_Write.calls s base g iv lv i x w h hin).mono ?_
  rintro e w' ⟨he, ⟨lv', hd⟩, hb⟩
  exact ⟨he, ⟨iv, lv', hd⟩, hb⟩
theorem cubbylaw03_alike.rBarrier (s : Dk.S) (base g : Nat) (w : World) (h : Tw.R w base g s) (hin : Dk.In s) :
    Calls Try.prog 16 #[.pointer (some ⟨g, 0, none⟩)] w fun e w' => e = .returned (.int .i64 (Dk.barr s).2) ∧ Tw.R w' base g ((Dk.barr s).1) ∧ Rf.B base w w' := by
  obtain ⟨iv, lv, h⟩ := h
  refine (cubbyref03_Disk_Barrier.calls s base g iv lv w h hin).mono ?_
  rintro e w' ⟨he, ⟨lv', hd⟩, hb⟩
  exact ⟨he, ⟨iv, lv', hd⟩, hb⟩
theorem cubbylaw03_alike.rCut (s : Dk.S) (base g : Nat) (i k : Int) (w : World) (h : Tw.R w base g s) :
    Calls Try.prog 12 #[.pointer (some ⟨g, 0, none⟩), .int .i64 i, .int .u64 k] w fun e w' => e = .returned (.tuple #[]) ∧ Tw.R w' base g (Dk.cutS s i k) ∧ Rf.B base w w' := by
  obtain ⟨iv, lv, h⟩ := h
  refine (cubbyref03_Disk_Cut.calls s base g iv lv i k w h).mono ?_
  rintro e w' ⟨he, hd, hb⟩
  exact ⟨he, ⟨iv, lv, hd⟩, hb⟩
theorem cubbylaw03_alike.rFail (s : Dk.S) (base g : Nat) (i : Int) (w : World) (h : Tw.R w base g s) :
    Calls Try.prog 35 #[.pointer (some ⟨g, 0, none⟩), .int .i64 i] w fun e w' => e = .returned (.tuple #[]) ∧ Tw.R w' base g (Dk.failS s i) ∧ Rf.B base w w' := by
  obtain ⟨iv, lv, h⟩ := h
  refine (cubbyref03_Disk_Fail.calls s base g iv lv i w h).mono ?_
  rintro e w' ⟨he, hd, hb⟩
  exact ⟨he, ⟨iv, lv, hd⟩, hb⟩
theorem cubbylaw03_alike.rPower (s : Dk.S) (base g : Nat) (w : World) (h : Tw.R w base g s) :
    Calls Try.prog 25 #[.pointer (some ⟨g, 0, none⟩)] w fun e w' => e = .returned (.tuple #[]) ∧ Tw.R w' base g (Dk.powS s) ∧ Rf.B base w w' := by
  obtain ⟨iv, lv, h⟩ := h
  refine (cubbyref03_Disk_Power.calls s base g iv lv w h).mono ?_
  rintro e w' ⟨he, hd, hb⟩
  exact ⟨he, ⟨iv, lv, hd⟩, hb⟩
theorem cubbylaw03_alike.rDead (s : Dk.S) (base g : Nat) (w : World) (h : Tw.R w base g s) :
    Calls Try.prog 36 #[.pointer (some ⟨g, 0, none⟩)] w fun e w' => e = .returned (.bool s.off) ∧ w' = w := by
  obtain ⟨iv, lv, h⟩ := h
  exact cubbyref03_Disk_Dead.calls s base g iv lv w h
theorem cubbylaw03_alike.rCalls (s : Dk.S) (base g : Nat) (w : World) (h : Tw.R w base g s) :
    Calls Try.prog 19 #[.pointer (some ⟨g, 0, none⟩)] w fun e w' => e = .returned (.int .i64 s.many) ∧ w' = w := by
  obtain ⟨iv, lv, h⟩ := h
  exact cubbyref03_Disk_Calls.calls s base g iv lv w h
theorem cubbylaw03_alike.rRead (s : Dk.S) (base g : Nat) (i : Int) (w : World) (h : Tw.R w base g s) :
    Calls Try.prog 34 #[.pointer (some ⟨g, 0, none⟩), .int .i64 i] w fun e w' => e = .returned (.tuple #[.string (Dk.read s i).1, .int .i64 (Dk.read s i).2]) ∧ w' = w := by
  obtain ⟨iv, lv, h⟩ := h
  exact cubbyref03_Disk_Read.calls s base g iv lv i w h
theorem cubbylaw03_alike.rNew (w : World) (base : Nat) (hb : base ≤ w.heap.size) : Calls Try.prog 10 #[] w fun e w' => ∃ g, e = .returned (.pointer (some ⟨g, 0, none⟩)) ∧ Tw.R w' base g Dk.S0 ∧ Below w.heap.size w w' := by
  refine (cubbyref03_New.calls w base hb).mono ?_
  rintro e w' ⟨g, iv, he, hd, hb⟩
  exact ⟨g, he, ⟨iv, _, hd⟩, hb⟩
set_option maxHeartbeats 16000000 in
set_option maxRecDepth 100000 in
theorem cubbylaw03_alike.calls (base gd gr n : Nat) (m : Int) (w : World) (h : Tw.P w base gd gr n m) :
    Calls Try.prog 26 #[.pointer (some ⟨gd, 0, none⟩), .pointer (some ⟨gr, 0, none⟩)] w fun e w' => e = .returned (.bool true) ∧ w' = w := by
  obtain ⟨s, s', hd, hr, hq, _, _, _⟩ := h
  have HDR : Aside0 (∀ i, Calls Try.prog 21 #[.pointer (some ⟨gd, 0, none⟩), .int .i64 i] w fun e w' => e = .returned (.tuple #[.string (Dk.read s i).1, .int .i64 (Dk.read s i).2]) ∧ w' = w) := ⟨fun i => cubbylaw03_alike.dRead s base gd n i w hd⟩
  have HRR : Aside0 (∀ i, Calls Try.prog 34 #[.pointer (some ⟨gr, 0, none⟩), .int .i64 i] w fun e w' => e = .returned (.tuple #[.string (Dk.read s i).1, .int .i64 (Dk.read s i).2]) ∧ w' = w) := ⟨fun i => by
    have e := cubbylaw03_alike.rRead s' base gr i w hr
    rw [← hq.read i] at e
    exact e⟩
  have HDE := Aside0.mk (cubbylaw03_alike.dDead s base gd n w hd)
  have HRE : Aside0 (Calls Try.prog 36 #[.pointer (some ⟨gr, 0, none⟩)] w fun e w' => e = .returned (.bool s.off) ∧ w' = w) := ⟨by
    have e := cubbylaw03_alike.rDead s' base gr w hr
    rw [← hq.off] at e
    exact e⟩
  have HDC := Aside0.mk (cubbylaw03_alike.dCalls s base gd n w hd)
  have HRC : Aside0 (Calls Try.prog 19 #[.pointer (some ⟨gr, 0, none⟩)] w fun e w' => e = .returned (.int .i64 s.many) ∧ w' = w) := ⟨by
    have e := cubbylaw03_alike.rCalls s' base gr w hr
    rw [← hq.many] at e
    exact e⟩
  obtain ⟨so, hso⟩ : ∃ q, s.off = q := ⟨_, rfl⟩
  obtain ⟨sm, hsm⟩ : ∃ q, s.many = q := ⟨_, rfl⟩
  rw [hso] at HDE HRE
  rw [hsm] at HDC HRC
  clear hd hr hq hso hsm
  go_enter Try.func26, Try.ntmps26
  go_wp2_with (fail)
  go_loopg [5] 258 (fun gg v5 wq => ∃ i : Int, v5 = .int .i64 i ∧ -1 ≤ i ∧ i ≤ 257 ∧ (257 - i).toNat ≤ gg ∧ wq = w)
  case atStart => exact ⟨-1, rfl, by omega, by omega, by decide, rfl⟩
  case round =>
    obtain ⟨i, rfl, hi1, hi2, hgg, rfl⟩ := hrel
    by_cases hil : i ≤ 256
    · have HDR1 := Aside0.mk (HDR.out i)
      have HRR1 := Aside0.mk (HRR.out i)
      generalize Dk.read s i = rr at HDR1 HRR1
      obtain ⟨r1, r2⟩ := rr
      obtain ⟨gk, rfl⟩ : ∃ q, gk = q + 1 := by
        cases gk with
        | zero => omega
        | succ q => exact ⟨q, rfl⟩
      go_wp2_with (first | (go_at_call 21; (with_reducible refine HDR1.out.mono ?_); rintro e w3 ⟨rfl, rfl⟩) | (go_at_call 34; (with_reducible refine HRR1.out.mono ?_); rintro e w3 ⟨rfl, rfl⟩))
      go_roundg gk
      case measure => omega
      case rel => exact ⟨i + 1, rfl, by omega, by omega, by omega, rfl⟩
    · go_wp2_with (first | (go_at_call 17; (with_reducible refine HDE.out.mono ?_); rintro e w5 ⟨rfl, rfl⟩) | (go_at_call 36; (with_reducible refine HRE.out.mono ?_); rintro e w5 ⟨rfl, rfl⟩) | (go_at_call 18; (with_reducible refine HDC.out.mono ?_); rintro e w5 ⟨rfl, rfl⟩) | (go_at_call 19; (with_reducible refine HRC.out.mono ?_); rintro e w5 ⟨rfl, rfl⟩))
      go_ret
      exact ⟨by first | rfl | simp, rfl⟩

end Go.Proofs.Ytbikejfjfliamaa.PDiskScript
