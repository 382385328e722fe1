-- By a program of this session (wip/tools/mkprint.py), for this claim.
import Derived.Test.YtbikejfjfliamaaPDiskAgainx0
import Derived.Test.YtbikejfjfliamaaPDiskAgainx1
import Derived.Test.YtbikejfjfliamaaPDiskAgainx2
import Derived.Test.YtbikejfjfliamaaPDiskAgainx3
import Derived.Test.YtbikejfjfliamaaPDiskAgainx4
namespace Go.Proofs.Ytbikejfjfliamaa.PDiskAgain
open Go.RowKit Go.Proofs.YtbikejfjfliamaaW.PrintWords Go.Proofs.YtbikejfjfliamaaW.PrintLast Go.Proofs.YtbikejfjfliamaaW.PrintMore
attribute [local go_sem] max2_int min2_int max_two min_two max_three min_three max_four min_four   -- for this text's walks alone
set_option linter.unusedVariables false
set_option linter.unusedSimpArgs false

/-! ### cubbylaw03_alike: function 26 (by hand) -/
theorem cubbylaw03_alike.dWrite (s : Dk.S) (base g n : Nat) (i : Int) (x : ByteArray) (w : World) (h : Tw.D w base g n s) (hin : Dk.In s) (hn : n ≤ 1000000) :
    Calls Try.prog 13 #[.pointer (some ⟨g, 0, none⟩), .int .i64 i, .string x] w fun e w' => e = .returned (.int .i64 (Dk.writ s i x).2) ∧ Tw.D w' base g (n + 1) ((Dk.writ s i x).1) ∧ Dk.B base w w' := by
  obtain ⟨mb, n', ov, hn', h⟩ := h
  refine (disk_Disk_Write.calls s base g mb n' ov i x w h hin (by omega)).mono ?_
  rintro e w' ⟨he, ⟨ov', n2, h2, hd⟩, hb⟩
  exact ⟨he, ⟨mb, n2, ov', by omega, hd⟩, hb⟩
theorem cubbylaw03_alike.dBarrier (s : Dk.S) (base g n : Nat) (w : World) (h : Tw.D w base g n s) (hin : Dk.In s) :
    Calls Try.prog 15 #[.pointer (some ⟨g, 0, none⟩)] w fun e w' => e = .returned (.int .i64 (Dk.barr s).2) ∧ Tw.D w' base g (n + 0) ((Dk.barr s).1) ∧ Dk.B base w w' := by
  obtain ⟨mb, n', ov, hn', h⟩ := h
  refine (disk_Disk_Barrier.calls s base g mb n' ov w h hin).mono ?_
  rintro e w' ⟨he, ⟨ov', hd⟩, hb⟩
  exact ⟨he, ⟨mb, n', ov', by omega, hd⟩, hb⟩
theorem cubbylaw03_alike.dCut (s : Dk.S) (base g n : Nat) (i k : Int) (w : World) (h : Tw.D w base g n s) :
    Calls Try.prog 11 #[.pointer (some ⟨g, 0, none⟩), .int .i64 i, .int .u64 k] w fun e w' => e = .returned (.tuple #[]) ∧ Tw.D w' base g (n + 0) (Dk.cutS s i k) ∧ Dk.B base w w' := by
  obtain ⟨mb, n', ov, hn', h⟩ := h
  refine (disk_Disk_Cut.calls s base g mb n' ov i k w h).mono ?_
  rintro e w' ⟨he, hd, hb⟩
  exact ⟨he, ⟨mb, n', ov, by omega, hd⟩, hb⟩
theorem cubbylaw03_alike.dFail (s : Dk.S) (base g n : Nat) (i : Int) (w : World) (h : Tw.D w base g n s) :
    Calls Try.prog 20 #[.pointer (some ⟨g, 0, none⟩), .int .i64 i] w fun e w' => e = .returned (.tuple #[]) ∧ Tw.D w' base g (n + 0) (Dk.failS s i) ∧ Dk.B base w w' := by
  obtain ⟨mb, n', ov, hn', h⟩ := h
  refine (disk_Disk_Fail.calls s base g mb n' ov i w h).mono ?_
  rintro e w' ⟨he, hd, hb⟩
  exact ⟨he, ⟨mb, n', ov, by omega, hd⟩, hb⟩
theorem cubbylaw03_alike.dPower (s : Dk.S) (base g n : Nat) (w : World) (h : Tw.D w base g n s) :
    Calls Try.prog 22 #[.pointer (some ⟨g, 0, none⟩)] w fun e w' => e = .returned (.tuple #[]) ∧ Tw.D w' base g (n + 0) (Dk.powS s) ∧ Dk.B base w w' := by
  obtain ⟨mb, n', ov, hn', h⟩ := h
  refine (disk_Disk_Power.calls s base g mb n' ov w h).mono ?_
  rintro e w' ⟨he, hd, hb⟩
  exact ⟨he, ⟨mb, n', ov, by omega, hd⟩, hb⟩
theorem cubbylaw03_alike.dDead (s : Dk.S) (base g n : Nat) (w : World) (h : Tw.D w base g n s) :
    Calls Try.prog 17 #[.pointer (some ⟨g, 0, none⟩)] w fun e w' => e = .returned (.bool s.off) ∧ w' = w := by
  obtain ⟨mb, n', ov, hn', h⟩ := h
  exact disk_Disk_Dead.calls s base g mb n' ov w h
theorem cubbylaw03_alike.dCalls (s : Dk.S) (base g n : Nat) (w : World) (h : Tw.D w base g n s) :
    Calls Try.prog 18 #[.pointer (some ⟨g, 0, none⟩)] w fun e w' => e = .returned (.int .i64 s.many) ∧ w' = w := by
  obtain ⟨mb, n', ov, hn', h⟩ := h
  exact disk_Disk_Calls.calls s base g mb n' ov w h
theorem cubbylaw03_alike.dRead (s : Dk.S) (base g n : Nat) (i : Int) (w : World) (h : Tw.D w base g n s) :
    Calls Try.prog 21 #[.pointer (some ⟨g, 0, none⟩), .int .i64 i] w fun e w' => e = .returned (.tuple #[.string (Dk.read s i).1, .int .i64 (Dk.read s i).2]) ∧ w' = w := by
  obtain ⟨mb, n', ov, hn', h⟩ := h
  exact disk_Disk_Read.calls s base g mb n' ov i w h
theorem cubbylaw03_alike.dNew (w : World) (base : Nat) (hb : base ≤ w.heap.size) : Calls Try.prog 9 #[] w fun e w' => ∃ g, e = .returned (.pointer (some ⟨g, 0, none⟩)) ∧ Tw.D w' base g 0 Dk.S0 ∧ Below w.heap.size w w' := by
  refine (disk_New.calls w base hb).mono ?_
  rintro e w' ⟨g, mb, he, hd, hb⟩
  exact ⟨g, he, ⟨mb, 0, _, Nat.le_refl _, hd⟩, hb⟩
theorem cubbylaw03_alike.rWrite (s : Dk.S) (base g : Nat) (i : Int) (x : ByteArray) (w : World) (h : Tw.R w base g s) (hin : Dk.In s) :
    Calls Try.prog 14 #[.pointer (some ⟨g, 0, none⟩), .int .i64 i, .string x] w fun e w' => e = .returned (.int .i64 (Dk.writ s i x).2) ∧ Tw.R w' base g ((Dk.writ s i x).1) ∧ Rf.B base w w' := by
  obtain ⟨iv, lv, h⟩ := h
  refine (cubbyref03_Disk_Write.calls s base g iv lv i x w h hin).mono ?_
  rintro e w' ⟨he, ⟨lv', hd⟩, hb⟩
  exact ⟨he, ⟨iv, lv', hd⟩, hb⟩
theorem cubbylaw03_alike.rBarrier (s : Dk.S) (base g : Nat) (w : World) (h : Tw.R w base g s) (hin : Dk.In s) :
    Calls Try.prog 16 #[.pointer (some ⟨g, 0, none⟩)] w fun e w' => e = .returned (.int .i64 (Dk.barr s).2) ∧ Tw.R w' base g ((Dk.barr s).1) ∧ Rf.B base w w' := by
  obtain ⟨iv, lv, h⟩ := h
  refine (cubbyref03_Disk_Barrier.calls s base g iv lv w h hin).mono ?_
  rintro e w' ⟨he, ⟨lv', hd⟩, hb⟩
  exact ⟨he, ⟨iv, lv', hd⟩, hb⟩
theorem cubbylaw03_alike.rCut (s : Dk.S) (base g : Nat) (i k : Int) (w : World) (h : Tw.R w base g s) :
    Calls Try.prog 12 #[.pointer (some ⟨g, 0, none⟩), .int .i64 i, .int .u64 k] w fun e w' => e = .returned (.tuple #[]) ∧ Tw.R w' base g (Dk.cutS s i k) ∧ Rf.B base w w' := by
  obtain ⟨iv, lv, h⟩ := h
  refine (cubbyref03_Disk_Cut.calls s base g iv lv i k w h).mono ?_
  rintro e w' ⟨he, hd, hb⟩
  exact ⟨he, ⟨iv, lv, hd⟩, hb⟩
theorem cubbylaw03_alike.rFail (s : Dk.S) (base g : Nat) (i : Int) (w : World) (h : Tw.R w base g s) :
    Calls Try.prog 35 #[.pointer (some ⟨g, 0, none⟩), .int .i64 i] w fun e w' => e = .returned (.tuple #[]) ∧ Tw.R w' base g (Dk.failS s i) ∧ Rf.B base w w' := by
  obtain ⟨iv, lv, h⟩ := h
  refine (cubbyref03_Disk_Fail.calls s base g iv lv i w h).mono ?_
  rintro e w' ⟨he, hd, hb⟩
  exact ⟨he, ⟨iv, lv, hd⟩, hb⟩
theorem cubbylaw03_alike.rPower (s : Dk.S) (base g : Nat) (w : World) (h : Tw.R w base g s) :
    Calls Try.prog 25 #[.pointer (some ⟨g, 0, none⟩)] w fun e w' => e = .returned (.tuple #[]) ∧ Tw.R w' base g (Dk.powS s) ∧ Rf.B base w w' := by
  obtain ⟨iv, lv, h⟩ := h
  refine (cubbyref03_Disk_Power.calls s base g iv lv w h).mono ?_
  rintro e w' ⟨he, hd, hb⟩
  exact ⟨he, ⟨iv, lv, hd⟩, hb⟩
theorem cubbylaw03_alike.rDead (s : Dk.S) (base g : Nat) (w : World) (h : Tw.R w base g s) :
    Calls Try.prog 36 #[.pointer (some ⟨g, 0, none⟩)] w fun e w' => e = .returned (.bool s.off) ∧ w' = w := by
  obtain ⟨iv, lv, h⟩ := h
  exact cubbyref03_Disk_Dead.calls s base g iv lv w h
theorem cubbylaw03_alike.rCalls (s : Dk.S) (base g : Nat) (w : World) (h : Tw.R w base g s) :
    Calls Try.prog 19 #[.pointer (some ⟨g, 0, none⟩)] w fun e w' => e = .returned (.int .i64 s.many) ∧ w' = w := by
  obtain ⟨iv, lv, h⟩ := h
  exact cubbyref03_Disk_Calls.calls s base g iv lv w h
theorem cubbylaw03_alike.rRead (s : Dk.S) (base g : Nat) (i : Int) (w : World) (h : Tw.R w base g s) :
    Calls Try.prog 34 #[.pointer (some ⟨g, 0, none⟩), .int .i64 i] w fun e w' => e = .returned (.tuple #[.string (Dk.read s i).1, .int .i64 (Dk.read s i).2]) ∧ w' = w := by
  obtain ⟨iv, lv, h⟩ := h
  exact cubbyref03_Disk_Read.calls s base g iv lv i w h
theorem cubbylaw03_alike.rNew (w : World) (base : Nat) (hb : base ≤ w.heap.size) : Calls Try.prog 10 #[] w fun e w' => ∃ g, e = .returned (.pointer (some ⟨g, 0, none⟩)) ∧ Tw.R w' base g Dk.S0 ∧ Below w.heap.size w w' := by
  refine (cubbyref03_New.calls w base hb).mono ?_
  rintro e w' ⟨g, iv, he, hd, hb⟩
  exact ⟨g, he, ⟨iv, _, hd⟩, hb⟩
set_option maxHeartbeats 16000000 in
set_option maxRecDepth 100000 in
theorem cubbylaw03_alike.calls (base gd gr n : Nat) (m : Int) (w : World) (h : Tw.P w base gd gr n m) :
    Calls Try.prog 26 #[.pointer (some ⟨gd, 0, none⟩), .pointer (some ⟨gr, 0, none⟩)] w fun e w' => e = .returned (.bool true) ∧ w' = w := by
  obtain ⟨s, s', hd, hr, hq, _, _, _⟩ := h
  have HDR : Aside0 (∀ i, Calls Try.prog 21 #[.pointer (some ⟨gd, 0, none⟩), .int .i64 i] w fun e w' => e = .returned (.tuple #[.string (Dk.read s i).1, .int .i64 (Dk.read s i).2]) ∧ w' = w) := ⟨fun i => cubbylaw03_alike.dRead s base gd n i w hd⟩
  have HRR : Aside0 (∀ i, Calls Try.prog 34 #[.pointer (some ⟨gr, 0, none⟩), .int .i64 i] w fun e w' => e = .returned (.tuple #[.string (Dk.read s i).1, .int .i64 (Dk.read s i).2]) ∧ w' = w) := ⟨fun i => by
    have e := cubbylaw03_alike.rRead s' base gr i w hr
    rw [← hq.read i] at e
    exact e⟩
  have HDE := Aside0.mk (cubbylaw03_alike.dDead s base gd n w hd)
  have HRE : Aside0 (Calls Try.prog 36 #[.pointer (some ⟨gr, 0, none⟩)] w fun e w' => e = .returned (.bool s.off) ∧ w' = w) := ⟨by
    have e := cubbylaw03_alike.rDead s' base gr w hr
    rw [← hq.off] at e
    exact e⟩
  have HDC := Aside0.mk (cubbylaw03_alike.dCalls s base gd n w hd)
  have HRC : Aside0 (Calls Try.prog 19 #[.pointer (some ⟨gr, 0, none⟩)] w fun e w' => e = .returned (.int .i64 s.many) ∧ w' = w) := ⟨by
    have e := cubbylaw03_alike.rCalls s' base gr w hr
    rw [← hq.many] at e
    exact e⟩
  obtain ⟨so, hso⟩ : ∃ q, s.off = q := ⟨_, rfl⟩
  obtain ⟨sm, hsm⟩ : ∃ q, s.many = q := ⟨_, rfl⟩
  rw [hso] at HDE HRE
  rw [hsm] at HDC HRC
  clear hd hr hq hso hsm
  go_enter Try.func26, Try.ntmps26
  go_wp2_with (fail)
  go_loopg [5] 258 (fun gg v5 wq => ∃ i : Int, v5 = .int .i64 i ∧ -1 ≤ i ∧ i ≤ 257 ∧ (257 - i).toNat ≤ gg ∧ wq = w)
  case atStart => exact ⟨-1, rfl, by omega, by omega, by decide, rfl⟩
  case round =>
    obtain ⟨i, rfl, hi1, hi2, hgg, rfl⟩ := hrel
    by_cases hil : i ≤ 256
    · have HDR1 := Aside0.mk (HDR.out i)
      have HRR1 := Aside0.mk (HRR.out i)
      generalize Dk.read s i = rr at HDR1 HRR1
      obtain ⟨r1, r2⟩ := rr
      obtain ⟨gk, rfl⟩ : ∃ q, gk = q + 1 := by
        cases gk with
        | zero => omega
        | succ q => exact ⟨q, rfl⟩
      go_wp2_with (first | (go_at_call 21; (with_reducible refine HDR1.out.mono ?_); rintro e w3 ⟨rfl, rfl⟩) | (go_at_call 34; (with_reducible refine HRR1.out.mono ?_); rintro e w3 ⟨rfl, rfl⟩))
      go_roundg gk
      case measure => omega
      case rel => exact ⟨i + 1, rfl, by omega, by omega, by omega, rfl⟩
    · go_wp2_with (first | (go_at_call 17; (with_reducible refine HDE.out.mono ?_); rintro e w5 ⟨rfl, rfl⟩) | (go_at_call 36; (with_reducible refine HRE.out.mono ?_); rintro e w5 ⟨rfl, rfl⟩) | (go_at_call 18; (with_reducible refine HDC.out.mono ?_); rintro e w5 ⟨rfl, rfl⟩) | (go_at_call 19; (with_reducible refine HRC.out.mono ?_); rintro e w5 ⟨rfl, rfl⟩))
      go_ret
      exact ⟨by first | rfl | simp, rfl⟩

/-! ### cubbylaw03_DiskAgain: function 7 (by hand) -/
theorem cubbylaw03_DiskAgain.wrap64_in (n : Int) (h : -9223372036854775808 ≤ n) (h2 : n < 9223372036854775808) : wrap64 n = n := by unfold wrap64; omega
/-- With fuel enough it answers v. -/
def cubbylaw03_DiskAgain.Ev {α : Type} (g : Nat → Option α) (v : α) : Prop := ∃ k0, ∀ k, k0 ≤ k → g k = some v
theorem cubbylaw03_DiskAgain.Ev.succ {α : Type} {g : Nat → Option α} {v : α} (h : cubbylaw03_DiskAgain.Ev (fun k => g (k + 1)) v) : cubbylaw03_DiskAgain.Ev g v := by
  obtain ⟨k0, h⟩ := h
  refine ⟨k0 + 1, fun k hk => ?_⟩
  obtain ⟨k, rfl⟩ : ∃ m, k = m + 1 := ⟨k - 1, by omega⟩
  exact h k (by omega)
theorem cubbylaw03_DiskAgain.Ev.bind {α β : Type} {g : Nat → Option α} {f : Nat → α → Option β} {a : α} {v : β} (h1 : cubbylaw03_DiskAgain.Ev g a) (h2 : cubbylaw03_DiskAgain.Ev (fun k => f k a) v) : cubbylaw03_DiskAgain.Ev (fun k => (g k).bind (f k)) v := by
  obtain ⟨k1, h1⟩ := h1
  obtain ⟨k2, h2⟩ := h2
  refine ⟨k1 + k2, fun k hk => ?_⟩
  show (g k).bind (f k) = some v
  rw [h1 k (by omega)]
  exact h2 k (by omega)
theorem cubbylaw03_DiskAgain.Ev.const {α : Type} (v : α) : cubbylaw03_DiskAgain.Ev (fun _ => some v) v := ⟨0, fun _ _ => rfl⟩
theorem cubbylaw03_DiskAgain.Ev.get {α : Type} {g : Nat → Option α} {v : α} (h : cubbylaw03_DiskAgain.Ev g v) : ∃ k, g k = some v := by
  obtain ⟨k0, h⟩ := h
  exact ⟨k0, h k0 (Nat.le_refl _)⟩
theorem cubbylaw03_DiskAgain.Ev.of {α : Type} {g g' : Nat → Option α} {v : α} (h : cubbylaw03_DiskAgain.Ev g v) (e : ∀ k, g' k = g k) : cubbylaw03_DiskAgain.Ev g' v := by
  obtain ⟨k0, h⟩ := h
  exact ⟨k0, fun k hk => (e k).trans (h k hk)⟩
theorem cubbylaw03_DiskAgain.wnat (i : Nat) (h : i < 9223372036854775807) : wrap64 ((i : Int) + 1) = ((i + 1 : Nat) : Int) := by rw [cubbylaw03_DiskAgain.wrap64_in _ (by omega) (by omega)]; omega
theorem cubbylaw03_DiskAgain.rd44 (l : List S44) (i : Nat) (h : i < l.length) : rd_T44 l (i : Int) = l[i] := by
  unfold rd_T44
  simp [List.getD_eq_getElem?_getD, h]
theorem cubbylaw03_DiskAgain.heavy_l0 (l : List S44) (hl : l.length ≤ maxLen) (d : Nat) : ∀ (i n : Nat), i + d = l.length → n ≤ maxLen + 1048576 → ∃ b, cubbylaw03_DiskAgain.Ev (fun k => cubbylaw03_heavy.l0 k l (n : Int) (i : Int)) b ∧ (b = false → l.length ≤ 200) := by
  unfold maxLen at hl
  unfold maxLen
  induction d with
  | zero =>
    intro i n hi hn
    by_cases hn2 : n ≤ 4096
    · refine ⟨decide ((l.length : Int) > 200), cubbylaw03_DiskAgain.Ev.succ ?_, fun h => ?_⟩
      · simp only [cubbylaw03_heavy.l0]
        exact (cubbylaw03_DiskAgain.Ev.const _).of fun k => by rw [if_neg (by omega), if_neg (by omega)]
      · have := of_decide_eq_false h
        omega
    · refine ⟨true, cubbylaw03_DiskAgain.Ev.succ ?_, fun h => by cases h⟩
      simp only [cubbylaw03_heavy.l0]
      exact (cubbylaw03_DiskAgain.Ev.const _).of fun k => by rw [if_neg (by omega), if_pos (by omega)]
  | succ d ih =>
    intro i n hi hn
    have hlt : i < l.length := by omega
    by_cases hn2 : n ≤ 4096
    · have hm : mn (l[i].f2.size : Int) 1048576 = ((min l[i].f2.size 1048576 : Nat) : Int) := by unfold mn; split <;> omega
      obtain ⟨b, h1, h2⟩ := ih (i + 1) (n + min l[i].f2.size 1048576) (by omega) (by omega)
      refine ⟨b, cubbylaw03_DiskAgain.Ev.succ ?_, h2⟩
      simp only [cubbylaw03_heavy.l0]
      refine h1.of fun k => ?_
      rw [if_pos (by omega), if_pos (by omega), if_pos (by omega), cubbylaw03_DiskAgain.rd44 l i hlt, hm, cubbylaw03_DiskAgain.wnat i (by omega), cubbylaw03_DiskAgain.wrap64_in _ (by omega) (by omega)]
      congr 1
    · refine ⟨true, cubbylaw03_DiskAgain.Ev.succ ?_, fun h => by cases h⟩
      simp only [cubbylaw03_heavy.l0]
      exact (cubbylaw03_DiskAgain.Ev.const _).of fun k => by rw [if_pos (by omega), if_neg (by omega), if_pos (by omega)]
theorem cubbylaw03_DiskAgain.heavy_ev (l : List S44) (hl : l.length ≤ maxLen) : ∃ k b, cubbylaw03_heavy.f k l = some b ∧ (b = false → l.length ≤ 200) := by
  obtain ⟨b, h1, h2⟩ := cubbylaw03_DiskAgain.heavy_l0 l hl l.length 0 l.length (by omega) (by unfold maxLen at hl ⊢; omega)
  obtain ⟨k, h⟩ := h1.get
  exact ⟨k, b, h, h2⟩
def cubbylaw03_DiskAgain.Fit (l : List S44) : Prop := l.length ≤ maxLen ∧ ∀ x ∈ l, x.f1 < 9223372036854775808 ∧ 0 ≤ x.f3 ∧ x.f3 < 18446744073709551616
instance (l : List S44) : Decidable (cubbylaw03_DiskAgain.Fit l) := by unfold cubbylaw03_DiskAgain.Fit; infer_instance
theorem cubbylaw03_DiskAgain.dWrite (s : Dk.S) (base g n : Nat) (i : Int) (x : ByteArray) (w : World) (h : Tw.D w base g n s) (hin : Dk.In s) (hn : n ≤ 1000000) :
    Calls Try.prog 13 #[.pointer (some ⟨g, 0, none⟩), .int .i64 i, .string x] w fun e w' => e = .returned (.int .i64 (Dk.writ s i x).2) ∧ Tw.D w' base g (n + 1) ((Dk.writ s i x).1) ∧ Dk.B base w w' := by
  obtain ⟨mb, n', ov, hn', h⟩ := h
  refine (disk_Disk_Write.calls s base g mb n' ov i x w h hin (by omega)).mono ?_
  rintro e w' ⟨he, ⟨ov', n2, h2, hd⟩, hb⟩
  exact ⟨he, ⟨mb, n2, ov', by omega, hd⟩, hb⟩
theorem cubbylaw03_DiskAgain.dBarrier (s : Dk.S) (base g n : Nat) (w : World) (h : Tw.D w base g n s) (hin : Dk.In s) :
    Calls Try.prog 15 #[.pointer (some ⟨g, 0, none⟩)] w fun e w' => e = .returned (.int .i64 (Dk.barr s).2) ∧ Tw.D w' base g (n + 0) ((Dk.barr s).1) ∧ Dk.B base w w' := by
  obtain ⟨mb, n', ov, hn', h⟩ := h
  refine (disk_Disk_Barrier.calls s base g mb n' ov w h hin).mono ?_
  rintro e w' ⟨he, ⟨ov', hd⟩, hb⟩
  exact ⟨he, ⟨mb, n', ov', by omega, hd⟩, hb⟩
theorem cubbylaw03_DiskAgain.dCut (s : Dk.S) (base g n : Nat) (i k : Int) (w : World) (h : Tw.D w base g n s) :
    Calls Try.prog 11 #[.pointer (some ⟨g, 0, none⟩), .int .i64 i, .int .u64 k] w fun e w' => e = .returned (.tuple #[]) ∧ Tw.D w' base g (n + 0) (Dk.cutS s i k) ∧ Dk.B base w w' := by
  obtain ⟨mb, n', ov, hn', h⟩ := h
  refine (disk_Disk_Cut.calls s base g mb n' ov i k w h).mono ?_
  rintro e w' ⟨he, hd, hb⟩
  exact ⟨he, ⟨mb, n', ov, by omega, hd⟩, hb⟩
theorem cubbylaw03_DiskAgain.dFail (s : Dk.S) (base g n : Nat) (i : Int) (w : World) (h : Tw.D w base g n s) :
    Calls Try.prog 20 #[.pointer (some ⟨g, 0, none⟩), .int .i64 i] w fun e w' => e = .returned (.tuple #[]) ∧ Tw.D w' base g (n + 0) (Dk.failS s i) ∧ Dk.B base w w' := by
  obtain ⟨mb, n', ov, hn', h⟩ := h
  refine (disk_Disk_Fail.calls s base g mb n' ov i w h).mono ?_
  rintro e w' ⟨he, hd, hb⟩
  exact ⟨he, ⟨mb, n', ov, by omega, hd⟩, hb⟩
theorem cubbylaw03_DiskAgain.dPower (s : Dk.S) (base g n : Nat) (w : World) (h : Tw.D w base g n s) :
    Calls Try.prog 22 #[.pointer (some ⟨g, 0, none⟩)] w fun e w' => e = .returned (.tuple #[]) ∧ Tw.D w' base g (n + 0) (Dk.powS s) ∧ Dk.B base w w' := by
  obtain ⟨mb, n', ov, hn', h⟩ := h
  refine (disk_Disk_Power.calls s base g mb n' ov w h).mono ?_
  rintro e w' ⟨he, hd, hb⟩
  exact ⟨he, ⟨mb, n', ov, by omega, hd⟩, hb⟩
theorem cubbylaw03_DiskAgain.dDead (s : Dk.S) (base g n : Nat) (w : World) (h : Tw.D w base g n s) :
    Calls Try.prog 17 #[.pointer (some ⟨g, 0, none⟩)] w fun e w' => e = .returned (.bool s.off) ∧ w' = w := by
  obtain ⟨mb, n', ov, hn', h⟩ := h
  exact disk_Disk_Dead.calls s base g mb n' ov w h
theorem cubbylaw03_DiskAgain.dCalls (s : Dk.S) (base g n : Nat) (w : World) (h : Tw.D w base g n s) :
    Calls Try.prog 18 #[.pointer (some ⟨g, 0, none⟩)] w fun e w' => e = .returned (.int .i64 s.many) ∧ w' = w := by
  obtain ⟨mb, n', ov, hn', h⟩ := h
  exact disk_Disk_Calls.calls s base g mb n' ov w h
theorem cubbylaw03_DiskAgain.dRead (s : Dk.S) (base g n : Nat) (i : Int) (w : World) (h : Tw.D w base g n s) :
    Calls Try.prog 21 #[.pointer (some ⟨g, 0, none⟩), .int .i64 i] w fun e w' => e = .returned (.tuple #[.string (Dk.read s i).1, .int .i64 (Dk.read s i).2]) ∧ w' = w := by
  obtain ⟨mb, n', ov, hn', h⟩ := h
  exact disk_Disk_Read.calls s base g mb n' ov i w h
theorem cubbylaw03_DiskAgain.dNew (w : World) (base : Nat) (hb : base ≤ w.heap.size) : Calls Try.prog 9 #[] w fun e w' => ∃ g, e = .returned (.pointer (some ⟨g, 0, none⟩)) ∧ Tw.D w' base g 0 Dk.S0 ∧ Below w.heap.size w w' := by
  refine (disk_New.calls w base hb).mono ?_
  rintro e w' ⟨g, mb, he, hd, hb⟩
  exact ⟨g, he, ⟨mb, 0, _, Nat.le_refl _, hd⟩, hb⟩
theorem cubbylaw03_DiskAgain.rWrite (s : Dk.S) (base g : Nat) (i : Int) (x : ByteArray) (w : World) (h : Tw.R w base g s) (hin : Dk.In s) :
    Calls Try.prog 14 #[.pointer (some ⟨g, 0, none⟩), .int .i64 i, .string x] w fun e w' => e = .returned (.int .i64 (Dk.writ s i x).2) ∧ Tw.R w' base g ((Dk.writ s i x).1) ∧ Rf.B base w w' := by
  obtain ⟨iv, lv, h⟩ := h
  refine (cubbyref03_Disk_Write.calls s base g iv lv i x w h hin).mono ?_
  rintro e w' ⟨he, ⟨lv', hd⟩, hb⟩
  exact ⟨he, ⟨iv, lv', hd⟩, hb⟩
theorem cubbylaw03_DiskAgain.rBarrier (s : Dk.S) (base g : Nat) (w : World) (h : Tw.R w base g s) (hin : Dk.In s) :
    Calls Try.prog 16 #[.pointer (some ⟨g, 0, none⟩)] w fun e w' => e = .returned (.int .i64 (Dk.barr s).2) ∧ Tw.R w' base g ((Dk.barr s).1) ∧ Rf.B base w w' := by
  obtain ⟨iv, lv, h⟩ := h
  refine (cubbyref03_Disk_Barrier.calls s base g iv lv w h hin).mono ?_
  rintro e w' ⟨he, ⟨lv', hd⟩, hb⟩
  exact ⟨he, ⟨iv, lv', hd⟩, hb⟩
theorem cubbylaw03_DiskAgain.rCut (s : Dk.S) (base g : Nat) (i k : Int) (w : World) (h : Tw.R w base g s) :
    Calls Try.prog 12 #[.pointer (some ⟨g, 0, none⟩), .int .i64 i, .int .u64 k] w fun e w' => e = .returned (.tuple #[]) ∧ Tw.R w' base g (Dk.cutS s i k) ∧ Rf.B base w w' := by
  obtain ⟨iv, lv, h⟩ := h
  refine (cubbyref03_Disk_Cut.calls s base g iv lv i k w h).mono ?_
  rintro e w' ⟨he, hd, hb⟩
  exact ⟨he, ⟨iv, lv, hd⟩, hb⟩
theorem cubbylaw03_DiskAgain.rFail (s : Dk.S) (base g : Nat) (i : Int) (w : World) (h : Tw.R w base g s) :
    Calls Try.prog 35 #[.pointer (some ⟨g, 0, none⟩), .int .i64 i] w fun e w' => e = .returned (.tuple #[]) ∧ Tw.R w' base g (Dk.failS s i) ∧ Rf.B base w w' := by
  obtain ⟨iv, lv, h⟩ := h
  refine (cubbyref03_Disk_Fail.calls s base g iv lv i w h).mono ?_
  rintro e w' ⟨he, hd, hb⟩
  exact ⟨he, ⟨iv, lv, hd⟩, hb⟩
theorem cubbylaw03_DiskAgain.rPower (s : Dk.S) (base g : Nat) (w : World) (h : Tw.R w base g s) :
    Calls Try.prog 25 #[.pointer (some ⟨g, 0, none⟩)] w fun e w' => e = .returned (.tuple #[]) ∧ Tw.R w' base g (Dk.powS s) ∧ Rf.B base w w' := by
  obtain ⟨iv, lv, h⟩ := h
  refine (cubbyref03_Disk_Power.calls s base g iv lv w h).mono ?_
  rintro e w' ⟨he, hd, hb⟩
  exact ⟨he, ⟨iv, lv, hd⟩, hb⟩
theorem cubbylaw03_DiskAgain.rDead (s : Dk.S) (base g : Nat) (w : World) (h : Tw.R w base g s) :
    Calls Try.prog 36 #[.pointer (some ⟨g, 0, none⟩)] w fun e w' => e = .returned (.bool s.off) ∧ w' = w := by
  obtain ⟨iv, lv, h⟩ := h
  exact cubbyref03_Disk_Dead.calls s base g iv lv w h
theorem cubbylaw03_DiskAgain.rCalls (s : Dk.S) (base g : Nat) (w : World) (h : Tw.R w base g s) :
    Calls Try.prog 19 #[.pointer (some ⟨g, 0, none⟩)] w fun e w' => e = .returned (.int .i64 s.many) ∧ w' = w := by
  obtain ⟨iv, lv, h⟩ := h
  exact cubbyref03_Disk_Calls.calls s base g iv lv w h
theorem cubbylaw03_DiskAgain.rRead (s : Dk.S) (base g : Nat) (i : Int) (w : World) (h : Tw.R w base g s) :
    Calls Try.prog 34 #[.pointer (some ⟨g, 0, none⟩), .int .i64 i] w fun e w' => e = .returned (.tuple #[.string (Dk.read s i).1, .int .i64 (Dk.read s i).2]) ∧ w' = w := by
  obtain ⟨iv, lv, h⟩ := h
  exact cubbyref03_Disk_Read.calls s base g iv lv i w h
theorem cubbylaw03_DiskAgain.rNew (w : World) (base : Nat) (hb : base ≤ w.heap.size) : Calls Try.prog 10 #[] w fun e w' => ∃ g, e = .returned (.pointer (some ⟨g, 0, none⟩)) ∧ Tw.R w' base g Dk.S0 ∧ Below w.heap.size w w' := by
  refine (cubbyref03_New.calls w base hb).mono ?_
  rintro e w' ⟨g, iv, he, hd, hb⟩
  exact ⟨g, he, ⟨iv, _, hd⟩, hb⟩
def cubbylaw03_DiskAgain.f (l0 l1 : List (S44)) (l2 : Int) : Option Bool := if cubbylaw03_DiskAgain.Fit l0 ∧ cubbylaw03_DiskAgain.Fit l1 ∧ (0 ≤ l2 ∧ l2 < 18446744073709551616) then some true else none
theorem cubbylaw03_DiskAgain.rMany {W : World} {base g : Nat} {s s' : Dk.S} (h : Tw.R W base g s) (hs : s' = { s with many := s'.many }) : ∀ (gr : Nat), gr = g → Tw.R (W.setCell ⟨gr, 6, none⟩ (.int .i64 s'.many)) base g s' ∧ Rf.B base W (W.setCell ⟨gr, 6, none⟩ (.int .i64 s'.many)) ∧ W.frozen? ⟨gr, 6, none⟩ = false ∧ W.cell? ⟨gr, 6, none⟩ = some (.int .i64 s.many) := by
  rintro _ rfl
  obtain ⟨iv, lv, h⟩ := h
  have hp := h.put (s' := s') 6 (.int .i64 s'.many) (by rw [hs]; rfl) (by rw [hs]) (by rw [hs])
  exact ⟨⟨iv, lv, hp.1⟩, hp.2, h.fz 6, h.at 6⟩
set_option maxHeartbeats 16000000 in
set_option maxRecDepth 100000 in
theorem cubbylaw03_DiskAgain.calls (A0 : Option Addr) (c0 : Nat) (l0 : List (S44)) (A1 : Option Addr) (c1 : Nat) (l1 : List (S44)) (l2 : Int) (r : Bool) (w : World) (hr0 : Kd.C k44 w A0 l0.length l0) (hc0 : l0.length ≤ c0) (hr1 : Kd.C k44 w A1 l1.length l1) (hc1 : l1.length ≤ c1) (h : cubbylaw03_DiskAgain.f l0 l1 l2 = some r) :
    Calls Try.prog 7 #[.slice A0 l0.length c0, .slice A1 l1.length c1, .int .u64 l2] w fun e w' => e = .returned (.bool r) ∧ Below w.heap.size w w' := by
  unfold cubbylaw03_DiskAgain.f at h
  by_cases hl : cubbylaw03_DiskAgain.Fit l0 ∧ cubbylaw03_DiskAgain.Fit l1 ∧ (0 ≤ l2 ∧ l2 < 18446744073709551616)
  case neg => rw [if_neg hl] at h; cases h
  rw [if_pos hl] at h
  obtain rfl := Option.some.inj h
  clear h
  obtain ⟨hl0, hl1, hk⟩ := hl
  obtain ⟨kh0, b0, hh0, hb0⟩ := cubbylaw03_DiskAgain.heavy_ev l0 hl0.1
  obtain ⟨kh1, b1, hh1, hb1⟩ := cubbylaw03_DiskAgain.heavy_ev l1 hl1.1
  have HR0 := Aside0.mk hr0
  have HR1 := Aside0.mk hr1
  have HH0 := Aside0.mk (fun W hb => cubbylaw03_heavy.calls kh0 A0 c0 l0 b0 W (Kd.C_below HR0.out (w1 := W) hb) hc0 hh0)
  have HH1 := Aside0.mk (fun W hb => cubbylaw03_heavy.calls kh1 A1 c1 l1 b1 W (Kd.C_below HR1.out (w1 := W) hb) hc1 hh1)
  have HL0 := Aside0.mk hl0.2
  have HL1 := Aside0.mk hl1.2
  clear hr0 hr1 hh0 hh1 hl0 hl1
  cases b0 with
  | true =>
    clear hb0 hb1
    go_enter Try.func7, Try.ntmps7
    go_wp2_with (go_at_call 23; refine (HH0.out _ (Below.refl _ _)).mono ?_; rintro e w1 ⟨rfl, hb1⟩; have HB1 := Aside0.mk hb1; clear hb1)
    go_ret
    exact ⟨rfl, HB1.out⟩
  | false =>
  cases b1 with
  | true =>
    clear hb0 hb1
    go_enter Try.func7, Try.ntmps7
    go_wp2_with (go_at_call 23; first
      | (with_reducible refine (HH1.out _ HB1.out).mono ?_; rintro e w2 ⟨rfl, hb2⟩; have HB2 := Aside0.mk (HB1.out.trans (hb2.mono HB1.out.size)); clear hb2)
      | (with_reducible refine (HH0.out _ (Below.refl _ _)).mono ?_; rintro e w1 ⟨rfl, hb1⟩; have HB1 := Aside0.mk hb1; clear hb1))
    go_ret
    exact ⟨rfl, HB2.out⟩
  | false =>
    have h200 := hb0 rfl
    have h201 := hb1 rfl
    clear hb0 hb1
    go_enter Try.func7, Try.ntmps7
    go_wp2_with (first
      | (go_at_call 23; first
        | (with_reducible refine (HH1.out _ HB.out).mono ?_; rintro e w2 ⟨rfl, hb2⟩; have HB := Aside0.mk (HB.out.trans (hb2.mono HB.out.size)); clear hb2)
        | (with_reducible refine (HH0.out _ (Below.refl _ _)).mono ?_; rintro e w1 ⟨rfl, hb1⟩; have HB := Aside0.mk hb1; clear hb1))
      | (go_at_call 9; (with_reducible refine (cubbylaw03_DiskAgain.dNew _ w.heap.size HB.out.size).mono ?_); rintro e w2 ⟨gd, rfl, hd2, hb2⟩; have HD := Aside0.mk hd2; have HB := Aside0.mk (HB.out.trans (hb2.mono HB.out.size)); clear hd2 hb2))
    go_loopg [8] l0.length (fun gg v8 wq => ∃ (i : Nat) (s : Dk.S), v8 = .int .i64 (i : Int) ∧ i ≤ l0.length ∧ l0.length - i ≤ gg ∧ Aside0 (Tw.D wq w.heap.size gd i s) ∧ Aside0 (Pn.N i s) ∧ Aside0 (Below w.heap.size w wq))
    case atStart => exact ⟨0, Dk.S0, rfl, Nat.zero_le _, by omega, HD, ⟨Pn.N.start⟩, HB⟩
    case round =>
      clear HD HB
      obtain ⟨i, s, rfl, hi, hgg, HD, HN, HB⟩ := hrel
      by_cases hil : i < l0.length
      · obtain ⟨gk, rfl⟩ : ∃ q, gk = q + 1 := by
          cases gk with
          | zero => omega
          | succ q => exact ⟨q, rfl⟩
        obtain ⟨ad, rfl, k0, k1, k2, k3⟩ := at_T44 (Kd.C_below HR0.out HB.out) (i : Int) (by omega) (by omega)
        rw [cubbylaw03_DiskAgain.rd44 l0 i hil, Int.toNat_natCast] at k0 k1 k2 k3
        obtain ⟨y, hy⟩ : ∃ y, l0[i] = y := ⟨_, rfl⟩
        rw [hy] at k0 k1 k2 k3
        clear hy
        by_cases hq : y.f0 = 0
        · have H1 := Aside0.mk (fun W h => cubbylaw03_DiskAgain.dWrite s w.heap.size gd i y.f1 y.f2 W h HN.out.inn (by omega))
          have HN2 := Aside0.mk (HN.out.writ (by omega) y.f1 y.f2)
          generalize (Dk.writ s y.f1 y.f2).1 = S2 at H1 HN2
          generalize (Dk.writ s y.f1 y.f2).2 = c at H1
          go_wp2_with (fail)
          have HD := Aside0.mk HD.out.drew
          have HB := Aside0.mk HB.out.drew
          clear k0 k3
          -- REGION 8 BEGINS
          refine start_ (n := 12) (S := fun w' => w'.cell? ⟨(ad.add (i * 4)).block, (ad.add (i * 4)).off + 1, none⟩ = some (.int .i64 y.f1) ∧ w'.cell? ⟨(ad.add (i * 4)).block, (ad.add (i * 4)).off + 2, none⟩ = some (.string y.f2)) (ds := [11]) #[false, false, false, false, false, false, false, false, false, false, false, false] (by kernel_rfl) rfl rfl ⟨k1, k2⟩ (fun hHeld => ?_)
          refine pure_ (i := 0) (N := some 33) (v := ?_) (a' := ?_) #[true, false, false, false, false, false, false, false, false, false, false, false] rfl rfl (by kernel_rfl) (fun _ _ _ h => h) (Or.inl ⟨by rfl, ?_⟩) ?_ ?_
          rotate_left
          · intro w'
            go_simp
            with_reducible rfl
          rotate_left
          · simp only [Act.put, List.setIfInBounds_toArray, List.set_cons_zero, List.set_cons_succ, i64_w, i32_w]
            rfl
          refine pure_ (i := 1) (N := some 34) (v := ?_) (a' := ?_) #[true, true, false, false, false, false, false, false, false, false, false, false] rfl rfl (by kernel_rfl) (fun _ _ _ h => h) (Or.inl ⟨by rfl, ?_⟩) ?_ ?_
          rotate_left
          · intro w'
            go_simp
            with_reducible rfl
          rotate_left
          · simp only [Act.put, List.setIfInBounds_toArray, List.set_cons_zero, List.set_cons_succ, i64_w, i32_w]
            rfl
          refine pure_ (i := 2) (N := some 35) (v := ?_) (a' := ?_) #[true, true, true, false, false, false, false, false, false, false, false, false] rfl rfl (by kernel_rfl) (fun _ _ _ h => h) (Or.inl ⟨by rfl, ?_⟩) ?_ ?_
          rotate_left
          · intro w'
            go_simp
            with_reducible rfl
          rotate_left
          · simp only [Act.put, List.setIfInBounds_toArray, List.set_cons_zero, List.set_cons_succ, i64_w, i32_w]
            rfl
          refine pure_ (i := 3) (N := some 36) (v := ?_) (a' := ?_) #[true, true, true, true, false, false, false, false, false, false, false, false] rfl rfl (by kernel_rfl) (fun _ _ _ h => h) (Or.inl ⟨by rfl, ?_⟩) ?_ ?_
          rotate_left
          · intro w'
            go_simp
            with_reducible rfl
          rotate_left
          · simp only [Act.put, List.setIfInBounds_toArray, List.set_cons_zero, List.set_cons_succ, i64_w, i32_w]
            rfl
          refine pure_ (i := 4) (N := some 37) (v := ?_) (a' := ?_) #[true, true, true, true, true, false, false, false, false, false, false, false] rfl rfl (by kernel_rfl) (fun _ _ _ h => h) (Or.inl ⟨by rfl, ?_⟩) ?_ ?_
          rotate_left
          · intro w'
            go_simp
            with_reducible rfl
          rotate_left
          · simp only [Act.put, List.setIfInBounds_toArray, List.set_cons_zero, List.set_cons_succ, i64_w, i32_w]
            rfl
          refine pure_ (i := 6) (N := some 39) (v := ?_) (a' := ?_) #[true, true, true, true, true, false, true, false, false, false, false, false] rfl rfl (by kernel_rfl) (fun _ _ _ h => h) (Or.inl ⟨by rfl, ?_⟩) ?_ ?_
          rotate_left
          · intro w'
            go_simp
            with_reducible rfl
          rotate_left
          · simp only [Act.put, List.setIfInBounds_toArray, List.set_cons_zero, List.set_cons_succ, i64_w, i32_w]
            rfl
          refine pure_ (i := 7) (N := some 40) (v := ?_) (a' := ?_) #[true, true, true, true, true, false, true, true, false, false, false, false] rfl rfl (by kernel_rfl) (fun _ _ _ h => h) (Or.inl ⟨by rfl, ?_⟩) ?_ ?_
          rotate_left
          · intro w'
            go_simp
            with_reducible rfl
          rotate_left
          · simp only [Act.put, List.setIfInBounds_toArray, List.set_cons_zero, List.set_cons_succ, i64_w, i32_w]
            rfl
          refine pure_ (i := 8) (N := some 41) (v := ?_) (a' := ?_) #[true, true, true, true, true, false, true, true, true, false, false, false] rfl rfl (by kernel_rfl) (fun _ _ _ h => h) (Or.inl ⟨by rfl, ?_⟩) ?_ ?_
          rotate_left
          · intro w'
            go_simp
            with_reducible rfl
          rotate_left
          · simp only [Act.put, List.setIfInBounds_toArray, List.set_cons_zero, List.set_cons_succ, i64_w, i32_w]
            rfl
          refine pure_ (i := 9) (N := some 42) (v := ?_) (a' := ?_) #[true, true, true, true, true, false, true, true, true, true, false, false] rfl rfl (by kernel_rfl) (fun _ _ _ h => h) (Or.inl ⟨by rfl, ?_⟩) ?_ ?_
          rotate_left
          · intro w'
            go_simp
            with_reducible rfl
          rotate_left
          · simp only [Act.put, List.setIfInBounds_toArray, List.set_cons_zero, List.set_cons_succ, i64_w, i32_w]
            rfl
          refine take_ (i := 5) (N := some 38) (v := ?_) (a' := ?_) #[true, true, true, true, true, true, true, true, true, true, false, false] rfl rfl (by kernel_rfl) (fun _ _ _ h => h) (Or.inl ⟨by rfl, ?_⟩) hHeld ?_ ?_
          rotate_left
          · rintro w' ⟨s0, s1⟩
            go_simp
            with_reducible rfl
          rotate_left
          · simp only [Act.put, List.setIfInBounds_toArray, List.set_cons_zero, List.set_cons_succ, i64_w, i32_w]
            rfl
          refine take_ (i := 10) (N := some 43) (v := ?_) (a' := ?_) #[true, true, true, true, true, true, true, true, true, true, true, false] rfl rfl (by kernel_rfl) (fun _ _ _ h => h) (Or.inl ⟨by rfl, ?_⟩) hHeld ?_ ?_
          rotate_left
          · rintro w' ⟨s0, s1⟩
            go_simp
            with_reducible rfl
          rotate_left
          · simp only [Act.put, List.setIfInBounds_toArray, List.set_cons_zero, List.set_cons_succ, i64_w, i32_w]
            rfl
          refine last_ (i := 11) (N := some 44) #[true, true, true, true, true, true, true, true, true, true, true, true] rfl rfl (by kernel_rfl) (by decide) (fun K hK => ?_)
          refine goes_ Try.func13 (by kernel_rfl) rfl #[.pointer (some ⟨gd, 0, none⟩), .int .i64 y.f1, .string y.f2] (by rfl) rfl rfl (by simp only [List.map_toArray, List.map_cons, List.map_nil]; rfl) ?_
          with_reducible refine (H1.out _ HD.out).mono ?_
          rintro e w3 ⟨rfl, hd3, hb3⟩
          refine ⟨_, rfl, ?_⟩
          have HD := Aside0.mk hd3
          have HB := Aside0.mk (HB.out.trans hb3.b)
          clear hd3 hb3
          refine hK.out _ _ ?_
          clear hK K
          refine norm_ (a' := ?_) ?_ ?_
          rotate_left
          · show Act.put _ (some 44) _ = _
            simp only [Act.put, List.setIfInBounds_toArray, List.set_cons_zero, List.set_cons_succ, i64_w, i32_w]
            rfl
          refine done_ (by kernel_rfl) ?_
          -- REGION 8 ENDS
          go_wp2_with (fail)
          go_roundg gk
          case measure => omega
          case rel => exact ⟨i + 1, S2, by rw [Int.natCast_add]; rfl, by omega, by omega, HD, HN2, HB⟩
        · go_wp2_with (fail)
          go_roundg gk
          case measure => omega
          case rel =>
            obtain ⟨mb, n', ov, q1, q2⟩ := HD.out
            exact ⟨i + 1, s, by rw [Int.natCast_add]; rfl, by omega, by omega, ⟨⟨mb, n', ov, by omega, q2⟩⟩, ⟨HN.out.mono (Nat.le_succ i)⟩, HB⟩
      · obtain rfl : i = l0.length := by omega
        have g := HN.out.goes (by omega) l2 hk
        have H1 := Aside0.mk (fun W h => cubbylaw03_DiskAgain.dCut s w.heap.size gd l0.length 1 l2 W h)
        have H2 := Aside0.mk (fun W h => cubbylaw03_DiskAgain.dBarrier (Dk.cutS s 1 l2) w.heap.size gd l0.length W h g.ic)
        have H3 := Aside0.mk (fun W h => cubbylaw03_DiskAgain.dPower (Dk.barr (Dk.cutS s 1 l2)).1 w.heap.size gd l0.length W h)
        have e3 : Dk.powS (Dk.barr (Dk.cutS s 1 l2)).1 = Pn.fin s l2 := rfl
        rw [e3] at H3
        rw [g.b] at H2
        have hFN := g.n
        have hFl := g.l
        generalize Pn.fin s l2 = F at H3 hFN hFl
        clear e3 g HN hgg hi
        generalize (Dk.barr (Dk.cutS s 1 l2)).1 = S3 at H2 H3
        generalize Dk.cutS s 1 l2 = S2 at H1 H2
        go_wp2_with (first
          | (go_at_call 11; (with_reducible refine (H1.out _ HD.out).mono ?_); rintro e w3 ⟨rfl, hd3, hb3⟩; have HD := Aside0.mk hd3; have HB := Aside0.mk (HB.out.trans hb3.b); clear hd3 hb3)
          | (go_at_call 15; (with_reducible refine (H2.out _ HD.out).mono ?_); rintro e w4 ⟨rfl, hd3, hb3⟩; have HD := Aside0.mk hd3; have HB := Aside0.mk (HB.out.trans hb3.b); clear hd3 hb3)
          | (go_at_call 22; (with_reducible refine (H3.out _ HD.out).mono ?_); rintro e w5 ⟨rfl, hd3, hb3⟩; have HD := Aside0.mk hd3; have HB := Aside0.mk (HB.out.trans hb3.b); clear hd3 hb3)
          | (go_at_call 10; (with_reducible refine (cubbylaw03_DiskAgain.rNew _ w.heap.size HB.out.size).mono ?_); rintro e w6 ⟨gr, rfl, hr3, hb3⟩; have HD := Aside0.mk (HD.out.below hb3); have HR := Aside0.mk hr3; have HB := Aside0.mk (HB.out.trans (hb3.mono HB.out.size)); clear hr3 hb3))
        clear H1 H2 H3
        go_loopg [10] 256 (fun gg v10 wq => ∃ (i : Nat) (s : Dk.S), v10 = .int .i64 (i : Int) ∧ i ≤ 256 ∧ 256 - i ≤ gg ∧ Aside0 (Tw.D wq w.heap.size gd l0.length F) ∧ Aside0 (Tw.R wq w.heap.size gr s) ∧ Aside0 (Pn.N i s) ∧ Aside0 (∀ j, j < i → s.sec.getD j ⟨#[]⟩ = F.sec.getD j ⟨#[]⟩) ∧ Aside0 (Below w.heap.size w wq))
        case atStart => exact ⟨0, Dk.S0, rfl, Nat.zero_le _, by omega, HD, HR, ⟨Pn.N.start⟩, ⟨fun j hj => absurd hj (Nat.not_lt_zero j)⟩, HB⟩
        case round =>
          clear HD HB HR
          obtain ⟨i, s, rfl, hi, hgg, HD, HR, HN, HC, HB⟩ := hrel
          by_cases hil : i < 256
          · obtain ⟨gk, rfl⟩ : ∃ q, gk = q + 1 := by
              cases gk with
              | zero => omega
              | succ q => exact ⟨q, rfl⟩
            obtain ⟨e1, e2, e3⟩ := Pn.copy HN.out hFN hil HC.out
            have H1 := Aside0.mk (fun W h => cubbylaw03_DiskAgain.dRead F w.heap.size gd l0.length (i : Int) W h)
            have H2 := Aside0.mk (fun W h => cubbylaw03_DiskAgain.rWrite s w.heap.size gr (i : Int) (F.sec.getD i ⟨#[]⟩) W h HN.out.inn)
            rw [hFN.read i hil] at H1
            rw [e1] at H2
            have HN2 := Aside0.mk e2
            have HC2 := Aside0.mk e3
            clear e1 e2 e3 HN HC
            generalize (Dk.writ s (i : Int) (F.sec.getD i ⟨#[]⟩)).1 = S2 at H2 HN2 HC2
            generalize hz : F.sec.getD i ⟨#[]⟩ = z at H1 H2
            clear hz
            go_wp2_with (first
              | (go_at_call 21; (with_reducible refine (H1.out _ HD.out).mono ?_); rintro e w3 ⟨rfl, rfl⟩)
              | (go_at_call 14; (with_reducible refine (H2.out _ HR.out).mono ?_); rintro e w4 ⟨rfl, hr4, hb4⟩; have HD := Aside0.mk (HD.out.rf hb4); have HR := Aside0.mk hr4; have HB := Aside0.mk (HB.out.trans hb4.b); clear hr4 hb4))
            go_roundg gk
            case measure => omega
            case rel => exact ⟨i + 1, S2, by rw [Int.natCast_add]; rfl, by omega, by omega, HD, HR, HN2, HC2, HB⟩
          · obtain rfl : i = 256 := by omega
            obtain ⟨e1, e2, e3⟩ := Pn.alike HN.out hFN hFl HC.out
            have HQ := Aside0.mk e2
            have HI := Aside0.mk e3
            have H1 := Aside0.mk (fun W h => cubbylaw03_DiskAgain.rBarrier s w.heap.size gr W h HN.out.inn)
            have H2 := Aside0.mk (fun W h => cubbylaw03_DiskAgain.dCalls F w.heap.size gd l0.length W h)
            rw [e1] at H1
            have HM := Aside0.mk (fun W h => cubbylaw03_DiskAgain.rMany (W := W) (base := w.heap.size) (g := gr) (s := (Dk.barr s).1) (s' := Pn.over s F) h rfl gr rfl)
            generalize Pn.over s F = R at HQ HI HM
            generalize (Dk.barr s).1 = S2 at H1 HM
            have emq : R.many = F.many := HQ.out.many.symm
            rw [emq] at HM
            clear e1 e2 e3 HN HC hgg
            go_wp2_with (first
              | (go_at_call 16; (with_reducible refine (H1.out _ HR.out).mono ?_); rintro e w4 ⟨rfl, hr4, hb4⟩; have HD := Aside0.mk (HD.out.rf hb4); have HM2 := Aside0.mk (HM.out _ hr4); have mf := HM2.out.2.2.1; have mc := HM2.out.2.2.2; have HB := Aside0.mk (HB.out.trans hb4.b); clear hr4 hb4)
              | (go_at_call 18; (with_reducible refine (H2.out _ HD.out).mono ?_); rintro e w5 ⟨rfl, rfl⟩))
            have HP : Aside0 (Tw.P (w5.setCell ⟨gr, 6, none⟩ (.int .i64 F.many)) w.heap.size gd gr (l0.length + 0) (201 + ((0 : Nat) : Int))) := ⟨F, R, HD.out.rf HM2.out.2.1, HM2.out.1, HQ.out, hFN.inn, HI.out, by have := hFN.many; omega⟩
            have HB := Aside0.mk (HB.out.trans HM2.out.2.1.b)
            generalize w5.setCell ⟨gr, 6, none⟩ (.int .i64 F.many) = W6 at HP HB ⊢
            clear HD HR HM HM2 mf mc H1 H2 emq
            go_loopg [13] l1.length (fun gg v13 wq => ∃ i : Nat, v13 = .int .i64 (i : Int) ∧ i ≤ l1.length ∧ l1.length - i ≤ gg ∧ Aside0 (Tw.P wq w.heap.size gd gr (l0.length + i) (201 + (i : Int))) ∧ Aside0 (Below w.heap.size w wq))
            case atStart => exact ⟨0, rfl, Nat.zero_le _, by omega, HP, HB⟩
            case round =>
              clear HP HB
              obtain ⟨i, rfl, hi, hgg, HP, HB⟩ := hrel
              by_cases hil : i < l1.length
              · obtain ⟨gk, rfl⟩ : ∃ q, gk = q + 1 := by
                  cases gk with
                  | zero => omega
                  | succ q => exact ⟨q, rfl⟩
                obtain ⟨ad, rfl, k0, k1, k2, k3⟩ := at_T44 (Kd.C_below HR1.out HB.out) (i : Int) (by omega) (by omega)
                rw [cubbylaw03_DiskAgain.rd44 l1 i hil, Int.toNat_natCast] at k0 k1 k2 k3
                obtain ⟨y, hy⟩ : ∃ y, l1[i] = y := ⟨_, rfl⟩
                have hym : y ∈ l1 := by rw [← hy]; exact List.getElem_mem hil
                have HY := Aside0.mk (HL1.out y hym)
                rw [hy] at k0 k1 k2 k3
                clear hym hy
                go_wp2_with (go_at_call 24; (with_reducible refine (cubbylaw03_step.calls w.heap.size gd gr (l0.length + i) (201 + (i : Int)) y.f0 y.f1 y.f2 y.f3 _ HP.out (by omega) (by omega) HY.out.1 HY.out.2).mono ?_); rintro e w4 ⟨rfl, hp4, hb4⟩; have HP4 := Aside0.mk hp4; have HB4 := Aside0.mk (HB.out.trans hb4.b); clear hp4 hb4)
                go_roundg gk
                case measure => omega
                case rel => exact ⟨i + 1, by rw [Int.natCast_add]; rfl, by omega, by omega, ⟨by rw [Int.natCast_add, ← Int.add_assoc]; exact HP4.out⟩, HB4⟩
              · obtain ⟨s, s', hd, hr, hq, hi1, hi2, hm⟩ := HP.out
                have HD := Aside0.mk hd
                have HR := Aside0.mk hr
                have HQ := Aside0.mk hq.powS
                have HI := Aside0.mk (Tw.pow_in s hi1)
                have HI2 := Aside0.mk (Tw.pow_in s' hi2)
                have HMM : Aside0 ((Dk.powS s).many ≤ 201 + (i : Int)) := ⟨by unfold Dk.powS; split <;> exact hm⟩
                clear hd hr hq hi1 hi2 hm HP
                go_wp2_with (first | (go_at_call 22; (with_reducible refine (cubbylaw03_DiskAgain.dPower s w.heap.size gd (l0.length + i) _ HD.out).mono ?_); rintro e w4 ⟨rfl, hd4, hb4⟩; have HD4 := Aside0.mk hd4; have HR4 := Aside0.mk (HR.out.dk hb4); have HB4 := Aside0.mk (HB.out.trans hb4.b); clear hd4 hb4) | (go_at_call 25; (with_reducible refine (cubbylaw03_DiskAgain.rPower s' w.heap.size gr _ HR4.out).mono ?_); rintro e w5 ⟨rfl, hr5, hb5⟩; have HP5 : Aside0 (Tw.P w5 w.heap.size gd gr (l0.length + i + 0) (201 + (i : Int))) := ⟨_, _, HD4.out.rf hb5, hr5, HQ.out, HI.out, HI2.out, HMM.out⟩; have HB5 := Aside0.mk (HB4.out.trans hb5.b); clear hr5 hb5) | (go_at_call 26; (with_reducible refine (cubbylaw03_alike.calls w.heap.size gd gr (l0.length + i + 0) (201 + (i : Int)) _ HP5.out).mono ?_); rintro e w6 ⟨rfl, rfl⟩))
                go_ret
                exact ⟨rfl, HB5.out⟩

/-- THE ONE PURE STATEMENT of cubbylaw03_DiskAgain: yours. -/
def cubbylaw03_DiskAgain.Pure : Prop := ∀ (l0 : List (S44)) (l1 : List (S44)) (a2 : Int), (l0.length ≤ maxLen ∧ l0.length * 40 ≤ 140737488351232 ∧ ∀ x ∈ l0, ((Lit.int .i64 x.f0).wf = true ∧ (Lit.int .i64 x.f1).wf = true ∧ x.f2.size ≤ 140737488351232 ∧ (Lit.int .u64 x.f3).wf = true)) → (l1.length ≤ maxLen ∧ l1.length * 40 ≤ 140737488351232 ∧ ∀ x ∈ l1, ((Lit.int .i64 x.f0).wf = true ∧ (Lit.int .i64 x.f1).wf = true ∧ x.f2.size ≤ 140737488351232 ∧ (Lit.int .u64 x.f3).wf = true)) → (Lit.int .u64 a2).wf = true → cubbylaw03_DiskAgain.f l0 l1 a2 = some true
theorem cubbylaw03_DiskAgain.walk (P : cubbylaw03_DiskAgain.Pure) (A0 : Option Addr) (c0 : Nat) (l0 : List (S44)) (A1 : Option Addr) (c1 : Nat) (l1 : List (S44)) (a2 : Int) (w : World) (hr0 : Kd.C k44 w A0 l0.length l0) (hc0 : l0.length ≤ c0) (hr1 : Kd.C k44 w A1 l1.length l1) (hc1 : l1.length ≤ c1) (o0 : (l0.length ≤ maxLen ∧ l0.length * 40 ≤ 140737488351232 ∧ ∀ x ∈ l0, ((Lit.int .i64 x.f0).wf = true ∧ (Lit.int .i64 x.f1).wf = true ∧ x.f2.size ≤ 140737488351232 ∧ (Lit.int .u64 x.f3).wf = true))) (o1 : (l1.length ≤ maxLen ∧ l1.length * 40 ≤ 140737488351232 ∧ ∀ x ∈ l1, ((Lit.int .i64 x.f0).wf = true ∧ (Lit.int .i64 x.f1).wf = true ∧ x.f2.size ≤ 140737488351232 ∧ (Lit.int .u64 x.f3).wf = true))) (o2 : (Lit.int .u64 a2).wf = true) :
    Calls Try.prog 7 #[.slice A0 l0.length c0, .slice A1 l1.length c1, .int .u64 a2] w fun e w' => e = .returned (.bool true) ∧ Below w.heap.size w w' := by
  have h := P l0 l1 a2 o0 o1 o2
  refine (cubbylaw03_DiskAgain.calls A0 c0 l0 A1 c1 l1 a2 true w hr0 hc0 hr1 hc1 h).mono ?_
  rintro e w' ⟨rfl, hd⟩
  exact ⟨rfl, hd⟩

end Go.Proofs.Ytbikejfjfliamaa.PDiskAgain
