-- By a program of this session (wip/tools/mkprint.py), for this claim.
import Derived.Test.YtbikejfjfliamaaPDiskScriptx0
import Derived.Test.YtbikejfjfliamaaPDiskScriptx1
import Derived.Test.YtbikejfjfliamaaPDiskScriptx2
import Derived.Test.YtbikejfjfliamaaPDiskScriptx3
import Derived.Test.YtbikejfjfliamaaPDiskScriptx4
namespace Go.Proofs.Ytbikejfjfliamaa.PDiskScript
open Go.RowKit Go.Proofs.YtbikejfjfliamaaW.PrintWords Go.Proofs.YtbikejfjfliamaaW.PrintLast Go.Proofs.YtbikejfjfliamaaW.PrintMore
attribute [local go_sem] max2_int min2_int max_two min_two max_three min_three max_four min_four   -- for this text's walks alone
set_option linter.unusedVariables false
set_option linter.unusedSimpArgs false

/-! ### cubbylaw03_DiskScript: function 8 (by hand) -/
theorem cubbylaw03_DiskScript.wrap64_in (n : Int) (h : -9223372036854775808 ≤ n) (h2 : n < 9223372036854775808) : wrap64 n = n := by unfold wrap64; omega
/-- With fuel enough it answers v. -/
def cubbylaw03_DiskScript.Ev {α : Type} (g : Nat → Option α) (v : α) : Prop := ∃ k0, ∀ k, k0 ≤ k → g k = some v
theorem cubbylaw03_DiskScript.Ev.succ {α : Type} {g : Nat → Option α} {v : α} (h : cubbylaw03_DiskScript.Ev (fun k => g (k + 1)) v) : cubbylaw03_DiskScript.Ev g v := by
  obtain ⟨k0, h⟩ := h
  refine ⟨k0 + 1, fun k hk => ?_⟩
  obtain ⟨k, rfl⟩ : ∃ m, k = m + 1 := ⟨k - 1, by omega⟩
  exact h k (by omega)
theorem cubbylaw03_DiskScript.Ev.bind {α β : Type} {g : Nat → Option α} {f : Nat → α → Option β} {a : α} {v : β} (h1 : cubbylaw03_DiskScript.Ev g a) (h2 : cubbylaw03_DiskScript.Ev (fun k => f k a) v) : cubbylaw03_DiskScript.Ev (fun k => (g k).bind (f k)) v := by
  obtain ⟨k1, h1⟩ := h1
  obtain ⟨k2, h2⟩ := h2
  refine ⟨k1 + k2, fun k hk => ?_⟩
  show (g k).bind (f k) = some v
  rw [h1 k (by omega)]
  exact h2 k (by omega)
theorem cubbylaw03_DiskScript.Ev.const {α : Type} (v : α) : cubbylaw03_DiskScript.Ev (fun _ => some v) v := ⟨0, fun _ _ => rfl⟩
theorem cubbylaw03_DiskScript.Ev.get {α : Type} {g : Nat → Option α} {v : α} (h : cubbylaw03_DiskScript.Ev g v) : ∃ k, g k = some v := by
  obtain ⟨k0, h⟩ := h
  exact ⟨k0, h k0 (Nat.le_refl _)⟩
theorem cubbylaw03_DiskScript.Ev.of {α : Type} {g g' : Nat → Option α} {v : α} (h : cubbylaw03_DiskScript.Ev g v) (e : ∀ k, g' k = g k) : cubbylaw03_DiskScript.Ev g' v := by
  obtain ⟨k0, h⟩ := h
  exact ⟨k0, fun k hk => (e k).trans (h k hk)⟩
theorem cubbylaw03_DiskScript.wnat (i : Nat) (h : i < 9223372036854775807) : wrap64 ((i : Int) + 1) = ((i + 1 : Nat) : Int) := by rw [cubbylaw03_DiskScript.wrap64_in _ (by omega) (by omega)]; omega
theorem cubbylaw03_DiskScript.rd44 (l : List S44) (i : Nat) (h : i < l.length) : rd_T44 l (i : Int) = l[i] := by
  unfold rd_T44
  simp [List.getD_eq_getElem?_getD, h]
theorem cubbylaw03_DiskScript.heavy_l0 (l : List S44) (hl : l.length ≤ maxLen) (d : Nat) : ∀ (i n : Nat), i + d = l.length → n ≤ maxLen + 1048576 → ∃ b, cubbylaw03_DiskScript.Ev (fun k => cubbylaw03_heavy.l0 k l (n : Int) (i : Int)) b ∧ (b = false → l.length ≤ 200) := by
  unfold maxLen at hl
  unfold maxLen
  induction d with
  | zero =>
    intro i n hi hn
    by_cases hn2 : n ≤ 4096
    · refine ⟨decide ((l.length : Int) > 200), cubbylaw03_DiskScript.Ev.succ ?_, fun h => ?_⟩
      · simp only [cubbylaw03_heavy.l0]
        exact (cubbylaw03_DiskScript.Ev.const _).of fun k => by rw [if_neg (by omega), if_neg (by omega)]
      · have := of_decide_eq_false h
        omega
    · refine ⟨true, cubbylaw03_DiskScript.Ev.succ ?_, fun h => by cases h⟩
      simp only [cubbylaw03_heavy.l0]
      exact (cubbylaw03_DiskScript.Ev.const _).of fun k => by rw [if_neg (by omega), if_pos (by omega)]
  | succ d ih =>
    intro i n hi hn
    have hlt : i < l.length := by omega
    by_cases hn2 : n ≤ 4096
    · have hm : mn (l[i].f2.size : Int) 1048576 = ((min l[i].f2.size 1048576 : Nat) : Int) := by unfold mn; split <;> omega
      obtain ⟨b, h1, h2⟩ := ih (i + 1) (n + min l[i].f2.size 1048576) (by omega) (by omega)
      refine ⟨b, cubbylaw03_DiskScript.Ev.succ ?_, h2⟩
      simp only [cubbylaw03_heavy.l0]
      refine h1.of fun k => ?_
      rw [if_pos (by omega), if_pos (by omega), if_pos (by omega), cubbylaw03_DiskScript.rd44 l i hlt, hm, cubbylaw03_DiskScript.wnat i (by omega), cubbylaw03_DiskScript.wrap64_in _ (by omega) (by omega)]
      congr 1
    · refine ⟨true, cubbylaw03_DiskScript.Ev.succ ?_, fun h => by cases h⟩
      simp only [cubbylaw03_heavy.l0]
      exact (cubbylaw03_DiskScript.Ev.const _).of fun k => by rw [if_pos (by omega), if_neg (by omega), if_pos (by omega)]
theorem cubbylaw03_DiskScript.heavy_ev (l : List S44) (hl : l.length ≤ maxLen) : ∃ k b, cubbylaw03_heavy.f k l = some b ∧ (b = false → l.length ≤ 200) := by
  obtain ⟨b, h1, h2⟩ := cubbylaw03_DiskScript.heavy_l0 l hl l.length 0 l.length (by omega) (by unfold maxLen at hl ⊢; omega)
  obtain ⟨k, h⟩ := h1.get
  exact ⟨k, b, h, h2⟩
def cubbylaw03_DiskScript.Fit (l : List S44) : Prop := l.length ≤ maxLen ∧ ∀ x ∈ l, x.f1 < 9223372036854775808 ∧ 0 ≤ x.f3 ∧ x.f3 < 18446744073709551616
instance (l : List S44) : Decidable (cubbylaw03_DiskScript.Fit l) := by unfold cubbylaw03_DiskScript.Fit; infer_instance
theorem cubbylaw03_DiskScript.dWrite (s : Dk.S) (base g n : Nat) (i : Int) (x : ByteArray) (w : World) (h : Tw.D w base g n s) (hin : Dk.In s) (hn : n ≤ 1000000) :
    Calls Try.prog 13 #[.pointer (some ⟨g, 0, none⟩), .int .i64 i, .string x] w fun e w' => e = .returned (.int .i64 (Dk.writ s i x).2) ∧ Tw.D w' base g (n + 1) ((Dk.writ s i x).1) ∧ Dk.B base w w' := by
  obtain ⟨mb, n', ov, hn', h⟩ := h
  refine (disk_Disk_Write.calls s base g mb n' ov i x w h hin (by omega)).mono ?_
  rintro e w' ⟨he, ⟨ov', n2, h2, hd⟩, hb⟩
  exact ⟨he, ⟨mb, n2, ov', by omega, hd⟩, hb⟩
theorem cubbylaw03_DiskScript.dBarrier (s : Dk.S) (base g n : Nat) (w : World) (h : Tw.D w base g n s) (hin : Dk.In s) :
    Calls Try.prog 15 #[.pointer (some ⟨g, 0, none⟩)] w fun e w' => e = .returned (.int .i64 (Dk.barr s).2) ∧ Tw.D w' base g (n + 0) ((Dk.barr s).1) ∧ Dk.B base w w' := by
  obtain ⟨mb, n', ov, hn', h⟩ := h
  refine (disk_Disk_Barrier.calls s base g mb n' ov w h hin).mono ?_
  rintro e w' ⟨he, ⟨ov', hd⟩, hb⟩
  exact ⟨he, ⟨mb, n', ov', by omega, hd⟩, hb⟩
theorem cubbylaw03_DiskScript.dCut (s : Dk.S) (base g n : Nat) (i k : Int) (w : World) (h : Tw.D w base g n s) :
    Calls Try.prog 11 #[.pointer (some ⟨g, 0, none⟩), .int .i64 i, .int .u64 k] w fun e w' => e = .returned (.tuple #[]) ∧ Tw.D w' base g (n + 0) (Dk.cutS s i k) ∧ Dk.B base w w' := by
  obtain ⟨mb, n', ov, hn', h⟩ := h
  refine (disk_Disk_Cut.calls s base g mb n' ov i k w h).mono ?_
  rintro e w' ⟨he, hd, hb⟩
  exact ⟨he, ⟨mb, n', ov, by omega, hd⟩, hb⟩
theorem cubbylaw03_DiskScript.dFail (s : Dk.S) (base g n : Nat) (i : Int) (w : World) (h : Tw.D w base g n s) :
    Calls Try.prog 20 #[.pointer (some ⟨g, 0, none⟩), .int .i64 i] w fun e w' => e = .returned (.tuple #[]) ∧ Tw.D w' base g (n + 0) (Dk.failS s i) ∧ Dk.B base w w' := by
  obtain ⟨mb, n', ov, hn', h⟩ := h
  refine (disk_Disk_Fail.calls s base g mb n' ov i w h).mono ?_
  rintro e w' ⟨he, hd, hb⟩
  exact ⟨he, ⟨mb, n', ov, by omega, hd⟩, hb⟩
theorem cubbylaw03_DiskScript.dPower (s : Dk.S) (base g n : Nat) (w : World) (h : Tw.D w base g n s) :
    Calls Try.prog 22 #[.pointer (some ⟨g, 0, none⟩)] w fun e w' => e = .returned (.tuple #[]) ∧ Tw.D w' base g (n + 0) (Dk.powS s) ∧ Dk.B base w w' := by
  obtain ⟨mb, n', ov, hn', h⟩ := h
  refine (disk_Disk_Power.calls s base g mb n' ov w h).mono ?_
  rintro e w' ⟨he, hd, hb⟩
  exact ⟨he, ⟨mb, n', ov, by omega, hd⟩, hb⟩
theorem cubbylaw03_DiskScript.dDead (s : Dk.S) (base g n : Nat) (w : World) (h : Tw.D w base g n s) :
    Calls Try.prog 17 #[.pointer (some ⟨g, 0, none⟩)] w fun e w' => e = .returned (.bool s.off) ∧ w' = w := by
  obtain ⟨mb, n', ov, hn', h⟩ := h
  exact disk_Disk_Dead.calls s base g mb n' ov w h
theorem cubbylaw03_DiskScript.dCalls (s : Dk.S) (base g n : Nat) (w : World) (h : Tw.D w base g n s) :
    Calls Try.prog 18 #[.pointer (some ⟨g, 0, none⟩)] w fun e w' => e = .returned (.int .i64 s.many) ∧ w' = w := by
  obtain ⟨mb, n', ov, hn', h⟩ := h
  exact disk_Disk_Calls.calls s base g mb n' ov w h
theorem cubbylaw03_DiskScript.dRead (s : Dk.S) (base g n : Nat) (i : Int) (w : World) (h : Tw.D w base g n s) :
    Calls Try.prog 21 #[.pointer (some ⟨g, 0, none⟩), .int .i64 i] w fun e w' => e = .returned (.tuple #[.string (Dk.read s i).1, .int .i64 (Dk.read s i).2]) ∧ w' = w := by
  obtain ⟨mb, n', ov, hn', h⟩ := h
  exact disk_Disk_Read.calls s base g mb n' ov i w h
theorem cubbylaw03_DiskScript.dNew (w : World) (base : Nat) (hb : base ≤ w.heap.size) : Calls Try.prog 9 #[] w fun e w' => ∃ g, e = .returned (.pointer (some ⟨g, 0, none⟩)) ∧ Tw.D w' base g 0 Dk.S0 ∧ Below w.heap.size w w' := by
  refine (disk_New.calls w base hb).mono ?_
  rintro e w' ⟨g, mb, he, hd, hb⟩
  exact ⟨g, he, ⟨mb, 0, _, Nat.le_refl _, hd⟩, hb⟩
theorem cubbylaw03_DiskScript.rWrite (s : Dk.S) (base g : Nat) (i : Int) (x : ByteArray) (w : World) (h : Tw.R w base g s) (hin : Dk.In s) :
    Calls Try.prog 14 #[.pointer (some ⟨g, 0, none⟩), .int .i64 i, .string x] w fun e w' => e = .returned (.int .i64 (Dk.writ s i x).2) ∧ Tw.R w' base g ((Dk.writ s i x).1) ∧ Rf.B base w w' := by
  obtain ⟨iv, lv, h⟩ := h
  refine (cubbyref03_Disk_Write.calls s base g iv lv i x w h hin).mono ?_
  rintro e w' ⟨he, ⟨lv', hd⟩, hb⟩
  exact ⟨he, ⟨iv, lv', hd⟩, hb⟩
theorem cubbylaw03_DiskScript.rBarrier (s : Dk.S) (base g : Nat) (w : World) (h : Tw.R w base g s) (hin : Dk.In s) :
    Calls Try.prog 16 #[.pointer (some ⟨g, 0, none⟩)] w fun e w' => e = .returned (.int .i64 (Dk.barr s).2) ∧ Tw.R w' base g ((Dk.barr s).1) ∧ Rf.B base w w' := by
  obtain ⟨iv, lv, h⟩ := h
  refine (cubbyref03_Disk_Barrier.calls s base g iv lv w h hin).mono ?_
  rintro e w' ⟨he, ⟨lv', hd⟩, hb⟩
  exact ⟨he, ⟨iv, lv', hd⟩, hb⟩
theorem cubbylaw03_DiskScript.rCut (s : Dk.S) (base g : Nat) (i k : Int) (w : World) (h : Tw.R w base g s) :
    Calls Try.prog 12 #[.pointer (some ⟨g, 0, none⟩), .int .i64 i, .int .u64 k] w fun e w' => e = .returned (.tuple #[]) ∧ Tw.R w' base g (Dk.cutS s i k) ∧ Rf.B base w w' := by
  obtain ⟨iv, lv, h⟩ := h
  refine (cubbyref03_Disk_Cut.calls s base g iv lv i k w h).mono ?_
  rintro e w' ⟨he, hd, hb⟩
  exact ⟨he, ⟨iv, lv, hd⟩, hb⟩
theorem cubbylaw03_DiskScript.rFail (s : Dk.S) (base g : Nat) (i : Int) (w : World) (h : Tw.R w base g s) :
    Calls Try.prog 35 #[.pointer (some ⟨g, 0, none⟩), .int .i64 i] w fun e w' => e = .returned (.tuple #[]) ∧ Tw.R w' base g (Dk.failS s i) ∧ Rf.B base w w' := by
  obtain ⟨iv, lv, h⟩ := h
  refine (cubbyref03_Disk_Fail.calls s base g iv lv i w h).mono ?_
  rintro e w' ⟨he, hd, hb⟩
  exact ⟨he, ⟨iv, lv, hd⟩, hb⟩
theorem cubbylaw03_DiskScript.rPower (s : Dk.S) (base g : Nat) (w : World) (h : Tw.R w base g s) :
    Calls Try.prog 25 #[.pointer (some ⟨g, 0, none⟩)] w fun e w' => e = .returned (.tuple #[]) ∧ Tw.R w' base g (Dk.powS s) ∧ Rf.B base w w' := by
  obtain ⟨iv, lv, h⟩ := h
  refine (cubbyref03_Disk_Power.calls s base g iv lv w h).mono ?_
  rintro e w' ⟨he, hd, hb⟩
  exact ⟨he, ⟨iv, lv, hd⟩, hb⟩
theorem cubbylaw03_DiskScript.rDead (s : Dk.S) (base g : Nat) (w : World) (h : Tw.R w base g s) :
    Calls Try.prog 36 #[.pointer (some ⟨g, 0, none⟩)] w fun e w' => e = .returned (.bool s.off) ∧ w' = w := by
  obtain ⟨iv, lv, h⟩ := h
  exact cubbyref03_Disk_Dead.calls s base g iv lv w h
theorem cubbylaw03_DiskScript.rCalls (s : Dk.S) (base g : Nat) (w : World) (h : Tw.R w base g s) :
    Calls Try.prog 19 #[.pointer (some ⟨g, 0, none⟩)] w fun e w' => e = .returned (.int .i64 s.many) ∧ w' = w := by
  obtain ⟨iv, lv, h⟩ := h
  exact cubbyref03_Disk_Calls.calls s base g iv lv w h
theorem cubbylaw03_DiskScript.rRead (s : Dk.S) (base g : Nat) (i : Int) (w : World) (h : Tw.R w base g s) :
    Calls Try.prog 34 #[.pointer (some ⟨g, 0, none⟩), .int .i64 i] w fun e w' => e = .returned (.tuple #[.string (Dk.read s i).1, .int .i64 (Dk.read s i).2]) ∧ w' = w := by
  obtain ⟨iv, lv, h⟩ := h
  exact cubbyref03_Disk_Read.calls s base g iv lv i w h
theorem cubbylaw03_DiskScript.rNew (w : World) (base : Nat) (hb : base ≤ w.heap.size) : Calls Try.prog 10 #[] w fun e w' => ∃ g, e = .returned (.pointer (some ⟨g, 0, none⟩)) ∧ Tw.R w' base g Dk.S0 ∧ Below w.heap.size w w' := by
  refine (cubbyref03_New.calls w base hb).mono ?_
  rintro e w' ⟨g, iv, he, hd, hb⟩
  exact ⟨g, he, ⟨iv, _, hd⟩, hb⟩
def cubbylaw03_DiskScript.f (l0 : List (S44)) : Option Bool := if cubbylaw03_DiskScript.Fit l0 then some true else none
set_option maxHeartbeats 16000000 in
set_option maxRecDepth 100000 in
theorem cubbylaw03_DiskScript.calls (A0 : Option Addr) (c0 : Nat) (l0 : List (S44)) (r : Bool) (w : World) (hr0 : Kd.C k44 w A0 l0.length l0) (hc0 : l0.length ≤ c0) (h : cubbylaw03_DiskScript.f l0 = some r) :
    Calls Try.prog 8 #[.slice A0 l0.length c0] w fun e w' => e = .returned (.bool r) ∧ Below w.heap.size w w' := by
  unfold cubbylaw03_DiskScript.f at h
  by_cases hl : cubbylaw03_DiskScript.Fit l0
  case neg => rw [if_neg hl] at h; cases h
  rw [if_pos hl] at h
  obtain rfl := Option.some.inj h
  clear h
  obtain ⟨kh, b, hh, hb⟩ := cubbylaw03_DiskScript.heavy_ev l0 hl.1
  have HH := Aside0.mk (cubbylaw03_heavy.calls kh A0 c0 l0 b w hr0 hc0 hh)
  have HR0 := Aside0.mk hr0
  have HL := Aside0.mk hl.2
  clear hr0 hh hl
  cases b with
  | true =>
    clear hb
    go_enter Try.func8, Try.ntmps8
    go_wp2_with (go_at_call 23; refine HH.out.mono ?_; rintro e w1 ⟨rfl, hb1⟩; have HB1 := Aside0.mk hb1; clear hb1)
    go_ret
    exact ⟨rfl, HB1.out⟩
  | false =>
    have h200 := hb rfl
    clear hb
    go_enter Try.func8, Try.ntmps8
    go_wp2_with (first | (go_at_call 23; refine HH.out.mono ?_; rintro e w1 ⟨rfl, hb1⟩; have HB1 := Aside0.mk hb1; clear hb1) | (go_at_call 9; (with_reducible refine (cubbylaw03_DiskScript.dNew _ w.heap.size HB1.out.size).mono ?_); rintro e w2 ⟨gd, rfl, hd2, hb2⟩; have HD := Aside0.mk hd2; have HB2 := Aside0.mk (HB1.out.trans (hb2.mono HB1.out.size)); clear hd2 hb2) | (go_at_call 10; (with_reducible refine (cubbylaw03_DiskScript.rNew _ w.heap.size HB2.out.size).mono ?_); rintro e w3 ⟨gr, rfl, hr3, hb3⟩; have HP : Aside0 (Tw.P w3 w.heap.size gd gr 0 0) := ⟨Dk.S0, Dk.S0, HD.out.below hb3, hr3, Tw.Q.refl _, Tw.S0_in, Tw.S0_in, Int.le_refl _⟩; have HB3 := Aside0.mk (HB2.out.trans (hb3.mono HB2.out.size)); clear hr3 hb3))
    clear HB1 HB2 HD HH
    go_loopg [5] l0.length (fun gg v5 wq => ∃ i : Nat, v5 = .int .i64 (i : Int) ∧ i ≤ l0.length ∧ l0.length - i ≤ gg ∧ Aside0 (Tw.P wq w.heap.size gd gr i (i : Int)) ∧ Aside0 (Below w.heap.size w wq))
    case atStart => exact ⟨0, rfl, Nat.zero_le _, by omega, HP, HB3⟩
    case round =>
      clear HP HB3
      obtain ⟨i, rfl, hi, hgg, HP, HB⟩ := hrel
      by_cases hil : i < l0.length
      · obtain ⟨gk, rfl⟩ : ∃ q, gk = q + 1 := by
          cases gk with
          | zero => omega
          | succ q => exact ⟨q, rfl⟩
        have q1 : (0 : Int) ≤ (i : Int) := by omega
        have q2 : (i : Int) < (l0.length : Int) := by omega
        obtain ⟨ad, rfl, k0, k1, k2, k3⟩ := at_T44 (Kd.C_below HR0.out HB.out) (i : Int) q1 q2
        rw [cubbylaw03_DiskScript.rd44 l0 i hil, Int.toNat_natCast] at k0 k1 k2 k3
        obtain ⟨y, hy⟩ : ∃ y, l0[i] = y := ⟨_, rfl⟩
        have hym : y ∈ l0 := by rw [← hy]; exact List.getElem_mem hil
        have HY := Aside0.mk (HL.out y hym)
        rw [hy] at k0 k1 k2 k3
        clear hym hy
        go_wp2_with (go_at_call 24; (with_reducible refine (cubbylaw03_step.calls w.heap.size gd gr i (i : Int) y.f0 y.f1 y.f2 y.f3 _ HP.out (by omega) (by omega) HY.out.1 HY.out.2).mono ?_); rintro e w4 ⟨rfl, hp4, hb4⟩; have HP4 := Aside0.mk hp4; have HB4 := Aside0.mk (HB.out.trans hb4.b); clear hp4 hb4)
        go_roundg gk
        case measure => omega
        case rel => exact ⟨i + 1, by rw [Int.natCast_add]; rfl, by omega, by omega, ⟨by rw [Int.natCast_add]; exact HP4.out⟩, HB4⟩
      · obtain ⟨s, s', hd, hr, hq, hi1, hi2, hm⟩ := HP.out
        have HD := Aside0.mk hd
        have HR := Aside0.mk hr
        have HQ := Aside0.mk hq.powS
        have HI := Aside0.mk (Tw.pow_in s hi1)
        have HI2 := Aside0.mk (Tw.pow_in s' hi2)
        have HMM : Aside0 ((Dk.powS s).many ≤ (i : Int)) := ⟨by unfold Dk.powS; split <;> exact hm⟩
        clear hd hr hq hi1 hi2 hm HP
        go_wp2_with (first | (go_at_call 22; (with_reducible refine (cubbylaw03_DiskScript.dPower s w.heap.size gd i _ HD.out).mono ?_); rintro e w4 ⟨rfl, hd4, hb4⟩; have HD4 := Aside0.mk hd4; have HR4 := Aside0.mk (HR.out.dk hb4); have HB4 := Aside0.mk (HB.out.trans hb4.b); clear hd4 hb4) | (go_at_call 25; (with_reducible refine (cubbylaw03_DiskScript.rPower s' w.heap.size gr _ HR4.out).mono ?_); rintro e w5 ⟨rfl, hr5, hb5⟩; have HP5 : Aside0 (Tw.P w5 w.heap.size gd gr (i + 0) (i : Int)) := ⟨_, _, HD4.out.rf hb5, hr5, HQ.out, HI.out, HI2.out, HMM.out⟩; have HB5 := Aside0.mk (HB4.out.trans hb5.b); clear hr5 hb5) | (go_at_call 26; (with_reducible refine (cubbylaw03_alike.calls w.heap.size gd gr (i + 0) (i : Int) _ HP5.out).mono ?_); rintro e w6 ⟨rfl, rfl⟩))
        go_ret
        exact ⟨rfl, HB5.out⟩

/-- THE ONE PURE STATEMENT of cubbylaw03_DiskScript: yours. -/
def cubbylaw03_DiskScript.Pure : Prop := ∀ (l0 : List (S44)), (l0.length ≤ maxLen ∧ l0.length * 40 ≤ 140737488351232 ∧ ∀ x ∈ l0, ((Lit.int .i64 x.f0).wf = true ∧ (Lit.int .i64 x.f1).wf = true ∧ x.f2.size ≤ 140737488351232 ∧ (Lit.int .u64 x.f3).wf = true)) → cubbylaw03_DiskScript.f l0 = some true
theorem cubbylaw03_DiskScript.walk (P : cubbylaw03_DiskScript.Pure) (A0 : Option Addr) (c0 : Nat) (l0 : List (S44)) (w : World) (hr0 : Kd.C k44 w A0 l0.length l0) (hc0 : l0.length ≤ c0) (o0 : (l0.length ≤ maxLen ∧ l0.length * 40 ≤ 140737488351232 ∧ ∀ x ∈ l0, ((Lit.int .i64 x.f0).wf = true ∧ (Lit.int .i64 x.f1).wf = true ∧ x.f2.size ≤ 140737488351232 ∧ (Lit.int .u64 x.f3).wf = true))) :
    Calls Try.prog 8 #[.slice A0 l0.length c0] w fun e w' => e = .returned (.bool true) ∧ Below w.heap.size w w' := by
  have h := P l0 o0
  refine (cubbylaw03_DiskScript.calls A0 c0 l0 true w hr0 hc0 h).mono ?_
  rintro e w' ⟨rfl, hd⟩
  exact ⟨rfl, hd⟩

end Go.Proofs.Ytbikejfjfliamaa.PDiskScript
