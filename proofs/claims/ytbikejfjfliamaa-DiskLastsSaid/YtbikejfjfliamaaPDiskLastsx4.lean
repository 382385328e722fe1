-- By a program of this session (wip/tools/mkprint.py), for this claim.
import Derived.Test.YtbikejfjfliamaaPDiskLastsx0
import Derived.Test.YtbikejfjfliamaaPDiskLastsx1
import Derived.Test.YtbikejfjfliamaaPDiskLastsx2
import Derived.Test.YtbikejfjfliamaaPDiskLastsx3
namespace Go.Proofs.Ytbikejfjfliamaa.PDiskLasts
open Go.RowKit Go.Proofs.YtbikejfjfliamaaW.PrintWords Go.Proofs.YtbikejfjfliamaaW.PrintLast Go.Proofs.YtbikejfjfliamaaW.PrintMore
attribute [local go_sem] max2_int min2_int max_two min_two max_three min_three max_four min_four   -- for this text's walks alone
set_option linter.unusedVariables false
set_option linter.unusedSimpArgs false

/-! ### cubbylaw03_DiskLasts: function 6 (by hand) -/
theorem cubbylaw03_DiskLasts.wrap64_in (n : Int) (h : -9223372036854775808 ≤ n) (h2 : n < 9223372036854775808) : wrap64 n = n := by unfold wrap64; omega
/-- With fuel enough it answers v. -/
def cubbylaw03_DiskLasts.Ev {α : Type} (g : Nat → Option α) (v : α) : Prop := ∃ k0, ∀ k, k0 ≤ k → g k = some v
theorem cubbylaw03_DiskLasts.Ev.succ {α : Type} {g : Nat → Option α} {v : α} (h : cubbylaw03_DiskLasts.Ev (fun k => g (k + 1)) v) : cubbylaw03_DiskLasts.Ev g v := by
  obtain ⟨k0, h⟩ := h
  refine ⟨k0 + 1, fun k hk => ?_⟩
  obtain ⟨k, rfl⟩ : ∃ m, k = m + 1 := ⟨k - 1, by omega⟩
  exact h k (by omega)
theorem cubbylaw03_DiskLasts.Ev.bind {α β : Type} {g : Nat → Option α} {f : Nat → α → Option β} {a : α} {v : β} (h1 : cubbylaw03_DiskLasts.Ev g a) (h2 : cubbylaw03_DiskLasts.Ev (fun k => f k a) v) : cubbylaw03_DiskLasts.Ev (fun k => (g k).bind (f k)) v := by
  obtain ⟨k1, h1⟩ := h1
  obtain ⟨k2, h2⟩ := h2
  refine ⟨k1 + k2, fun k hk => ?_⟩
  show (g k).bind (f k) = some v
  rw [h1 k (by omega)]
  exact h2 k (by omega)
theorem cubbylaw03_DiskLasts.Ev.const {α : Type} (v : α) : cubbylaw03_DiskLasts.Ev (fun _ => some v) v := ⟨0, fun _ _ => rfl⟩
theorem cubbylaw03_DiskLasts.Ev.get {α : Type} {g : Nat → Option α} {v : α} (h : cubbylaw03_DiskLasts.Ev g v) : ∃ k, g k = some v := by
  obtain ⟨k0, h⟩ := h
  exact ⟨k0, h k0 (Nat.le_refl _)⟩
theorem cubbylaw03_DiskLasts.Ev.of {α : Type} {g g' : Nat → Option α} {v : α} (h : cubbylaw03_DiskLasts.Ev g v) (e : ∀ k, g' k = g k) : cubbylaw03_DiskLasts.Ev g' v := by
  obtain ⟨k0, h⟩ := h
  exact ⟨k0, fun k hk => (e k).trans (h k hk)⟩
theorem cubbylaw03_DiskLasts.wnat (i : Nat) (h : i < 9223372036854775807) : wrap64 ((i : Int) + 1) = ((i + 1 : Nat) : Int) := by rw [cubbylaw03_DiskLasts.wrap64_in _ (by omega) (by omega)]; omega
theorem cubbylaw03_DiskLasts.rd44 (l : List S44) (i : Nat) (h : i < l.length) : rd_T44 l (i : Int) = l[i] := by
  unfold rd_T44
  simp [List.getD_eq_getElem?_getD, h]
theorem cubbylaw03_DiskLasts.heavy_l0 (l : List S44) (hl : l.length ≤ maxLen) (d : Nat) : ∀ (i n : Nat), i + d = l.length → n ≤ maxLen + 1048576 → ∃ b, cubbylaw03_DiskLasts.Ev (fun k => cubbylaw03_heavy.l0 k l (n : Int) (i : Int)) b ∧ (b = false → l.length ≤ 200) := by
  unfold maxLen at hl
  unfold maxLen
  induction d with
  | zero =>
    intro i n hi hn
    by_cases hn2 : n ≤ 4096
    · refine ⟨decide ((l.length : Int) > 200), cubbylaw03_DiskLasts.Ev.succ ?_, fun h => ?_⟩
      · simp only [cubbylaw03_heavy.l0]
        exact (cubbylaw03_DiskLasts.Ev.const _).of fun k => by rw [if_neg (by omega), if_neg (by omega)]
      · have := of_decide_eq_false h
        omega
    · refine ⟨true, cubbylaw03_DiskLasts.Ev.succ ?_, fun h => by cases h⟩
      simp only [cubbylaw03_heavy.l0]
      exact (cubbylaw03_DiskLasts.Ev.const _).of fun k => by rw [if_neg (by omega), if_pos (by omega)]
  | succ d ih =>
    intro i n hi hn
    have hlt : i < l.length := by omega
    by_cases hn2 : n ≤ 4096
    · have hm : mn (l[i].f2.size : Int) 1048576 = ((min l[i].f2.size 1048576 : Nat) : Int) := by unfold mn; split <;> omega
      obtain ⟨b, h1, h2⟩ := ih (i + 1) (n + min l[i].f2.size 1048576) (by omega) (by omega)
      refine ⟨b, cubbylaw03_DiskLasts.Ev.succ ?_, h2⟩
      simp only [cubbylaw03_heavy.l0]
      refine h1.of fun k => ?_
      rw [if_pos (by omega), if_pos (by omega), if_pos (by omega), cubbylaw03_DiskLasts.rd44 l i hlt, hm, cubbylaw03_DiskLasts.wnat i (by omega), cubbylaw03_DiskLasts.wrap64_in _ (by omega) (by omega)]
      congr 1
    · refine ⟨true, cubbylaw03_DiskLasts.Ev.succ ?_, fun h => by cases h⟩
      simp only [cubbylaw03_heavy.l0]
      exact (cubbylaw03_DiskLasts.Ev.const _).of fun k => by rw [if_pos (by omega), if_neg (by omega), if_pos (by omega)]
theorem cubbylaw03_DiskLasts.heavy_ev (l : List S44) (hl : l.length ≤ maxLen) : ∃ k b, cubbylaw03_heavy.f k l = some b ∧ (b = false → l.length ≤ 200) := by
  obtain ⟨b, h1, h2⟩ := cubbylaw03_DiskLasts.heavy_l0 l hl l.length 0 l.length (by omega) (by unfold maxLen at hl ⊢; omega)
  obtain ⟨k, h⟩ := h1.get
  exact ⟨k, b, h, h2⟩
def cubbylaw03_DiskLasts.Fit (l : List S44) : Prop := l.length ≤ maxLen ∧ ∀ x ∈ l, x.f1 < 9223372036854775808 ∧ 0 ≤ x.f3 ∧ x.f3 < 18446744073709551616
instance (l : List S44) : Decidable (cubbylaw03_DiskLasts.Fit l) := by unfold cubbylaw03_DiskLasts.Fit; infer_instance
theorem cubbylaw03_DiskLasts.dNew (w : World) (base : Nat) (hb : base ≤ w.heap.size) : Calls Try.prog 9 #[] w fun e w' => ∃ g, e = .returned (.pointer (some ⟨g, 0, none⟩)) ∧ Tw.D w' base g 0 Dk.S0 ∧ Below w.heap.size w w' := by
  refine (disk_New.calls w base hb).mono ?_
  rintro e w' ⟨g, mb, he, hd, hb⟩
  exact ⟨g, he, ⟨mb, 0, _, Nat.le_refl _, hd⟩, hb⟩
theorem cubbylaw03_DiskLasts.dWrite (s : Dk.S) (base g n : Nat) (i : Int) (x : ByteArray) (w : World) (h : Tw.D w base g n s) (hin : Dk.In s) (hn : n ≤ 1000000) :
    Calls Try.prog 13 #[.pointer (some ⟨g, 0, none⟩), .int .i64 i, .string x] w fun e w' => e = .returned (.int .i64 (Dk.writ s i x).2) ∧ Tw.D w' base g (n + 1) ((Dk.writ s i x).1) ∧ Dk.B base w w' := by
  obtain ⟨mb, n', ov, hn', h⟩ := h
  refine (disk_Disk_Write.calls s base g mb n' ov i x w h hin (by omega)).mono ?_
  rintro e w' ⟨he, ⟨ov', n2, h2, hd⟩, hb⟩
  exact ⟨he, ⟨mb, n2, ov', by omega, hd⟩, hb⟩
theorem cubbylaw03_DiskLasts.dCut (s : Dk.S) (base g n : Nat) (i k : Int) (w : World) (h : Tw.D w base g n s) :
    Calls Try.prog 11 #[.pointer (some ⟨g, 0, none⟩), .int .i64 i, .int .u64 k] w fun e w' => e = .returned (.tuple #[]) ∧ Tw.D w' base g (n + 0) (Dk.cutS s i k) ∧ Dk.B base w w' := by
  obtain ⟨mb, n', ov, hn', h⟩ := h
  refine (disk_Disk_Cut.calls s base g mb n' ov i k w h).mono ?_
  rintro e w' ⟨he, hd, hb⟩
  exact ⟨he, ⟨mb, n', ov, by omega, hd⟩, hb⟩
theorem cubbylaw03_DiskLasts.dBarrier (s : Dk.S) (base g n : Nat) (w : World) (h : Tw.D w base g n s) (hin : Dk.In s) :
    Calls Try.prog 15 #[.pointer (some ⟨g, 0, none⟩)] w fun e w' => e = .returned (.int .i64 (Dk.barr s).2) ∧ Tw.D w' base g (n + 0) ((Dk.barr s).1) ∧ Dk.B base w w' := by
  obtain ⟨mb, n', ov, hn', h⟩ := h
  refine (disk_Disk_Barrier.calls s base g mb n' ov w h hin).mono ?_
  rintro e w' ⟨he, ⟨ov', hd⟩, hb⟩
  exact ⟨he, ⟨mb, n', ov', by omega, hd⟩, hb⟩
theorem cubbylaw03_DiskLasts.dPower (s : Dk.S) (base g n : Nat) (w : World) (h : Tw.D w base g n s) :
    Calls Try.prog 22 #[.pointer (some ⟨g, 0, none⟩)] w fun e w' => e = .returned (.tuple #[]) ∧ Tw.D w' base g (n + 0) (Dk.powS s) ∧ Dk.B base w w' := by
  obtain ⟨mb, n', ov, hn', h⟩ := h
  refine (disk_Disk_Power.calls s base g mb n' ov w h).mono ?_
  rintro e w' ⟨he, hd, hb⟩
  exact ⟨he, ⟨mb, n', ov, by omega, hd⟩, hb⟩
theorem cubbylaw03_DiskLasts.dDead (s : Dk.S) (base g n : Nat) (w : World) (h : Tw.D w base g n s) :
    Calls Try.prog 17 #[.pointer (some ⟨g, 0, none⟩)] w fun e w' => e = .returned (.bool s.off) ∧ w' = w := by
  obtain ⟨mb, n', ov, hn', h⟩ := h
  exact disk_Disk_Dead.calls s base g mb n' ov w h
theorem cubbylaw03_DiskLasts.dRead (s : Dk.S) (base g n : Nat) (i : Int) (w : World) (h : Tw.D w base g n s) :
    Calls Try.prog 21 #[.pointer (some ⟨g, 0, none⟩), .int .i64 i] w fun e w' => e = .returned (.tuple #[.string (Dk.read s i).1, .int .i64 (Dk.read s i).2]) ∧ w' = w := by
  obtain ⟨mb, n', ov, hn', h⟩ := h
  exact disk_Disk_Read.calls s base g mb n' ov i w h
theorem cubbylaw03_DiskLasts.rNew (w : World) (base : Nat) (hb : base ≤ w.heap.size) : Calls Try.prog 10 #[] w fun e w' => ∃ g, e = .returned (.pointer (some ⟨g, 0, none⟩)) ∧ Tw.R w' base g Dk.S0 ∧ Below w.heap.size w w' := by
  refine (cubbyref03_New.calls w base hb).mono ?_
  rintro e w' ⟨g, iv, he, hd, hb⟩
  exact ⟨g, he, ⟨iv, _, hd⟩, hb⟩
theorem cubbylaw03_DiskLasts.rWrite (s : Dk.S) (base g : Nat) (i : Int) (x : ByteArray) (w : World) (h : Tw.R w base g s) (hin : Dk.In s) :
    Calls Try.prog 14 #[.pointer (some ⟨g, 0, none⟩), .int .i64 i, .string x] w fun e w' => e = .returned (.int .i64 (Dk.writ s i x).2) ∧ Tw.R w' base g ((Dk.writ s i x).1) ∧ Rf.B base w w' := by
  obtain ⟨iv, lv, h⟩ := h
  refine (cubbyref03_Disk_Write.calls s base g iv lv i x w h hin).mono ?_
  rintro e w' ⟨he, ⟨lv', hd⟩, hb⟩
  exact ⟨he, ⟨iv, lv', hd⟩, hb⟩
def cubbylaw03_DiskLasts.f (l0 l1 : List (S44)) (l2 : Int) : Option Bool := if cubbylaw03_DiskLasts.Fit l0 ∧ cubbylaw03_DiskLasts.Fit l1 ∧ (0 ≤ l2 ∧ l2 < 18446744073709551616) then some true else none
/-- Block b tells which sectors are changed. -/
def cubbylaw03_DiskLasts.Ch (W : World) (b : Nat) (ch : Nat → Bool) : Prop := ∃ cs, W.heap[b]? = some (.cells cs 4 (0, 0)) ∧ ∀ j, j < 256 → cs[j]? = some (.bool (ch j))
theorem cubbylaw03_DiskLasts.Ch.cell {W : World} {b : Nat} {ch : Nat → Bool} (h : cubbylaw03_DiskLasts.Ch W b ch) (j : Nat) (hj : j < 256) : W.cell? ⟨b, j, none⟩ = some (.bool (ch j)) ∧ W.frozen? ⟨b, j, none⟩ = false := by
  obtain ⟨cs, h1, h2⟩ := h
  refine ⟨?_, by simp [World.frozen?, h1]⟩
  rw [cell_of_row W b j _ _ _ h1]
  exact h2 j hj
theorem cubbylaw03_DiskLasts.Ch.set {W : World} {b : Nat} {ch : Nat → Bool} (h : cubbylaw03_DiskLasts.Ch W b ch) (i : Nat) : cubbylaw03_DiskLasts.Ch (W.setCell ⟨b, i, none⟩ (.bool true)) b (fun j => if j = i then true else ch j) := by
  obtain ⟨cs, h1, h2⟩ := h
  refine ⟨_, blk_set h1 i (.bool true), fun j hj => ?_⟩
  rw [Array.getElem?_setIfInBounds]
  have hs : j < cs.size := (Array.getElem?_eq_some_iff.1 (h2 j hj)).1
  by_cases e : i = j
  · subst e
    rw [if_pos rfl, if_pos hs]
    simp
  · rw [if_neg e, h2 j hj]
    have e2 : ¬ j = i := fun q => e q.symm
    simp [e2]
theorem cubbylaw03_DiskLasts.Ch.dk {W W' : World} {base b : Nat} {ch : Nat → Bool} (h : cubbylaw03_DiskLasts.Ch W b ch) (hb : Tw.B base W W') : cubbylaw03_DiskLasts.Ch W' b ch := by
  obtain ⟨cs, h1, h2⟩ := h
  exact ⟨cs, hb.blk h1 (by decide), h2⟩
theorem cubbylaw03_DiskLasts.Ch.below {W W' : World} {b : Nat} {ch : Nat → Bool} (h : cubbylaw03_DiskLasts.Ch W b ch) (hb : Below W.heap.size W W') : cubbylaw03_DiskLasts.Ch W' b ch := by
  obtain ⟨cs, h1, h2⟩ := h
  exact ⟨cs, (hb.block b (Array.getElem?_eq_some_iff.1 h1).1).trans h1, h2⟩
theorem cubbylaw03_DiskLasts.made (i : Nat) (h : i < 256) : (madeCells #[Value.bool false] 256)[i]? = some (.bool false) := by
  unfold madeCells
  simp [Array.getElem?_map, Array.getElem?_range, h, Nat.mod_one]
set_option maxHeartbeats 16000000 in
set_option maxRecDepth 100000 in
theorem cubbylaw03_DiskLasts.calls (A0 : Option Addr) (c0 : Nat) (l0 : List (S44)) (A1 : Option Addr) (c1 : Nat) (l1 : List (S44)) (l2 : Int) (r : Bool) (w : World) (hr0 : Kd.C k44 w A0 l0.length l0) (hc0 : l0.length ≤ c0) (hr1 : Kd.C k44 w A1 l1.length l1) (hc1 : l1.length ≤ c1) (h : cubbylaw03_DiskLasts.f l0 l1 l2 = some r) :
    Calls Try.prog 6 #[.slice A0 l0.length c0, .slice A1 l1.length c1, .int .u64 l2] w fun e w' => e = .returned (.bool r) ∧ Below w.heap.size w w' := by
  unfold cubbylaw03_DiskLasts.f at h
  by_cases hl : cubbylaw03_DiskLasts.Fit l0 ∧ cubbylaw03_DiskLasts.Fit l1 ∧ (0 ≤ l2 ∧ l2 < 18446744073709551616)
  case neg => rw [if_neg hl] at h; cases h
  rw [if_pos hl] at h
  obtain rfl := Option.some.inj h
  clear h
  obtain ⟨hl0, hl1, hk⟩ := hl
  obtain ⟨kh0, b0, hh0, hb0⟩ := cubbylaw03_DiskLasts.heavy_ev l0 hl0.1
  obtain ⟨kh1, b1, hh1, hb1⟩ := cubbylaw03_DiskLasts.heavy_ev l1 hl1.1
  have HR0 := Aside0.mk hr0
  have HR1 := Aside0.mk hr1
  have HH0 := Aside0.mk (fun W hb => cubbylaw03_heavy.calls kh0 A0 c0 l0 b0 W (Kd.C_below HR0.out (w1 := W) hb) hc0 hh0)
  have HH1 := Aside0.mk (fun W hb => cubbylaw03_heavy.calls kh1 A1 c1 l1 b1 W (Kd.C_below HR1.out (w1 := W) hb) hc1 hh1)
  clear hr0 hr1 hh0 hh1 hl0 hl1
  cases b0 with
  | true =>
    clear hb0 hb1
    go_enter Try.func6, Try.ntmps6
    go_wp2_with (go_at_call 23; refine (HH0.out _ (Below.refl _ _)).mono ?_; rintro e w1 ⟨rfl, hb1⟩; have HB1 := Aside0.mk hb1; clear hb1)
    go_ret
    exact ⟨rfl, HB1.out⟩
  | false =>
  cases b1 with
  | true =>
    clear hb0 hb1
    go_enter Try.func6, Try.ntmps6
    go_wp2_with (go_at_call 23; first
      | (with_reducible refine (HH1.out _ HB1.out).mono ?_; rintro e w2 ⟨rfl, hb2⟩; have HB2 := Aside0.mk (HB1.out.trans (hb2.mono HB1.out.size)); clear hb2)
      | (with_reducible refine (HH0.out _ (Below.refl _ _)).mono ?_; rintro e w1 ⟨rfl, hb1⟩; have HB1 := Aside0.mk hb1; clear hb1))
    go_ret
    exact ⟨rfl, HB2.out⟩
  | false =>
    have h200 := hb0 rfl
    have h201 := hb1 rfl
    clear hb0 hb1
    go_enter Try.func6, Try.ntmps6
    go_wp2_with (first
      | (go_at_call 23; first
        | (with_reducible refine (HH1.out _ HB.out).mono ?_; rintro e w2 ⟨rfl, hb2⟩; have HB := Aside0.mk (HB.out.trans (hb2.mono HB.out.size)); clear hb2)
        | (with_reducible refine (HH0.out _ (Below.refl _ _)).mono ?_; rintro e w1 ⟨rfl, hb1⟩; have HB := Aside0.mk hb1; clear hb1))
      | (go_at_call 9; (with_reducible refine (cubbylaw03_DiskLasts.dNew _ w.heap.size HB.out.size).mono ?_); rintro e w2 ⟨gd, rfl, hd2, hb2⟩; have HD := Aside0.mk hd2; have HB := Aside0.mk (HB.out.trans (hb2.mono HB.out.size)); clear hd2 hb2)
      | (go_at_call 10; (with_reducible refine (cubbylaw03_DiskLasts.rNew _ w.heap.size HB.out.size).mono ?_); rintro e w6 ⟨gr, rfl, hr3, hb3⟩; have HD := Aside0.mk (HD.out.below hb3); have HR := Aside0.mk hr3; have HB := Aside0.mk (HB.out.trans (hb3.mono HB.out.size)); clear hr3 hb3))
    go_loopg [9] l0.length (fun gg v9 wq => ∃ (i : Nat) (s : Dk.S), v9 = .int .i64 (i : Int) ∧ i ≤ l0.length ∧ l0.length - i ≤ gg ∧ Aside0 (Tw.D wq w.heap.size gd i s) ∧ Aside0 (Tw.R wq w.heap.size gr s) ∧ Aside0 (Pn.N i s) ∧ Aside0 (Below w.heap.size w wq))
    case atStart => exact ⟨0, Dk.S0, rfl, Nat.zero_le _, by omega, HD, HR, ⟨Pn.N.start⟩, HB⟩
    case round =>
      clear HD HR HB
      obtain ⟨i, s, rfl, hi, hgg, HD, HR, HN, HB⟩ := hrel
      by_cases hil : i < l0.length
      · obtain ⟨gk, rfl⟩ : ∃ q, gk = q + 1 := by
          cases gk with
          | zero => omega
          | succ q => exact ⟨q, rfl⟩
        obtain ⟨y, hy⟩ : ∃ y, l0[i] = y := ⟨_, rfl⟩
        obtain ⟨ad, rfl, k0, k1, k2, _⟩ := at_T44 HR0.out (i : Int) (by omega) (by omega)
        have KX : Aside0 (∀ W, Below w.heap.size w W → W.cell? (ad.add (i * 4)) = some (.int .i64 y.f0) ∧ W.cell? ⟨(ad.add (i * 4)).block, (ad.add (i * 4)).off + 1, none⟩ = some (.int .i64 y.f1) ∧ W.cell? ⟨(ad.add (i * 4)).block, (ad.add (i * 4)).off + 2, none⟩ = some (.string y.f2)) := ⟨fun W hb => by
          obtain ⟨ad', e, q0, q1, q2, _⟩ := at_T44 (Kd.C_below HR0.out hb) (i : Int) (by omega) (by omega)
          cases e
          rw [cubbylaw03_DiskLasts.rd44 l0 i hil, Int.toNat_natCast, hy] at q0 q1 q2
          exact ⟨q0, q1, q2⟩⟩
        clear k0 k1 k2 hy
        obtain ⟨k0, k1, k2⟩ := KX.out _ HB.out
        by_cases hq : y.f0 = 0
        · have hq' : decide (y.f0 = 0) = true := decide_eq_true hq
          have H1 := Aside0.mk (fun W h => cubbylaw03_DiskLasts.dWrite s w.heap.size gd i y.f1 y.f2 W h HN.out.inn (by omega))
          have H2 := Aside0.mk (fun W h => cubbylaw03_DiskLasts.rWrite s w.heap.size gr y.f1 y.f2 W h HN.out.inn)
          have HN2 := Aside0.mk (HN.out.writ (by omega) y.f1 y.f2)
          generalize (Dk.writ s y.f1 y.f2).1 = S2 at H1 H2 HN2
          generalize (Dk.writ s y.f1 y.f2).2 = c at H1 H2
          go_wp2_with (fail)
          have HD := Aside0.mk HD.out.drew
          have HR := Aside0.mk HR.out.drew
          have HB := Aside0.mk HB.out.drew
          -- REGION 8 BEGINS
          refine start_ (n := 33) (S := fun w' => w'.cell? (ad.add (i * 4)) = some (.int .i64 y.f0) ∧ w'.cell? ⟨(ad.add (i * 4)).block, (ad.add (i * 4)).off + 1, none⟩ = some (.int .i64 y.f1) ∧ w'.cell? ⟨(ad.add (i * 4)).block, (ad.add (i * 4)).off + 2, none⟩ = some (.string y.f2)) (ds := [30]) #[false, false, false, false, false, false, false, false, false, false, false, false, false, false, false, false, false, false, false, false, false, false, false, false, false, false, false, false, false, false, false, false, false] (by kernel_rfl) rfl rfl ⟨k0, k1, k2⟩ (fun hHeld => ?_)
          refine pure_ (i := 0) (N := some 30) (v := ?_) (a' := ?_) #[true, false, false, false, false, false, false, false, false, false, false, false, false, false, false, false, false, false, false, false, false, false, false, false, false, false, false, false, false, false, false, false, false] rfl rfl (by kernel_rfl) (fun _ _ _ h => h) (Or.inl ⟨by rfl, ?_⟩) ?_ ?_
          rotate_left
          · intro w'
            go_simp
            with_reducible rfl
          rotate_left
          · simp only [Act.put, List.setIfInBounds_toArray, List.set_cons_zero, List.set_cons_succ, i64_w, i32_w]
            rfl
          refine pure_ (i := 1) (N := some 31) (v := ?_) (a' := ?_) #[true, true, false, false, false, false, false, false, false, false, false, false, false, false, false, false, false, false, false, false, false, false, false, false, false, false, false, false, false, false, false, false, false] rfl rfl (by kernel_rfl) (fun _ _ _ h => h) (Or.inl ⟨by rfl, ?_⟩) ?_ ?_
          rotate_left
          · intro w'
            go_simp
            with_reducible rfl
          rotate_left
          · simp only [Act.put, List.setIfInBounds_toArray, List.set_cons_zero, List.set_cons_succ, i64_w, i32_w]
            rfl
          refine pure_ (i := 2) (N := some 32) (v := ?_) (a' := ?_) #[true, true, true, false, false, false, false, false, false, false, false, false, false, false, false, false, false, false, false, false, false, false, false, false, false, false, false, false, false, false, false, false, false] rfl rfl (by kernel_rfl) (fun _ _ _ h => h) (Or.inl ⟨by rfl, ?_⟩) ?_ ?_
          rotate_left
          · intro w'
            go_simp
            with_reducible rfl
          rotate_left
          · simp only [Act.put, List.setIfInBounds_toArray, List.set_cons_zero, List.set_cons_succ, i64_w, i32_w]
            rfl
          refine pure_ (i := 3) (N := some 33) (v := ?_) (a' := ?_) #[true, true, true, true, false, false, false, false, false, false, false, false, false, false, false, false, false, false, false, false, false, false, false, false, false, false, false, false, false, false, false, false, false] rfl rfl (by kernel_rfl) (fun _ _ _ h => h) (Or.inl ⟨by rfl, ?_⟩) ?_ ?_
          rotate_left
          · intro w'
            go_simp
            with_reducible rfl
          rotate_left
          · simp only [Act.put, List.setIfInBounds_toArray, List.set_cons_zero, List.set_cons_succ, i64_w, i32_w]
            rfl
          refine take_ (i := 4) (N := some 34) (v := ?_) (a' := ?_) #[true, true, true, true, true, false, false, false, false, false, false, false, false, false, false, false, false, false, false, false, false, false, false, false, false, false, false, false, false, false, false, false, false] rfl rfl (by kernel_rfl) (fun _ _ _ h => h) (Or.inl ⟨by rfl, ?_⟩) hHeld ?_ ?_
          rotate_left
          · rintro w' ⟨s0, s1, s2⟩
            go_simp
            with_reducible rfl
          rotate_left
          · simp only [Act.put, List.setIfInBounds_toArray, List.set_cons_zero, List.set_cons_succ, i64_w, i32_w]
            rfl
          refine pure_ (i := 5) (N := some 35) (v := ?_) (a' := ?_) #[true, true, true, true, true, true, false, false, false, false, false, false, false, false, false, false, false, false, false, false, false, false, false, false, false, false, false, false, false, false, false, false, false] rfl rfl (by kernel_rfl) (fun _ _ _ h => h) (Or.inl ⟨by rfl, ?_⟩) ?_ ?_
          rotate_left
          · intro w'
            go_simp
            with_reducible rfl
          rotate_left
          · simp only [Act.put, List.setIfInBounds_toArray, List.set_cons_zero, List.set_cons_succ, i64_w, i32_w]
            rfl
          refine pure_ (i := 6) (N := some 36) (v := ?_) (a' := ?_) #[true, true, true, true, true, true, true, false, false, false, false, false, false, false, false, false, false, false, false, false, false, false, false, false, false, false, false, false, false, false, false, false, false] rfl rfl (by kernel_rfl) (fun _ _ _ h => h) (Or.inl ⟨by rfl, ?_⟩) ?_ ?_
          rotate_left
          · intro w'
            go_simp
            with_reducible rfl
          rotate_left
          · simp only [Act.put, List.setIfInBounds_toArray, List.set_cons_zero, List.set_cons_succ, i64_w, i32_w]
            rfl
          refine pure_ (i := 7) (N := some 37) (v := ?_) (a' := ?_) #[true, true, true, true, true, true, true, true, false, false, false, false, false, false, false, false, false, false, false, false, false, false, false, false, false, false, false, false, false, false, false, false, false] rfl rfl (by kernel_rfl) (fun _ _ _ h => h) (Or.inl ⟨by rfl, ?_⟩) ?_ ?_
          rotate_left
          · intro w'
            go_simp
            with_reducible rfl
          rotate_left
          · simp only [Act.put, List.setIfInBounds_toArray, List.set_cons_zero, List.set_cons_succ, i64_w, i32_w]
            rfl
          refine pure_ (i := 8) (N := some 38) (v := ?_) (a' := ?_) #[true, true, true, true, true, true, true, true, true, false, false, false, false, false, false, false, false, false, false, false, false, false, false, false, false, false, false, false, false, false, false, false, false] rfl rfl (by kernel_rfl) (fun _ _ _ h => h) (Or.inl ⟨by rfl, ?_⟩) ?_ ?_
          rotate_left
          · intro w'
            go_simp
            with_reducible rfl
          rotate_left
          · simp only [Act.put, List.setIfInBounds_toArray, List.set_cons_zero, List.set_cons_succ, i64_w, i32_w]
            rfl
          refine pure_ (i := 9) (N := some 39) (v := ?_) (a' := ?_) #[true, true, true, true, true, true, true, true, true, true, false, false, false, false, false, false, false, false, false, false, false, false, false, false, false, false, false, false, false, false, false, false, false] rfl rfl (by kernel_rfl) (fun _ _ _ h => h) (Or.inl ⟨by rfl, ?_⟩) ?_ ?_
          rotate_left
          · intro w'
            go_simp
            with_reducible rfl
          rotate_left
          · simp only [Act.put, List.setIfInBounds_toArray, List.set_cons_zero, List.set_cons_succ, i64_w, i32_w]
            rfl
          refine pure_ (i := 10) (N := some 40) (v := ?_) (a' := ?_) #[true, true, true, true, true, true, true, true, true, true, true, false, false, false, false, false, false, false, false, false, false, false, false, false, false, false, false, false, false, false, false, false, false] rfl rfl (by kernel_rfl) (fun _ _ _ h => h) (Or.inl ⟨by rfl, ?_⟩) ?_ ?_
          rotate_left
          · intro w'
            go_simp
            with_reducible rfl
          rotate_left
          · simp only [Act.put, List.setIfInBounds_toArray, List.set_cons_zero, List.set_cons_succ, i64_w, i32_w]
            rfl
          refine pure_ (i := 11) (N := some 41) (v := ?_) (a' := ?_) #[true, true, true, true, true, true, true, true, true, true, true, true, false, false, false, false, false, false, false, false, false, false, false, false, false, false, false, false, false, false, false, false, false] rfl rfl (by kernel_rfl) (fun _ _ _ h => h) (Or.inl ⟨by rfl, ?_⟩) ?_ ?_
          rotate_left
          · intro w'
            go_simp
            with_reducible rfl
          rotate_left
          · simp only [Act.put, List.setIfInBounds_toArray, List.set_cons_zero, List.set_cons_succ, i64_w, i32_w]
            rfl
          refine pure_ (i := 13) (N := some 43) (v := ?_) (a' := ?_) #[true, true, true, true, true, true, true, true, true, true, true, true, false, true, false, false, false, false, false, false, false, false, false, false, false, false, false, false, false, false, false, false, false] rfl rfl (by kernel_rfl) (fun _ _ _ h => h) (Or.inl ⟨by rfl, ?_⟩) ?_ ?_
          rotate_left
          · intro w'
            go_simp
            with_reducible rfl
          rotate_left
          · simp only [Act.put, List.setIfInBounds_toArray, List.set_cons_zero, List.set_cons_succ, i64_w, i32_w]
            rfl
          refine pure_ (i := 14) (N := some 44) (v := ?_) (a' := ?_) #[true, true, true, true, true, true, true, true, true, true, true, true, false, true, true, false, false, false, false, false, false, false, false, false, false, false, false, false, false, false, false, false, false] rfl rfl (by kernel_rfl) (fun _ _ _ h => h) (Or.inl ⟨by rfl, ?_⟩) ?_ ?_
          rotate_left
          · intro w'
            go_simp
            with_reducible rfl
          rotate_left
          · simp only [Act.put, List.setIfInBounds_toArray, List.set_cons_zero, List.set_cons_succ, i64_w, i32_w]
            rfl
          refine pure_ (i := 15) (N := some 45) (v := ?_) (a' := ?_) #[true, true, true, true, true, true, true, true, true, true, true, true, false, true, true, true, false, false, false, false, false, false, false, false, false, false, false, false, false, false, false, false, false] rfl rfl (by kernel_rfl) (fun _ _ _ h => h) (Or.inl ⟨by rfl, ?_⟩) ?_ ?_
          rotate_left
          · intro w'
            go_simp
            with_reducible rfl
          rotate_left
          · simp only [Act.put, List.setIfInBounds_toArray, List.set_cons_zero, List.set_cons_succ, i64_w, i32_w]
            rfl
          refine pure_ (i := 16) (N := some 46) (v := ?_) (a' := ?_) #[true, true, true, true, true, true, true, true, true, true, true, true, false, true, true, true, true, false, false, false, false, false, false, false, false, false, false, false, false, false, false, false, false] rfl rfl (by kernel_rfl) (fun _ _ _ h => h) (Or.inl ⟨by rfl, ?_⟩) ?_ ?_
          rotate_left
          · intro w'
            go_simp
            with_reducible rfl
          rotate_left
          · simp only [Act.put, List.setIfInBounds_toArray, List.set_cons_zero, List.set_cons_succ, i64_w, i32_w]
            rfl
          refine pure_ (i := 19) (N := some 49) (v := ?_) (a' := ?_) #[true, true, true, true, true, true, true, true, true, true, true, true, false, true, true, true, true, false, false, true, false, false, false, false, false, false, false, false, false, false, false, false, false] rfl rfl (by kernel_rfl) (fun _ _ _ h => h) (Or.inl ⟨by rfl, ?_⟩) ?_ ?_
          rotate_left
          · intro w'
            go_simp
            with_reducible rfl
          rotate_left
          · simp only [Act.put, List.setIfInBounds_toArray, List.set_cons_zero, List.set_cons_succ, i64_w, i32_w]
            rfl
          refine pure_ (i := 20) (N := some 50) (v := ?_) (a' := ?_) #[true, true, true, true, true, true, true, true, true, true, true, true, false, true, true, true, true, false, false, true, true, false, false, false, false, false, false, false, false, false, false, false, false] rfl rfl (by kernel_rfl) (fun _ _ _ h => h) (Or.inl ⟨by rfl, ?_⟩) ?_ ?_
          rotate_left
          · intro w'
            go_simp
            with_reducible rfl
          rotate_left
          · simp only [Act.put, List.setIfInBounds_toArray, List.set_cons_zero, List.set_cons_succ, i64_w, i32_w]
            rfl
          refine pure_ (i := 21) (N := some 51) (v := ?_) (a' := ?_) #[true, true, true, true, true, true, true, true, true, true, true, true, false, true, true, true, true, false, false, true, true, true, false, false, false, false, false, false, false, false, false, false, false] rfl rfl (by kernel_rfl) (fun _ _ _ h => h) (Or.inl ⟨by rfl, ?_⟩) ?_ ?_
          rotate_left
          · intro w'
            go_simp
            with_reducible rfl
          rotate_left
          · simp only [Act.put, List.setIfInBounds_toArray, List.set_cons_zero, List.set_cons_succ, i64_w, i32_w]
            rfl
          refine pure_ (i := 22) (N := some 52) (v := ?_) (a' := ?_) #[true, true, true, true, true, true, true, true, true, true, true, true, false, true, true, true, true, false, false, true, true, true, true, false, false, false, false, false, false, false, false, false, false] rfl rfl (by kernel_rfl) (fun _ _ _ h => h) (Or.inl ⟨by rfl, ?_⟩) ?_ ?_
          rotate_left
          · intro w'
            go_simp
            with_reducible rfl
          rotate_left
          · simp only [Act.put, List.setIfInBounds_toArray, List.set_cons_zero, List.set_cons_succ, i64_w, i32_w]
            rfl
          refine pure_ (i := 23) (N := some 53) (v := ?_) (a' := ?_) #[true, true, true, true, true, true, true, true, true, true, true, true, false, true, true, true, true, false, false, true, true, true, true, true, false, false, false, false, false, false, false, false, false] rfl rfl (by kernel_rfl) (fun _ _ _ h => h) (Or.inl ⟨by rfl, ?_⟩) ?_ ?_
          rotate_left
          · intro w'
            go_simp
            with_reducible rfl
          rotate_left
          · simp only [Act.put, List.setIfInBounds_toArray, List.set_cons_zero, List.set_cons_succ, i64_w, i32_w]
            rfl
          refine pure_ (i := 25) (N := some 55) (v := ?_) (a' := ?_) #[true, true, true, true, true, true, true, true, true, true, true, true, false, true, true, true, true, false, false, true, true, true, true, true, false, true, false, false, false, false, false, false, false] rfl rfl (by kernel_rfl) (fun _ _ _ h => h) (Or.inl ⟨by rfl, ?_⟩) ?_ ?_
          rotate_left
          · intro w'
            go_simp
            with_reducible rfl
          rotate_left
          · simp only [Act.put, List.setIfInBounds_toArray, List.set_cons_zero, List.set_cons_succ, i64_w, i32_w]
            rfl
          refine pure_ (i := 26) (N := some 56) (v := ?_) (a' := ?_) #[true, true, true, true, true, true, true, true, true, true, true, true, false, true, true, true, true, false, false, true, true, true, true, true, false, true, true, false, false, false, false, false, false] rfl rfl (by kernel_rfl) (fun _ _ _ h => h) (Or.inl ⟨by rfl, ?_⟩) ?_ ?_
          rotate_left
          · intro w'
            go_simp
            with_reducible rfl
          rotate_left
          · simp only [Act.put, List.setIfInBounds_toArray, List.set_cons_zero, List.set_cons_succ, i64_w, i32_w]
            rfl
          refine pure_ (i := 27) (N := some 57) (v := ?_) (a' := ?_) #[true, true, true, true, true, true, true, true, true, true, true, true, false, true, true, true, true, false, false, true, true, true, true, true, false, true, true, true, false, false, false, false, false] rfl rfl (by kernel_rfl) (fun _ _ _ h => h) (Or.inl ⟨by rfl, ?_⟩) ?_ ?_
          rotate_left
          · intro w'
            go_simp
            with_reducible rfl
          rotate_left
          · simp only [Act.put, List.setIfInBounds_toArray, List.set_cons_zero, List.set_cons_succ, i64_w, i32_w]
            rfl
          refine pure_ (i := 28) (N := some 58) (v := ?_) (a' := ?_) #[true, true, true, true, true, true, true, true, true, true, true, true, false, true, true, true, true, false, false, true, true, true, true, true, false, true, true, true, true, false, false, false, false] rfl rfl (by kernel_rfl) (fun _ _ _ h => h) (Or.inl ⟨by rfl, ?_⟩) ?_ ?_
          rotate_left
          · intro w'
            go_simp
            with_reducible rfl
          rotate_left
          · simp only [Act.put, List.setIfInBounds_toArray, List.set_cons_zero, List.set_cons_succ, i64_w, i32_w]
            rfl
          refine take_ (i := 12) (N := some 42) (v := ?_) (a' := ?_) #[true, true, true, true, true, true, true, true, true, true, true, true, true, true, true, true, true, false, false, true, true, true, true, true, false, true, true, true, true, false, false, false, false] rfl rfl (by kernel_rfl) (fun _ _ _ h => h) (Or.inl ⟨by rfl, ?_⟩) hHeld ?_ ?_
          rotate_left
          · rintro w' ⟨s0, s1, s2⟩
            go_simp
            with_reducible rfl
          rotate_left
          · simp only [Act.put, List.setIfInBounds_toArray, List.set_cons_zero, List.set_cons_succ, i64_w, i32_w]
            rfl
          refine take_ (i := 17) (N := some 47) (v := ?_) (a' := ?_) #[true, true, true, true, true, true, true, true, true, true, true, true, true, true, true, true, true, true, false, true, true, true, true, true, false, true, true, true, true, false, false, false, false] rfl rfl (by kernel_rfl) (fun _ _ _ h => h) (Or.inl ⟨by rfl, ?_⟩) hHeld ?_ ?_
          rotate_left
          · rintro w' ⟨s0, s1, s2⟩
            go_simp
            with_reducible rfl
          rotate_left
          · simp only [Act.put, List.setIfInBounds_toArray, List.set_cons_zero, List.set_cons_succ, i64_w, i32_w]
            rfl
          refine take_ (i := 24) (N := some 54) (v := ?_) (a' := ?_) #[true, true, true, true, true, true, true, true, true, true, true, true, true, true, true, true, true, true, false, true, true, true, true, true, true, true, true, true, true, false, false, false, false] rfl rfl (by kernel_rfl) (fun _ _ _ h => h) (Or.inl ⟨by rfl, ?_⟩) hHeld ?_ ?_
          rotate_left
          · rintro w' ⟨s0, s1, s2⟩
            go_simp
            with_reducible rfl
          rotate_left
          · simp only [Act.put, List.setIfInBounds_toArray, List.set_cons_zero, List.set_cons_succ, i64_w, i32_w]
            rfl
          refine take_ (i := 29) (N := some 59) (v := ?_) (a' := ?_) #[true, true, true, true, true, true, true, true, true, true, true, true, true, true, true, true, true, true, false, true, true, true, true, true, true, true, true, true, true, true, false, false, false] rfl rfl (by kernel_rfl) (fun _ _ _ h => h) (Or.inl ⟨by rfl, ?_⟩) hHeld ?_ ?_
          rotate_left
          · rintro w' ⟨s0, s1, s2⟩
            go_simp
            with_reducible rfl
          rotate_left
          · simp only [Act.put, List.setIfInBounds_toArray, List.set_cons_zero, List.set_cons_succ, i64_w, i32_w]
            rfl
          refine one_ (i := 18) (N := some 48) #[true, true, true, true, true, true, true, true, true, true, true, true, true, true, true, true, true, true, true, true, true, true, true, true, true, true, true, true, true, true, false, false, false] rfl rfl (by kernel_rfl) (by decide) (fun K hK => ?_)
          refine goes_ Try.func13 (by kernel_rfl) rfl #[.pointer (some ⟨gd, 0, none⟩), .int .i64 y.f1, .string y.f2] (by rfl) rfl rfl (by simp only [List.map_toArray, List.map_cons, List.map_nil]; rfl) ?_
          with_reducible refine (H1.out _ HD.out).mono ?_
          rintro e w3 ⟨rfl, hd3, hb3⟩
          refine ⟨_, rfl, ?_⟩
          have HD := Aside0.mk hd3
          have HB := Aside0.mk (HB.out.trans hb3.b)
          have HR := Aside0.mk (HR.out.dk hb3)
          clear hd3 hb3
          obtain ⟨k0, k1, k2⟩ := KX.out _ HB.out
          refine hK.out _ _ ⟨k0, k1, k2⟩ (fun hHeld => ?_)
          clear hK K
          refine norm_ (a' := ?_) ?_ ?_
          rotate_left
          · show Act.put _ (some 48) _ = _
            simp only [Act.put, List.setIfInBounds_toArray, List.set_cons_zero, List.set_cons_succ, i64_w, i32_w]
            rfl
          refine last_ (i := 30) (N := some 60) #[true, true, true, true, true, true, true, true, true, true, true, true, true, true, true, true, true, true, true, true, true, true, true, true, true, true, true, true, true, true, true, false, false] rfl rfl (by kernel_rfl) (by decide) (fun K hK => ?_)
          refine goes_ Try.func14 (by kernel_rfl) rfl #[.pointer (some ⟨gr, 0, none⟩), .int .i64 y.f1, .string y.f2] (by rfl) rfl rfl (by simp only [List.map_toArray, List.map_cons, List.map_nil]; rfl) ?_
          with_reducible refine (H2.out _ HR.out).mono ?_
          rintro e w4 ⟨rfl, hr4, hb4⟩
          refine ⟨_, rfl, ?_⟩
          have HD := Aside0.mk (HD.out.rf hb4)
          have HR := Aside0.mk hr4
          have HB := Aside0.mk (HB.out.trans hb4.b)
          clear hr4 hb4
          refine hK.out _ _ ?_
          clear hK K
          refine norm_ (a' := ?_) ?_ ?_
          rotate_left
          · show Act.put _ (some 60) _ = _
            simp only [Act.put, List.setIfInBounds_toArray, List.set_cons_zero, List.set_cons_succ, i64_w, i32_w]
            rfl
          refine pure_ (i := 31) (N := some 61) (v := ?_) (a' := ?_) #[true, true, true, true, true, true, true, true, true, true, true, true, true, true, true, true, true, true, true, true, true, true, true, true, true, true, true, true, true, true, true, true, false] rfl rfl (by kernel_rfl) (fun _ _ _ h => h) (Or.inl ⟨by rfl, ?_⟩) ?_ ?_
          rotate_left
          · intro w'
            go_simp
            with_reducible rfl
          rotate_left
          · simp only [Act.put, List.setIfInBounds_toArray, List.set_cons_zero, List.set_cons_succ, i64_w, i32_w]
            rfl
          refine pure_ (i := 32) (N := some 62) (v := ?_) (a' := ?_) #[true, true, true, true, true, true, true, true, true, true, true, true, true, true, true, true, true, true, true, true, true, true, true, true, true, true, true, true, true, true, true, true, true] rfl rfl (by kernel_rfl) (fun _ _ _ h => h) (Or.inl ⟨by rfl, ?_⟩) ?_ ?_
          rotate_left
          · intro w'
            go_simp
            with_reducible rfl
          rotate_left
          · simp only [Act.put, List.setIfInBounds_toArray, List.set_cons_zero, List.set_cons_succ, i64_w, i32_w]
            rfl
          refine done_ (by kernel_rfl) ?_
          -- REGION 8 ENDS
          go_wp2_with (fail)
          go_roundg gk
          case measure => omega
          case rel => exact ⟨i + 1, S2, by rw [Int.natCast_add]; rfl, by omega, by omega, HD, HR, HN2, HB⟩
        · have hq' : decide (y.f0 = 0) = false := decide_eq_false hq
          go_wp2_with (fail)
          go_quiet (fail)
          go_wp2_with (fail)
          go_roundg gk
          case measure => omega
          case rel =>
            obtain ⟨mb, n', ov, q1, q2⟩ := HD.out.below (pw_below_drewN (Below.refl _ _) nq)
            exact ⟨i + 1, s, by rw [Int.natCast_add]; rfl, by omega, by omega, ⟨⟨mb, n', ov, by omega, q2⟩⟩, ⟨HR.out.below (pw_below_drewN (Below.refl _ _) nq)⟩, ⟨HN.out.mono (Nat.le_succ i)⟩, ⟨pw_below_drewN HB.out nq⟩⟩
      · obtain rfl : i = l0.length := by omega
        obtain ⟨g1, g2, g3, g4⟩ := HN.out.barr (by omega)
        have H1 := Aside0.mk (fun W h => cubbylaw03_DiskLasts.dBarrier s w.heap.size gd l0.length W h HN.out.inn)
        rw [g1] at H1
        have HL := Aside0.mk (Pn.L.start g3 g4)
        have HN1 := Aside0.mk g2
        clear g1 g2 g3 g4 HN hgg hi
        generalize (Dk.barr s).1 = S1 at H1 HL HN1
        obtain ⟨Z, hZ⟩ : ∃ Z, madeCells #[Value.bool false] 256 = Z := ⟨_, rfl⟩
        have hmk : ∀ w : World, (Instr.makeSlice 45 (.int .i64 256) (.int .i64 256)).run Try.prog w = .ok (.slice (some ⟨w.heap.size, 0, none⟩) 256 256) (w.alloc (.cells Z 4)) := fun w => by
          have h := print_make_of (P := Try.prog) 45 4 (.bool false) 1 (by kernel_rfl) (by kernel_rfl) rfl (by decide) 256 (by decide) w
          rw [hZ] at h
          exact h
        have hzz : ∀ i, i < 256 → Z[i]? = some (.bool false) := by rw [← hZ]; exact cubbylaw03_DiskLasts.made
        clear hZ
        go_wp2_with (first
          | (go_at_call 15; (with_reducible refine (H1.out _ HD.out).mono ?_); rintro e w4 ⟨rfl, hd3, hb3⟩; have HD := Aside0.mk hd3; have HR := Aside0.mk (HR.out.dk hb3); have HB := Aside0.mk (HB.out.trans hb3.b); clear hd3 hb3))
        have HCH : Aside0 (cubbylaw03_DiskLasts.Ch (w4.alloc (.cells Z 4)) w4.heap.size (fun _ => false)) := ⟨⟨Z, Hw.blk_nw w4 _, hzz⟩⟩
        have HD := Aside0.mk (HD.out.alloc (.cells Z 4))
        have HR := Aside0.mk (HR.out.alloc (.cells Z 4))
        have hcb := HB.out.size
        have HB := Aside0.mk (HB.out.alloc hcb (.cells Z 4))
        generalize w4.heap.size = cb at HCH hcb ⊢
        generalize w4.alloc (.cells Z 4) = W5 at HCH HD HR HB ⊢
        clear hmk hzz H1
        go_loopg [11] l1.length (fun gg v11 wq => ∃ (i : Nat) (t : Dk.S) (ch : Nat → Bool), v11 = .int .i64 (i : Int) ∧ i ≤ l1.length ∧ l1.length - i ≤ gg ∧ Aside0 (Tw.D wq w.heap.size gd (l0.length + i) t) ∧ Aside0 (Tw.R wq w.heap.size gr s) ∧ Aside0 (Pn.N (l0.length + 1 + i) t) ∧ Aside0 (Pn.L s.sec ch t) ∧ Aside0 (cubbylaw03_DiskLasts.Ch wq cb ch) ∧ Aside0 (Below w.heap.size w wq))
        case atStart => exact ⟨0, S1, fun _ => false, rfl, Nat.zero_le _, by omega, HD, HR, HN1, HL, HCH, HB⟩
        case round =>
          clear HD HR HB HN1 HL HCH
          obtain ⟨i, t, ch, rfl, hi, hgg, HD, HR, HN, HL, HCH, HB⟩ := hrel
          by_cases hil : i < l1.length
          · obtain ⟨gk, rfl⟩ : ∃ q, gk = q + 1 := by
              cases gk with
              | zero => omega
              | succ q => exact ⟨q, rfl⟩
            obtain ⟨ad, rfl, k0, k1, k2, k3⟩ := at_T44 (Kd.C_below HR1.out HB.out) (i : Int) (by omega) (by omega)
            rw [cubbylaw03_DiskLasts.rd44 l1 i hil, Int.toNat_natCast] at k0 k1 k2 k3
            obtain ⟨y, hy⟩ : ∃ y, l1[i] = y := ⟨_, rfl⟩
            rw [hy] at k0 k1 k2 k3
            clear hy
            obtain ⟨f0, f1, f2, f3⟩ := y
            dsimp only at k0 k1 k2 k3
            go_upto_region 17 with fail
            have HK := Aside0.mk (Hw.blk_nw wr (.cells #[.int .i64 f0, .int .i64 f1, .string f2, .int .u64 f3] 44))
            have HD := Aside0.mk (HD.out.alloc (.cells #[.int .i64 f0, .int .i64 f1, .string f2, .int .u64 f3] 44))
            have HR := Aside0.mk (HR.out.alloc (.cells #[.int .i64 f0, .int .i64 f1, .string f2, .int .u64 f3] 44))
            have HCH := Aside0.mk (HCH.out.below ((Below.refl _ wr).alloc (Nat.le_refl _) (.cells #[.int .i64 f0, .int .i64 f1, .string f2, .int .u64 f3] 44)))
            have HB := Aside0.mk (HB.out.alloc HB.out.size (.cells #[.int .i64 f0, .int .i64 f1, .string f2, .int .u64 f3] 44))
            clear k0 k1 k2 k3
            generalize wr.heap.size = ob at HK ⊢
            generalize wr.alloc (.cells #[.int .i64 f0, .int .i64 f1, .string f2, .int .u64 f3] 44) = W7 at HK HD HR HB HCH ⊢
            have KX : Aside0 (∀ W, Tw.B w.heap.size W7 W → W.cell? ⟨ob, 0, none⟩ = some (.int .i64 f0) ∧ W.cell? ⟨ob, 1, none⟩ = some (.int .i64 f1) ∧ W.cell? ⟨ob, 2, none⟩ = some (.string f2)) := ⟨fun W hb => by
              have e := hb.blk HK.out (by decide)
              exact ⟨cell_of_row _ _ 0 _ _ _ e, cell_of_row _ _ 1 _ _ _ e, cell_of_row _ _ 2 _ _ _ e⟩⟩
            obtain ⟨k0, k1, k2⟩ := KX.out _ (Tw.B.refl _ _)
            have hin := HN.out.inn
            by_cases hq : f0 = 0
            · subst hq
              have H1 := Aside0.mk (cubbylaw03_DiskLasts.dWrite t w.heap.size gd (l0.length + i) f1 f2 W7 HD.out hin (by omega))
              have HN2 := Aside0.mk (HN.out.writ (by omega) f1 f2)
              by_cases hg : (0 ≤ f1 ∧ f1 < 256) ∧ f2.size ≤ 128
              · have HL2 := Aside0.mk (HL.out.good HN.out f1 f2 hg)
                rw [show (Dk.writ t f1 f2).2 = 0 by rw [HN.out.good f1 f2 hg]] at H1
                obtain ⟨⟨x1, x2⟩, x3⟩ := hg
                obtain ⟨n, rfl⟩ : ∃ n : Nat, f1 = (n : Int) := ⟨f1.toNat, by omega⟩
                rw [Int.toNat_natCast] at HL2
                generalize (Dk.writ t (n : Int) f2).1 = T2 at H1 HN2 HL2
                go_upto_region 18 with (first
                  | (go_at_call 13; (with_reducible refine H1.out.mono ?_); rintro e w3 ⟨rfl, hd3, hb3⟩; have HD := Aside0.mk hd3; have HR := Aside0.mk (HR.out.dk hb3); have HB := Aside0.mk (HB.out.trans hb3.b); have HCH := Aside0.mk (HCH.out.dk (Tw.B.dk hb3)); obtain ⟨k0, k1, k2⟩ := KX.out _ (Tw.B.dk hb3); clear hb3))
                all_goals (try (exfalso; omega))
                obtain ⟨q1, q2⟩ := HCH.out.cell n (by omega)
                go_wp2_with (fail)
                go_roundg gk
                case measure => omega
                case rel =>
                  obtain ⟨cs, z1, z2⟩ := HCH.out
                  have HD := HD.out.set (k := n) z1 (by decide) (by decide) (.bool true)
                  obtain ⟨mb, n', ov, q3, q4⟩ := HD
                  exact ⟨i + 1, T2, _, by rw [Int.natCast_add]; rfl, by omega, by omega, ⟨⟨mb, n', ov, by omega, q4⟩⟩, ⟨HR.out.set z1 (by decide) (by decide) (by decide) _⟩, HN2, HL2, ⟨HCH.out.set n⟩, ⟨HB.out.setCell (p := ⟨cb, n, none⟩) hcb _⟩⟩
              · obtain ⟨e1, e2⟩ := HN.out.bad f1 f2 hg
                rw [e1] at H1
                generalize (Dk.writ t f1 f2).2 = c at H1 e2
                have hcb' : (c == 0) = false := beq_eq_false_iff_ne.2 e2
                have hcd := decide_eq_false e2
                go_wp2_with (first
                  | (go_at_call 13; (with_reducible refine H1.out.mono ?_); rintro e w3 ⟨rfl, hd3, hb3⟩; have HD := Aside0.mk hd3; have HR := Aside0.mk (HR.out.dk hb3); have HB := Aside0.mk (HB.out.trans hb3.b); have HCH := Aside0.mk (HCH.out.dk (Tw.B.dk hb3)); obtain ⟨k0, k1, k2⟩ := KX.out _ (Tw.B.dk hb3); clear hb3))
                go_roundg gk
                case measure => omega
                case rel => exact ⟨i + 1, t, ch, by rw [Int.natCast_add]; rfl, by omega, by omega, ⟨by rw [← Nat.add_assoc]; exact HD.out⟩, HR, ⟨HN.out.mono (by omega)⟩, HL, HCH, HB⟩
            · have hq' : decide (f0 = 0) = false := decide_eq_false hq
              go_wp2_with (fail)
              go_roundg gk
              case measure => omega
              case rel =>
                obtain ⟨mb, n', ov, q3, q4⟩ := HD.out
                exact ⟨i + 1, t, ch, by rw [Int.natCast_add]; rfl, by omega, by omega, ⟨⟨mb, n', ov, by omega, q4⟩⟩, HR, ⟨HN.out.mono (by omega)⟩, HL, HCH, HB⟩
          · obtain rfl : i = l1.length := by omega
            have g := HN.out.goes (by omega) l2 hk
            have H1 := Aside0.mk (fun W h => cubbylaw03_DiskLasts.dCut t w.heap.size gd (l0.length + l1.length) 1 l2 W h)
            have H2 := Aside0.mk (fun W h => cubbylaw03_DiskLasts.dBarrier (Dk.cutS t 1 l2) w.heap.size gd (l0.length + l1.length) W h g.ic)
            have H3 := Aside0.mk (fun W h => cubbylaw03_DiskLasts.dPower (Dk.barr (Dk.cutS t 1 l2)).1 w.heap.size gd (l0.length + l1.length) W h)
            have H4 := Aside0.mk (fun W h => cubbylaw03_DiskLasts.dDead (Dk.barr (Dk.cutS t 1 l2)).1 w.heap.size gd (l0.length + l1.length) W h)
            have e3 : Dk.powS (Dk.barr (Dk.cutS t 1 l2)).1 = Pn.fin t l2 := rfl
            rw [e3] at H3
            rw [g.b] at H2
            rw [g.o] at H4
            have HST := Aside0.mk (fun j hj hc => HL.out.stays HN.out g j hj hc)
            have hFN := g.n
            generalize Pn.fin t l2 = F at H3 hFN HST
            clear e3 g HN HL hgg hi
            generalize (Dk.barr (Dk.cutS t 1 l2)).1 = S3 at H2 H3 H4
            generalize Dk.cutS t 1 l2 = S2 at H1 H2
            go_wp2_with (first
              | (go_at_call 11; (with_reducible refine (H1.out _ HD.out).mono ?_); rintro e w3 ⟨rfl, hd3, hb3⟩; have HD := Aside0.mk hd3; have HR := Aside0.mk (HR.out.dk hb3); have HCH := Aside0.mk (HCH.out.dk (Tw.B.dk hb3)); have HB := Aside0.mk (HB.out.trans hb3.b); clear hd3 hb3)
              | (go_at_call 15; (with_reducible refine (H2.out _ HD.out).mono ?_); rintro e w4 ⟨rfl, hd3, hb3⟩; have HD := Aside0.mk hd3; have HR := Aside0.mk (HR.out.dk hb3); have HCH := Aside0.mk (HCH.out.dk (Tw.B.dk hb3)); have HB := Aside0.mk (HB.out.trans hb3.b); clear hd3 hb3)
              | (go_at_call 17; (with_reducible refine (H4.out _ HD.out).mono ?_); rintro e w5 ⟨rfl, rfl⟩)
              | (go_at_call 22; (with_reducible refine (H3.out _ HD.out).mono ?_); rintro e w5 ⟨rfl, hd3, hb3⟩; have HD := Aside0.mk hd3; have HR := Aside0.mk (HR.out.dk hb3); have HCH := Aside0.mk (HCH.out.dk (Tw.B.dk hb3)); have HB := Aside0.mk (HB.out.trans hb3.b); clear hd3 hb3))
            clear H1 H2 H3 H4
            go_loopg [13] 256 (fun gg v13 wq => ∃ (i : Nat), v13 = .int .i64 (i : Int) ∧ i ≤ 256 ∧ 256 - i ≤ gg ∧ Aside0 (Tw.D wq w.heap.size gd (l0.length + l1.length) F) ∧ Aside0 (Tw.R wq w.heap.size gr s) ∧ Aside0 (cubbylaw03_DiskLasts.Ch wq cb ch) ∧ Aside0 (Below w.heap.size w wq))
            case atStart => exact ⟨0, rfl, Nat.zero_le _, by omega, HD, HR, HCH, HB⟩
            case round =>
              clear HD HB HR HCH
              obtain ⟨i, rfl, hi, hgg, HD, HR, HCH, HB⟩ := hrel
              by_cases hil : i < 256
              · obtain ⟨gk, rfl⟩ : ∃ q, gk = q + 1 := by
                  cases gk with
                  | zero => omega
                  | succ q => exact ⟨q, rfl⟩
                have H1 := Aside0.mk (cubbylaw03_DiskLasts.dRead F w.heap.size gd (l0.length + l1.length) (i : Int) wr HD.out)
                rw [hFN.read i hil] at H1
                obtain ⟨q1, q2⟩ := HCH.out.cell i hil
                by_cases hch : ch i = true
                · rw [hch] at q1
                  go_wp2_with (first
                    | (go_at_call 21; (with_reducible refine H1.out.mono ?_); rintro e w3 ⟨rfl, rfl⟩))
                  go_roundg gk
                  case measure => omega
                  case rel => exact ⟨i + 1, by rw [Int.natCast_add]; rfl, by omega, by omega, HD, HR, HCH, HB⟩
                · have hcf : ch i = false := by simpa using hch
                  rw [hcf] at q1
                  rw [HST.out i hil hcf] at H1
                  obtain ⟨iv, lv, hR⟩ := HR.out
                  obtain ⟨b, c, rfl, _, _, _, hcell⟩ := hR.form
                  have m0 := hR.at 0
                  obtain ⟨r1, r2⟩ := hcell i hil
                  have m0' : wr.cell? ⟨gr, 0, none⟩ = some (.slice (some ⟨b, 0, none⟩) 256 c) := m0
                  clear m0 hcell hR
                  generalize s.sec.getD i ⟨#[]⟩ = z at H1 r1
                  go_wp2_with (first
                    | (go_at_call 21; (with_reducible refine H1.out.mono ?_); rintro e w3 ⟨rfl, rfl⟩))
                  go_roundg gk
                  case measure => omega
                  case rel => exact ⟨i + 1, by rw [Int.natCast_add]; rfl, by omega, by omega, HD, HR, HCH, HB⟩
              · go_wp2_with (fail)
                go_ret
                exact ⟨rfl, HB.out⟩

/-- THE ONE PURE STATEMENT of cubbylaw03_DiskLasts: yours. -/
def cubbylaw03_DiskLasts.Pure : Prop := ∀ (l0 : List (S44)) (l1 : List (S44)) (a2 : Int), (l0.length ≤ maxLen ∧ l0.length * 40 ≤ 140737488351232 ∧ ∀ x ∈ l0, ((Lit.int .i64 x.f0).wf = true ∧ (Lit.int .i64 x.f1).wf = true ∧ x.f2.size ≤ 140737488351232 ∧ (Lit.int .u64 x.f3).wf = true)) → (l1.length ≤ maxLen ∧ l1.length * 40 ≤ 140737488351232 ∧ ∀ x ∈ l1, ((Lit.int .i64 x.f0).wf = true ∧ (Lit.int .i64 x.f1).wf = true ∧ x.f2.size ≤ 140737488351232 ∧ (Lit.int .u64 x.f3).wf = true)) → (Lit.int .u64 a2).wf = true → cubbylaw03_DiskLasts.f l0 l1 a2 = some true
theorem cubbylaw03_DiskLasts.walk (P : cubbylaw03_DiskLasts.Pure) (A0 : Option Addr) (c0 : Nat) (l0 : List (S44)) (A1 : Option Addr) (c1 : Nat) (l1 : List (S44)) (a2 : Int) (w : World) (hr0 : Kd.C k44 w A0 l0.length l0) (hc0 : l0.length ≤ c0) (hr1 : Kd.C k44 w A1 l1.length l1) (hc1 : l1.length ≤ c1) (o0 : (l0.length ≤ maxLen ∧ l0.length * 40 ≤ 140737488351232 ∧ ∀ x ∈ l0, ((Lit.int .i64 x.f0).wf = true ∧ (Lit.int .i64 x.f1).wf = true ∧ x.f2.size ≤ 140737488351232 ∧ (Lit.int .u64 x.f3).wf = true))) (o1 : (l1.length ≤ maxLen ∧ l1.length * 40 ≤ 140737488351232 ∧ ∀ x ∈ l1, ((Lit.int .i64 x.f0).wf = true ∧ (Lit.int .i64 x.f1).wf = true ∧ x.f2.size ≤ 140737488351232 ∧ (Lit.int .u64 x.f3).wf = true))) (o2 : (Lit.int .u64 a2).wf = true) :
    Calls Try.prog 6 #[.slice A0 l0.length c0, .slice A1 l1.length c1, .int .u64 a2] w fun e w' => e = .returned (.bool true) ∧ Below w.heap.size w w' := by
  have h := P l0 l1 a2 o0 o1 o2
  refine (cubbylaw03_DiskLasts.calls A0 c0 l0 A1 c1 l1 a2 true w hr0 hc0 hr1 hc1 h).mono ?_
  rintro e w' ⟨rfl, hd⟩
  exact ⟨rfl, hd⟩

end Go.Proofs.Ytbikejfjfliamaa.PDiskLasts
