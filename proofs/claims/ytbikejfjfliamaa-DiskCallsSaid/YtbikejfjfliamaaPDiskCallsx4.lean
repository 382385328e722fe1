-- By a program of this session (wip/tools/mkprint.py), for this claim.
import Derived.Test.YtbikejfjfliamaaPDiskCallsx0
import Derived.Test.YtbikejfjfliamaaPDiskCallsx1
import Derived.Test.YtbikejfjfliamaaPDiskCallsx2
import Derived.Test.YtbikejfjfliamaaPDiskCallsx3
namespace Go.Proofs.Ytbikejfjfliamaa.PDiskCalls
open Go.RowKit Go.Proofs.YtbikejfjfliamaaW.PrintWords Go.Proofs.YtbikejfjfliamaaW.PrintLast Go.Proofs.YtbikejfjfliamaaW.PrintMore
attribute [local go_sem] max2_int min2_int max_two min_two max_three min_three max_four min_four   -- for this text's walks alone
set_option linter.unusedVariables false
set_option linter.unusedSimpArgs false

/-! ### cubbylaw03_DiskCalls: function 3 (by hand) -/
theorem cubbylaw03_DiskCalls.dNew (w : World) (base : Nat) (hb : base ≤ w.heap.size) : Calls Try.prog 9 #[] w fun e w' => ∃ g, e = .returned (.pointer (some ⟨g, 0, none⟩)) ∧ Tw.D w' base g 0 Dk.S0 ∧ Below w.heap.size w w' := by
  refine (disk_New.calls w base hb).mono ?_
  rintro e w' ⟨g, mb, he, hd, hb⟩
  exact ⟨g, he, ⟨mb, 0, _, Nat.le_refl _, hd⟩, hb⟩
theorem cubbylaw03_DiskCalls.dWrite (s : Dk.S) (base g n : Nat) (i : Int) (x : ByteArray) (w : World) (h : Tw.D w base g n s) (hin : Dk.In s) (hn : n ≤ 1000000) :
    Calls Try.prog 13 #[.pointer (some ⟨g, 0, none⟩), .int .i64 i, .string x] w fun e w' => e = .returned (.int .i64 (Dk.writ s i x).2) ∧ Tw.D w' base g (n + 1) ((Dk.writ s i x).1) ∧ Dk.B base w w' := by
  obtain ⟨mb, n', ov, hn', h⟩ := h
  refine (disk_Disk_Write.calls s base g mb n' ov i x w h hin (by omega)).mono ?_
  rintro e w' ⟨he, ⟨ov', n2, h2, hd⟩, hb⟩
  exact ⟨he, ⟨mb, n2, ov', by omega, hd⟩, hb⟩
theorem cubbylaw03_DiskCalls.dCut (s : Dk.S) (base g n : Nat) (i k : Int) (w : World) (h : Tw.D w base g n s) :
    Calls Try.prog 11 #[.pointer (some ⟨g, 0, none⟩), .int .i64 i, .int .u64 k] w fun e w' => e = .returned (.tuple #[]) ∧ Tw.D w' base g (n + 0) (Dk.cutS s i k) ∧ Dk.B base w w' := by
  obtain ⟨mb, n', ov, hn', h⟩ := h
  refine (disk_Disk_Cut.calls s base g mb n' ov i k w h).mono ?_
  rintro e w' ⟨he, hd, hb⟩
  exact ⟨he, ⟨mb, n', ov, by omega, hd⟩, hb⟩
theorem cubbylaw03_DiskCalls.dBarrier (s : Dk.S) (base g n : Nat) (w : World) (h : Tw.D w base g n s) (hin : Dk.In s) :
    Calls Try.prog 15 #[.pointer (some ⟨g, 0, none⟩)] w fun e w' => e = .returned (.int .i64 (Dk.barr s).2) ∧ Tw.D w' base g (n + 0) ((Dk.barr s).1) ∧ Dk.B base w w' := by
  obtain ⟨mb, n', ov, hn', h⟩ := h
  refine (disk_Disk_Barrier.calls s base g mb n' ov w h hin).mono ?_
  rintro e w' ⟨he, ⟨ov', hd⟩, hb⟩
  exact ⟨he, ⟨mb, n', ov', by omega, hd⟩, hb⟩
theorem cubbylaw03_DiskCalls.dDead (s : Dk.S) (base g n : Nat) (w : World) (h : Tw.D w base g n s) :
    Calls Try.prog 17 #[.pointer (some ⟨g, 0, none⟩)] w fun e w' => e = .returned (.bool s.off) ∧ w' = w := by
  obtain ⟨mb, n', ov, hn', h⟩ := h
  exact disk_Disk_Dead.calls s base g mb n' ov w h
theorem cubbylaw03_DiskCalls.dCalls (s : Dk.S) (base g n : Nat) (w : World) (h : Tw.D w base g n s) :
    Calls Try.prog 18 #[.pointer (some ⟨g, 0, none⟩)] w fun e w' => e = .returned (.int .i64 s.many) ∧ w' = w := by
  obtain ⟨mb, n', ov, hn', h⟩ := h
  exact disk_Disk_Calls.calls s base g mb n' ov w h
theorem cubbylaw03_DiskCalls.rNew (w : World) (base : Nat) (hb : base ≤ w.heap.size) : Calls Try.prog 10 #[] w fun e w' => ∃ g, e = .returned (.pointer (some ⟨g, 0, none⟩)) ∧ Tw.R w' base g Dk.S0 ∧ Below w.heap.size w w' := by
  refine (cubbyref03_New.calls w base hb).mono ?_
  rintro e w' ⟨g, iv, he, hd, hb⟩
  exact ⟨g, he, ⟨iv, _, hd⟩, hb⟩
theorem cubbylaw03_DiskCalls.rWrite (s : Dk.S) (base g : Nat) (i : Int) (x : ByteArray) (w : World) (h : Tw.R w base g s) (hin : Dk.In s) :
    Calls Try.prog 14 #[.pointer (some ⟨g, 0, none⟩), .int .i64 i, .string x] w fun e w' => e = .returned (.int .i64 (Dk.writ s i x).2) ∧ Tw.R w' base g ((Dk.writ s i x).1) ∧ Rf.B base w w' := by
  obtain ⟨iv, lv, h⟩ := h
  refine (cubbyref03_Disk_Write.calls s base g iv lv i x w h hin).mono ?_
  rintro e w' ⟨he, ⟨lv', hd⟩, hb⟩
  exact ⟨he, ⟨iv, lv', hd⟩, hb⟩
theorem cubbylaw03_DiskCalls.rCut (s : Dk.S) (base g : Nat) (i k : Int) (w : World) (h : Tw.R w base g s) :
    Calls Try.prog 12 #[.pointer (some ⟨g, 0, none⟩), .int .i64 i, .int .u64 k] w fun e w' => e = .returned (.tuple #[]) ∧ Tw.R w' base g (Dk.cutS s i k) ∧ Rf.B base w w' := by
  obtain ⟨iv, lv, h⟩ := h
  refine (cubbyref03_Disk_Cut.calls s base g iv lv i k w h).mono ?_
  rintro e w' ⟨he, hd, hb⟩
  exact ⟨he, ⟨iv, lv, hd⟩, hb⟩
theorem cubbylaw03_DiskCalls.rBarrier (s : Dk.S) (base g : Nat) (w : World) (h : Tw.R w base g s) (hin : Dk.In s) :
    Calls Try.prog 16 #[.pointer (some ⟨g, 0, none⟩)] w fun e w' => e = .returned (.int .i64 (Dk.barr s).2) ∧ Tw.R w' base g ((Dk.barr s).1) ∧ Rf.B base w w' := by
  obtain ⟨iv, lv, h⟩ := h
  refine (cubbyref03_Disk_Barrier.calls s base g iv lv w h hin).mono ?_
  rintro e w' ⟨he, ⟨lv', hd⟩, hb⟩
  exact ⟨he, ⟨iv, lv', hd⟩, hb⟩
theorem cubbylaw03_DiskCalls.rCalls (s : Dk.S) (base g : Nat) (w : World) (h : Tw.R w base g s) :
    Calls Try.prog 19 #[.pointer (some ⟨g, 0, none⟩)] w fun e w' => e = .returned (.int .i64 s.many) ∧ w' = w := by
  obtain ⟨iv, lv, h⟩ := h
  exact cubbyref03_Disk_Calls.calls s base g iv lv w h
def cubbylaw03_DiskCalls.Fit (n b k : Int) : Prop := (0 ≤ n ∧ n < 256) ∧ (0 ≤ b ∧ b < 256) ∧ (0 ≤ k ∧ k < 18446744073709551616)
instance (n b k : Int) : Decidable (cubbylaw03_DiskCalls.Fit n b k) := by unfold cubbylaw03_DiskCalls.Fit; infer_instance
def cubbylaw03_DiskCalls.f (l0 l1 l2 : Int) : Option Bool := if cubbylaw03_DiskCalls.Fit l0 l1 l2 then some true else none
set_option maxHeartbeats 16000000 in
set_option maxRecDepth 100000 in
theorem cubbylaw03_DiskCalls.calls (l0 l1 l2 : Int) (r : Bool) (w : World) (h : cubbylaw03_DiskCalls.f l0 l1 l2 = some r) :
    Calls Try.prog 3 #[.int .u8 l0, .int .u8 l1, .int .u64 l2] w fun e w' => e = .returned (.bool r) ∧ Below w.heap.size w w' := by
  unfold cubbylaw03_DiskCalls.f at h
  by_cases hl : cubbylaw03_DiskCalls.Fit l0 l1 l2
  case neg => rw [if_neg hl] at h; cases h
  rw [if_pos hl] at h
  obtain rfl := Option.some.inj h
  unfold cubbylaw03_DiskCalls.Fit at hl
  clear h
  obtain ⟨hn, hb, hk2⟩ := hl
  have wn : wrap64 l0 = l0 := Hw.w64 _ (by omega) (by omega)
  have wb : wrap64 l1 = l1 := Hw.w64 _ (by omega) (by omega)
  obtain ⟨k, hk⟩ : ∃ k, 1 + l0 % 20 = k := ⟨_, rfl⟩
  have hkr : 1 ≤ k ∧ k ≤ 20 := by omega
  go_enter Try.func3, Try.ntmps3
  go_wp2_with (first
    | (go_at_call 9; (with_reducible refine (cubbylaw03_DiskCalls.dNew _ w.heap.size (Nat.le_refl _)).mono ?_); rintro e w2 ⟨gd, rfl, hd2, hb2⟩; have HD := Aside0.mk hd2; have HB := Aside0.mk hb2; clear hd2 hb2)
    | (go_at_call 10; (with_reducible refine (cubbylaw03_DiskCalls.rNew _ w.heap.size HB.out.size).mono ?_); rintro e w3 ⟨gr, rfl, hr3, hb3⟩; have HD := Aside0.mk (HD.out.below hb3); have HR := Aside0.mk hr3; have HB := Aside0.mk (HB.out.trans (hb3.mono HB.out.size)); clear hr3 hb3))
  go_wp2_with (first
    | (go_at_call 11; (with_reducible refine (cubbylaw03_DiskCalls.dCut Dk.S0 w.heap.size gd 0 k l2 _ HD.out).mono ?_); rintro e w3 ⟨rfl, hd3, hb3⟩; have HD := Aside0.mk hd3; have HR := Aside0.mk (HR.out.dk hb3); have HB := Aside0.mk (HB.out.trans hb3.b); clear hd3 hb3)
    | (go_at_call 12; (with_reducible refine (cubbylaw03_DiskCalls.rCut Dk.S0 w.heap.size gr k l2 _ HR.out).mono ?_); rintro e w4 ⟨rfl, hr4, hb4⟩; have HD := Aside0.mk (HD.out.rf hb4); have HR := Aside0.mk hr4; have HB := Aside0.mk (HB.out.trans hb4.b); clear hr4 hb4))
  have HC := Aside0.mk (Pl.C.start k l2 hkr hk2)
  generalize Dk.cutS Dk.S0 k l2 = S1 at HD HR HC
  go_loopg [10] 30 (fun gg v10 wq => ∃ (i : Nat) (s : Dk.S), v10 = .int .i64 (i : Int) ∧ i ≤ 30 ∧ 30 - i ≤ gg ∧ Aside0 (Tw.D wq w.heap.size gd (3 * i) s) ∧ Aside0 (Tw.R wq w.heap.size gr s) ∧ Aside0 (Pl.C k i s) ∧ Aside0 (Below w.heap.size w wq))
  case atStart => exact ⟨0, S1, rfl, Nat.zero_le _, by omega, HD, HR, HC, HB⟩
  case round =>
    clear HD HR HC HB
    obtain ⟨i, s, rfl, hi, hgg, HD, HR, HC, HB⟩ := hrel
    by_cases hil : i < 30
    · obtain ⟨gk, rfl⟩ : ∃ q, gk = q + 1 := by
        cases gk with
        | zero => omega
        | succ q => exact ⟨q, rfl⟩
      have hin := HC.out.inn
      have HIN := Aside0.mk hin
      have R1 := HC.out.refused (-1) ⟨#[120]⟩ (.inl (by decide))
      have R2 := HC.out.refused 256 ⟨#[120]⟩ (.inr (by decide))
      have W1 := HC.out.writ hkr (by omega) ⟨#[120]⟩ (by decide)
      have W2 := HC.out.barr hkr (by omega)
      obtain ⟨cc, hcc⟩ : ∃ q : Int, (if k ≤ (i : Int) then 33 else 30) = q := ⟨_, rfl⟩
      rw [hcc] at R1 R2
      have HA1 : Aside0 (∀ m W, Tw.D W w.heap.size gd m s → m ≤ 1000 → Calls Try.prog 13 #[.pointer (some ⟨gd, 0, none⟩), .int .i64 (-1), .string ⟨#[120]⟩] W fun e w' => e = .returned (.int .i64 cc) ∧ Tw.D w' w.heap.size gd (m + 1) s ∧ Dk.B w.heap.size W w') := ⟨fun m W h hm => by
        have e := cubbylaw03_DiskCalls.dWrite s w.heap.size gd m (-1) ⟨#[120]⟩ W h hin (by omega)
        rw [R1] at e
        exact e⟩
      have HA2 : Aside0 (∀ m W, Tw.D W w.heap.size gd m s → m ≤ 1000 → Calls Try.prog 13 #[.pointer (some ⟨gd, 0, none⟩), .int .i64 256, .string ⟨#[120]⟩] W fun e w' => e = .returned (.int .i64 cc) ∧ Tw.D w' w.heap.size gd (m + 1) s ∧ Dk.B w.heap.size W w') := ⟨fun m W h hm => by
        have e := cubbylaw03_DiskCalls.dWrite s w.heap.size gd m 256 ⟨#[120]⟩ W h hin (by omega)
        rw [R2] at e
        exact e⟩
      have HB1 : Aside0 (∀ W, Tw.R W w.heap.size gr s → Calls Try.prog 14 #[.pointer (some ⟨gr, 0, none⟩), .int .i64 (-1), .string ⟨#[120]⟩] W fun e w' => e = .returned (.int .i64 cc) ∧ Tw.R w' w.heap.size gr s ∧ Rf.B w.heap.size W w') := ⟨fun W h => by
        have e := cubbylaw03_DiskCalls.rWrite s w.heap.size gr (-1) ⟨#[120]⟩ W h hin
        rw [R1] at e
        exact e⟩
      have HB2 : Aside0 (∀ W, Tw.R W w.heap.size gr s → Calls Try.prog 14 #[.pointer (some ⟨gr, 0, none⟩), .int .i64 256, .string ⟨#[120]⟩] W fun e w' => e = .returned (.int .i64 cc) ∧ Tw.R w' w.heap.size gr s ∧ Rf.B w.heap.size W w') := ⟨fun W h => by
        have e := cubbylaw03_DiskCalls.rWrite s w.heap.size gr 256 ⟨#[120]⟩ W h hin
        rw [R2] at e
        exact e⟩
      have HWD := Aside0.mk (fun m W h (hm : m ≤ 1000) => cubbylaw03_DiskCalls.dWrite s w.heap.size gd m i ⟨#[120]⟩ W h hin (by omega))
      have HWR := Aside0.mk (fun W h => cubbylaw03_DiskCalls.rWrite s w.heap.size gr i ⟨#[120]⟩ W h hin)
      have HVD := Aside0.mk (fun m W h => cubbylaw03_DiskCalls.dBarrier s w.heap.size gd m W h hin)
      have HVR := Aside0.mk (fun W h => cubbylaw03_DiskCalls.rBarrier s w.heap.size gr W h hin)
      have HED := Aside0.mk (fun m W h => cubbylaw03_DiskCalls.dDead (Dk.writ s i ⟨#[120]⟩).1 w.heap.size gd m W h)
      have HEB := Aside0.mk (fun m W h => cubbylaw03_DiskCalls.dDead (Dk.barr s).1 w.heap.size gd m W h)
      obtain ⟨w1, HCW, w3⟩ := W1
      obtain ⟨v1, HCV, v3⟩ := W2
      have HCW := Aside0.mk HCW
      have HCV := Aside0.mk HCV
      rw [w3] at HED
      rw [v3] at HEB
      rw [w1] at HWD HWR
      rw [v1] at HVD HVR
      generalize (Dk.writ s i ⟨#[120]⟩).1 = S2 at HWD HWR HED HCW
      generalize (Dk.barr s).1 = S3 at HVD HVR HEB HCV
      clear w1 w3 v1 v3 R1 R2 hcc hin HIN HC
      have hev : (i : Int) % 2 = 0 ∨ ¬ (i : Int) % 2 = 0 := Classical.em _
      have hth : (i : Int) % 3 = l1 % 3 ∨ ¬ (i : Int) % 3 = l1 % 3 := Classical.em _
      have hdn : k ≤ (i : Int) + 1 ∨ ¬ k ≤ (i : Int) + 1 := Classical.em _
      rcases hdn with hdn | hdn
      all_goals
        first
          | (rw [if_pos hdn] at HWD HWR HVD HVR; rw [decide_eq_true hdn] at HED HEB)
          | (rw [if_neg hdn] at HWD HWR HVD HVR; rw [decide_eq_false hdn] at HED HEB)
        rcases hev with hev | hev
        all_goals
          rcases hth with hth | hth
          all_goals
            go_wp2_with (first
              | (go_at_call 13
                 with_reducible (first | refine (HA1.out _ _ HD.out (by omega)).mono ?_ | refine (HA2.out _ _ HD.out (by omega)).mono ?_ | refine (HWD.out _ _ HD.out (by omega)).mono ?_)
                 rintro e w3 ⟨rfl, hd3, hb3⟩
                 have HD := Aside0.mk hd3
                 have HR := Aside0.mk (HR.out.dk hb3)
                 have HB := Aside0.mk (HB.out.trans hb3.b)
                 clear hd3 hb3)
              | (go_at_call 14
                 with_reducible (first | refine (HB1.out _ HR.out).mono ?_ | refine (HB2.out _ HR.out).mono ?_ | refine (HWR.out _ HR.out).mono ?_)
                 rintro e w4 ⟨rfl, hr4, hb4⟩
                 have HR := Aside0.mk hr4
                 have HD := Aside0.mk (HD.out.rf hb4)
                 have HB := Aside0.mk (HB.out.trans hb4.b)
                 clear hr4 hb4)
              | (go_at_call 15
                 with_reducible refine (HVD.out _ _ HD.out).mono ?_
                 rintro e w3 ⟨rfl, hd3, hb3⟩
                 have HD := Aside0.mk hd3
                 have HR := Aside0.mk (HR.out.dk hb3)
                 have HB := Aside0.mk (HB.out.trans hb3.b)
                 clear hd3 hb3)
              | (go_at_call 16
                 with_reducible refine (HVR.out _ HR.out).mono ?_
                 rintro e w4 ⟨rfl, hr4, hb4⟩
                 have HR := Aside0.mk hr4
                 have HD := Aside0.mk (HD.out.rf hb4)
                 have HB := Aside0.mk (HB.out.trans hb4.b)
                 clear hr4 hb4)
              | (go_at_call 17
                 with_reducible (first | refine (HED.out _ _ HD.out).mono ?_ | refine (HEB.out _ _ HD.out).mono ?_)
                 rintro e w5 ⟨rfl, rfl⟩))
            go_roundg gk
            case measure => omega
            case rel =>
              obtain ⟨mb, n', ov, q1, q2⟩ := HD.out
              first
                | exact ⟨i + 1, S2, by rw [Int.natCast_add]; rfl, by omega, by omega, ⟨⟨mb, n', ov, by omega, q2⟩⟩, HR, HCW, HB⟩
                | exact ⟨i + 1, S3, by rw [Int.natCast_add]; rfl, by omega, by omega, ⟨⟨mb, n', ov, by omega, q2⟩⟩, HR, HCV, HB⟩
    · have hm := (HC.out.down (by omega)).2
      have H1 := Aside0.mk (fun m W h => cubbylaw03_DiskCalls.dCalls s w.heap.size gd m W h)
      have H2 := Aside0.mk (fun W h => cubbylaw03_DiskCalls.rCalls s w.heap.size gr W h)
      rw [hm] at H1 H2
      go_wp2_with (first
        | (go_at_call 18; (with_reducible refine (H1.out _ _ HD.out).mono ?_); rintro e w5 ⟨rfl, rfl⟩)
        | (go_at_call 19; (with_reducible refine (H2.out _ HR.out).mono ?_); rintro e w5 ⟨rfl, rfl⟩))
      go_ret
      exact ⟨by first | rfl | simp, HB.out⟩

/-- THE ONE PURE STATEMENT of cubbylaw03_DiskCalls: yours. -/
def cubbylaw03_DiskCalls.Pure : Prop := ∀ (a0 : Int) (a1 : Int) (a2 : Int), (Lit.int .u8 a0).wf = true → (Lit.int .u8 a1).wf = true → (Lit.int .u64 a2).wf = true → cubbylaw03_DiskCalls.f a0 a1 a2 = some true
theorem cubbylaw03_DiskCalls.walk (P : cubbylaw03_DiskCalls.Pure) (a0 : Int) (a1 : Int) (a2 : Int) (w : World) (o0 : (Lit.int .u8 a0).wf = true) (o1 : (Lit.int .u8 a1).wf = true) (o2 : (Lit.int .u64 a2).wf = true) :
    Calls Try.prog 3 #[.int .u8 a0, .int .u8 a1, .int .u64 a2] w fun e w' => e = .returned (.bool true) ∧ Below w.heap.size w w' := by
  have h := P a0 a1 a2 o0 o1 o2
  refine (cubbylaw03_DiskCalls.calls a0 a1 a2 true w h).mono ?_
  rintro e w' ⟨rfl, hd⟩
  exact ⟨rfl, hd⟩

end Go.Proofs.Ytbikejfjfliamaa.PDiskCalls
