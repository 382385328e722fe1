/- Plain laws of the disk's steps, for the laws of chapter 03; by hand. A library; conditions: none. -/
import Derived.Test.YtbikejfjfliamaaTw
set_option linter.unusedVariables false
set_option linter.unusedSimpArgs false
namespace Go.Proofs.Ytbikejfjfliamaa
open Go.RowKit Go.Proofs.YtbikejfjfliamaaW.PrintWords Go.Proofs.YtbikejfjfliamaaW.PrintLast Go.Proofs.YtbikejfjfliamaaW
theorem Pl.dn1 : Dk.dn 1 = 0 := by decide +kernel
theorem Pl.dn2 : Dk.dn 2 = 1 := by decide +kernel
theorem Pl.dn3 : Dk.dn 3 = 2 := by decide +kernel
theorem Pl.mx1 : mx 1 0 = 1 := by decide
theorem Pl.mx2 : mx 2 0 = 2 := by decide
theorem Pl.mx3 : mx 3 0 = 3 := by decide
/-- DiskFails: the calls' answers. -/
structure Pl.F (a b : ByteArray) (k e f g : Int) (x y : ByteArray) : Prop where
  e1 : (Dk.writ Dk.S0 5 a).2 = 0
  e3 : (Dk.writ (Dk.failS (Dk.writ Dk.S0 5 a).1 k) 5 b).2 = e
  e4 : (Dk.barr (Dk.writ (Dk.failS (Dk.writ Dk.S0 5 a).1 k) 5 b).1).2 = f
  e5 : (Dk.writ (Dk.barr (Dk.writ (Dk.failS (Dk.writ Dk.S0 5 a).1 k) 5 b).1).1 6 b).2 = g
  r5 : Dk.read (Dk.writ (Dk.barr (Dk.writ (Dk.failS (Dk.writ Dk.S0 5 a).1 k) 5 b).1).1 6 b).1 5 = (x, 0)
  r6 : Dk.read (Dk.writ (Dk.barr (Dk.writ (Dk.failS (Dk.writ Dk.S0 5 a).1 k) 5 b).1).1 6 b).1 6 = (y, 0)
  m : (Dk.writ (Dk.barr (Dk.writ (Dk.failS (Dk.writ Dk.S0 5 a).1 k) 5 b).1).1 6 b).1.many = 4
theorem Pl.rep (i : Nat) : (List.replicate 256 (⟨#[]⟩ : ByteArray)).getD i ⟨#[]⟩ = ⟨#[]⟩ := by
  rw [List.getD_eq_getElem?_getD, List.getElem?_replicate]
  split <;> rfl
theorem Pl.getset (l : List ByteArray) (i j : Nat) (x : ByteArray) (h : i < l.length) : (l.set i x).getD j ⟨#[]⟩ = if i = j then x else l.getD j ⟨#[]⟩ := by
  rw [List.getD_eq_getElem?_getD, List.getElem?_set, List.getD_eq_getElem?_getD]
  split
  · rename_i e
    subst e
    simp [h]
  · rfl
theorem Pl.w1 (a : ByteArray) (ha : a.size ≤ 128) : Dk.writ Dk.S0 5 a = (⟨(List.replicate 256 ⟨#[]⟩).set 5 a, [(5, ⟨#[]⟩)], false, 0, 0, 0, 1⟩, 0) := by
  have h : ¬ (128 < a.size) := by omega
  have e0 : (List.replicate 256 (⟨#[]⟩ : ByteArray)).getD 5 ⟨#[]⟩ = ⟨#[]⟩ := Pl.rep 5
  simp [Dk.writ, Dk.S0, h, Dk.tick, Dk.putS, Tw.dn0, e0, -List.reduceReplicate]
theorem Pl.fails (a b : ByteArray) (ha : a.size ≤ 128) (hb : b.size ≤ 128) : Pl.F a b 1 32 0 0 a b ∧ Pl.F a b 2 0 32 0 b b ∧ Pl.F a b 3 0 0 32 b ⟨#[]⟩ := by
  have h : ¬ (128 < b.size) := by omega
  refine ⟨?_, ?_, ?_⟩
  all_goals
    constructor <;> rw [Pl.w1 a ha]
    all_goals (try rfl)
    all_goals simp [Dk.writ, Dk.failS, h, Dk.tick, Dk.putS, Dk.barr, Dk.read, Tw.dn0, Pl.dn1, Pl.dn2, Pl.dn3, Pl.mx1, Pl.mx2, Pl.mx3, -List.reduceReplicate]
    all_goals (try (rw [List.getD_eq_getElem?_getD]; simp [List.getElem?_set, -List.reduceReplicate]))
/-- DiskCalls: behind i calls, the power going with call k. -/
structure Pl.C (k : Int) (i : Nat) (s : Dk.S) : Prop where
  inn : Dk.In s
  up : (i : Int) < k → s.off = false ∧ s.cut = k - i ∧ s.many = i ∧ s.fail = 0
  down : k ≤ (i : Int) → s.off = true ∧ s.many = k
theorem Pl.C.start (k keep : Int) (hk : 1 ≤ k ∧ k ≤ 20) (hp : 0 ≤ keep ∧ keep < 18446744073709551616) : Pl.C k 0 (Dk.cutS Dk.S0 k keep) := by
  refine ⟨Tw.cut_in _ Tw.S0_in k keep (by omega) hp, fun _ => ⟨rfl, ?_, rfl, rfl⟩, fun h => ?_⟩
  · show mx k 0 = k - 0
    unfold mx
    split <;> omega
  · omega
theorem Pl.C.refused {k : Int} {i : Nat} {s : Dk.S} (h : Pl.C k i s) (j : Int) (x : ByteArray) (hj : j < 0 ∨ 256 ≤ j) : Dk.writ s j x = (s, if k ≤ (i : Int) then 33 else 30) := by
  unfold Dk.writ
  by_cases hi : k ≤ (i : Int)
  · rw [if_pos (h.down hi).1, if_pos hi]
  · rw [if_neg (by rw [(h.up (by omega)).1]; decide), if_neg hi, if_pos hj]
theorem Pl.dn_lt (n : Int) (h : 0 < n ∧ n < 100) : Dk.dn n = n - 1 := by
  unfold Dk.dn
  rw [if_pos h.1, Hw.w64 _ (by omega) (by omega)]
theorem Pl.C.writ {k : Int} {i : Nat} {s : Dk.S} (h : Pl.C k i s) (hk : 1 ≤ k ∧ k ≤ 20) (hi : i < 256) (x : ByteArray) (hx : x.size ≤ 128) : (Dk.writ s i x).2 = (if k ≤ (i : Int) + 1 then 33 else 0) ∧ Pl.C k (i + 1) (Dk.writ s i x).1 ∧ (Dk.writ s i x).1.off = decide (k ≤ (i : Int) + 1) := by
  have hm : s.many ≤ 80000 := by
    by_cases c : k ≤ (i : Int)
    · rw [(h.down c).2]; omega
    · rw [(h.up (by omega)).2.2.1]; omega
  have hin := (Tw.writ_in s h.inn hm (i : Int) x).1
  by_cases c : k ≤ (i : Int)
  · obtain ⟨d1, d2⟩ := h.down c
    have e : Dk.writ s (i : Int) x = (s, 33) := by unfold Dk.writ; rw [if_pos d1]
    rw [e, if_pos (by omega), decide_eq_true (by omega)]
    exact ⟨rfl, ⟨h.inn, fun q => by omega, fun _ => ⟨d1, d2⟩⟩, d1⟩
  · obtain ⟨u1, u2, u3, u4⟩ := h.up (by omega)
    have hd : Dk.dn s.cut = s.cut - 1 := Pl.dn_lt _ (by omega)
    have n0 : ¬ s.off = true := by rw [u1]; decide
    have n1 : ¬ ((i : Int) < 0 ∨ 256 ≤ (i : Int)) := by omega
    have n2 : ¬ 128 < x.size := by omega
    have n3 : ¬ (s.fail = 1 ∧ s.cut ≠ 1) := by rw [u4]; rintro ⟨q, _⟩; cases q
    have pm : (Dk.putS (Dk.tick s) (i : Int) x).many = s.many + 1 ∧ (Dk.putS (Dk.tick s) (i : Int) x).off = s.off ∧ (Dk.putS (Dk.tick s) (i : Int) x).cut = Dk.dn s.cut ∧ (Dk.putS (Dk.tick s) (i : Int) x).fail = Dk.dn s.fail := by
      unfold Dk.putS
      split <;> exact ⟨rfl, rfl, rfl, rfl⟩
    by_cases c2 : k ≤ (i : Int) + 1
    · have e : Dk.writ s (i : Int) x = (Dk.dieS (Dk.putS (Dk.tick s) i x), 33) := by
        unfold Dk.writ
        rw [if_neg n0, if_neg n1, if_neg n2, if_neg n3, if_pos (by omega)]
      rw [e] at hin ⊢
      rw [if_pos c2, decide_eq_true c2]
      exact ⟨rfl, ⟨hin, fun q => by omega, fun _ => ⟨rfl, by show (Dk.putS (Dk.tick s) (i : Int) x).many = k; rw [pm.1, u3]; omega⟩⟩, rfl⟩
    · have e : Dk.writ s (i : Int) x = (Dk.putS (Dk.tick s) i x, 0) := by
        unfold Dk.writ
        rw [if_neg n0, if_neg n1, if_neg n2, if_neg n3, if_neg (by omega)]
      rw [e] at hin ⊢
      rw [if_neg c2, decide_eq_false c2]
      exact ⟨rfl, ⟨hin, fun _ => ⟨pm.2.1.trans u1, by rw [pm.2.2.1, hd]; omega, by rw [pm.1]; omega, by rw [pm.2.2.2, u4]; rfl⟩, fun q => by omega⟩, pm.2.1.trans u1⟩
theorem Pl.C.barr {k : Int} {i : Nat} {s : Dk.S} (h : Pl.C k i s) (hk : 1 ≤ k ∧ k ≤ 20) (hi : i < 256) : (Dk.barr s).2 = (if k ≤ (i : Int) + 1 then 33 else 0) ∧ Pl.C k (i + 1) (Dk.barr s).1 ∧ (Dk.barr s).1.off = decide (k ≤ (i : Int) + 1) := by
  have hm : s.many ≤ 80000 := by
    by_cases c : k ≤ (i : Int)
    · rw [(h.down c).2]; omega
    · rw [(h.up (by omega)).2.2.1]; omega
  have hin := (Tw.barr_in s h.inn hm).1
  by_cases c : k ≤ (i : Int)
  · obtain ⟨d1, d2⟩ := h.down c
    have e : Dk.barr s = (s, 33) := by unfold Dk.barr; rw [if_pos d1]
    rw [e, if_pos (by omega), decide_eq_true (by omega)]
    exact ⟨rfl, ⟨h.inn, fun q => by omega, fun _ => ⟨d1, d2⟩⟩, d1⟩
  · obtain ⟨u1, u2, u3, u4⟩ := h.up (by omega)
    have hd : Dk.dn s.cut = s.cut - 1 := Pl.dn_lt _ (by omega)
    have n0 : ¬ s.off = true := by rw [u1]; decide
    by_cases c2 : k ≤ (i : Int) + 1
    · have e : Dk.barr s = (Dk.dieS (Dk.tick s), 33) := by
        unfold Dk.barr
        rw [if_neg n0, if_pos (by omega)]
      rw [e] at hin ⊢
      rw [if_pos c2, decide_eq_true c2]
      exact ⟨rfl, ⟨hin, fun q => by omega, fun _ => ⟨rfl, by show s.many + 1 = k; omega⟩⟩, rfl⟩
    · have e : Dk.barr s = ({ Dk.tick s with l := [] }, 0) := by
        unfold Dk.barr
        rw [if_neg n0, if_neg (by omega), if_neg (by rw [u4]; decide)]
      rw [e] at hin ⊢
      rw [if_neg c2, decide_eq_false c2]
      exact ⟨rfl, ⟨hin, fun _ => ⟨u1, by show Dk.dn s.cut = _; rw [hd]; omega, by show s.many + 1 = _; omega, by show Dk.dn s.fail = 0; rw [u4]; rfl⟩, fun q => by omega⟩, u1⟩
end Go.Proofs.Ytbikejfjfliamaa
