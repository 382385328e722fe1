/- Plain laws of the disk's steps, for the laws of chapter 03; by hand. A library; conditions: none. -/
import Derived.Test.YtbikejfjfliamaaTw
set_option linter.unusedVariables false
namespace Go.Proofs.Ytbikejfjfliamaa
open Go.RowKit Go.Proofs.YtbikejfjfliamaaW.PrintWords Go.Proofs.YtbikejfjfliamaaW.PrintLast Go.Proofs.YtbikejfjfliamaaW
theorem Pl.dn1 : Dk.dn 1 = 0 := by decide +kernel
theorem Pl.dn2 : Dk.dn 2 = 1 := by decide +kernel
theorem Pl.dn3 : Dk.dn 3 = 2 := by decide +kernel
theorem Pl.mx1 : mx 1 0 = 1 := by decide
theorem Pl.mx2 : mx 2 0 = 2 := by decide
theorem Pl.mx3 : mx 3 0 = 3 := by decide
/-- DiskFails: the calls' answers. -/
structure Pl.F (a b : ByteArray) (k e f g : Int) (x y : ByteArray) : Prop where
  e1 : (Dk.writ Dk.S0 5 a).2 = 0
  e3 : (Dk.writ (Dk.failS (Dk.writ Dk.S0 5 a).1 k) 5 b).2 = e
  e4 : (Dk.barr (Dk.writ (Dk.failS (Dk.writ Dk.S0 5 a).1 k) 5 b).1).2 = f
  e5 : (Dk.writ (Dk.barr (Dk.writ (Dk.failS (Dk.writ Dk.S0 5 a).1 k) 5 b).1).1 6 b).2 = g
  r5 : Dk.read (Dk.writ (Dk.barr (Dk.writ (Dk.failS (Dk.writ Dk.S0 5 a).1 k) 5 b).1).1 6 b).1 5 = (x, 0)
  r6 : Dk.read (Dk.writ (Dk.barr (Dk.writ (Dk.failS (Dk.writ Dk.S0 5 a).1 k) 5 b).1).1 6 b).1 6 = (y, 0)
  m : (Dk.writ (Dk.barr (Dk.writ (Dk.failS (Dk.writ Dk.S0 5 a).1 k) 5 b).1).1 6 b).1.many = 4
theorem Pl.rep (i : Nat) : (List.replicate 256 (⟨#[]⟩ : ByteArray)).getD i ⟨#[]⟩ = ⟨#[]⟩ := by
  rw [List.getD_eq_getElem?_getD, List.getElem?_replicate]
  split <;> rfl
theorem Pl.getset (l : List ByteArray) (i j : Nat) (x : ByteArray) (h : i < l.length) : (l.set i x).getD j ⟨#[]⟩ = if i = j then x else l.getD j ⟨#[]⟩ := by
  rw [List.getD_eq_getElem?_getD, List.getElem?_set, List.getD_eq_getElem?_getD]
  split
  · rename_i e
    subst e
    simp [h]
  · rfl
theorem Pl.w1 (a : ByteArray) (ha : a.size ≤ 128) : Dk.writ Dk.S0 5 a = (⟨(List.replicate 256 ⟨#[]⟩).set 5 a, [(5, ⟨#[]⟩)], false, 0, 0, 0, 1⟩, 0) := by
  have h : ¬ (128 < a.size) := by omega
  have e0 : (List.replicate 256 (⟨#[]⟩ : ByteArray)).getD 5 ⟨#[]⟩ = ⟨#[]⟩ := Pl.rep 5
  simp [Dk.writ, Dk.S0, h, Dk.tick, Dk.putS, Tw.dn0, e0, -List.reduceReplicate]
theorem Pl.fails (a b : ByteArray) (ha : a.size ≤ 128) (hb : b.size ≤ 128) : Pl.F a b 1 32 0 0 a b ∧ Pl.F a b 2 0 32 0 b b ∧ Pl.F a b 3 0 0 32 b ⟨#[]⟩ := by
  have h : ¬ (128 < b.size) := by omega
  refine ⟨?_, ?_, ?_⟩
  all_goals
    constructor <;> rw [Pl.w1 a ha]
    all_goals (try rfl)
    all_goals simp [Dk.writ, Dk.failS, h, Dk.tick, Dk.putS, Dk.barr, Dk.read, Tw.dn0, Pl.dn1, Pl.dn2, Pl.dn3, Pl.mx1, Pl.mx2, Pl.mx3, -List.reduceReplicate]
    all_goals (try (rw [List.getD_eq_getElem?_getD]; simp [List.getElem?_set, -List.reduceReplicate]))
end Go.Proofs.Ytbikejfjfliamaa
