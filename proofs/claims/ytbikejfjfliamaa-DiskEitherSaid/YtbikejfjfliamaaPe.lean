/- Plain laws of the disk's steps, for DiskEither; by hand. A library; conditions: none. -/
import Derived.Test.YtbikejfjfliamaaPl
set_option linter.unusedVariables false
set_option linter.unusedSimpArgs false
namespace Go.Proofs.Ytbikejfjfliamaa
open Go.RowKit Go.Proofs.YtbikejfjfliamaaW.PrintWords Go.Proofs.YtbikejfjfliamaaW.PrintLast Go.Proofs.YtbikejfjfliamaaW
/-- The loose sectors of texts ts, the first one at sector 2 * i. -/
def Pe.E : List ByteArray → Nat → List (Int × ByteArray)
  | [], _ => []
  | t :: r, i => if t.size ≤ 128 then (((2 * i : Nat) : Int), ⟨#[]⟩) :: Pe.E r (i + 1) else Pe.E r (i + 1)
theorem Pe.E_key : ∀ (ts : List ByteArray) (i : Nat), ∀ p ∈ Pe.E ts i, ∃ j, i ≤ j ∧ p.1 = ((2 * j : Nat) : Int)
  | [], _, p, hp => absurd hp List.not_mem_nil
  | t :: r, i, p, hp => by
    rw [Pe.E] at hp
    split at hp
    · rcases List.mem_cons.1 hp with rfl | hp
      · exact ⟨i, Nat.le_refl _, rfl⟩
      · obtain ⟨j, h1, h2⟩ := Pe.E_key r (i + 1) p hp
        exact ⟨j, by omega, h2⟩
    · obtain ⟨j, h1, h2⟩ := Pe.E_key r (i + 1) p hp
      exact ⟨j, by omega, h2⟩
theorem Pe.die_other (keep : Int) (x : Nat) : ∀ (l : List (Int × ByteArray)) (k : Nat) (sec : List ByteArray), (∀ p ∈ l, p.1.toNat ≠ x) → (Dk.dieF keep l k sec).getD x ⟨#[]⟩ = sec.getD x ⟨#[]⟩
  | [], _, _, _ => rfl
  | p :: r, k, sec, h => by
    rw [Dk.dieF, Pe.die_other keep x r (k + 1) _ (fun q hq => h q (List.mem_cons_of_mem _ hq))]
    split
    · have hx := h p List.mem_cons_self
      rw [List.getD_eq_getElem?_getD, List.getElem?_set, if_neg hx, List.getD_eq_getElem?_getD]
    · rfl
/-- Ahead of the power's going: i texts were written. -/
structure Pe.A (ts : List ByteArray) (i : Nat) (s : Dk.S) : Prop where
  inn : Dk.In s
  many : s.many ≤ i
  off : s.off = false
  cut : s.cut = 0
  fail : s.fail = 0
  len : s.sec.length = 256
  l : s.l ++ Pe.E (ts.drop i) i = Pe.E ts 0
  k : ∀ p ∈ s.l, ∃ j, j < i ∧ p.1 = ((2 * j : Nat) : Int)
  lo : ∀ j, j < i → (ts.getD j ⟨#[]⟩).size ≤ 128 → s.sec.getD (2 * j) ⟨#[]⟩ = ts.getD j ⟨#[]⟩
  hi : ∀ j, i ≤ j → s.sec.getD (2 * j) ⟨#[]⟩ = ⟨#[]⟩
theorem Pe.A.start (ts : List ByteArray) : Pe.A ts 0 Dk.S0 :=
  ⟨Tw.S0_in, by decide, rfl, rfl, rfl, List.length_replicate, rfl, fun p hp => absurd hp List.not_mem_nil, fun j hj => absurd hj (Nat.not_lt_zero j), fun j _ => Pl.rep _⟩
theorem Pe.drop (ts : List ByteArray) (i : Nat) (h : i < ts.length) : ts.drop i = ts.getD i ⟨#[]⟩ :: ts.drop (i + 1) := by
  rw [List.drop_eq_getElem_cons h, List.getD_eq_getElem?_getD, List.getElem?_eq_getElem h]
  rfl
theorem Pe.A.step {ts : List ByteArray} {i : Nat} {s : Dk.S} (h : Pe.A ts i s) (hi : i < ts.length) (h100 : ts.length ≤ 100) :
    ((Dk.writ s ((2 * i : Nat) : Int) (ts.getD i ⟨#[]⟩)).2 = 0 ↔ (ts.getD i ⟨#[]⟩).size ≤ 128) ∧ Pe.A ts (i + 1) (Dk.writ s ((2 * i : Nat) : Int) (ts.getD i ⟨#[]⟩)).1 := by
  have hin := Tw.writ_in s h.inn (by have := h.many; omega) ((2 * i : Nat) : Int) (ts.getD i ⟨#[]⟩)
  have hd := Pe.drop ts i hi
  generalize hx : ts.getD i ⟨#[]⟩ = x at *
  have n0 : ¬ s.off = true := by rw [h.off]; decide
  have n1 : ¬ (((2 * i : Nat) : Int) < 0 ∨ 256 ≤ ((2 * i : Nat) : Int)) := by omega
  by_cases hs : x.size ≤ 128
  · have n2 : ¬ 128 < x.size := by omega
    have n3 : ¬ ((s.fail = 1) ∧ s.cut ≠ 1) := by rw [h.fail]; rintro ⟨q, _⟩; cases q
    have n4 : ¬ s.cut = 1 := by rw [h.cut]; decide
    have n5 : ¬ ((2 * i : Nat) : Int) ∈ (Dk.tick s).l.map Prod.fst := by
      intro q
      obtain ⟨p, hp, e⟩ := List.mem_map.1 q
      obtain ⟨j, hj, e2⟩ := h.k p hp
      omega
    have e : Dk.writ s ((2 * i : Nat) : Int) x = ({ Dk.tick s with l := s.l ++ [(((2 * i : Nat) : Int), s.sec.getD (2 * i) ⟨#[]⟩)], sec := s.sec.set (2 * i) x }, 0) := by
      unfold Dk.writ
      rw [if_neg n0, if_neg n1, if_neg n2, if_neg n3, if_neg n4]
      unfold Dk.putS
      rw [if_neg n5, Int.toNat_natCast]
      rfl
    rw [e] at hin ⊢
    refine ⟨⟨fun _ => hs, fun _ => rfl⟩, ⟨hin.1, ?_, h.off, ?_, ?_, ?_, ?_, ?_, ?_, ?_⟩⟩
    · have := h.many
      show s.many + 1 ≤ _
      omega
    · show Dk.dn s.cut = 0
      rw [h.cut]
      rfl
    · show Dk.dn s.fail = 0
      rw [h.fail]
      rfl
    · show (s.sec.set _ _).length = 256
      rw [List.length_set]
      exact h.len
    · show (s.l ++ [_]) ++ _ = _
      rw [← h.l, hd, Pe.E, if_pos hs, h.hi i (Nat.le_refl _), List.append_assoc]
      rfl
    · intro p hp
      rcases List.mem_append.1 hp with hp | hp
      · obtain ⟨j, h1, h2⟩ := h.k p hp
        exact ⟨j, by omega, h2⟩
      · rw [List.mem_singleton] at hp
        subst hp
        exact ⟨i, by omega, rfl⟩
    · intro j hj hsz
      show (s.sec.set (2 * i) x).getD (2 * j) ⟨#[]⟩ = _
      rw [Pl.getset _ _ _ _ (by rw [h.len]; omega)]
      by_cases e : i = j
      · subst e
        rw [if_pos rfl, hx]
      · rw [if_neg (by omega)]
        exact h.lo j (by omega) hsz
    · intro j hj
      show (s.sec.set (2 * i) x).getD (2 * j) ⟨#[]⟩ = _
      rw [Pl.getset _ _ _ _ (by rw [h.len]; omega), if_neg (by omega)]
      exact h.hi j (by omega)
  · have e : Dk.writ s ((2 * i : Nat) : Int) x = (s, 31) := by
      unfold Dk.writ
      rw [if_neg n0, if_neg n1, if_pos (by omega)]
    rw [e] at hin ⊢
    refine ⟨⟨fun q => absurd (show (31 : Int) = 0 from q) (by decide), fun q => absurd q hs⟩, ⟨h.inn, by have := h.many; omega, h.off, h.cut, h.fail, h.len, ?_, ?_, ?_, fun j hj => h.hi j (by omega)⟩⟩
    · rw [← h.l, hd, Pe.E, if_neg hs]
    · intro p hp
      obtain ⟨j, h1, h2⟩ := h.k p hp
      exact ⟨j, by omega, h2⟩
    · intro j hj hsz
      by_cases e : i = j
      · subst e
        rw [hx] at hsz
        exact absurd hsz hs
      · exact h.lo j (by omega) hsz
/-- Behind the power's coming back: texts i.. are still to be read, m of those ahead of them were written. -/
structure Pe.Z (keep : Int) (fin ts : List ByteArray) (i m : Nat) : Prop where
  h : ∃ sec, sec.length = 256 ∧ (∀ j, i ≤ j → j < ts.length → (ts.getD j ⟨#[]⟩).size ≤ 128 → sec.getD (2 * j) ⟨#[]⟩ = ts.getD j ⟨#[]⟩) ∧ (∀ j, i ≤ j → fin.getD (2 * j) ⟨#[]⟩ = (Dk.dieF keep (Pe.E (ts.drop i) i) m sec).getD (2 * j) ⟨#[]⟩)
theorem Pe.Z.step {keep : Int} {fin ts : List ByteArray} {i m : Nat} (h : Pe.Z keep fin ts i m) (hi : i < ts.length) (h100 : ts.length ≤ 100) :
    ((ts.getD i ⟨#[]⟩).size ≤ 128 → fin.getD (2 * i) ⟨#[]⟩ = (if Dk.lost keep m = true then ⟨#[]⟩ else ts.getD i ⟨#[]⟩) ∧ Pe.Z keep fin ts (i + 1) (m + 1)) ∧ (¬ (ts.getD i ⟨#[]⟩).size ≤ 128 → Pe.Z keep fin ts (i + 1) m) := by
  obtain ⟨sec, h1, h2, h3⟩ := h.h
  rw [Pe.drop ts i hi] at h3
  constructor
  · intro hs
    rw [Pe.E, if_pos hs] at h3
    have hn : ∀ p ∈ Pe.E (ts.drop (i + 1)) (i + 1), p.1.toNat ≠ 2 * i := by
      intro p hp
      obtain ⟨j, q1, q2⟩ := Pe.E_key _ _ p hp
      omega
    refine ⟨?_, ⟨⟨if Dk.lost keep m = true then sec.set (2 * i) ⟨#[]⟩ else sec, ?_, ?_, ?_⟩⟩⟩
    · rw [h3 i (Nat.le_refl _), Dk.dieF, Pe.die_other keep _ _ _ _ hn, Int.toNat_natCast]
      split
      · rw [Pl.getset _ _ _ _ (by rw [h1]; omega), if_pos rfl]
      · exact h2 i (Nat.le_refl _) hi hs
    · split
      · rw [List.length_set]
        exact h1
      · exact h1
    · intro j hj hl hz
      split
      · rw [Pl.getset _ _ _ _ (by rw [h1]; omega), if_neg (by omega)]
        exact h2 j (by omega) hl hz
      · exact h2 j (by omega) hl hz
    · intro j hj
      rw [h3 j (by omega), Dk.dieF, Int.toNat_natCast]
  · intro hs
    rw [Pe.E, if_neg hs] at h3
    exact ⟨⟨sec, h1, fun j hj => h2 j (by omega), fun j hj => h3 j (by omega)⟩⟩
/-- The power goes with the barrier, and comes back. -/
def Pe.fin (s : Dk.S) (keep : Int) : Dk.S := Dk.powS (Dk.barr (Dk.cutS s 1 keep)).1
theorem Pe.A.goes {ts : List ByteArray} {s : Dk.S} (h : Pe.A ts ts.length s) (h100 : ts.length ≤ 100) (keep : Int) (hk : 0 ≤ keep ∧ keep < 18446744073709551616) :
    (Dk.barr (Dk.cutS s 1 keep)).2 = 33 ∧ Dk.In (Dk.cutS s 1 keep) ∧ Dk.In (Pe.fin s keep) ∧ Pe.Z keep (Pe.fin s keep).sec ts 0 0 ∧ (Pe.fin s keep).off = false ∧ (Dk.barr (Pe.fin s keep)).2 = 0 := by
  have hm : (Dk.cutS s 1 keep).many ≤ 80000 := by
    have := h.many
    show s.many ≤ _
    omega
  have hc := Tw.cut_in s h.inn 1 keep (by decide) hk
  have hb := (Tw.barr_in _ hc hm).1
  have e1 : (Dk.cutS s 1 keep).cut = 1 := rfl
  have e0 : ¬ (Dk.cutS s 1 keep).off = true := by
    show ¬ s.off = true
    rw [h.off]
    decide
  have eb : Dk.barr (Dk.cutS s 1 keep) = (Dk.dieS (Dk.tick (Dk.cutS s 1 keep)), 33) := by
    unfold Dk.barr
    rw [if_neg e0, if_pos e1]
  have ef : Pe.fin s keep = { Dk.dieS (Dk.tick (Dk.cutS s 1 keep)) with off := false, cut := 0, fail := 0 } := by
    unfold Pe.fin
    rw [eb]
    rfl
  have hf : Dk.In (Pe.fin s keep) := Tw.pow_in _ hb
  refine ⟨by rw [eb], hc, hf, ?_, by rw [ef], ?_⟩
  · rw [ef]
    have hl := h.l
    rw [List.drop_length, Pe.E, List.append_nil] at hl
    refine ⟨⟨s.sec, h.len, fun j _ hj hz => h.lo j hj hz, fun j _ => ?_⟩⟩
    show (Dk.dieF keep s.l 0 s.sec).getD _ _ = _
    rw [hl]
    rfl
  · rw [ef]
    rfl
end Go.Proofs.Ytbikejfjfliamaa
