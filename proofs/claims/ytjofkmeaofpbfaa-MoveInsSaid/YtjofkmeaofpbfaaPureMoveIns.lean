/- The pure law behind MoveIns: for every input that its bounds let in, the law's function answers true. Conditions: none. -/
import Derived.Test.YtjofkmeaofpbfaaPMoveInsx3
set_option linter.unusedVariables false
namespace Go.Proofs.Ytjofkmeaofpbfaa.Pure
open Go.RowKit Go.Proofs.Ytjofkmeaofpbfaa.PMoveIns Go.Proofs.YtjofkmeaofpbfaaW.PrintWords Go.Proofs.YtjofkmeaofpbfaaW.PrintLast

theorem wrap64_in (n : Int) (h : 0 ≤ n) (h2 : n < 9223372036854775808) : wrap64 n = n := by unfold wrap64; omega
/-- A move's instructions. -/
def insOf (m : S31) : List S28 :=
  if m.f0 ≥ 0 ∧ m.f1 ≥ 0 then [(⟨2, m.f0, m.f1, 0, (⟨#[]⟩ : ByteArray), ([] : List Int)⟩ : S28)]
  else if m.f0 ≥ 0 then [(⟨21, m.f0, wrap64 ((-1) - m.f1), 0, (⟨#[]⟩ : ByteArray), ([] : List Int)⟩ : S28)]
  else if m.f1 ≥ 0 then [(⟨22, wrap64 ((-1) - m.f0), m.f1, 0, (⟨#[]⟩ : ByteArray), ([] : List Int)⟩ : S28)] else []
theorem insOf_len (m : S31) : (insOf m).length ≤ 1 := by unfold insOf; repeat' split
                                                         all_goals simp
theorem rd31 (l : List S31) (i : Nat) (h : i < l.length) : rd_T31 l (i : Int) = l[i] := by
  unfold rd_T31
  simp [List.getD_eq_getElem?_getD, h]
theorem mi_l0 (l : List S31) (hl : l.length ≤ 200) (d : Nat) : ∀ (k i : Nat) (acc : List S28), i + d = l.length → 2 * d < k → acc.length ≤ i → move_Ins.l0 k acc l (l.length : Int) (i : Int) = some (acc ++ (l.drop i).flatMap insOf) := by
  induction d with
  | zero =>
    intro k i acc hi hk _
    obtain ⟨k, rfl⟩ : ∃ m, k = m + 1 := ⟨k - 1, by omega⟩
    simp only [move_Ins.l0]
    rw [if_neg (by omega), List.drop_eq_nil_of_le (by omega)]; simp
  | succ d ih =>
    intro k i acc hi hk ha
    obtain ⟨k, rfl⟩ : ∃ m, k = m + 2 := ⟨k - 2, by omega⟩
    have hlt : i < l.length := by omega
    have hd : l.drop i = l[i] :: l.drop (i + 1) := List.drop_eq_getElem_cons hlt
    have step : ∀ acc' : List S28, acc' = acc ++ insOf l[i] → move_Ins.l0 k acc' l (l.length : Int) (wrap64 ((i : Int) + 1)) = some (acc ++ (l.drop i).flatMap insOf) := by
      intro acc' e
      subst e
      have := insOf_len l[i]
      rw [wrap64_in _ (by omega) (by omega), show (i : Int) + 1 = ((i + 1 : Nat) : Int) by omega, ih k (i + 1) _ (by omega) (by omega) (by rw [List.length_append]; omega), hd, List.flatMap_cons, List.append_assoc]
    show move_Ins.l0 ((k + 1) + 1) acc l (l.length : Int) (i : Int) = _
    simp only [move_Ins.l0]
    rw [if_pos (by omega), if_pos (by omega), if_pos (by omega), rd31 l i hlt]
    generalize hm : l[i] = m at step
    by_cases h0 : m.f0 ≥ 0
    · rw [if_pos h0]
      simp only [move_Ins.j1]
      by_cases h1 : m.f1 ≥ 0
      · rw [if_pos (by simpa using h1), if_pos (by omega)]
        exact step _ (by rw [insOf, if_pos ⟨h0, h1⟩])
      · rw [if_neg (by simpa using h1), if_pos h0, if_pos (by omega)]
        exact step _ (by rw [insOf, if_neg (fun h => h1 h.2), if_pos h0])
    · rw [if_neg h0]
      simp only [move_Ins.j1]
      rw [if_neg (by simp), if_neg h0]
      by_cases h1 : m.f1 ≥ 0
      · rw [if_pos h1, if_pos (by omega)]
        exact step _ (by rw [insOf, if_neg (fun h => h0 h.1), if_neg h0, if_pos h1])
      · rw [if_neg h1]
        exact step _ (by rw [insOf, if_neg (fun h => h0 h.1), if_neg h0, if_neg h1]; simp)
theorem ri_l0 (l : List S31) (hl : l.length ≤ 200) (d : Nat) : ∀ (k i : Nat) (acc : List S28), i + d = l.length → 4 * d < k → acc.length ≤ i → cubbyref15_Ins.l0 k l acc (i : Int) = some (acc ++ (l.drop i).flatMap insOf) := by
  induction d with
  | zero =>
    intro k i acc hi hk _
    obtain ⟨k, rfl⟩ : ∃ m, k = m + 1 := ⟨k - 1, by omega⟩
    simp only [cubbyref15_Ins.l0]
    rw [if_neg (by omega), List.drop_eq_nil_of_le (by omega)]; simp
  | succ d ih =>
    intro k i acc hi hk ha
    obtain ⟨k, rfl⟩ : ∃ m, k = m + 4 := ⟨k - 4, by omega⟩
    have hlt : i < l.length := by omega
    have hd : l.drop i = l[i] :: l.drop (i + 1) := List.drop_eq_getElem_cons hlt
    have step : ∀ acc' : List S28, acc' = acc ++ insOf l[i] → cubbyref15_Ins.l0 k l acc' (wrap64 ((i : Int) + 1)) = some (acc ++ (l.drop i).flatMap insOf) := by
      intro acc' e
      subst e
      have := insOf_len l[i]
      rw [wrap64_in _ (by omega) (by omega), show (i : Int) + 1 = ((i + 1 : Nat) : Int) by omega, ih k (i + 1) _ (by omega) (by omega) (by rw [List.length_append]; omega), hd, List.flatMap_cons, List.append_assoc]
    show cubbyref15_Ins.l0 ((((k + 1) + 1) + 1) + 1) l acc (i : Int) = _
    simp only [cubbyref15_Ins.l0]
    rw [if_pos (by omega), if_pos (by omega), rd31 l i hlt]
    generalize hm : l[i] = m at step
    by_cases h0 : m.f0 ≥ 0
    · rw [if_pos h0]
      simp only [cubbyref15_Ins.j1]
      by_cases h1 : m.f1 ≥ 0
      · rw [if_pos (by simpa using h1), if_pos (by omega)]
        simp only [cubbyref15_Ins.j2]
        rw [if_pos h0]
        simp only [cubbyref15_Ins.j3]
        rw [if_neg (by simp; omega), if_neg (by omega)]
        exact step _ (by rw [insOf, if_pos ⟨h0, h1⟩])
      · rw [if_neg (by simpa using h1)]
        simp only [cubbyref15_Ins.j2]
        rw [if_pos h0]
        simp only [cubbyref15_Ins.j3]
        rw [if_pos (by simp; omega), if_pos (by omega)]
        simp only [Option.bind_some]
        rw [if_neg (by omega)]
        exact step _ (by rw [insOf, if_neg (fun h => h1 h.2), if_pos h0])
    · rw [if_neg h0]
      simp only [cubbyref15_Ins.j1]
      rw [if_neg (by simp)]
      simp only [cubbyref15_Ins.j2]
      rw [if_neg h0]
      simp only [cubbyref15_Ins.j3]
      rw [if_neg (by simp), if_pos (by omega)]
      by_cases h1 : m.f1 ≥ 0
      · rw [if_pos h1, if_pos (by omega)]
        exact step _ (by rw [insOf, if_neg (fun h => h0 h.1), if_neg h0, if_pos h1])
      · rw [if_neg h1]
        exact step _ (by rw [insOf, if_neg (fun h => h0 h.1), if_neg h0, if_neg h1]; simp)
theorem same_l0 (o d a b : Int) (s : ByteArray) (l : List Int) (hl : l.length < 9223372036854775807) (n : Nat) : ∀ (k i : Nat), i + n = l.length → n < k → cubbyref07_Same.l0 k (i : Int) o d a b s l o d a b s l = some true := by
  induction n with
  | zero =>
    intro k i hi hk
    obtain ⟨k, rfl⟩ : ∃ m, k = m + 1 := ⟨k - 1, by omega⟩
    simp only [cubbyref07_Same.l0]; rw [if_neg (by omega)]
  | succ n ih =>
    intro k i hi hk
    obtain ⟨k, rfl⟩ : ∃ m, k = m + 1 := ⟨k - 1, by omega⟩
    simp only [cubbyref07_Same.l0]
    rw [if_pos (by omega), if_pos (by omega), if_pos (by omega), if_true, wrap64_in _ (by omega) (by omega)]
    exact ih k (i + 1) (by omega) (by omega)
theorem same_f (x : S28) (k : Nat) (hl : x.f5.length < 9223372036854775807) (hk : x.f5.length + 1 < k) : cubbyref07_Same.f k x.f0 x.f1 x.f2 x.f3 x.f4 x.f5 x.f0 x.f1 x.f2 x.f3 x.f4 x.f5 = some true := by
  obtain ⟨k, rfl⟩ : ∃ m, k = m + 1 := ⟨k - 1, by omega⟩
  unfold cubbyref07_Same.f
  simp only [if_true, bne_self_eq_false]
  simp only [cubbyref07_Same.j0]
  rw [if_neg (by simp)]
  exact same_l0 _ _ _ _ _ _ hl x.f5.length k 0 (by omega) (by omega)
theorem cmp_l0 (l : List S28) (hl : l.length ≤ 400) (h5 : ∀ x ∈ l, x.f5.length ≤ 100) (d : Nat) : ∀ (k i : Nat), i + d = l.length → d + 200 < k → cubbylaw15_MoveIns.l0 k l l (i : Int) = some true := by
  induction d with
  | zero =>
    intro k i hi hk
    obtain ⟨k, rfl⟩ : ∃ m, k = m + 1 := ⟨k - 1, by omega⟩
    simp only [cubbylaw15_MoveIns.l0]; rw [if_neg (by omega)]
  | succ d ih =>
    intro k i hi hk
    obtain ⟨k, rfl⟩ : ∃ m, k = m + 1 := ⟨k - 1, by omega⟩
    have hlt : i < l.length := by omega
    have e : rd_T28 l (i : Int) = l[i] := by unfold rd_T28; simp [List.getD_eq_getElem?_getD, hlt]
    have hx := h5 l[i] (List.getElem_mem hlt)
    simp only [cubbylaw15_MoveIns.l0]
    rw [if_pos (by omega), if_pos (by omega), if_pos (by omega), e, same_f _ _ (by omega) (by omega)]
    simp only [Option.bind_some, if_true]
    rw [wrap64_in _ (by omega) (by omega)]
    exact ih k (i + 1) (by omega) (by omega)
theorem MoveIns : cubbylaw15_MoveIns.Pure := by
  intro l ⟨_, _, _⟩
  by_cases hb : (l.length : Int) > 200
  · exact ⟨0, by unfold cubbylaw15_MoveIns.f; rw [if_pos hb]⟩
  refine ⟨2000, ?_⟩
  unfold cubbylaw15_MoveIns.f move_Ins.f cubbyref15_Ins.f
  have e1 := mi_l0 l (by omega) l.length 2000 0 [] (by omega) (by omega) (by simp)
  have e2 := ri_l0 l (by omega) l.length 2000 0 [] (by omega) (by omega) (by simp)
  rw [Int.natCast_zero] at e1 e2
  rw [if_neg hb, e1]
  simp only [Option.bind_some]
  rw [e2]
  simp only [Option.bind_some, List.nil_append, List.drop_zero]
  rw [if_pos trivial]
  have hlen : ∀ l : List S31, (l.flatMap insOf).length ≤ l.length := by
    intro l
    induction l with
    | nil => simp
    | cons m l ih => have := insOf_len m; simp only [List.flatMap_cons, List.length_append, List.length_cons]; omega
  have := hlen l
  refine cmp_l0 _ (by omega) ?_ (l.flatMap insOf).length 2000 0 (by omega) (by omega)
  intro x hx
  obtain ⟨m, _, hm⟩ := List.mem_flatMap.1 hx
  unfold insOf at hm
  repeat' split at hm
  all_goals simp at hm
  all_goals subst hm; simp

end Go.Proofs.Ytjofkmeaofpbfaa.Pure
