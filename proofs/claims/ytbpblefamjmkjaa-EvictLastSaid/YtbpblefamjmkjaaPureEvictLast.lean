/- The pure law behind EvictLast: for every input that its bounds let in, the law's function answers true. Conditions: none. -/
import Derived.Test.YtbpblefamjmkjaaPEvictLastx6
set_option linter.unusedVariables false
namespace Go.Proofs.Ytbpblefamjmkjaa.Pure
open Go.RowKit Go.Proofs.Ytbpblefamjmkjaa.PEvictLast Go.Proofs.YtbpblefamjmkjaaW.PrintWords Go.Proofs.YtbpblefamjmkjaaW.PrintLast

theorem wrap64_in (n : Int) (h : -9223372036854775808 ≤ n) (h2 : n < 9223372036854775808) : wrap64 n = n := by unfold wrap64; omega
theorem rd30 (l : List S30) (i : Nat) (h : i < l.length) : rd_T30 l (i : Int) = l[i] := by
  unfold rd_T30
  simp [List.getD_eq_getElem?_getD, h]
/-- What an entry of ours is as one of theirs. -/
def conv (x : S29) : S30 := ⟨x.f0, x.f1, x.f2, x.f3⟩

/-! ### The order -/
theorem bl_irr : ∀ x : List UInt8, Op.bytesLess x x = false
  | [] => rfl
  | a :: x => by
    have h : decide (a < a) = false := decide_eq_false (fun h => by rw [UInt8.lt_iff_toNat_lt] at h; omega)
    simp only [Op.bytesLess, h, bl_irr x, beq_self_eq_true, Bool.and_false, Bool.or_false]
theorem bl_cons (a b : UInt8) (x y : List UInt8) : Op.bytesLess (a :: x) (b :: y) = true ↔ a.toNat < b.toNat ∨ (a.toNat = b.toNat ∧ Op.bytesLess x y = true) := by
  simp only [Op.bytesLess, Bool.or_eq_true, Bool.and_eq_true, decide_eq_true_eq, beq_iff_eq, UInt8.lt_iff_toNat_lt, UInt8.toNat_inj]
theorem bl_trans : ∀ x y z : List UInt8, Op.bytesLess x y = true → Op.bytesLess y z = true → Op.bytesLess x z = true
  | [], [], _, h, _ => by simp [Op.bytesLess] at h
  | _ :: _, [], _, h, _ => by simp [Op.bytesLess] at h
  | _, _ :: _, [], _, h => by simp [Op.bytesLess] at h
  | [], _ :: _, _ :: _, _, _ => rfl
  | a :: x, b :: y, c :: z, h, h' => by
    rw [bl_cons] at *
    rcases h with h | ⟨h, h1⟩ <;> rcases h' with h' | ⟨h', h2⟩
    · exact .inl (by omega)
    · exact .inl (by omega)
    · exact .inl (by omega)
    · exact .inr ⟨by omega, bl_trans x y z h1 h2⟩
theorem bl_tri : ∀ x y : List UInt8, Op.bytesLess x y = false → Op.bytesLess y x = false → x = y
  | [], [], _, _ => rfl
  | [], _ :: _, h, _ => by simp [Op.bytesLess] at h
  | _ :: _, [], _, h => by simp [Op.bytesLess] at h
  | a :: x, b :: y, h, h' => by
    have h1 : ¬ (Op.bytesLess (a :: x) (b :: y) = true) := by rw [h]; decide
    have h2 : ¬ (Op.bytesLess (b :: y) (a :: x) = true) := by rw [h']; decide
    rw [bl_cons] at h1 h2
    have e : a.toNat = b.toNat := by
      apply Nat.le_antisymm
      · exact Nat.le_of_not_lt (fun q => h2 (.inl q))
      · exact Nat.le_of_not_lt (fun q => h1 (.inl q))
    have e2 : x = y := by
      apply bl_tri x y
      · exact Bool.eq_false_iff.2 (fun q => h1 (.inr ⟨e, q⟩))
      · exact Bool.eq_false_iff.2 (fun q => h2 (.inr ⟨e.symm, q⟩))
    rw [UInt8.toNat_inj.1 e, e2]
theorem lt_iff (a b : Ev.E) : Ev.lt a b = true ↔ a.1.f2 < b.1.f2 ∨ (a.1.f2 = b.1.f2 ∧ (Op.bytesLess a.1.f0.toList b.1.f0.toList = true ∨ (a.1.f0.toList = b.1.f0.toList ∧ a.2 < b.2))) := by
  unfold Ev.lt
  by_cases h : a.1.f2 = b.1.f2
  · rw [if_pos h]
    simp only [Bool.or_eq_true, Bool.and_eq_true, decide_eq_true_eq, beq_iff_eq]
    constructor
    · exact fun q => .inr ⟨h, q⟩
    · rintro (q | ⟨_, q⟩)
      · omega
      · exact q
  · rw [if_neg h]
    simp only [decide_eq_true_eq]
    constructor
    · exact fun q => .inl q
    · rintro (q | ⟨q, _⟩)
      · exact q
      · exact absurd q h
theorem lt_irr (a : Ev.E) : Ev.lt a a = false := by
  apply Bool.eq_false_iff.2
  rw [Ne, lt_iff, bl_irr]
  rintro (h | ⟨_, h | ⟨_, h⟩⟩)
  · omega
  · cases h
  · omega
theorem lt_trans {a b c : Ev.E} (h : Ev.lt a b = true) (h' : Ev.lt b c = true) : Ev.lt a c = true := by
  rw [lt_iff] at *
  rcases h with h | ⟨h, h1⟩ <;> rcases h' with h' | ⟨h', h2⟩
  · exact .inl (by omega)
  · exact .inl (by omega)
  · exact .inl (by omega)
  · refine .inr ⟨by omega, ?_⟩
    rcases h1 with h1 | ⟨h1, h3⟩ <;> rcases h2 with h2 | ⟨h2, h4⟩
    · exact .inl (bl_trans _ _ _ h1 h2)
    · exact .inl (by rw [← h2]; exact h1)
    · exact .inl (by rw [h1]; exact h2)
    · exact .inr ⟨h1.trans h2, by omega⟩
theorem lt_asym {a b : Ev.E} (h : Ev.lt a b = true) : Ev.lt b a = false := by
  apply Bool.eq_false_iff.2
  intro h'
  have := lt_trans h h'
  rw [lt_irr] at this
  cases this
theorem lt_tri {a b : Ev.E} (h : Ev.lt a b = false) (h' : Ev.lt b a = false) : a.1.f2 = b.1.f2 ∧ a.1.f0.toList = b.1.f0.toList ∧ a.2 = b.2 := by
  have h1 : ¬ (Ev.lt a b = true) := by rw [h]; decide
  have h2 : ¬ (Ev.lt b a = true) := by rw [h']; decide
  rw [lt_iff] at h1 h2
  have e : a.1.f2 = b.1.f2 := by
    apply Int.le_antisymm
    · exact Int.le_of_not_gt (fun q => h2 (.inl q))
    · exact Int.le_of_not_gt (fun q => h1 (.inl q))
  have e2 : a.1.f0.toList = b.1.f0.toList := by
    apply bl_tri
    · exact Bool.eq_false_iff.2 (fun q => h1 (.inr ⟨e, .inl q⟩))
    · exact Bool.eq_false_iff.2 (fun q => h2 (.inr ⟨e.symm, .inl q⟩))
  refine ⟨e, e2, ?_⟩
  apply Int.le_antisymm
  · exact Int.le_of_not_gt (fun q => h2 (.inr ⟨e.symm, .inr ⟨e2.symm, q⟩⟩))
  · exact Int.le_of_not_gt (fun q => h1 (.inr ⟨e, .inr ⟨e2, q⟩⟩))
/-- Not less, one behind the other. -/
theorem nlt_trans {a b c : Ev.E} (h : Ev.lt b a = false) (h' : Ev.lt c b = false) : Ev.lt c a = false := by
  apply Bool.eq_false_iff.2
  intro q
  cases h3 : Ev.lt b c with
  | true =>
    have := lt_trans h3 q
    rw [h] at this
    cases this
  | false =>
    obtain ⟨e1, e2, e3⟩ := lt_tri h' h3
    have : Ev.lt b a = true := by
      rw [lt_iff] at *
      rw [← e1, ← e2, ← e3]
      exact q
    rw [h] at this
    cases this

/-! ### The heap -/
theorem swap_get (zs : List Ev.E) {i j : Nat} (hi : i < zs.length) (hj : j < zs.length) (c : Nat) : (Ev.swap zs i j).getD c Ev.z = if c = j then zs.getD i Ev.z else if c = i then zs.getD j Ev.z else zs.getD c Ev.z := by
  unfold Ev.swap
  simp only [List.getD_eq_getElem?_getD, List.getElem?_set, List.length_set]
  by_cases h1 : j = c
  · subst h1
    rw [if_pos rfl, if_pos hj, if_pos rfl]
    rfl
  · rw [if_neg h1, if_neg (Ne.symm h1)]
    by_cases h2 : i = c
    · subst h2
      rw [if_pos rfl, if_pos hi, if_pos rfl]
      rfl
    · rw [if_neg h2, if_neg (Ne.symm h2)]
theorem swap_perm (zs : List Ev.E) {i j : Nat} (hi : i < zs.length) (hj : j < zs.length) : (Ev.swap zs i j).Perm zs := by
  unfold Ev.swap
  have e1 : zs.getD i Ev.z = zs[i] := by rw [List.getD_eq_getElem?_getD, List.getElem?_eq_getElem hi]; rfl
  have e2 : zs.getD j Ev.z = zs[j] := by rw [List.getD_eq_getElem?_getD, List.getElem?_eq_getElem hj]; rfl
  rw [e1, e2]
  exact List.set_set_perm hi hj
/-- Each child from parent s on is not less than its parent. -/
def Hs (zs : List Ev.E) (n s : Nat) : Prop := ∀ c p, c < n → (c = 2 * p + 1 ∨ c = 2 * p + 2) → s ≤ p → Ev.lt (zs.getD c Ev.z) (zs.getD p Ev.z) = false
/-- The same but for parent i, whose children are not less than its own parent. -/
def Hi (zs : List Ev.E) (n s i : Nat) : Prop :=
  (∀ c p, c < n → (c = 2 * p + 1 ∨ c = 2 * p + 2) → s ≤ p → p ≠ i → Ev.lt (zs.getD c Ev.z) (zs.getD p Ev.z) = false) ∧
  (∀ c q, c < n → (c = 2 * i + 1 ∨ c = 2 * i + 2) → (i = 2 * q + 1 ∨ i = 2 * q + 2) → s ≤ q → Ev.lt (zs.getD c Ev.z) (zs.getD q Ev.z) = false)
theorem kid_is (zs : List Ev.E) (n i : Nat) : Ev.kid zs n i = 2 * i + 1 ∨ Ev.kid zs n i = 2 * i + 2 := by unfold Ev.kid; split <;> omega
theorem kid_min (zs : List Ev.E) (n i c : Nat) (hc : c < n) (h : c = 2 * i + 1 ∨ c = 2 * i + 2) : Ev.lt (zs.getD c Ev.z) (zs.getD (Ev.kid zs n i) Ev.z) = false := by
  unfold Ev.kid
  rcases h with rfl | rfl
  · split
    · rename_i h
      exact lt_asym h.2
    · exact lt_irr _
  · split
    · exact lt_irr _
    · rename_i h
      exact Bool.eq_false_iff.2 (fun q => h ⟨hc, q⟩)
theorem down_heap (n s : Nat) : ∀ (m i : Nat) (zs : List Ev.E), n - i = m → n ≤ zs.length → s ≤ i → Hi zs n s i → Hs (Ev.down zs n i) n s := by
  intro m
  induction m using Nat.strongRecOn with
  | _ m ih =>
    intro i zs hm hn hs H
    by_cases h : 2 * i + 1 < n
    · have h1 := Ev.kid_gt zs n i
      have h2 := Ev.kid_lt zs n i h
      have hk := kid_is zs n i
      cases hl : Ev.lt (zs.getD (Ev.kid zs n i) Ev.z) (zs.getD i Ev.z)
      · rw [Ev.down_stay hl]
        intro c p hc hcp hsp
        by_cases e : p = i
        · subst e
          exact nlt_trans hl (kid_min zs n p c hc hcp)
        · exact H.1 c p hc hcp hsp e
      · rw [Ev.down_go h hl]
        have hmin := kid_min zs n i
        generalize Ev.kid zs n i = j at *
        refine ih (n - j) (by omega) j (Ev.swap zs i j) rfl (by rw [Ev.swap_len]; exact hn) (by omega) ⟨?_, ?_⟩
        · intro c p hc hcp hsp hpj
          rw [swap_get zs (by omega) (by omega) c, swap_get zs (by omega) (by omega) p, if_neg hpj]
          by_cases e : p = i
          · rw [if_pos e]
            subst e
            by_cases e2 : c = j
            · rw [if_pos e2]
              exact lt_asym hl
            · rw [if_neg e2, if_neg (by omega)]
              exact hmin c hc hcp
          · rw [if_neg e]
            by_cases e2 : c = j
            · omega
            · rw [if_neg e2]
              by_cases e3 : c = i
              · rw [if_pos e3]
                subst e3
                exact H.2 j p h2 hk hcp hsp
              · rw [if_neg e3]
                exact H.1 c p hc hcp hsp e
        · intro c q hc hcj hjq hsq
          have e : q = i := by omega
          subst e
          rw [swap_get zs (by omega) (by omega) c, swap_get zs (by omega) (by omega) q, if_neg (by omega), if_neg (by omega), if_neg (by omega), if_pos rfl]
          exact H.1 c j hc hcj (by omega) (by omega)
    · rw [Ev.down_end h]
      intro c p hc hcp hsp
      by_cases e : p = i
      · omega
      · exact H.1 c p hc hcp hsp e
theorem down_perm (n : Nat) : ∀ (m i : Nat) (zs : List Ev.E), n - i = m → n ≤ zs.length → (Ev.down zs n i).Perm zs := by
  intro m
  induction m using Nat.strongRecOn with
  | _ m ih =>
    intro i zs hm hn
    by_cases h : 2 * i + 1 < n
    · have h1 := Ev.kid_gt zs n i
      have h2 := Ev.kid_lt zs n i h
      cases hl : Ev.lt (zs.getD (Ev.kid zs n i) Ev.z) (zs.getD i Ev.z)
      · rw [Ev.down_stay hl]
      · rw [Ev.down_go h hl]
        exact (ih (n - Ev.kid zs n i) (by omega) _ _ rfl (by rw [Ev.swap_len]; exact hn)).trans (swap_perm zs (by omega) (by omega))
    · rw [Ev.down_end h]
theorem down_far (n : Nat) : ∀ (m i : Nat) (zs : List Ev.E), n - i = m → n ≤ zs.length → ∀ c, n ≤ c → (Ev.down zs n i).getD c Ev.z = zs.getD c Ev.z := by
  intro m
  induction m using Nat.strongRecOn with
  | _ m ih =>
    intro i zs hm hn c hc
    by_cases h : 2 * i + 1 < n
    · have h1 := Ev.kid_gt zs n i
      have h2 := Ev.kid_lt zs n i h
      cases hl : Ev.lt (zs.getD (Ev.kid zs n i) Ev.z) (zs.getD i Ev.z)
      · rw [Ev.down_stay hl]
      · rw [Ev.down_go h hl, ih (n - Ev.kid zs n i) (by omega) _ _ rfl (by rw [Ev.swap_len]; exact hn) c hc, swap_get zs (by omega) (by omega) c, if_neg (by omega), if_neg (by omega)]
    · rw [Ev.down_end h]
theorem inits_heap (n : Nat) : ∀ (k : Nat) (zs : List Ev.E), zs.length = n → Hs zs n k → Hs (Ev.inits n k zs) n 0 ∧ (Ev.inits n k zs).Perm zs
  | 0, zs, _, h => ⟨h, List.Perm.refl _⟩
  | k + 1, zs, hn, h => by
    have h1 : Hs (Ev.down zs n k) n k := down_heap n k (n - k) k zs rfl (by omega) (Nat.le_refl _) ⟨fun c p hc hcp hsp hne => h c p hc hcp (by omega), fun c q hc hcj hjq hsq => by omega⟩
    obtain ⟨h2, h3⟩ := inits_heap n k (Ev.down zs n k) (by rw [Ev.down_len]; exact hn) h1
    exact ⟨h2, h3.trans (down_perm n (n - k) k zs rfl (by omega))⟩
theorem heap_init (zs : List Ev.E) : Hs (Ev.inits zs.length (zs.length / 2) zs) zs.length 0 ∧ (Ev.inits zs.length (zs.length / 2) zs).Perm zs :=
  inits_heap zs.length (zs.length / 2) zs rfl (fun c p hc hcp hsp => by omega)
theorem heap_min (zs : List Ev.E) (n : Nat) (h : Hs zs n 0) : ∀ c, c < n → Ev.lt (zs.getD c Ev.z) (zs.getD 0 Ev.z) = false := by
  intro c
  induction c using Nat.strongRecOn with
  | _ c ih =>
    intro hc
    by_cases e : c = 0
    · subst e; exact lt_irr _
    · have h1 := h c ((c - 1) / 2) hc (by omega) (Nat.zero_le _)
      have h2 := ih ((c - 1) / 2) (by omega) (by omega)
      exact nlt_trans h2 h1
/-- One is popped: the first, which is the least; what is left is a heap. -/
theorem heap_pop (zs : List Ev.E) (m : Nat) (hl : zs.length = m + 1) (h : Hs zs (m + 1) 0) (ys : List Ev.E) (hy : Ev.down (Ev.swap zs 0 m) m 0 = ys) :
    ys.getD m Ev.z = zs.getD 0 Ev.z ∧ Hs (ys.take m) m 0 ∧ zs.Perm (zs.getD 0 Ev.z :: ys.take m) ∧ ∀ x ∈ zs, Ev.lt x (zs.getD 0 Ev.z) = false := by
  have hsl : (Ev.swap zs 0 m).length = m + 1 := by rw [Ev.swap_len, hl]
  have hyl : ys.length = m + 1 := by rw [← hy, Ev.down_len, hsl]
  have e0 : ys.getD m Ev.z = zs.getD 0 Ev.z := by
    rw [← hy, down_far m m 0 _ (by omega) (by omega) m (Nat.le_refl _), swap_get zs (by omega) (by omega) m, if_pos rfl]
  refine ⟨e0, ?_, ?_, ?_⟩
  · have h1 : Hs ys m 0 := by
      rw [← hy]
      refine down_heap m 0 m 0 _ (by omega) (by omega) (Nat.le_refl _) ⟨?_, fun c q hc hcj hjq hsq => by omega⟩
      intro c p hc hcp hsp hne
      rw [swap_get zs (by omega) (by omega) c, swap_get zs (by omega) (by omega) p, if_neg (by omega), if_neg (by omega), if_neg (by omega), if_neg hne]
      exact h c p (by omega) hcp (by omega)
    intro c p hc hcp hsp
    have g : ∀ q, q < m → (ys.take m).getD q Ev.z = ys.getD q Ev.z := by
      intro q hq
      rw [List.getD_eq_getElem?_getD, List.getD_eq_getElem?_getD, List.getElem?_take_of_lt hq]
    rw [g c hc, g p (by omega)]
    exact h1 c p hc hcp hsp
  · have h1 : ys.Perm zs := by rw [← hy]; exact (down_perm m m 0 _ (by omega) (by omega)).trans (swap_perm zs (by omega) (by omega))
    have h2 : ys = ys.take m ++ [zs.getD 0 Ev.z] := by
      rw [← e0, List.getD_eq_getElem?_getD, List.getElem?_eq_getElem (by omega)]
      have := List.take_append_getElem (l := ys) (i := m) (by omega)
      rw [List.take_of_length_le (by omega : ys.length ≤ m + 1)] at this
      exact this.symm
    refine h1.symm.trans ?_
    rw [h2]
    have h3 : (ys.take m ++ [zs.getD 0 Ev.z]).take m = ys.take m := by rw [← h2]
    rw [h3]
    exact List.perm_append_comm
  · intro x hx
    obtain ⟨c, hc, rfl⟩ := List.getElem_of_mem hx
    have := heap_min zs (m + 1) h c (by omega)
    rwa [List.getD_eq_getElem?_getD, List.getElem?_eq_getElem hc] at this

/-! ### The reference -/
def cv (e : Ev.E) : S30 := conv e.1
def sm : List Ev.E → Int
  | [] => 0
  | e :: r => e.1.f1 + sm r
def unp (e : Ev.E) : Bool := !e.1.f3
def okE (e : Ev.E) : Prop := 0 ≤ e.1.f1 ∧ e.1.f1 ≤ 1073741824
theorem sm_app (l r : List Ev.E) : sm (l ++ r) = sm l + sm r := by
  induction l with
  | nil => simp [sm]
  | cons e l ih => rw [List.cons_append, sm, sm, ih]; omega
theorem sm_bounds (l : List Ev.E) (h : ∀ e ∈ l, okE e) : 0 ≤ sm l ∧ sm l ≤ (l.length : Int) * 1073741824 := by
  induction l with
  | nil => simp [sm]
  | cons e l ih =>
    have h1 := h e (List.mem_cons_self)
    have h2 := ih (fun x hx => h x (List.mem_cons_of_mem _ hx))
    unfold okE at h1
    rw [sm, List.length_cons]
    omega
theorem sm_in (l : List Ev.E) (h : ∀ e ∈ l, okE e) (hl : l.length ≤ 4096) : 0 ≤ sm l ∧ sm l ≤ 4398046511104 := by
  obtain ⟨h1, h2⟩ := sm_bounds l h
  refine ⟨h1, Int.le_trans h2 ?_⟩
  have : (l.length : Int) * 1073741824 ≤ 4096 * 1073741824 := Int.mul_le_mul_of_nonneg_right (by omega) (by decide)
  exact this
theorem wrap_sm (n : Int) (h : 0 ≤ n ∧ n ≤ 4398046511104) : wrap64 n = n := wrap64_in n (Int.le_trans (by decide) h.1) (Int.lt_of_le_of_lt h.2 (by decide))
theorem wrap_ix (i : Nat) (h : i ≤ 4096) : wrap64 ((i : Int) + 1) = ((i + 1 : Nat) : Int) := by
  rw [wrap64_in _ (by omega) (by omega)]
  rfl
theorem rd30cv (R : List Ev.E) (i : Nat) (h : i < R.length) : rd_T30 (R.map cv) (i : Int) = cv R[i] := by
  rw [rd30 _ i (by rw [List.length_map]; exact h), List.getElem_map]
theorem ref_sum (R : List Ev.E) (h : ∀ e ∈ R, okE e) (hl : R.length ≤ 4096) (d : Nat) : ∀ (k i : Nat) (s : Int), i + d = R.length → d < k → s = sm (R.take i) → cubbyref20_sum.l0 k (R.map cv) s (i : Int) = some (sm R) := by
  induction d with
  | zero =>
    intro k i s hi hk hs
    obtain ⟨k, rfl⟩ : ∃ m, k = m + 1 := ⟨k - 1, by omega⟩
    simp only [cubbyref20_sum.l0]
    rw [if_neg (by rw [List.length_map]; omega), hs, List.take_of_length_le (by omega)]
  | succ d ih =>
    intro k i s hi hk hs
    obtain ⟨k, rfl⟩ : ∃ m, k = m + 1 := ⟨k - 1, by omega⟩
    have hlt : i < R.length := by omega
    have ht : sm (R.take (i + 1)) = sm (R.take i) + (R[i]).1.f1 := by
      rw [← List.take_append_getElem hlt, sm_app]
      simp [sm]
    have hb := wrap_sm _ (sm_in (R.take (i + 1)) (fun e he => h e (List.mem_of_mem_take he)) (by rw [List.length_take]; omega))
    simp only [cubbyref20_sum.l0]
    rw [if_pos (by rw [List.length_map]; omega), if_pos (by omega), rd30cv R i hlt]
    have e1 : (cv R[i]).f1 = (R[i]).1.f1 := rfl
    rw [e1, hs, ← ht, hb, wrap_ix i (by omega)]
    exact ih k (i + 1) _ (by omega) (by omega) rfl
/-- Place b holds the least of those that are not pinned. -/
def Best (R : List Ev.E) (i b : Nat) : Prop := ∃ h : b < R.length, b < i ∧ unp R[b] = true ∧ ∀ j (hj : j < R.length), j < i → unp R[j] = true → Ev.lt R[j] R[b] = false
theorem ref_l2 (R : List Ev.E) (hp : R.Pairwise (fun a b => a.2 < b.2)) (hl : R.length ≤ 4096) (need room : Int) (out : List ByteArray) (ho : out.length ≤ 5000) (d : Nat) : ∀ (k i : Nat) (b : Int), i + d = R.length →
    ((b = -1 ∧ ∀ j (hj : j < R.length), j < i → unp R[j] = false) ∨ (∃ bn : Nat, b = (bn : Int) ∧ Best R i bn)) →
    (cubbyref20_Victims.l2 (d + 1 + k) need room (R.map cv) out b (i : Int) = some ([], 221) ∧ ∀ e ∈ R, unp e = false) ∨
    (∃ bn : Nat, ∃ h : bn < R.length, Best R R.length bn ∧ cubbyref20_Victims.l2 (d + 1 + k) need room (R.map cv) out b (i : Int) = cubbyref20_Victims.l1 k need room ((R.take bn ++ R.drop (bn + 1)).map cv) (out ++ [(R[bn]).1.f0])) := by
  induction d with
  | zero =>
    intro k i b hi hb
    rw [show 0 + 1 + k = k + 1 by omega]
    have hil : i = R.length := by omega
    rcases hb with ⟨rfl, hb⟩ | ⟨bn, rfl, hb⟩
    · left
      refine ⟨?_, ?_⟩
      · simp only [cubbyref20_Victims.l2]
        rw [if_neg (by rw [List.length_map]; omega), if_pos (by omega)]
      · intro e he
        obtain ⟨j, hj, rfl⟩ := List.getElem_of_mem he
        exact hb j hj (by omega)
    · right
      obtain ⟨h, hb1, hb2, hb3⟩ := hb
      refine ⟨bn, h, ⟨h, h, hb2, fun j hj _ hu => hb3 j hj (by omega) hu⟩, ?_⟩
      have hlt : (R.take bn).length ≤ 4096 := by rw [List.length_take]; omega
      have hld : (R.drop (bn + 1)).length ≤ 4096 := by rw [List.length_drop]; omega
      have q1 : out.length < 8796093022208 := Nat.lt_of_le_of_lt ho (by decide)
      have q2 : ((R.map cv).take bn).length < 3518437208883 := by
        refine Nat.lt_of_le_of_lt (m := 4096) ?_ (by decide)
        rw [List.length_take, List.length_map]; omega
      have q4 : ((R.map cv).take bn).length + ((R.map cv).drop (bn + 1)).length < 3518437208883 := by
        refine Nat.lt_of_le_of_lt (m := 8192) ?_ (by decide)
        rw [List.length_take, List.length_drop, List.length_map]; omega
      rw [cubbyref20_Victims.l2]
      rw [if_neg (by rw [List.length_map]; omega), if_neg (by omega), if_pos (by omega), if_pos (by rw [List.length_map]; omega), if_pos q1]
      simp only [Option.bind_some, List.nil_append, List.length_nil, Nat.zero_add, show ((bn : Int)).toNat = bn from Int.toNat_natCast bn, wrap_ix bn (Nat.le_trans (Nat.le_of_lt h) hl), show (((bn + 1 : Nat) : Int)).toNat = bn + 1 from Int.toNat_natCast (bn + 1)]
      rw [if_pos (by rw [List.length_map]; omega), if_pos q2, if_pos (by omega), if_pos (by rw [List.length_map]; omega), if_pos q4, rd30cv R bn h, ← List.map_take, ← List.map_drop, ← List.map_append, show (cv R[bn]).f0 = (R[bn]).1.f0 from rfl]
  | succ d ih =>
    intro k i b hi hb
    have hlt : i < R.length := by omega
    have step : ∀ b' : Int, cubbyref20_Victims.l2 (d + 1 + 1 + k) need room (R.map cv) out b (i : Int) = cubbyref20_Victims.l2 (d + 1 + k) need room (R.map cv) out b' (wrap64 ((i : Int) + 1)) →
        ((b' = -1 ∧ ∀ j (hj : j < R.length), j < i + 1 → unp R[j] = false) ∨ (∃ bn : Nat, b' = (bn : Int) ∧ Best R (i + 1) bn)) →
        (cubbyref20_Victims.l2 (d + 1 + 1 + k) need room (R.map cv) out b (i : Int) = some ([], 221) ∧ ∀ e ∈ R, unp e = false) ∨
        (∃ bn : Nat, ∃ h : bn < R.length, Best R R.length bn ∧ cubbyref20_Victims.l2 (d + 1 + 1 + k) need room (R.map cv) out b (i : Int) = cubbyref20_Victims.l1 k need room ((R.take bn ++ R.drop (bn + 1)).map cv) (out ++ [(R[bn]).1.f0])) := by
      intro b' e hb'
      rw [e, wrap_ix i (by omega)]
      exact ih k (i + 1) b' (by omega) hb'
    have e3 : (cv R[i]).f3 = (R[i]).1.f3 := rfl
    have e2 : (cv R[i]).f2 = (R[i]).1.f2 := rfl
    have e0 : (cv R[i]).f0 = (R[i]).1.f0 := rfl
    by_cases hpn : (R[i]).1.f3 = true
    · have hu : unp R[i] = false := by unfold unp; rw [hpn]; rfl
      refine step b ?_ ?_
      · rw [show d + 1 + 1 + k = (d + 1 + k) + 1 by omega]
        simp only [cubbyref20_Victims.l2]
        rw [if_pos (by rw [List.length_map]; omega), if_pos (by omega), rd30cv R i hlt, e3, if_pos hpn]
      · rcases hb with ⟨rfl, hb⟩ | ⟨bn, rfl, h, h1, h2, h3⟩
        · left
          refine ⟨rfl, fun j hj hji => ?_⟩
          by_cases e : j = i
          · subst e; exact hu
          · exact hb j hj (by omega)
        · right
          refine ⟨bn, rfl, h, by omega, h2, fun j hj hji hju => ?_⟩
          by_cases e : j = i
          · subst e; rw [hu] at hju; cases hju
          · exact h3 j hj (by omega) hju
    · have hu : unp R[i] = true := by unfold unp; rw [Bool.not_eq_true] at hpn; rw [hpn]; rfl
      rcases hb with ⟨rfl, hb⟩ | ⟨bn, rfl, h, h1, h2, h3⟩
      · refine step (i : Int) ?_ (.inr ⟨i, rfl, hlt, by omega, hu, fun j hj hji hju => ?_⟩)
        · rw [show d + 1 + 1 + k = (d + 1 + k) + 1 by omega]
          simp only [cubbyref20_Victims.l2]
          rw [if_pos (by rw [List.length_map]; omega), if_pos (by omega), rd30cv R i hlt, e3, if_neg hpn, if_pos (by omega)]
        · by_cases e : j = i
          · subst e; exact lt_irr _
          · rw [hb j hj (by omega)] at hju; cases hju
      · have f2 : (cv R[bn]).f2 = (R[bn]).1.f2 := rfl
        have f0 : (cv R[bn]).f0 = (R[bn]).1.f0 := rfl
        have hpl : (R[bn]).2 < (R[i]).2 := List.pairwise_iff_getElem.1 hp bn i h hlt h1
        have run : cubbyref20_Victims.l2 (d + 1 + 1 + k) need room (R.map cv) out (bn : Int) (i : Int) = (if ((R[i]).1.f2) < ((R[bn]).1.f2) then (cubbyref20_Victims.l2 (d + 1 + k) need room (R.map cv) out (i : Int) (wrap64 ((i : Int) + 1))) else (if ((R[i]).1.f2) = ((R[bn]).1.f2) then (if (Op.bytesLess (((R[i]).1.f0).toList) (((R[bn]).1.f0).toList)) = true then (cubbyref20_Victims.l2 (d + 1 + k) need room (R.map cv) out (i : Int) (wrap64 ((i : Int) + 1))) else (cubbyref20_Victims.l2 (d + 1 + k) need room (R.map cv) out (bn : Int) (wrap64 ((i : Int) + 1)))) else (cubbyref20_Victims.l2 (d + 1 + k) need room (R.map cv) out (bn : Int) (wrap64 ((i : Int) + 1))))) := by
          rw [show d + 1 + 1 + k = (d + 1 + k) + 1 by omega]
          rw [cubbyref20_Victims.l2]
          rw [if_pos (by rw [List.length_map]; omega), if_pos (by omega), rd30cv R i hlt, rd30cv R bn h, e3, if_neg hpn, if_neg (by omega), if_pos (by omega), if_pos (by rw [List.length_map]; omega), e2, f2, e0, f0]
        have new : Ev.lt R[i] R[bn] = true → Best R (i + 1) i := fun hlt' => ⟨hlt, by omega, hu, fun j hj hji hju => by
          by_cases e : j = i
          · subst e; exact lt_irr _
          · exact nlt_trans (lt_asym hlt') (h3 j hj (by omega) hju)⟩
        have old : Ev.lt R[i] R[bn] = false → Best R (i + 1) bn := fun hlt' => ⟨h, by omega, h2, fun j hj hji hju => by
          by_cases e : j = i
          · subst e; exact hlt'
          · exact h3 j hj (by omega) hju⟩
        by_cases c1 : (R[i]).1.f2 < (R[bn]).1.f2
        · exact step (i : Int) (by rw [run, if_pos c1]) (.inr ⟨i, rfl, new ((lt_iff _ _).2 (.inl c1))⟩)
        · by_cases c2 : (R[i]).1.f2 = (R[bn]).1.f2
          · by_cases c3 : Op.bytesLess (R[i]).1.f0.toList (R[bn]).1.f0.toList = true
            · exact step (i : Int) (by rw [run, if_neg c1, if_pos c2, if_pos c3]) (.inr ⟨i, rfl, new ((lt_iff _ _).2 (.inr ⟨c2, .inl c3⟩))⟩)
            · refine step (bn : Int) (by rw [run, if_neg c1, if_pos c2, if_neg c3]) (.inr ⟨bn, rfl, old (Bool.eq_false_iff.2 ?_)⟩)
              rw [Ne, lt_iff]
              rintro (q | ⟨_, q | ⟨_, q⟩⟩)
              · exact c1 q
              · exact c3 q
              · omega
          · refine step (bn : Int) (by rw [run, if_neg c1, if_neg c2]) (.inr ⟨bn, rfl, old (Bool.eq_false_iff.2 ?_)⟩)
            rw [Ne, lt_iff]
            rintro (q | ⟨q, _⟩)
            · exact c1 q
            · exact c2 q

/-! ### The two are one -/
theorem best_eq (R : List Ev.E) (hp : R.Pairwise (fun a b => a.2 < b.2)) (x y : Ev.E) (hx : x ∈ R) (hy : y ∈ R) (e : x.2 = y.2) : x = y := by
  obtain ⟨i, hi, rfl⟩ := List.getElem_of_mem hx
  obtain ⟨j, hj, rfl⟩ := List.getElem_of_mem hy
  have h := List.pairwise_iff_getElem.1 hp
  rcases Nat.lt_trichotomy i j with q | q | q
  · have := h i j hi hj q; omega
  · subst q; rfl
  · have := h j i hj hi q; omega
theorem sm_cut (R : List Ev.E) (b : Nat) (h : b < R.length) : sm R = (R[b]).1.f1 + sm (R.take b ++ R.drop (b + 1)) := by
  conv => lhs; rw [← List.take_append_drop b R, List.drop_eq_getElem_cons h]
  rw [sm_app, sm_app, sm]
  omega
theorem filter_cut (R : List Ev.E) (b : Nat) (h : b < R.length) (hu : unp R[b] = true) : (R.filter unp).Perm (R[b] :: (R.take b ++ R.drop (b + 1)).filter unp) := by
  have e : R.filter unp = (R.take b ++ R[b] :: R.drop (b + 1)).filter unp := by rw [← List.drop_eq_getElem_cons h, List.take_append_drop]
  rw [e, List.filter_append, List.filter_append, List.filter_cons_of_pos hu]
  exact List.perm_middle
theorem cut_sub (R : List Ev.E) (b : Nat) : (R.take b ++ R.drop (b + 1)).Sublist R := by
  rw [← List.eraseIdx_eq_take_drop_succ]
  exact List.eraseIdx_sublist R b
theorem ref_pops (need room : Int) (hn : 0 ≤ need ∧ need ≤ 1073741824) : ∀ (n : Nat) (R zs : List Ev.E) (nd : Int) (out : List ByteArray) (k : Nat), R.length = n → n ≤ 4096 → R.Pairwise (fun a b => a.2 < b.2) → (∀ e ∈ R, okE e) →
    zs.Perm (R.filter unp) → Hs zs zs.length 0 → nd = sm R + need → out.length + n ≤ 4096 → (n + 1) * 5000 ≤ k →
    cubbyref20_Victims.l1 k need room (R.map cv) out = some (Ev.pops room zs.length zs nd out) := by
  intro n
  induction n with
  | zero =>
    intro R zs nd out k hR hl hp ho hz hh hnd hout hk
    obtain ⟨k, rfl⟩ : ∃ m, k = m + 1 := ⟨k - 1, by omega⟩
    have e : R = [] := List.eq_nil_of_length_eq_zero hR
    subst e
    have e2 : zs = [] := List.Perm.eq_nil hz
    subst e2
    have hs : cubbyref20_sum.f k (([] : List Ev.E).map cv) = some (sm []) := ref_sum [] ho (by decide) 0 k 0 0 rfl (by omega) rfl
    rw [cubbyref20_Victims.l1]
    rw [hs]
    have hw : wrap64 (sm [] + need) = nd := by rw [hnd]; exact wrap64_in _ (by simp [sm]; omega) (by simp [sm]; omega)
    simp only [Option.bind_some]
    rw [hw]
    show _ = some (Ev.pops room 0 [] nd out)
    rw [Ev.pops]
    by_cases c : nd > room
    · rw [if_pos c, if_pos c]
      obtain ⟨k2, rfl⟩ : ∃ m, k = m + 1 := ⟨k - 1, by omega⟩
      rcases ref_l2 [] hp (by decide) need room out (by omega) 0 k2 0 (-1) rfl (.inl ⟨rfl, fun j hj => absurd hj (Nat.not_lt_zero _)⟩) with ⟨h1, _⟩ | ⟨bn, h, _⟩
      · rw [show k2 + 1 = 0 + 1 + k2 by omega]
        exact h1
      · exact absurd h (Nat.not_lt_zero _)
    · rw [if_neg c, if_neg c]
  | succ n ih =>
    intro R zs nd out k hR hl hp ho hz hh hnd hout hk
    obtain ⟨k, rfl⟩ : ∃ m, k = m + 1 := ⟨k - 1, by omega⟩
    have hs : cubbyref20_sum.f k (R.map cv) = some (sm R) := ref_sum R ho (by omega) R.length k 0 0 (by omega) (by omega) rfl
    have hsi := sm_in R ho (by omega)
    rw [cubbyref20_Victims.l1]
    rw [hs]
    have hw : wrap64 (sm R + need) = nd := by
      rw [hnd]
      exact wrap64_in _ (by omega) (by omega)
    simp only [Option.bind_some]
    rw [hw]
    by_cases c : nd > room
    · rw [if_pos c]
      obtain ⟨k2, rfl⟩ : ∃ m, k = R.length + 1 + m := ⟨k - (R.length + 1), by omega⟩
      rcases ref_l2 R hp (by omega) need room out (by omega) R.length k2 0 (-1) (by omega) (.inl ⟨rfl, fun j hj hj0 => absurd hj0 (Nat.not_lt_zero _)⟩) with ⟨h1, h2⟩ | ⟨bn, h, hb, h1⟩
      · have e : R.filter unp = [] := List.filter_eq_nil_iff.2 (fun e he => by rw [h2 e he]; decide)
        rw [e] at hz
        have e2 : zs = [] := List.Perm.eq_nil hz
        subst e2
        show _ = some (Ev.pops room 0 [] nd out)
        rw [Ev.pops, if_pos c]
        exact h1
      · obtain ⟨_, _, hu, hmin⟩ := hb
        have hx : R[bn] ∈ zs := hz.symm.mem_iff.1 (List.mem_filter.2 ⟨List.getElem_mem h, hu⟩)
        obtain ⟨m, hm⟩ : ∃ m, zs.length = m + 1 := ⟨zs.length - 1, by have := List.length_pos_of_mem hx; omega⟩
        rw [hm] at hh
        obtain ⟨p1, p2, p3, p4⟩ := heap_pop zs m hm hh _ rfl
        generalize hys : Ev.down (Ev.swap zs 0 m) m 0 = ys at *
        have hyl : ys.length = m + 1 := by rw [← hys, Ev.down_len, Ev.swap_len, hm]
        have hz0 : zs.getD 0 Ev.z ∈ zs := by
          rw [List.getD_eq_getElem?_getD, List.getElem?_eq_getElem (by omega)]
          exact List.getElem_mem (by omega)
        have hz0R := List.mem_filter.1 (hz.mem_iff.1 hz0)
        have e0 : zs.getD 0 Ev.z = R[bn] := by
          obtain ⟨j, hj, ej⟩ := List.getElem_of_mem hz0R.1
          have q1 : Ev.lt (zs.getD 0 Ev.z) R[bn] = false := by
            rw [← ej]
            exact hmin j hj hj (by rw [ej]; exact hz0R.2)
          have q2 := p4 _ hx
          exact best_eq R hp _ _ hz0R.1 (List.getElem_mem h) (lt_tri q1 q2).2.2
        rw [hm, Ev.pops, if_pos c, hys, p1, e0]
        rw [show (-1 : Int) = -1 from rfl]
        have hlen : (R.take bn ++ R.drop (bn + 1)).length = n := by rw [List.length_append, List.length_take, List.length_drop]; omega
        have htl : (ys.take m).length = m := by rw [List.length_take]; omega
        have hsc := sm_cut R bn h
        have hok : ∀ e ∈ R.take bn ++ R.drop (bn + 1), okE e := fun e he => ho e ((cut_sub R bn).subset he)
        have hsi2 := sm_in _ hok (by omega)
        have ha : (out ++ [(R[bn]).1.f0]).length + n ≤ 4096 := by
          rw [List.length_append, List.length_singleton]
          omega
        have hk2 : (n + 1) * 5000 ≤ k2 := by
          have e1 : (n + 1 + 1) * 5000 = (n + 1) * 5000 + 5000 := Nat.add_mul _ _ _
          rw [e1] at hk
          generalize (n + 1) * 5000 = N at hk ⊢
          clear ha ih
          omega
        have hfin := ih (R.take bn ++ R.drop (bn + 1)) (ys.take m) (wrap64 (nd - (R[bn]).1.f1)) (out ++ [(R[bn]).1.f0]) k2 hlen (by omega) (hp.sublist (cut_sub R bn)) hok ?_ (by rw [htl]; exact p2) ?_ ha hk2
        · rw [htl] at hfin
          rw [← hfin]
          exact h1
        · rw [e0] at p3
          exact List.Perm.cons_inv ((p3.symm.trans hz).trans (filter_cut R bn h hu))
        · have e : nd - (R[bn]).1.f1 = sm (R.take bn ++ R.drop (bn + 1)) + need := by omega
          rw [e]
          exact wrap64_in _ (by omega) (by omega)
    · rw [if_neg c]
      cases hzl : zs.length with
      | zero => rw [Ev.pops, if_neg c]
      | succ m => rw [Ev.pops, if_neg c]
def al : List S29 → Nat → List Ev.E
  | [], _ => []
  | x :: r, i => (x, (i : Int)) :: al r (i + 1)
theorem al_cv (l : List S29) : ∀ i, (al l i).map cv = l.map conv := by
  induction l with
  | nil => intro i; rfl
  | cons x r ih => intro i; rw [al, List.map_cons, List.map_cons, ih]; rfl
theorem al_len (l : List S29) : ∀ i, (al l i).length = l.length := by
  induction l with
  | nil => intro i; rfl
  | cons x r ih => intro i; rw [al, List.length_cons, List.length_cons, ih]
theorem al_un (l : List S29) : ∀ i, (al l i).filter unp = Ev.un l i := by
  induction l with
  | nil => intro i; rfl
  | cons x r ih =>
    intro i
    rw [al, Ev.un]
    by_cases h : x.f3 = true
    · rw [if_pos h, List.filter_cons_of_neg (by unfold unp; rw [h]; decide), ih]
    · rw [if_neg h, List.filter_cons_of_pos (by unfold unp; rw [Bool.not_eq_true] at h; rw [h]; rfl), ih]
theorem al_ge (l : List S29) : ∀ i, ∀ e ∈ al l i, (i : Int) ≤ e.2 := by
  induction l with
  | nil => intro i e he; cases he
  | cons x r ih =>
    intro i e he
    rw [al] at he
    rcases List.mem_cons.1 he with rfl | he
    · exact Int.le_refl _
    · have := ih (i + 1) e he
      omega
theorem al_pw (l : List S29) : ∀ i, (al l i).Pairwise (fun a b => a.2 < b.2) := by
  induction l with
  | nil => intro i; exact List.Pairwise.nil
  | cons x r ih =>
    intro i
    rw [al, List.pairwise_cons]
    refine ⟨fun e he => ?_, ih (i + 1)⟩
    have := al_ge r (i + 1) e he
    show (i : Int) < e.2
    omega
theorem al_ok (l : List S29) (h : l.any Ev.wild = false) : ∀ i, ∀ e ∈ al l i, okE e := by
  induction l with
  | nil => intro i e he; cases he
  | cons x r ih =>
    intro i e he
    rw [List.any_cons, Bool.or_eq_false_iff] at h
    rw [al] at he
    rcases List.mem_cons.1 he with rfl | he
    · have h1 := h.1
      unfold Ev.wild Ev.inr at h1
      unfold okE
      simp only [Bool.not_eq_false', Bool.and_eq_true, decide_eq_true_eq] at h1
      exact h1
    · exact ih h.2 (i + 1) e he
theorem needs_sm (l : List S29) (h : l.any Ev.wild = false) : ∀ (n : Int) (i : Nat), 0 ≤ n → n + (l.length : Int) * 1073741824 ≤ 9000000000000000000 → Ev.needs l n = sm (al l i) + n := by
  induction l with
  | nil => intro n i _ _; simp [Ev.needs, al, sm]
  | cons x r ih =>
    intro n i hn hb
    have hx := al_ok (x :: r) h i (x, (i : Int)) (by rw [al]; exact List.mem_cons_self)
    unfold okE at hx
    rw [List.any_cons, Bool.or_eq_false_iff] at h
    rw [List.length_cons] at hb
    have hr : (0 : Int) ≤ (r.length : Int) * 1073741824 := Int.mul_nonneg (by omega) (by decide)
    have hb' : n + ((r.length : Int) * 1073741824 + 1073741824) ≤ 9000000000000000000 := by
      have : ((r.length + 1 : Nat) : Int) * 1073741824 = (r.length : Int) * 1073741824 + 1073741824 := by rw [Int.natCast_add, Int.add_mul]; rfl
      rw [this] at hb
      exact hb
    simp only at hx
    generalize (r.length : Int) * 1073741824 = L at hr hb' ih
    rw [Ev.needs, al, sm, wrap64_in _ (by omega) (by omega), ih h.2 (n + x.f1) (i + 1) (by omega) (by omega)]
    simp only
    omega

theorem in_f (a : Int) : cubbyref20_in.f a = some (Ev.inr a) := by
  unfold cubbyref20_in.f Ev.inr
  by_cases h : 0 ≤ a
  · rw [if_pos h, decide_eq_true h, Bool.true_and]
  · rw [if_neg h, decide_eq_false h, Bool.false_and]
theorem wild_eq (x : S29) : Ev.wild x = !(Ev.inr x.f1) := rfl
theorem ref_l0 (l : List S29) (hl : l.length ≤ 4096) (need room : Int) (d : Nat) : ∀ (k i : Nat), i + d = l.length →
    cubbyref20_Victims.l0 (d + 1 + k) (l.map conv) need room ((l.take i).map conv) (i : Int) = if (l.drop i).any Ev.wild = true then some ([], 1) else cubbyref20_Victims.l1 k need room (l.map conv) [] := by
  induction d with
  | zero =>
    intro k i hi
    rw [show 0 + 1 + k = k + 1 by omega, cubbyref20_Victims.l0, if_neg (by rw [List.length_map]; omega), List.take_of_length_le (by omega), List.drop_eq_nil_of_le (by omega)]
    rfl
  | succ d ih =>
    intro k i hi
    have hlt : i < l.length := by omega
    have hm : i < (l.map conv).length := by rw [List.length_map]; exact hlt
    have q : ((l.take i).map conv).length < 3518437208883 := by
      refine Nat.lt_of_le_of_lt (m := 4096) ?_ (by decide)
      rw [List.length_map, List.length_take]
      omega
    rw [show d + 1 + 1 + k = (d + 1 + k) + 1 by omega, cubbyref20_Victims.l0, if_pos (by rw [List.length_map]; omega), if_pos (by omega), rd30 _ i hm, List.getElem_map, in_f]
    have e1 : (conv l[i]).f1 = (l[i]).f1 := rfl
    rw [e1, Option.bind_some, List.drop_eq_getElem_cons hlt, List.any_cons]
    cases hw : Ev.inr (l[i]).f1 with
    | false =>
      have : Ev.wild l[i] = true := by rw [wild_eq, hw]; rfl
      rw [if_neg (by decide), this, Bool.true_or, if_pos rfl]
    | true =>
      have : Ev.wild l[i] = false := by rw [wild_eq, hw]; rfl
      rw [if_pos rfl, if_pos q, this, Bool.false_or, wrap_ix i (by omega), ← ih k (i + 1) (by omega)]
      congr 1
      rw [← List.take_append_getElem hlt, List.map_append]
      rfl
/-- The code's answer. -/
theorem ref_vic (l : List S29) (need room : Int) (hl : l.length ≤ 4096) (k : Nat) (hk : 30000000 ≤ k) : cubbyref20_Victims.f k (l.map conv) need room = evict_Victims.f 0 l need room := by
  unfold cubbyref20_Victims.f evict_Victims.f
  rw [in_f, in_f, Option.bind_some, Option.bind_some]
  obtain ⟨k, rfl⟩ : ∃ m, k = m + 1 := ⟨k - 1, by omega⟩
  have bad : ∀ b : Bool, b = true → cubbyref20_Victims.j0 (k + 1) (l.map conv) need room b = some ([], 1) := by
    rintro b rfl
    rw [cubbyref20_Victims.j0, if_pos rfl]
  cases h1 : Ev.inr need with
  | false => rw [if_neg (by decide), if_neg (fun q => by simp at q), bad _ rfl]
  | true =>
    rw [if_pos rfl]
    cases h2 : Ev.inr room with
    | false => rw [if_neg (by decide), if_neg (fun q => by simp at q), bad _ rfl]
    | true =>
      rw [if_pos rfl, cubbyref20_Victims.j0, if_neg (by rw [List.length_map]; simp; omega)]
      obtain ⟨k, rfl⟩ : ∃ m, k = l.length + 1 + m := ⟨k - (l.length + 1), by omega⟩
      have h := ref_l0 l hl need room l.length k 0 (by omega)
      rw [List.take_zero, List.map_nil, List.drop_zero] at h
      rw [show ((0 : Int)) = ((0 : Nat) : Int) from rfl, h]
      cases h3 : l.any Ev.wild with
      | true => rw [if_pos rfl, if_neg (fun q => by simp at q)]
      | false =>
        rw [if_neg (by decide), if_pos ⟨rfl, rfl, hl, rfl⟩]
        have hn : 0 ≤ need ∧ need ≤ 1073741824 := by
          unfold Ev.inr at h1
          simp only [Bool.and_eq_true, decide_eq_true_eq] at h1
          exact h1
        obtain ⟨hh, hp⟩ := heap_init (Ev.un l 0)
        have hil := Ev.inits_len (Ev.un l 0).length ((Ev.un l 0).length / 2) (Ev.un l 0)
        have hns := needs_sm l h3 need 0 hn.1 (by
          have : (l.length : Int) * 1073741824 ≤ 4096 * 1073741824 := Int.mul_le_mul_of_nonneg_right (by omega) (by decide)
          omega)
        have hkk : (l.length + 1) * 5000 ≤ k := by
          have e : (l.length + 1) * 5000 ≤ 20485000 := Nat.le_trans (Nat.mul_le_mul_right 5000 (show l.length + 1 ≤ 4097 by omega)) (by decide)
          have e2 : 20485000 ≤ k := by clear h bad e; omega
          exact Nat.le_trans e e2
        have hr := ref_pops need room hn l.length (al l 0) (Ev.inits (Ev.un l 0).length ((Ev.un l 0).length / 2) (Ev.un l 0)) (Ev.needs l need) [] k (al_len l 0) hl (al_pw l 0) (al_ok l h3 0) (by rw [al_un]; exact hp) (by rw [hil]; exact hh) hns (by rw [List.length_nil]; omega) hkk
        rw [al_cv, hil] at hr
        exact hr

/-! ### small -/
def abc : ByteArray := ⟨#[97, 98, 99, 100, 101, 102, 103, 104, 105, 106, 107, 108, 109, 110, 111, 112, 113, 114, 115, 116]⟩
def smk (l0 : List Int) (l1 : List Bool) (i : Nat) : S29 := ⟨abc.extract i (i + 1), wrap64 (rd l0 (i : Int)), Int.tmod (wrap64 ((i : Int) * 7)) 11, if i < l1.length then rdOf false l1 (i : Int) else false⟩
def sml (l0 : List Int) (l1 : List Bool) : List S29 := (List.range (min l0.length 20)).map (smk l0 l1)
theorem sml_len (l0 : List Int) (l1 : List Bool) : (sml l0 l1).length = min l0.length 20 := by unfold sml; rw [List.length_map, List.length_range]
theorem small_l0 (l0 : List Int) (l1 : List Bool) (d : Nat) : ∀ (k i : Nat), i + d = min l0.length 20 → d < k →
    cubbylaw20_small.l0 k l0 l1 ((List.range i).map (smk l0 l1)) (i : Int) = some (sml l0 l1) := by
  induction d with
  | zero =>
    intro k i hi hk
    obtain ⟨k, rfl⟩ : ∃ m, k = m + 1 := ⟨k - 1, by omega⟩
    rw [cubbylaw20_small.l0]
    have e : sml l0 l1 = (List.range i).map (smk l0 l1) := by unfold sml; rw [← hi, Nat.add_zero]
    by_cases h : (i : Int) < (l0.length : Int)
    · rw [if_pos h, if_neg (by omega), e]
    · rw [if_neg h, e]
  | succ d ih =>
    intro k i hi hk
    obtain ⟨k, rfl⟩ : ∃ m, k = m + 1 := ⟨k - 1, by omega⟩
    have hw := wrap_ix i (by omega)
    have hq : ((List.range i).map (smk l0 l1)).length < 3518437208883 := by
      rw [List.length_map, List.length_range]
      exact Nat.lt_of_lt_of_le (show i < 20 by omega) (by decide)
    have hs : (List.range (i + 1)).map (smk l0 l1) = (List.range i).map (smk l0 l1) ++ [smk l0 l1 i] := by
      rw [List.range_succ, List.map_append]
      rfl
    have h := ih k (i + 1) (by omega) (by omega)
    rw [hs] at h
    rw [cubbylaw20_small.l0, if_pos (by omega), if_pos (by omega), if_pos (by omega), hw, if_pos (by omega), if_pos (by omega), show ((i : Int)).toNat = i from Int.toNat_natCast i, show (((i + 1 : Nat) : Int)).toNat = i + 1 from Int.toNat_natCast (i + 1)]
    by_cases c : i < l1.length
    · rw [if_pos (by omega), if_pos hq]
      have e : smk l0 l1 i = ⟨abc.extract i (i + 1), wrap64 (rd l0 (i : Int)), Int.tmod (wrap64 ((i : Int) * 7)) 11, rdOf false l1 (i : Int)⟩ := by unfold smk; rw [if_pos c]
      rw [e] at h
      exact h
    · rw [if_neg (by omega), if_pos hq]
      have e : smk l0 l1 i = ⟨abc.extract i (i + 1), wrap64 (rd l0 (i : Int)), Int.tmod (wrap64 ((i : Int) * 7)) 11, false⟩ := by unfold smk; rw [if_neg c]
      rw [e] at h
      exact h
theorem small_f (l0 : List Int) (l1 : List Bool) (k : Nat) (hk : 30 ≤ k) : cubbylaw20_small.f k l0 l1 = some (sml l0 l1) :=
  small_l0 l0 l1 (min l0.length 20) k 0 (by omega) (by omega)
theorem smk_f1 (l0 : List Int) (l1 : List Bool) (h : ∀ x ∈ l0, (Lit.int .u8 x).wf = true) (i : Nat) (hi : i < l0.length) : 0 ≤ (smk l0 l1 i).f1 ∧ (smk l0 l1 i).f1 ≤ 255 := by
  have e : rd l0 (i : Int) = l0[i] := by
    unfold rd
    simp [List.getD_eq_getElem?_getD, hi]
  have hx := h l0[i] (List.getElem_mem hi)
  have hb : 0 ≤ l0[i] ∧ l0[i] ≤ 255 := by
    simp [Lit.wf, IntKind.min, IntKind.max, IntKind.signed, IntKind.bits] at hx
    omega
  show 0 ≤ wrap64 (rd l0 (i : Int)) ∧ wrap64 (rd l0 (i : Int)) ≤ 255
  rw [e, wrap64_in _ (by omega) (by omega)]
  exact hb
theorem sml_f1 (l0 : List Int) (l1 : List Bool) (h : ∀ x ∈ l0, (Lit.int .u8 x).wf = true) : ∀ x ∈ sml l0 l1, 0 ≤ x.f1 ∧ x.f1 ≤ 255 := by
  intro x hx
  unfold sml at hx
  obtain ⟨i, hi, rfl⟩ := List.mem_map.1 hx
  rw [List.mem_range] at hi
  exact smk_f1 l0 l1 h i (by omega)

/-! ### What the pops leave -/
theorem sm_perm {l r : List Ev.E} (h : l.Perm r) : sm l = sm r := by
  induction h with
  | nil => rfl
  | cons x _ ih => rw [sm, sm, ih]
  | swap x y l => rw [sm, sm, sm, sm]; omega
  | trans _ _ ih1 ih2 => exact ih1.trans ih2
theorem pop_perm (zs : List Ev.E) (m : Nat) (hl : zs.length = m + 1) (ys : List Ev.E) (hy : Ev.down (Ev.swap zs 0 m) m 0 = ys) : zs.Perm (ys.getD m Ev.z :: ys.take m) ∧ (ys.take m).length = m := by
  have hsl : (Ev.swap zs 0 m).length = m + 1 := by rw [Ev.swap_len, hl]
  have hyl : ys.length = m + 1 := by rw [← hy, Ev.down_len, hsl]
  have h1 : ys.Perm zs := by rw [← hy]; exact (down_perm m m 0 _ (by omega) (by omega)).trans (swap_perm zs (by omega) (by omega))
  have h2 : ys = ys.take m ++ [ys.getD m Ev.z] := by
    rw [List.getD_eq_getElem?_getD, List.getElem?_eq_getElem (by omega)]
    have := List.take_append_getElem (l := ys) (i := m) (by omega)
    rw [List.take_of_length_le (by omega : ys.length ≤ m + 1)] at this
    exact this.symm
  refine ⟨h1.symm.trans ?_, by rw [List.length_take]; omega⟩
  have h4 : (ys.getD m Ev.z :: ys.take m).Perm (ys.take m ++ [ys.getD m Ev.z]) := (List.perm_append_comm (l₁ := [ys.getD m Ev.z]) (l₂ := ys.take m))
  rw [← h2] at h4
  exact h4.symm
/-- With an answer of OK: who went, so that what is left fits; without the last it did not. -/
theorem pops_trace (room : Int) : ∀ (m : Nat) (zs : List Ev.E) (nd : Int) (out : List ByteArray), zs.length = m → m ≤ 4096 → (∀ e ∈ zs, okE e) → 0 ≤ nd - sm zs → nd ≤ 9000000000000000000 →
    (∃ P rest, zs.Perm (P ++ rest) ∧ Ev.pops room m zs nd out = (out ++ P.map (fun e => e.1.f0), 0) ∧ nd - sm P ≤ room ∧ (∀ p, P.getLast? = some p → nd - sm P + p.1.f1 > room)) ∨
    (Ev.pops room m zs nd out = ([], 221) ∧ nd - sm zs > room) := by
  intro m
  induction m with
  | zero =>
    intro zs nd out hl hm hok h1 h2
    have e : zs = [] := List.eq_nil_of_length_eq_zero hl
    subst e
    rw [Ev.pops]
    by_cases c : nd > room
    · right
      rw [if_pos c]
      exact ⟨rfl, by simp [sm]; omega⟩
    · left
      rw [if_neg c]
      exact ⟨[], [], List.Perm.refl _, by simp, by simp [sm]; omega, by simp⟩
  | succ m ih =>
    intro zs nd out hl hm hok h1 h2
    rw [Ev.pops]
    by_cases c : nd > room
    · rw [if_pos c]
      generalize hys : Ev.down (Ev.swap zs 0 m) m 0 = ys
      obtain ⟨p1, p2⟩ := pop_perm zs m hl ys hys
      generalize ys.getD m Ev.z = x at p1 ⊢
      generalize ys.take m = zs' at p1 p2 ⊢
      have hsm : sm zs = x.1.f1 + sm zs' := by rw [sm_perm p1, sm]
      have hok' : ∀ e ∈ zs', okE e := fun e he => hok e (p1.symm.mem_iff.1 (List.mem_cons_of_mem _ he))
      have hx : okE x := hok x (p1.symm.mem_iff.1 List.mem_cons_self)
      have hb := sm_in zs' hok' (by omega)
      unfold okE at hx
      have hw : wrap64 (nd - x.1.f1) = nd - x.1.f1 := wrap64_in _ (by omega) (by omega)
      rw [hw]
      rcases ih zs' (nd - x.1.f1) (out ++ [x.1.f0]) p2 (by omega) hok' (by omega) (by omega) with ⟨P, rest, q1, q2, q3, q4⟩ | ⟨q1, q2⟩
      · left
        refine ⟨x :: P, rest, p1.trans (List.Perm.cons x q1), ?_, ?_, ?_⟩
        · rw [q2, List.map_cons, List.append_assoc]
          rfl
        · rw [sm]; omega
        · intro p hp
          cases P with
          | nil =>
            simp at hp
            subst hp
            simp [sm]
            omega
          | cons y P =>
            rw [List.getLast?_cons_cons] at hp
            have := q4 p hp
            rw [sm]
            omega
      · right
        exact ⟨q1, by omega⟩
    · left
      rw [if_neg c]
      exact ⟨[], zs, List.Perm.refl _, by simp, by simp [sm]; omega, by simp⟩

/-! ### The last -/
theorem mem_len0 {zs : List Ev.E} {e : Ev.E} (h : e ∈ zs) : 0 < zs.length := List.length_pos_of_mem h
/-- Where all must go, the greatest goes last. -/
theorem pops_last (t : Ev.E) : ∀ (m : Nat) (zs : List Ev.E) (nd : Int) (out : List ByteArray), zs.length = m → m ≤ 4096 → Hs zs m 0 → zs.Nodup → (∀ e ∈ zs, 1 ≤ e.1.f1 ∧ e.1.f1 ≤ 1073741824) → t ∈ zs → (∀ e ∈ zs, e = t ∨ Ev.lt e t = true) → nd = sm zs →
    ∃ Q : List ByteArray, Q.length + 1 = m ∧ Ev.pops 0 m zs nd out = (out ++ (Q ++ [t.1.f0]), 0) := by
  intro m
  induction m with
  | zero =>
    intro zs nd out hl _ _ _ _ ht
    have := mem_len0 ht
    omega
  | succ m ih =>
    intro zs nd out hl hm hh hnd hok ht hlast hn
    obtain ⟨p1, p2, p3, p4⟩ := heap_pop zs m hl hh _ rfl
    have p5 := (pop_perm zs m hl _ rfl).2
    rw [Ev.pops]
    generalize Ev.down (Ev.swap zs 0 m) m 0 = ys at p1 p2 p3 p5 ⊢
    rw [p1]
    generalize zs.getD 0 Ev.z = x at p1 p3 p4 ⊢
    generalize ys.take m = zs' at p2 p3 p5 ⊢
    have hx : x ∈ zs := p3.symm.mem_iff.1 List.mem_cons_self
    have hx1 := hok x hx
    have hok' : ∀ e ∈ zs', 1 ≤ e.1.f1 ∧ e.1.f1 ≤ 1073741824 := fun e he => hok e (p3.symm.mem_iff.1 (List.mem_cons_of_mem _ he))
    have hs : sm zs = x.1.f1 + sm zs' := by rw [sm_perm p3, sm]
    have hb := sm_in zs' (fun e he => by have := hok' e he; unfold okE; omega) (by omega)
    rw [if_pos (by omega), wrap64_in _ (by omega) (by omega)]
    have nd' := p3.nodup_iff.1 hnd
    rw [List.nodup_cons] at nd'
    by_cases hm0 : m = 0
    · subst hm0
      have e0 : zs' = [] := List.eq_nil_of_length_eq_zero p5
      subst e0
      have hxt : t = x := by
        have := p3.mem_iff.1 ht
        simpa using this
      subst hxt
      refine ⟨[], rfl, ?_⟩
      rw [Ev.pops, if_neg (by simp [sm] at hs; omega)]
      rfl
    · have hxt : x ≠ t := by
        rintro rfl
        obtain ⟨e, he⟩ : ∃ e, e ∈ zs' := by
          cases zs' with
          | nil => simp at p5; omega
          | cons e r => exact ⟨e, List.mem_cons_self⟩
        have hez : e ∈ zs := p3.symm.mem_iff.1 (List.mem_cons_of_mem _ he)
        rcases hlast e hez with rfl | h
        · exact nd'.1 he
        · rw [p4 e hez] at h; cases h
      have ht' : t ∈ zs' := by
        rcases List.mem_cons.1 (p3.mem_iff.1 ht) with h | h
        · exact absurd h.symm hxt
        · exact h
      obtain ⟨Q, q1, q2⟩ := ih zs' (nd - x.1.f1) (out ++ [x.1.f0]) p5 (by omega) p2 nd'.2 hok' ht' (fun e he => hlast e (p3.symm.mem_iff.1 (List.mem_cons_of_mem _ he))) (by omega)
      refine ⟨x.1.f0 :: Q, by rw [List.length_cons, q1], ?_⟩
      rw [q2, List.append_assoc]
      rfl
theorem al_nodup (l : List S29) (i : Nat) : (al l i).Nodup := (al_pw l i).imp (fun {a b} h e => by subst e; exact Int.lt_irrefl _ h)
theorem abc_key0 : ∀ i : Fin 20, (abc.extract i.val (i.val + 1)).data.toList = [UInt8.ofNat (97 + i.val)] := by decide
theorem abc_key (i : Fin 20) : (abc.extract i.val (i.val + 1)).toList = [UInt8.ofNat (97 + i.val)] := by rw [ByteArray.toList_eq]; exact abc_key0 i
theorem key_ne (i j : Nat) (hi : i < 20) (hj : j < 20) (h : (abc.extract i (i + 1)).toList = (abc.extract j (j + 1)).toList) : i = j := by
  have h1 := abc_key ⟨i, hi⟩
  have h2 := abc_key ⟨j, hj⟩
  simp only at h1 h2
  rw [h1, h2] at h
  injection h with h
  have := congrArg UInt8.toNat h
  rw [UInt8.toNat_ofNat', UInt8.toNat_ofNat'] at this
  omega
theorem sml_get (l0 : List Int) (l1 : List Bool) (i : Nat) (h : i < (sml l0 l1).length) : (sml l0 l1)[i] = smk l0 l1 i := by
  have e : (sml l0 l1)[i]? = some (smk l0 l1 i) := by
    have h2 := h
    rw [sml_len] at h2
    unfold sml
    rw [List.getElem?_map, List.getElem?_range h2]
    rfl
  rw [List.getElem?_eq_getElem h] at e
  exact Option.some.inj e

theorem rd29 (l : List S29) (i : Nat) (h : i < l.length) : rd_T29 l (i : Int) = l[i] := by
  unfold rd_T29
  simp [List.getD_eq_getElem?_getD, h]

theorem theirs_l0 (l : List S29) (hl : l.length ≤ 100) (d : Nat) : ∀ (k i : Nat) (acc : List S30), i + d = l.length → d < k → acc.length ≤ i → cubbylaw20_theirs.l0 k l acc (i : Int) = some (acc ++ (l.drop i).map conv) := by
  induction d with
  | zero =>
    intro k i acc hi hk _
    obtain ⟨k, rfl⟩ : ∃ m, k = m + 1 := ⟨k - 1, by omega⟩
    simp only [cubbylaw20_theirs.l0]
    rw [if_neg (by omega), List.drop_eq_nil_of_le (by omega)]
    simp
  | succ d ih =>
    intro k i acc hi hk ha
    obtain ⟨k, rfl⟩ : ∃ m, k = m + 1 := ⟨k - 1, by omega⟩
    have hlt : i < l.length := by omega
    simp only [cubbylaw20_theirs.l0]
    rw [if_pos (by omega), if_pos (by omega), if_pos (by omega), rd29 l i hlt, wrap64_in _ (by omega) (by omega)]
    have := ih k (i + 1) (acc ++ [conv l[i]]) (by omega) (by omega) (by simp; omega)
    rw [List.append_assoc] at this
    rw [List.drop_eq_getElem_cons hlt, List.map_cons]
    exact this

def mp (t : S29 → S29) (l : List S29) (i : Nat) : List S29 := (l.take i).map t ++ l.drop i
theorem mp_len (t : S29 → S29) (l : List S29) (i : Nat) (h : i ≤ l.length) : (mp t l i).length = l.length := by simp [mp]; omega
theorem mp_get (t : S29 → S29) (l : List S29) (i : Nat) (h : i < l.length) : rd_T29 (mp t l i) (i : Int) = l[i] := by
  have hl : ((l.take i).map t).length = i := by simp; omega
  unfold rd_T29 mp
  rw [List.getD_eq_getElem?_getD, show ((i : Int)).toNat = i by omega, List.getElem?_append_right (by omega), hl, Nat.sub_self, List.getElem?_drop, Nat.add_zero, List.getElem?_eq_getElem h]
  rfl
theorem mp_set (t : S29 → S29) (l : List S29) (i : Nat) (h : i < l.length) : (mp t l i).set i (t l[i]) = mp t l (i + 1) := by
  have hl : ((l.take i).map t).length = i := by simp; omega
  unfold mp
  rw [List.set_append_right _ _ (by omega), hl, Nat.sub_self, List.drop_eq_getElem_cons h, List.set_cons_zero, List.take_succ_eq_append_getElem h, List.map_append, List.append_assoc]
  rfl

def bump (u : Int) : Int := if u < 1073741824 then wrap64 (u + 1) else u
def tch (a : ByteArray) (u : Int) (x : S29) : S29 := if x.f0.toList = a.toList then ⟨x.f0, x.f1, u, x.f3⟩ else x
theorem mp_same (t : S29 → S29) (l : List S29) (i : Nat) (h : i < l.length) (e : t l[i] = l[i]) : mp t l i = mp t l (i + 1) := by
  have hl : ((l.take i).map t).length = i := by simp; omega
  unfold mp
  rw [List.drop_eq_getElem_cons h, List.take_succ_eq_append_getElem h, List.map_append, List.append_assoc]
  simp [e]
theorem touch_l1 (l : List S29) (a : ByteArray) (u : Int) (hl : l.length ≤ 100) (d : Nat) : ∀ (k i : Nat), i + d = l.length → d < k → evict_Touch.l1 k a u (mp (tch a u) l i) (l.length : Int) (i : Int) = some (l.map (tch a u)) := by
  induction d with
  | zero =>
    intro k i hi hk
    obtain ⟨k, rfl⟩ : ∃ m, k = m + 1 := ⟨k - 1, by omega⟩
    obtain rfl : i = l.length := by omega
    simp only [evict_Touch.l1]
    rw [if_neg (by omega)]
    simp [mp]
  | succ d ih =>
    intro k i hi hk
    obtain ⟨k, rfl⟩ : ∃ m, k = m + 1 := ⟨k - 1, by omega⟩
    have hlt : i < l.length := by omega
    have hlen := mp_len (tch a u) l i (by omega)
    simp only [evict_Touch.l1]
    rw [if_pos (by omega), if_pos (by omega), if_pos (by omega), mp_get _ l i hlt, wrap64_in _ (by omega) (by omega)]
    by_cases h : (l[i]).f0.toList = a.toList
    · rw [if_pos h]
      have e : (⟨(l[i]).f0, (l[i]).f1, u, (l[i]).f3⟩ : S29) = tch a u l[i] := by unfold tch; rw [if_pos h]
      rw [e, show ((i : Int)).toNat = i by omega, mp_set _ l i hlt]
      exact ih k (i + 1) (by omega) (by omega)
    · rw [if_neg h, mp_same (tch a u) l i hlt (by unfold tch; rw [if_neg h])]
      exact ih k (i + 1) (by omega) (by omega)
theorem touch_l0 (l : List S29) (a : ByteArray) (hl : l.length ≤ 100) (d : Nat) : ∀ (k i : Nat) (u : Int), i + d = l.length → d + 200 < k →
    evict_Touch.l0 k l a u l (l.length : Int) (i : Int) = some (l.map (tch a (bump ((l.drop i).foldl (fun u x => mx u x.f2) u)))) := by
  induction d with
  | zero =>
    intro k i u hi hk
    obtain ⟨k, rfl⟩ : ∃ m, k = m + 2 := ⟨k - 2, by omega⟩
    have key : ∀ u', evict_Touch.j1 (k + 1) l a u' = some (l.map (tch a u')) := by
      intro u'
      simp only [evict_Touch.j1, evict_Entry_15.f]
      rw [if_pos (by omega)]
      simp only [Option.bind_some]
      have := touch_l1 l a u' hl l.length k 0 (by omega) (by omega)
      simpa [mp] using this
    show evict_Touch.l0 ((k + 1) + 1) l a u l (l.length : Int) (i : Int) = _
    simp only [evict_Touch.l0]
    rw [if_neg (by omega), List.drop_eq_nil_of_le (by omega), List.foldl_nil]
    unfold bump
    by_cases h : u < 1073741824
    · rw [if_pos h, if_pos h]; exact key _
    · rw [if_neg h, if_neg h]; exact key _
  | succ d ih =>
    intro k i u hi hk
    obtain ⟨k, rfl⟩ : ∃ m, k = m + 1 := ⟨k - 1, by omega⟩
    have hlt : i < l.length := by omega
    simp only [evict_Touch.l0]
    rw [if_pos (by omega), if_pos (by omega), if_pos (by omega), rd29 l i hlt, wrap64_in _ (by omega) (by omega)]
    have := ih k (i + 1) (mx u (l[i]).f2) (by omega) (by omega)
    rw [List.drop_eq_getElem_cons hlt, List.foldl_cons]
    exact this

def plus1 (x : S29) : S29 := ⟨x.f0, wrap64 (x.f1 + 1), x.f2, x.f3⟩
theorem mp_all (t : S29 → S29) (l : List S29) : mp t l l.length = l.map t := by
  unfold mp
  rw [List.take_of_length_le (Nat.le_refl _), List.drop_eq_nil_of_le (Nat.le_refl _), List.append_nil]
theorem mp_zero (t : S29 → S29) (l : List S29) : mp t l 0 = l := by unfold mp; simp
theorem mp_get1 (t : S29 → S29) (l : List S29) (i : Nat) (h : i < l.length) : rd_T29 (mp t l (i + 1)) (i : Int) = t l[i] := by
  rw [← mp_set t l i h]
  unfold rd_T29
  have hl := mp_len t l i (by omega)
  rw [List.getD_eq_getElem?_getD, show ((i : Int)).toNat = i by omega, List.getElem?_set_self (by omega)]
  rfl
theorem last_l0 (L : List S29) (hl : L.length ≤ 20) (key : ByteArray) (d : Nat) : ∀ (k i : Nat) (n : Int), i + d = L.length →
    cubbylaw20_EvictLast.l0 (d + 1 + k) (mp plus1 L i) key n (i : Int) = cubbylaw20_EvictLast.l0 (k + 1) (L.map plus1) key (Ev.needs ((L.drop i).map plus1) n) (L.length : Int) := by
  induction d with
  | zero =>
    intro k i n hi
    have e : i = L.length := by omega
    subst e
    rw [mp_all, List.drop_eq_nil_of_le (Nat.le_refl _), show 0 + 1 + k = k + 1 by omega]
    rfl
  | succ d ih =>
    intro k i n hi
    have hlt : i < L.length := by omega
    have hm := mp_len plus1 L i (by omega)
    have hs := mp_set plus1 L i hlt
    have h := ih k (i + 1) (wrap64 (n + (plus1 L[i]).f1)) (by omega)
    rw [show d + 1 + 1 + k = (d + 1 + k) + 1 by omega]
    conv => lhs; rw [cubbylaw20_EvictLast.l0]
    rw [if_pos (by rw [hm]; omega), if_pos (by omega), mp_get _ L i hlt, show ((i : Int)).toNat = i from Int.toNat_natCast i]
    have e : (⟨(L[i]).f0, wrap64 ((L[i]).f1 + 1), (L[i]).f2, (L[i]).f3⟩ : S29) = plus1 L[i] := rfl
    rw [e, hs, Option.bind_some, mp_get1 _ L i hlt, wrap_ix i (by omega), h, List.drop_eq_getElem_cons hlt, List.map_cons, Ev.needs]
theorem vic_good (l : List S29) (need room : Int) (h1 : 0 ≤ need ∧ need ≤ 1073741824) (h2 : 0 ≤ room ∧ room ≤ 1073741824) (hl : l.length ≤ 4096) (hw : l.any Ev.wild = false) (k : Nat) :
    evict_Victims.f k l need room = some (Ev.pops room (Ev.un l 0).length (Ev.inits (Ev.un l 0).length ((Ev.un l 0).length / 2) (Ev.un l 0)) (Ev.needs l need) []) := by
  unfold evict_Victims.f
  have i1 : Ev.inr need = true := by unfold Ev.inr; rw [decide_eq_true h1.1, decide_eq_true h1.2]; rfl
  have i2 : Ev.inr room = true := by unfold Ev.inr; rw [decide_eq_true h2.1, decide_eq_true h2.2]; rfl
  rw [if_pos ⟨i1, i2, hl, hw⟩]
theorem small_wild (l : List S29) (h : ∀ x ∈ l, 0 ≤ x.f1 ∧ x.f1 ≤ 1073741824) : l.any Ev.wild = false := by
  rw [List.any_eq_false]
  intro x hx
  have := h x hx
  unfold Ev.wild Ev.inr
  rw [decide_eq_true this.1, decide_eq_true this.2]
  decide
theorem un_of (l : List S29) (h : ∀ x ∈ l, x.f3 = false) : ∀ i, Ev.un l i = al l i := by
  induction l with
  | nil => intro i; rfl
  | cons x r ih =>
    intro i
    have hx := h x List.mem_cons_self
    rw [Ev.un, if_neg (by rw [hx]; decide), ih (fun y hy => h y (List.mem_cons_of_mem _ hy)), al]
theorem al_get (l : List S29) : ∀ (s i : Nat), (al l s)[i]? = (l[i]?).map (fun x => (x, ((s + i : Nat) : Int))) := by
  induction l with
  | nil => intro s i; rfl
  | cons x r ih =>
    intro s i
    rw [al]
    cases i with
    | zero => rfl
    | succ i =>
      rw [List.getElem?_cons_succ, List.getElem?_cons_succ, ih (s + 1) i, show s + 1 + i = s + (i + 1) by omega]
theorem al_idx (l : List S29) (e : Ev.E) (he : e ∈ al l 0) : ∃ (i : Nat) (h : i < l.length), e = (l[i], (i : Int)) := by
  obtain ⟨i, hi, rfl⟩ := List.getElem_of_mem he
  have hl : i < l.length := by rw [al_len] at hi; exact hi
  have h := al_get l 0 i
  rw [List.getElem?_eq_getElem hi, List.getElem?_eq_getElem hl, Nat.zero_add] at h
  exact ⟨i, hl, Option.some.inj h⟩
theorem al_at (l : List S29) (i : Nat) (h : i < l.length) : (l[i], (i : Int)) ∈ al l 0 := by
  have h2 := al_get l 0 i
  rw [List.getElem?_eq_getElem h, Nat.zero_add] at h2
  exact List.mem_of_getElem? h2
theorem fold_ge (l : List S29) : ∀ u : Int, u ≤ l.foldl (fun u x => mx u x.f2) u ∧ ∀ x ∈ l, x.f2 ≤ l.foldl (fun u x => mx u x.f2) u := by
  induction l with
  | nil => intro u; exact ⟨Int.le_refl _, fun x hx => by cases hx⟩
  | cons y r ih =>
    intro u
    obtain ⟨h1, h2⟩ := ih (mx u y.f2)
    have hm : u ≤ mx u y.f2 ∧ y.f2 ≤ mx u y.f2 := by unfold mx; split <;> omega
    rw [List.foldl_cons]
    refine ⟨by omega, fun x hx => ?_⟩
    rcases List.mem_cons.1 hx with rfl | hx
    · omega
    · exact h2 x hx
theorem fold_le (l : List S29) (b : Int) (h : ∀ x ∈ l, x.f2 ≤ b) : ∀ u : Int, u ≤ b → l.foldl (fun u x => mx u x.f2) u ≤ b := by
  induction l with
  | nil => intro u hu; exact hu
  | cons y r ih =>
    intro u hu
    have hy := h y List.mem_cons_self
    rw [List.foldl_cons]
    exact ih (fun x hx => h x (List.mem_cons_of_mem _ hx)) _ (by unfold mx; split <;> omega)
theorem smk_f2 (l0 : List Int) (l1 : List Bool) (i : Nat) (h : i < 20) : 0 ≤ (smk l0 l1 i).f2 ∧ (smk l0 l1 i).f2 ≤ 10 := by
  show 0 ≤ Int.tmod (wrap64 ((i : Int) * 7)) 11 ∧ Int.tmod (wrap64 ((i : Int) * 7)) 11 ≤ 10
  rw [wrap64_in _ (by omega) (by omega), Int.tmod_eq_emod_of_nonneg (by omega)]
  omega
theorem smk_f3 (l0 : List Int) (i : Nat) : (smk l0 [] i).f3 = false := by
  show (if i < ([] : List Bool).length then rdOf false [] (i : Int) else false) = false
  exact if_neg (Nat.not_lt_zero i)
theorem EvictLast : cubbylaw20_EvictLast.Pure := by
  intro l0 a1 _ _ h8 h1
  have b1 : 0 ≤ a1 ∧ a1 ≤ 255 := by
    simp [Lit.wf, IntKind.min, IntKind.max, IntKind.signed, IntKind.bits] at h1
    omega
  have hL := sml_len l0 []
  have hf := sml_f1 l0 [] h8
  have hg := fun i h => sml_get l0 [] i h
  refine ⟨30000100, ?_⟩
  generalize hK : (30000100 : Nat) = K
  have hK : 30000100 ≤ K := by omega
  unfold cubbylaw20_EvictLast.f
  rw [small_f l0 [] K (by omega), Option.bind_some]
  generalize sml l0 [] = L at hL hf hg
  have w1 : wrap64 a1 = a1 := wrap64_in _ (by omega) (by omega)
  have hl : L.length ≤ 20 := by omega
  by_cases h0 : (L.length : Int) = 0
  · have e : L = [] := List.eq_nil_of_length_eq_zero (by omega)
    subst e
    rw [if_pos h0, vic_good [] 1 0 (by decide) (by decide) (by decide) rfl K]
    rfl
  · rw [if_neg h0, w1]
    have hm : Int.tmod a1 (L.length : Int) = a1 % (L.length : Int) := Int.tmod_eq_emod_of_nonneg (by omega)
    obtain ⟨ai, hai⟩ : ∃ n : Nat, a1 % (L.length : Int) = (n : Int) := ⟨(a1 % (L.length : Int)).toNat, by have := Int.emod_nonneg a1 h0; omega⟩
    have hlt : ai < L.length := by have := Int.emod_lt_of_pos a1 (show (0 : Int) < (L.length : Int) by omega); omega
    rw [hm, hai, if_pos (by omega), if_pos (by omega), rd29 L ai hlt]
    have hkey : (L[ai]).f0 = abc.extract ai (ai + 1) := by rw [hg ai hlt]; rfl
    generalize hkk : (L[ai]).f0 = key at hkey ⊢
    obtain ⟨k, rfl⟩ : ∃ m, K = L.length + 1 + m := ⟨K - (L.length + 1), by omega⟩
    have h := last_l0 L hl key L.length k 0 0 (by omega)
    rw [mp_zero, List.drop_zero] at h
    have h' : cubbylaw20_EvictLast.l0 (L.length + 1 + k) L key 0 0 = cubbylaw20_EvictLast.l0 (k + 1) (L.map plus1) key (Ev.needs (L.map plus1) 0) (L.length : Int) := h
    rw [h']
    clear h h'
    have hfB : ∀ x ∈ L.map plus1, 1 ≤ x.f1 ∧ x.f1 ≤ 256 := by
      intro x hx
      obtain ⟨y, hy, rfl⟩ := List.mem_map.1 hx
      have := hf y hy
      show 1 ≤ wrap64 (y.f1 + 1) ∧ wrap64 (y.f1 + 1) ≤ 256
      rw [wrap64_in _ (by omega) (by omega)]
      omega
    have hgB : ∀ x ∈ L.map plus1, x.f3 = false ∧ 0 ≤ x.f2 ∧ x.f2 ≤ 10 := by
      intro x hx
      obtain ⟨y, hy, rfl⟩ := List.mem_map.1 hx
      obtain ⟨i, hi, rfl⟩ := List.getElem_of_mem hy
      rw [hg i hi]
      have := smk_f2 l0 [] i (by omega)
      exact ⟨smk_f3 l0 i, this⟩
    have hB0 : ∀ (i : Nat) (h : i < (L.map plus1).length), ((L.map plus1)[i]).f0 = abc.extract i (i + 1) := by
      intro i h
      rw [List.getElem_map]
      rw [List.length_map] at h
      show (L[i]).f0 = _
      rw [hg i h]
      rfl
    have hBl : (L.map plus1).length = L.length := List.length_map _
    generalize L.map plus1 = B at *
    have hltB : ai < B.length := by omega
    have htot := needs_sm B (small_wild B (fun x hx => by have := hfB x hx; omega)) 0 0 (by decide) (by
      have : (B.length : Int) * 1073741824 ≤ 20 * 1073741824 := Int.mul_le_mul_of_nonneg_right (by omega) (by decide)
      omega)
    have hokB : ∀ e ∈ al B 0, okE e := al_ok B (small_wild B (fun x hx => by have := hfB x hx; omega)) 0
    have htotb : 0 ≤ sm (al B 0) ∧ sm (al B 0) ≤ 5120 := by
      have hb : ∀ l : List Ev.E, (∀ e ∈ l, 0 ≤ e.1.f1 ∧ e.1.f1 ≤ 256) → 0 ≤ sm l ∧ sm l ≤ (l.length : Int) * 256 := by
        intro l
        induction l with
        | nil => intro _; simp [sm]
        | cons e r ih =>
          intro hh
          have h1 := hh e List.mem_cons_self
          have h2 := ih (fun x hx => hh x (List.mem_cons_of_mem _ hx))
          rw [sm, List.length_cons]
          omega
      have h3 := hb (al B 0) (fun e he => by
        obtain ⟨i, hi, rfl⟩ := al_idx B e he
        have := hfB B[i] (List.getElem_mem hi)
        show 0 ≤ (B[i]).f1 ∧ (B[i]).f1 ≤ 256
        omega)
      have h4 := al_len B 0
      omega
    rw [cubbylaw20_EvictLast.l0, if_neg (by rw [hBl]; omega)]
    have ht : evict_Touch.f k B key = some (B.map (tch key (bump (B.foldl (fun u x => mx u x.f2) (-1))))) := by
      have := touch_l0 B key (by omega) B.length k 0 (-1) (by omega) (by omega)
      rw [List.drop_zero] at this
      exact this
    have hge := fold_ge B (-1)
    have hle := fold_le B 10 (fun x hx => (hgB x hx).2.2) (-1) (by decide)
    rw [ht, Option.bind_some]
    generalize B.foldl (fun u x => mx u x.f2) (-1) = u at hge hle
    have hbu : bump u = u + 1 := by unfold bump; rw [if_pos (by omega)]; exact wrap64_in _ (by omega) (by omega)
    rw [hbu]
    have hT1 : ∀ x, (tch key (u + 1) x).f1 = x.f1 := by intro x; unfold tch; split <;> rfl
    have hT3 : ∀ x, (tch key (u + 1) x).f3 = x.f3 := by intro x; unfold tch; split <;> rfl
    have hT0 : ∀ x, (tch key (u + 1) x).f0 = x.f0 := by intro x; unfold tch; split <;> rfl
    have hTw : (B.map (tch key (u + 1))).any Ev.wild = false := small_wild _ (fun x hx => by
      obtain ⟨y, hy, rfl⟩ := List.mem_map.1 hx
      have := hfB y hy
      rw [hT1]
      omega)
    have hv := vic_good (B.map (tch key (u + 1))) 0 0 (by decide) (by decide) (by rw [List.length_map]; omega) hTw k
    rw [un_of _ (fun x hx => by
      obtain ⟨y, hy, rfl⟩ := List.mem_map.1 hx
      rw [hT3]
      exact (hgB y hy).1)] at hv
    have htl : (B.map (tch key (u + 1))).length = L.length := by rw [List.length_map, hBl]
    have hns := needs_sm (B.map (tch key (u + 1))) hTw 0 0 (by decide) (by
      have : ((B.map (tch key (u + 1))).length : Int) * 1073741824 ≤ 20 * 1073741824 := Int.mul_le_mul_of_nonneg_right (by omega) (by decide)
      omega)
    rw [hns, Int.add_zero] at hv
    have hmem : ∀ e ∈ al (B.map (tch key (u + 1))) 0, ∃ (i : Nat) (h : i < B.length), e = (tch key (u + 1) B[i], (i : Int)) := fun e he => by
      obtain ⟨i, hi, rfl⟩ := al_idx _ e he
      rw [List.length_map] at hi
      exact ⟨i, hi, by rw [List.getElem_map]⟩
    have ht1 : (tch key (u + 1) B[ai], (ai : Int)) ∈ al (B.map (tch key (u + 1))) 0 := by
      have := al_at (B.map (tch key (u + 1))) ai (by rw [List.length_map]; exact hltB)
      rw [List.getElem_map] at this
      exact this
    have hnod := al_nodup (B.map (tch key (u + 1))) 0
    have hall := al_len (B.map (tch key (u + 1))) 0
    have hpw := al_pw (B.map (tch key (u + 1))) 0
    generalize al (B.map (tch key (u + 1))) 0 = R at hv hmem ht1 hnod hall hpw
    obtain ⟨hh, hp⟩ := heap_init R
    have hil := Ev.inits_len R.length (R.length / 2) R
    generalize Ev.inits R.length (R.length / 2) R = zs at hv hh hp hil
    have hk0 : (B[ai]).f0 = key := by rw [hB0 ai hltB, hkey]
    have hkey1 : tch key (u + 1) B[ai] = ⟨(B[ai]).f0, (B[ai]).f1, u + 1, (B[ai]).f3⟩ := by unfold tch; rw [if_pos (by rw [hk0])]
    obtain ⟨Q, hq1, hq2⟩ := pops_last (tch key (u + 1) B[ai], (ai : Int)) R.length zs (sm R) [] hil (by omega) hh (hp.nodup_iff.2 hnod) (fun e he => by
        obtain ⟨i, hi, rfl⟩ := hmem e (hp.mem_iff.1 he)
        have := hfB B[i] (List.getElem_mem hi)
        show 1 ≤ (tch key (u + 1) B[i]).f1 ∧ (tch key (u + 1) B[i]).f1 ≤ 1073741824
        rw [hT1]
        omega) (hp.mem_iff.2 ht1) (fun e he => by
        obtain ⟨i, hi, rfl⟩ := hmem e (hp.mem_iff.1 he)
        by_cases c : (B[i]).f0.toList = key.toList
        · left
          rw [hB0 i hi, hkey] at c
          have := key_ne i ai (by omega) (by omega) c
          subst this
          rfl
        · right
          have e3 : tch key (u + 1) B[i] = B[i] := by unfold tch; rw [if_neg c]
          have hyu := hge.2 B[i] (List.getElem_mem hi)
          rw [lt_iff]
          left
          show (tch key (u + 1) B[i]).f2 < (tch key (u + 1) B[ai]).f2
          rw [e3, hkey1]
          show (B[i]).f2 < u + 1
          omega) (sm_perm hp).symm
    rw [hq2] at hv
    have htR : cubbylaw20_theirs.f k B = some (B.map conv) := theirs_l0 B (by omega) B.length k 0 [] (by omega) (by omega) (by simp)
    have hr := ref_vic B 0 (Ev.needs B 0) (by omega) k (by omega)
    rw [htot, Int.add_zero] at hr ⊢
    have hv2 := vic_good B 0 (sm (al B 0)) (by decide) (by omega) (by omega) (small_wild B (fun x hx => by have := hfB x hx; omega)) 0
    rw [htot, Int.add_zero] at hv2
    have hp0 : ∀ (m : Nat) (zs : List Ev.E), Ev.pops (sm (al B 0)) m zs (sm (al B 0)) [] = ([], 0) := by
      intro m zs
      cases m with
      | zero => rw [Ev.pops, if_neg (Int.lt_irrefl _)]
      | succ m => rw [Ev.pops, if_neg (Int.lt_irrefl _)]
    rw [hp0] at hv2
    rw [hv2] at hr
    rw [hv, Option.bind_some, htR, Option.bind_some, hr, Option.bind_some, if_pos rfl, if_pos rfl]
    have hvl : (([] ++ (Q ++ [(tch key (u + 1) B[ai], (ai : Int)).1.f0]) : List ByteArray).length) = L.length := by
      rw [List.nil_append, List.length_append, List.length_singleton]
      omega
    have hfin : (tch key (u + 1) B[ai], (ai : Int)).1.f0 = key := by
      show (tch key (u + 1) B[ai]).f0 = key
      rw [hT0, hk0]
    generalize (tch key (u + 1) B[ai], (ai : Int)).1.f0 = y at hvl hfin ⊢
    subst hfin
    rw [if_pos (by rw [hvl, hBl]), hvl, wrap64_in _ (by omega) (by omega), if_pos (by omega), if_pos (by omega)]
    have hrd : rdOf ByteArray.empty ([] ++ (Q ++ [y])) ((L.length : Int) - 1) = y := by
      unfold rdOf
      rw [List.nil_append, show ((L.length : Int) - 1).toNat = Q.length by omega, List.getD_eq_getElem?_getD, List.getElem?_append_right (Nat.le_refl _), Nat.sub_self]
      rfl
    rw [hrd]
    simp

end Go.Proofs.Ytbpblefamjmkjaa.Pure
