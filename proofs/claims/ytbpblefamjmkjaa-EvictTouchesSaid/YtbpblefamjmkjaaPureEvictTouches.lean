/- The pure law behind EvictTouches: for every input that its bounds let in, the law's function answers true. Conditions: none. -/
import Derived.Test.YtbpblefamjmkjaaPEvictTouchesx2
set_option linter.unusedVariables false
namespace Go.Proofs.Ytbpblefamjmkjaa.Pure
open Go.RowKit Go.Proofs.Ytbpblefamjmkjaa.PEvictTouches Go.Proofs.YtbpblefamjmkjaaW.PrintWords Go.Proofs.YtbpblefamjmkjaaW.PrintLast

theorem wrap64_in (n : Int) (h : -9223372036854775808 ≤ n) (h2 : n < 9223372036854775808) : wrap64 n = n := by unfold wrap64; omega
theorem rd29 (l : List S29) (i : Nat) (h : i < l.length) : rd_T29 l (i : Int) = l[i] := by
  unfold rd_T29
  simp [List.getD_eq_getElem?_getD, h]
theorem rd30 (l : List S30) (i : Nat) (h : i < l.length) : rd_T30 l (i : Int) = l[i] := by
  unfold rd_T30
  simp [List.getD_eq_getElem?_getD, h]
theorem heavy_l0 (l : List S29) (hl : l.length ≤ 9223372036854775806) (d : Nat) : ∀ (k i : Nat) (n : Int), i + d = l.length → d < k → ∃ b, cubbylaw20_heavy.l0 k l n (i : Int) = some b ∧ (b = false → l.length ≤ 100) := by
  have fin : ∀ n : Int, ∃ b, (if n > 2048 then some true else some (decide ((l.length : Int) > 100))) = some b ∧ (b = false → l.length ≤ 100) := by
    intro n
    by_cases h : n > 2048
    · exact ⟨true, by rw [if_pos h], by simp⟩
    · exact ⟨_, by rw [if_neg h], by simp; omega⟩
  induction d with
  | zero =>
    intro k i n hi hk
    obtain ⟨k, rfl⟩ : ∃ m, k = m + 1 := ⟨k - 1, by omega⟩
    obtain ⟨b, h1, h2⟩ := fin n
    refine ⟨b, ?_, h2⟩
    simp only [cubbylaw20_heavy.l0]
    rw [if_neg (by omega)]; exact h1
  | succ d ih =>
    intro k i n hi hk
    obtain ⟨k, rfl⟩ : ∃ m, k = m + 1 := ⟨k - 1, by omega⟩
    simp only [cubbylaw20_heavy.l0]
    rw [if_pos (by omega)]
    by_cases h : n ≤ 2048
    · rw [if_pos h, if_pos (by omega), wrap64_in ((i : Int) + 1) (by omega) (by omega)]
      exact ih k (i + 1) _ (by omega) (by omega)
    · rw [if_neg h]; exact fin n
def bump (u : Int) : Int := if u < 1073741824 then wrap64 (u + 1) else u
/-- What an entry of ours is as one of theirs. -/
def conv (x : S29) : S30 := ⟨x.f0, x.f1, x.f2, x.f3⟩
def tch (a : ByteArray) (u : Int) (x : S29) : S29 := if x.f0.toList = a.toList then ⟨x.f0, x.f1, u, x.f3⟩ else x
def tch' (a : ByteArray) (u : Int) (x : S30) : S30 := if x.f0.toList = a.toList then ⟨x.f0, x.f1, u, x.f3⟩ else ⟨x.f0, x.f1, x.f2, x.f3⟩
theorem conv_tch (a : ByteArray) (u : Int) (x : S29) : conv (tch a u x) = tch' a u (conv x) := by
  unfold tch tch' conv
  by_cases h : x.f0.toList = a.toList
  · rw [if_pos h, if_pos h]
  · rw [if_neg h, if_neg h]
def mp (t : S29 → S29) (l : List S29) (i : Nat) : List S29 := (l.take i).map t ++ l.drop i
theorem mp_len (t : S29 → S29) (l : List S29) (i : Nat) (h : i ≤ l.length) : (mp t l i).length = l.length := by simp [mp]; omega
theorem mp_get (t : S29 → S29) (l : List S29) (i : Nat) (h : i < l.length) : rd_T29 (mp t l i) (i : Int) = l[i] := by
  have hl : ((l.take i).map t).length = i := by simp; omega
  unfold rd_T29 mp
  rw [List.getD_eq_getElem?_getD, show ((i : Int)).toNat = i by omega, List.getElem?_append_right (by omega), hl, Nat.sub_self, List.getElem?_drop, Nat.add_zero, List.getElem?_eq_getElem h]
  rfl
theorem mp_set (t : S29 → S29) (l : List S29) (i : Nat) (h : i < l.length) : (mp t l i).set i (t l[i]) = mp t l (i + 1) := by
  have hl : ((l.take i).map t).length = i := by simp; omega
  unfold mp
  rw [List.set_append_right _ _ (by omega), hl, Nat.sub_self, List.drop_eq_getElem_cons h, List.set_cons_zero, List.take_succ_eq_append_getElem h, List.map_append, List.append_assoc]
  rfl
theorem mp_same (t : S29 → S29) (l : List S29) (i : Nat) (h : i < l.length) (e : t l[i] = l[i]) : mp t l i = mp t l (i + 1) := by
  have hl : ((l.take i).map t).length = i := by simp; omega
  unfold mp
  rw [List.drop_eq_getElem_cons h, List.take_succ_eq_append_getElem h, List.map_append, List.append_assoc]
  simp [e]
theorem touch_l1 (l : List S29) (a : ByteArray) (u : Int) (hl : l.length ≤ 100) (d : Nat) : ∀ (k i : Nat), i + d = l.length → d < k → evict_Touch.l1 k a u (mp (tch a u) l i) (l.length : Int) (i : Int) = some (l.map (tch a u)) := by
  induction d with
  | zero =>
    intro k i hi hk
    obtain ⟨k, rfl⟩ : ∃ m, k = m + 1 := ⟨k - 1, by omega⟩
    obtain rfl : i = l.length := by omega
    simp only [evict_Touch.l1]
    rw [if_neg (by omega)]
    simp [mp]
  | succ d ih =>
    intro k i hi hk
    obtain ⟨k, rfl⟩ : ∃ m, k = m + 1 := ⟨k - 1, by omega⟩
    have hlt : i < l.length := by omega
    have hlen := mp_len (tch a u) l i (by omega)
    simp only [evict_Touch.l1]
    rw [if_pos (by omega), if_pos (by omega), if_pos (by omega), mp_get _ l i hlt, wrap64_in _ (by omega) (by omega)]
    by_cases h : (l[i]).f0.toList = a.toList
    · rw [if_pos h]
      have e : (⟨(l[i]).f0, (l[i]).f1, u, (l[i]).f3⟩ : S29) = tch a u l[i] := by unfold tch; rw [if_pos h]
      rw [e, show ((i : Int)).toNat = i by omega, mp_set _ l i hlt]
      exact ih k (i + 1) (by omega) (by omega)
    · rw [if_neg h, mp_same (tch a u) l i hlt (by unfold tch; rw [if_neg h])]
      exact ih k (i + 1) (by omega) (by omega)
theorem touch_l0 (l : List S29) (a : ByteArray) (hl : l.length ≤ 100) (d : Nat) : ∀ (k i : Nat) (u : Int), i + d = l.length → d + 200 < k →
    evict_Touch.l0 k l a u l (l.length : Int) (i : Int) = some (l.map (tch a (bump ((l.drop i).foldl (fun u x => mx u x.f2) u)))) := by
  induction d with
  | zero =>
    intro k i u hi hk
    obtain ⟨k, rfl⟩ : ∃ m, k = m + 2 := ⟨k - 2, by omega⟩
    have key : ∀ u', evict_Touch.j1 (k + 1) l a u' = some (l.map (tch a u')) := by
      intro u'
      simp only [evict_Touch.j1, evict_Entry.f]
      rw [if_pos (by omega)]
      simp only [Option.bind_some]
      have := touch_l1 l a u' hl l.length k 0 (by omega) (by omega)
      simpa [mp] using this
    show evict_Touch.l0 ((k + 1) + 1) l a u l (l.length : Int) (i : Int) = _
    simp only [evict_Touch.l0]
    rw [if_neg (by omega), List.drop_eq_nil_of_le (by omega), List.foldl_nil]
    unfold bump
    by_cases h : u < 1073741824
    · rw [if_pos h, if_pos h]; exact key _
    · rw [if_neg h, if_neg h]; exact key _
  | succ d ih =>
    intro k i u hi hk
    obtain ⟨k, rfl⟩ : ∃ m, k = m + 1 := ⟨k - 1, by omega⟩
    have hlt : i < l.length := by omega
    simp only [evict_Touch.l0]
    rw [if_pos (by omega), if_pos (by omega), if_pos (by omega), rd29 l i hlt, wrap64_in _ (by omega) (by omega)]
    have := ih k (i + 1) (mx u (l[i]).f2) (by omega) (by omega)
    rw [List.drop_eq_getElem_cons hlt, List.foldl_cons]
    exact this
theorem rtouch_l1 (l : List S30) (a : ByteArray) (u : Int) (hl : l.length ≤ 100) (d : Nat) : ∀ (k i : Nat) (acc : List S30), i + d = l.length → d < k → acc.length ≤ i → cubbyref20_Touch.l1 k l a u acc (i : Int) = some (acc ++ (l.drop i).map (tch' a u)) := by
  induction d with
  | zero =>
    intro k i acc hi hk _
    obtain ⟨k, rfl⟩ : ∃ m, k = m + 1 := ⟨k - 1, by omega⟩
    simp only [cubbyref20_Touch.l1]
    rw [if_neg (by omega), List.drop_eq_nil_of_le (by omega)]
    simp
  | succ d ih =>
    intro k i acc hi hk ha
    obtain ⟨k, rfl⟩ : ∃ m, k = m + 1 := ⟨k - 1, by omega⟩
    have hlt : i < l.length := by omega
    have step : cubbyref20_Touch.l1 k l a u (acc ++ [tch' a u l[i]]) ((i : Int) + 1) = some (acc ++ (l.drop i).map (tch' a u)) := by
      have := ih k (i + 1) (acc ++ [tch' a u l[i]]) (by omega) (by omega) (by simp; omega)
      rw [List.append_assoc] at this
      rw [List.drop_eq_getElem_cons hlt, List.map_cons]
      exact this
    simp only [cubbyref20_Touch.l1]
    rw [if_pos (by omega), if_pos (by omega), rd30 l i hlt, wrap64_in _ (by omega) (by omega)]
    by_cases h : (l[i]).f0.toList = a.toList
    · rw [if_pos h, if_pos (by omega)]
      have e : (⟨(l[i]).f0, (l[i]).f1, u, (l[i]).f3⟩ : S30) = tch' a u l[i] := by unfold tch'; rw [if_pos h]
      rw [e]; exact step
    · rw [if_neg h, if_pos (by omega)]
      have e : (⟨(l[i]).f0, (l[i]).f1, (l[i]).f2, (l[i]).f3⟩ : S30) = tch' a u l[i] := by unfold tch'; rw [if_neg h]
      rw [e]; exact step
theorem rtouch_l0 (l : List S30) (a : ByteArray) (hl : l.length ≤ 100) (d : Nat) : ∀ (k i : Nat) (u : Int), i + d = l.length → d + 200 < k →
    cubbyref20_Touch.l0 k l a u (i : Int) = some (l.map (tch' a (bump ((l.drop i).foldl (fun u x => mx u x.f2) u)))) := by
  induction d with
  | zero =>
    intro k i u hi hk
    obtain ⟨k, rfl⟩ : ∃ m, k = m + 2 := ⟨k - 2, by omega⟩
    have key : ∀ u', cubbyref20_Touch.j1 (k + 1) l a u' = some (l.map (tch' a u')) := by
      intro u'
      simp only [cubbyref20_Touch.j1]
      have := rtouch_l1 l a u' hl l.length k 0 [] (by omega) (by omega) (by simp)
      simpa using this
    show cubbyref20_Touch.l0 ((k + 1) + 1) l a u (i : Int) = _
    simp only [cubbyref20_Touch.l0]
    rw [if_neg (by omega), List.drop_eq_nil_of_le (by omega), List.foldl_nil]
    unfold bump
    by_cases h : u < 1073741824
    · rw [if_pos h, if_pos h]; exact key _
    · rw [if_neg h, if_neg h]; exact key _
  | succ d ih =>
    intro k i u hi hk
    obtain ⟨k, rfl⟩ : ∃ m, k = m + 1 := ⟨k - 1, by omega⟩
    have hlt : i < l.length := by omega
    simp only [cubbyref20_Touch.l0]
    rw [if_pos (by omega), if_pos (by omega), rd30 l i hlt, wrap64_in _ (by omega) (by omega)]
    have := ih k (i + 1) (mx u (l[i]).f2) (by omega) (by omega)
    rw [List.drop_eq_getElem_cons hlt, List.foldl_cons]
    exact this
theorem theirs_l0 (l : List S29) (hl : l.length ≤ 100) (d : Nat) : ∀ (k i : Nat) (acc : List S30), i + d = l.length → d < k → acc.length ≤ i → cubbylaw20_theirs.l0 k l acc (i : Int) = some (acc ++ (l.drop i).map conv) := by
  induction d with
  | zero =>
    intro k i acc hi hk _
    obtain ⟨k, rfl⟩ : ∃ m, k = m + 1 := ⟨k - 1, by omega⟩
    simp only [cubbylaw20_theirs.l0]
    rw [if_neg (by omega), List.drop_eq_nil_of_le (by omega)]
    simp
  | succ d ih =>
    intro k i acc hi hk ha
    obtain ⟨k, rfl⟩ : ∃ m, k = m + 1 := ⟨k - 1, by omega⟩
    have hlt : i < l.length := by omega
    simp only [cubbylaw20_theirs.l0]
    rw [if_pos (by omega), if_pos (by omega), if_pos (by omega), rd29 l i hlt, wrap64_in _ (by omega) (by omega)]
    have := ih k (i + 1) (acc ++ [conv l[i]]) (by omega) (by omega) (by simp; omega)
    rw [List.append_assoc] at this
    rw [List.drop_eq_getElem_cons hlt, List.map_cons]
    exact this
theorem cmp_l0 (l : List S29) (hl : l.length ≤ 100) (d : Nat) : ∀ (k i : Nat), i + d = l.length → d < k → cubbylaw20_EvictTouches.l0 k l (l.map conv) (i : Int) = some true := by
  induction d with
  | zero =>
    intro k i hi hk
    obtain ⟨k, rfl⟩ : ∃ m, k = m + 1 := ⟨k - 1, by omega⟩
    simp only [cubbylaw20_EvictTouches.l0]
    rw [if_neg (by omega)]
  | succ d ih =>
    intro k i hi hk
    obtain ⟨k, rfl⟩ : ∃ m, k = m + 1 := ⟨k - 1, by omega⟩
    have hlt : i < l.length := by omega
    have hlen : (l.map conv).length = l.length := List.length_map _
    simp only [cubbylaw20_EvictTouches.l0]
    rw [if_pos (by omega), if_pos (by omega), if_pos (by omega), rd29 l i hlt, rd30 (l.map conv) i (by omega), List.getElem_map, wrap64_in _ (by omega) (by omega)]
    simp only [conv, if_true, bne_self_eq_false]
    rw [if_neg (by simp)]
    exact ih k (i + 1) (by omega) (by omega)
theorem EvictTouches : cubbylaw20_EvictTouches.Pure := by
  intro l a hl _
  obtain ⟨hl1, hl2, _⟩ := hl
  have hmax : l.length ≤ 9223372036854775806 := by omega
  obtain ⟨b, hb, hb2⟩ := heavy_l0 l hmax l.length (l.length + 9000) 0 (mn (l.length : Int) 1048576) (by omega) (by omega)
  refine ⟨l.length + 9000, ?_⟩
  have j1 : cubbylaw20_EvictTouches.j0 (l.length + 9000) l a true = some true := by
    show cubbylaw20_EvictTouches.j0 ((l.length + 8999) + 1) l a true = some true
    simp only [cubbylaw20_EvictTouches.j0]; rw [if_pos trivial]
  unfold cubbylaw20_EvictTouches.f cubbylaw20_heavy.f
  rw [Int.natCast_zero] at hb
  rw [hb]
  simp only [Option.bind_some]
  cases b with
  | true => rw [if_pos rfl]; exact j1
  | false =>
    rw [if_neg (by simp)]
    have hle := hb2 rfl
    by_cases hc : (a.size : Int) > 1024
    · rw [decide_eq_true hc]; exact j1
    · rw [decide_eq_false hc]
      show cubbylaw20_EvictTouches.j0 ((l.length + 8999) + 1) l a false = some true
      simp only [cubbylaw20_EvictTouches.j0]
      rw [if_neg (by simp)]
      unfold evict_Touch.f cubbylaw20_theirs.f cubbyref20_Touch.f
      have e1 := touch_l0 l a hle l.length (l.length + 8999) 0 (-1) (by omega) (by omega)
      have e2 := theirs_l0 l hle l.length (l.length + 8999) 0 [] (by omega) (by omega) (by simp)
      have e3 := rtouch_l0 (l.map conv) a (by simpa using hle) l.length (l.length + 8999) 0 (-1) (by simp) (by omega)
      rw [Int.natCast_zero] at e1 e2 e3
      rw [List.nil_append, List.drop_zero] at e2
      rw [e1]
      simp only [Option.bind_some]
      rw [e2]
      simp only [Option.bind_some]
      rw [e3]
      simp only [Option.bind_some, List.drop_zero]
      have ef : ((l.map conv).foldl (fun u x => mx u x.f2) (-1)) = l.foldl (fun u x => mx u x.f2) (-1) := by
        rw [List.foldl_map]
        rfl
      rw [ef]
      generalize bump (l.foldl (fun u x => mx u x.f2) (-1)) = U
      have em : (l.map conv).map (tch' a U) = (l.map (tch a U)).map conv := by
        rw [List.map_map, List.map_map]
        apply List.map_congr_left
        intro x _
        exact (conv_tch a U x).symm
      rw [em, if_pos (by simp)]
      exact cmp_l0 (l.map (tch a U)) (by simpa using hle) l.length (l.length + 8999) 0 (by simp) (by omega)

end Go.Proofs.Ytbpblefamjmkjaa.Pure
