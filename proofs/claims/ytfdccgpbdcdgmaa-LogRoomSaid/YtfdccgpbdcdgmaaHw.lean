/- Lemmas of the hand-made walks: clear on a row of the call's own; a store beyond a row's length. A library; conditions: none. -/
import Derived.Test.YtfdccgpbdcdgmaaWWords
import Derived.Test.YtfdccgpbdcdgmaaWLast
import Derived.Test.YtfdccgpbdcdgmaaWMore
import Derived.Lib.SliceRun
import Derived.Lib.Hide
import Derived.ScopeJumps
import Derived.WalkMore
import Derived.Lib.FrozenHead2
import Derived.Lib.UnsafeStr
import Derived.Laws.Externs
set_option linter.unusedVariables false
namespace Go.Proofs.Ytfdccgpbdcdgmaa.Hw
open Go.RowKit Go.Proofs.YtfdccgpbdcdgmaaW.PrintWords Go.Proofs.YtfdccgpbdcdgmaaW.PrintLast Go.Proofs.YtfdccgpbdcdgmaaW
variable {P : Program}
/-- 'clear(s)', s of n > 0 elements of whatever many cells. -/
theorem run_clear_row (w : World) (t e ty : TypeId) (z : Value) (ht : P.underlying t = some (.slice e)) (hv : ∀ w, (zeroValue e).run P w = .ok z w) (h1 : ∀ u ∈ z.cells.toList, u.oneCell' = true) (b o n c : Nat) (hn : 0 < n)
    (hc : ∀ j, j < n * z.cells.size → (w.cell? ⟨b, o + j, none⟩).isSome = true) (hf : ∀ j, j < n * z.cells.size → w.frozen? ⟨b, o + j, none⟩ = false) :
    (Builtin.clear_ #[t] ty #[.slice (some ⟨b, o, none⟩) n c]).run P w = .ok (.tuple #[]) (w.setCells b o (Builtin.zeroCells z.cells n).toList) := by
  have hl : (Builtin.zeroCells z.cells n).toList.length = n * z.cells.size := by simp [Builtin.zeroCells]
  have hst := run_storeCells_cells (P := P) b o (Builtin.zeroCells z.cells n).toList 0 w (by rw [hl]; simpa using hc) (by rw [hl]; simpa using hf) (by
    intro v hv'
    have : v ∈ z.cells.toList := by
      simp only [Builtin.zeroCells, Array.mem_toList_iff, Array.mem_map, Array.mem_range] at hv'
      obtain ⟨i, hi, rfl⟩ := hv'
      have hp : 0 < z.cells.size := by
        rcases Nat.eq_zero_or_pos z.cells.size with h | h
        · rw [h, Nat.mul_zero] at hi; omega
        · exact h
      have hlt : i % z.cells.size < z.cells.size := Nat.mod_lt _ hp
      rw [getElem!_pos z.cells _ hlt]
      exact Array.mem_toList_iff.2 (Array.getElem_mem _)
    exact h1 v this)
  simp only [Nat.add_zero] at hst
  obtain ⟨m, rfl⟩ : ∃ m, n = m + 1 := ⟨n - 1, by omega⟩
  simp [Builtin.clear_, run_underlying ht, hv, hst]
theorem run_clear_none (w : World) (t e ty : TypeId) (ht : P.underlying t = some (.slice e)) (a : Option Addr) (c : Nat) :
    (Builtin.clear_ #[t] ty #[.slice a 0 c]).run P w = .ok (.tuple #[]) w := by
  cases a <;> simp [Builtin.clear_, run_underlying ht]
theorem grown_drew (w : World) (row : Option Nat) : w.grownBy w.drew row := ⟨rfl, rfl, rfl, Nat.le_refl _, fun _ _ _ => rfl⟩
theorem grown_drewN (w : World) (n : Nat) (row : Option Nat) : w.grownBy (w.drewN n) row := ⟨rfl, rfl, rfl, Nat.le_refl _, fun _ _ _ => rfl⟩
/-- A scope with one label: what holds at it, each pass from it; and the way to it. -/
theorem wp_scope_label {a : Act} {w : World} {Q : Exit → Act → World → Prop} {c X : Code} (l : Nat) (J : Act → World → Prop) (μ : Act → World → Nat) (hf : findLabel c l = some (Code.skip.seq X))
    (pass : ∀ a w, J a w → X.wp P (Exit.jump l (fun a' w' => J a' w' ∧ μ a' w' < μ a w) Q) a w)
    (first : (∀ a w, J a w → X.wp P (Exit.jump l J Q) a w) → c.wp P (Exit.jump l J Q) a w) : (Code.scope c).wp P Q a w :=
  wp_scope_jumps l J μ hf (first fun a w hJ => wp_mono (pass a w hJ) (fun e a w h => by
    cases e <;> simp only [Exit.jump] at h ⊢ <;> first | exact h | exact ⟨h.1, h.2.1⟩)) (fun a w hJ => wp_seq (wp_skip (pass a w hJ)))
/-- 'append(xs[:k], xs[k+1:]...)' in a region that draws its order, as go_region_law takes it. -/
theorem step_delete {α : Type} (d : Kd α) {ops : Array Oper} {o : Oper} {a : Act} {W : World} {Kc : Act → World → Prop} {Q : Exit → Act → World → Prop} {E : Prop} (hg : o.guard = none) (base : Nat) (s x : Operand) (t e : TypeId) (ho : o.op = .call { callee := .builtin .append, args := #[s, x], argTypes := #[t, t] })
    (ht : P.underlying t = some (.slice e)) (hinfo : (P.info? e).map (·.size) = some d.sz) (g n c k m c2 : Nat) (A : Option Addr) (xs : List α) (ok : Nat → Prop)
    (hs : a.eval s = .slice (some ⟨g, 0, none⟩) k c) (hx : a.eval x = .slice A m c2) (hA : A = if c = k + 1 then some ⟨g, 0, none⟩ else (some (⟨g, 0, none⟩ : Addr)).map (·.add ((k + 1) * d.sz))) (hm : m = n - (k + 1))
    (HO : d.R e W base ok (.slice (some ⟨g, 0, none⟩) n c) xs) (hk : k < n) (hbase : base ≤ W.heap.size)
    (h : ∀ w1, d.R e w1 base ok (.slice (some ⟨g, 0, none⟩) (n - 1) c) (xs.eraseIdx k) → W.grownBy w1 (some g) → Kc (a.put o.dst (.slice (some ⟨g, 0, none⟩) (n - 1) c)) w1) :
    if Region.wanted o (yielded ops a.tmps) = true then Oper.wp P o a W Kc Q else E := by
  have hw : Region.wanted o (yielded ops a.tmps) = true := by simp [Region.wanted, hg]
  have hh := Kd.R_delete_step (Q := Q) (Kc := Kc) d (w0 := W) base hw s x t e ho ht hinfo hs hx hA hm HO hk (Below.refl base W) hbase (fun w1 h1 _ h3 => h w1 h1 h3)
  rw [if_pos hw] at hh ⊢
  exact hh
theorem cell_al {w : World} {a : Addr} {v : Value} (h : w.cell? a = some v) (o : Obj) : (w.alloc o).cell? a = some v := (World.cell?_of_block (w := w) (Below.heap_alloc w o a.block (World.block_lt_of_cell? w a h))).trans h
theorem frozen_al {w : World} {a : Addr} {b : Bool} (hl : a.block < w.heap.size) (h : w.frozen? a = b) (o : Obj) : (w.alloc o).frozen? a = b := (World.frozen?_of_block (w := w) (Below.heap_alloc w o a.block hl)).trans h
theorem blk_al {w : World} {b : Nat} {o : Obj} (h : w.heap[b]? = some o) (o' : Obj) : (w.alloc o').heap[b]? = some o := by
  have hl : b < w.heap.size := (Array.getElem?_eq_some_iff.1 h).1
  exact (Below.heap_alloc w o' b hl).trans h
theorem blk_nw (w : World) (o : Obj) : (w.alloc o).heap[w.heap.size]? = some o := heap_alloc_new w o
theorem blk_nw1 (w : World) (o1 o : Obj) : ((w.alloc o1).alloc o).heap[w.heap.size + 1]? = some o := by have := heap_alloc_new (w.alloc o1) o; simpa using this
theorem blk_nw2 (w : World) (o2 o1 o : Obj) : (((w.alloc o2).alloc o1).alloc o).heap[w.heap.size + 1 + 1]? = some o := by have := heap_alloc_new ((w.alloc o2).alloc o1) o; simpa using this
theorem blk_nw3 (w : World) (o3 o2 o1 o : Obj) : ((((w.alloc o3).alloc o2).alloc o1).alloc o).heap[w.heap.size + 1 + 1 + 1]? = some o := by have := heap_alloc_new (((w.alloc o3).alloc o2).alloc o1) o; simpa using this
theorem keep_new {w w1 : World} {g : Nat} {row : Option Nat} (h : KeepBut w w1 g row) {p : Addr} (hp : w.heap.size ≤ p.block) (u : Value) : KeepBut w (w1.setCell p u) g row :=
  ⟨by have := h.1; simpa [World.setCell] using this, fun i hi h1 h2 => (Below.heap_setCell _ _ _ _ (by omega)).trans (h.2 i hi h1 h2)⟩
theorem keep_al {w w1 : World} {g : Nat} {row : Option Nat} {o : Obj} (h : KeepBut (w.alloc o) w1 g row) : KeepBut w w1 g row :=
  ⟨Nat.le_trans (by simp) h.1, fun i hi h1 h2 => (h.2 i (by simp; omega) h1 h2).trans (Below.heap_alloc w o i hi)⟩
section
variable {α : Type} {d : Kd α} {e : Nat} {W : World} {base : Nat} {ok : Nat → Prop} {g m c : Nat} {xs : List α}
theorem R_beyond1 (h : d.R e W base ok (.slice (some ⟨g, 0, none⟩) m c) xs) (k : Nat) (u : Value) (hk : m * d.sz ≤ k) : d.R e (W.setCell ⟨g, k, none⟩ u) base ok (.slice (some ⟨g, 0, none⟩) m c) xs ∧ W.grownBy (W.setCell ⟨g, k, none⟩ u) (some g) := by
  have hm := (Kd.R_reads' h).1
  subst hm
  obtain ⟨h0, inner, ho, hr⟩ := h
  have hs := ho.stored k u
  rw [List.set_eq_of_length_le (by rw [hr.1]; exact hk)] at hs
  exact ⟨⟨h0, inner, hs.1, hr.imp_ (fun _ _ hp => Kd.M_far (p := ⟨g, k, none⟩) hp (fun j hj => by
    intro e
    apply hj.2
    rw [e]
    rfl) u)⟩, hs.2⟩
theorem R_beyond (cs : List Value) : ∀ {W : World} (h : d.R e W base ok (.slice (some ⟨g, 0, none⟩) m c) xs) (k : Nat) (hk : m * d.sz ≤ k), d.R e (W.setCells g k cs) base ok (.slice (some ⟨g, 0, none⟩) m c) xs ∧ W.grownBy (W.setCells g k cs) (some g) := by
  induction cs with
  | nil => intro W h k hk; exact ⟨h, World.grownBy.refl _ _⟩
  | cons u r ih =>
    intro W h k hk
    obtain ⟨h1, h2⟩ := R_beyond1 h k u hk
    obtain ⟨h3, h4⟩ := ih h1 (k + 1) (by omega)
    exact ⟨h3, World.grownBy.trans h2 h4⟩
/-- The cells up to the capacity are there, none of them frozen. -/
theorem R_room (h : d.R e W base ok (.slice (some ⟨g, 0, none⟩) m c) xs) (j : Nat) (hj : j < c * d.sz) : (W.cell? ⟨g, j, none⟩).isSome = true ∧ W.frozen? ⟨g, j, none⟩ = false := by
  obtain ⟨_, inner, ho, _⟩ := h
  rcases ho.2 with ⟨h', _⟩ | ⟨g', cap', cur, h', _, hh, _, _, hsz, _⟩
  · cases h'
  · injection h' with h1 h2 h3
    injection h1 with h1
    injection h1 with h1
    subst h1; subst h3
    refine ⟨?_, by simp [World.frozen?, hh]⟩
    rw [cell_of_row W g j cur e (0, 0) hh, Array.getElem?_eq_getElem (by rw [hsz]; exact hj)]
    rfl
theorem R_cap (h : d.R e W base ok (.slice (some ⟨g, 0, none⟩) m c) xs) : m ≤ c ∧ c ≤ maxLen := by
  have hm := (Kd.R_reads' h).1
  subst hm
  obtain ⟨_, inner, ho, _⟩ := h
  rcases ho.2 with ⟨h', _⟩ | ⟨g', cap', cur, h', _, hh, h4, h5, hsz, _⟩
  · cases h'
  · injection h' with h1 h2 h3
    subst h3
    exact ⟨h4, h5⟩
end
/-! Numbers as bytes to the base 128, and back (plain lists). -/
theorem w64 (n : Int) (h : -9223372036854775808 ≤ n) (h2 : n < 9223372036854775808) : wrap64 n = n := by unfold wrap64; omega
theorem wnat (i : Nat) (h : i < 9223372036854775807) : wrap64 ((i : Int) + 1) = ((i + 1 : Nat) : Int) := by rw [w64 _ (by omega) (by omega)]; omega
/-- A number's digits to the base 128, the least first; each but the last with 128. -/
def code (n : Nat) : List UInt8 := if n < 128 then [UInt8.ofNat n] else UInt8.ofNat (n % 128 + 128) :: code (n / 128)
termination_by n
decreasing_by omega
theorem code_lo (n : Nat) (h : n < 128) : code n = [UInt8.ofNat n] := by rw [code]; exact if_pos h
theorem code_hi (n : Nat) (h : ¬ n < 128) : code n = UInt8.ofNat (n % 128 + 128) :: code (n / 128) := by rw [code]; exact if_neg h
theorem code_len (k : Nat) : ∀ n, n < 128 ^ (k + 1) → (code n).length ≤ k + 1 := by
  induction k with
  | zero => intro n h; rw [code_lo n (by simpa using h)]; simp
  | succ k ih =>
    intro n h
    by_cases hn : n < 128
    · rw [code_lo n hn]; simp
    · rw [code_hi n hn, List.length_cons]
      have := ih (n / 128) (Nat.div_lt_of_lt_mul (by rw [Nat.pow_succ] at h; omega))
      omega
theorem code_ne (n : Nat) : code n ≠ [] := by
  by_cases hn : n < 128
  · rw [code_lo n hn]; simp
  · rw [code_hi n hn]; simp
/-- A number within what is written. -/
def clamp (n : Int) : Nat := (if n < 0 then 0 else if n > 72057594037927935 then 72057594037927935 else n).toNat
theorem clamp_lt (n : Int) : clamp n < 72057594037927936 := by unfold clamp; split <;> (try split) <;> omega
theorem clamp_nat (n : Nat) (h : n < 72057594037927936) : clamp (n : Int) = n := by unfold clamp; rw [if_neg (by omega), if_neg (by omega)]; omega
theorem mx_clamp (n : Int) : mx 0 (mn n 72057594037927935) = ((clamp n : Nat) : Int) := by
  unfold mx mn clamp
  split <;> split <;> (try split) <;> omega
/-- What a reader makes of bytes: the number, its error's number, how many bytes it took. j bytes have been read, which come to acc. -/
def rnum : List UInt8 → Nat → Nat → Nat × Int × Nat
  | [], _, _ => (0, 20, 0)
  | c :: r, j, acc => if 8 ≤ j then (0, 21, 0) else if 127 < c.toNat then rnum r (j + 1) (acc + c.toNat % 128 * 128 ^ j) else if c.toNat = 0 ∧ 0 < j then (0, 21, 0) else (acc + c.toNat % 128 * 128 ^ j, 0, j + 1)
theorem rnum_code (k : Nat) : ∀ (m j acc : Nat) (rest : List UInt8), m < 128 ^ (k + 1) → j + k < 8 → (j = 0 ∨ 0 < m) → rnum (code m ++ rest) j acc = (acc + m * 128 ^ j, 0, j + (code m).length) := by
  have lo : ∀ (m j acc : Nat) (rest : List UInt8), m < 128 → j < 8 → (j = 0 ∨ 0 < m) → rnum (code m ++ rest) j acc = (acc + m * 128 ^ j, 0, j + (code m).length) := by
    intro m j acc rest hm hj h0
    have e : (UInt8.ofNat m).toNat = m := by rw [UInt8.toNat_ofNat']; omega
    rw [code_lo m hm, List.singleton_append, rnum, if_neg (by omega), e, if_neg (by omega), if_neg (by omega), Nat.mod_eq_of_lt hm]
    rfl
  induction k with
  | zero => intro m j acc rest hm hj h0; exact lo m j acc rest (by simpa using hm) (by omega) h0
  | succ k ih =>
    intro m j acc rest hm hj h0
    by_cases h : m < 128
    · exact lo m j acc rest h (by omega) h0
    · have e : (UInt8.ofNat (m % 128 + 128)).toNat = m % 128 + 128 := by rw [UInt8.toNat_ofNat']; omega
      rw [code_hi m h, List.cons_append, rnum, if_neg (by omega), e, if_pos (by omega), ih (m / 128) (j + 1) _ rest (Nat.div_lt_of_lt_mul (by rw [Nat.pow_succ] at hm; omega)) (by omega) (by omega), List.length_cons]
      have e2 : (m % 128 + 128) % 128 = m % 128 := by omega
      have e3 : acc + m % 128 * 128 ^ j + m / 128 * 128 ^ (j + 1) = acc + m * 128 ^ j := by
        have h1 : m * 128 ^ j = (128 * (m / 128) + m % 128) * 128 ^ j := by rw [Nat.div_add_mod]
        rw [h1, Nat.add_mul, Nat.pow_succ, Nat.mul_comm (128 ^ j) 128, ← Nat.mul_assoc, Nat.mul_comm (m / 128) 128]
        omega
      rw [e2, e3]
      refine Prod.ext rfl (Prod.ext rfl ?_)
      show j + 1 + _ = j + (_ + 1)
      omega
theorem rnum_used (l : List UInt8) : ∀ j acc, (rnum l j acc).2.2 ≤ j + l.length ∧ ((rnum l j acc).2.1 ≠ 0 → (rnum l j acc).1 = 0 ∧ (rnum l j acc).2.2 = 0) ∧ ((rnum l j acc).2.1 = 0 ∨ (rnum l j acc).2.1 = 20 ∨ (rnum l j acc).2.1 = 21) := by
  induction l with
  | nil => intro j acc; simp [rnum]
  | cons c r ih =>
    intro j acc
    rw [rnum]
    have h := ih (j + 1) (acc + c.toNat % 128 * 128 ^ j)
    rw [List.length_cons]
    split
    · simp
    · split
      · exact ⟨by omega, h.2⟩
      · split
        · simp
        · refine ⟨by show j + 1 ≤ _; omega, fun h => absurd rfl h, .inl rfl⟩
theorem rnum_lt (l : List UInt8) : ∀ j acc, j ≤ 8 → acc < 128 ^ j → (rnum l j acc).1 < 72057594037927936 := by
  induction l with
  | nil => intro j acc _ _; show 0 < _; omega
  | cons c r ih =>
    intro j acc hj h
    rw [rnum]
    split
    · show 0 < _; omega
    · have h1 : acc + c.toNat % 128 * 128 ^ j < 128 ^ (j + 1) := by
        have h2 : c.toNat % 128 * 128 ^ j ≤ 127 * 128 ^ j := Nat.mul_le_mul_right _ (by omega)
        rw [Nat.pow_succ]
        omega
      split
      · exact ih (j + 1) _ (by omega) h1
      · split
        · show 0 < _; omega
        · show acc + _ < _
          exact Nat.lt_of_lt_of_le h1 (Nat.le_trans (Nat.pow_le_pow_right (by decide) (show j + 1 ≤ 8 by omega)) (by decide))
/-- What a reader makes of bytes as a text: the text, its error's number, how many bytes it took. -/
def rtext (l : List UInt8) : List UInt8 × Int × Nat := if (rnum l 0 0).2.1 = 0 then (if l.length < (rnum l 0 0).2.2 + (rnum l 0 0).1 then ([], 20, 0) else ((l.drop (rnum l 0 0).2.2).take (rnum l 0 0).1, 0, (rnum l 0 0).2.2 + (rnum l 0 0).1)) else ([], (rnum l 0 0).2.1, 0)
theorem rtext_used (l : List UInt8) : (rtext l).2.2 ≤ l.length ∧ ((rtext l).2.1 ≠ 0 → (rtext l).1 = [] ∧ (rtext l).2.2 = 0) ∧ ((rtext l).2.1 = 0 ∨ (rtext l).2.1 = 20 ∨ (rtext l).2.1 = 21) := by
  have h := rnum_used l 0 0
  unfold rtext
  split
  · split
    · exact ⟨by simp, fun _ => ⟨rfl, rfl⟩, by simp⟩
    · exact ⟨by show _ + _ ≤ _; omega, fun h => absurd rfl h, .inl rfl⟩
  · rename_i he
    exact ⟨by simp, fun _ => ⟨rfl, rfl⟩, h.2.2⟩
theorem rtext_code (d rest : List UInt8) (hd : d.length < 72057594037927936) : rtext (code d.length ++ d ++ rest) = (d, 0, (code d.length ++ d).length) := by
  have h := rnum_code 7 d.length 0 0 (d ++ rest) (by omega) (by omega) (.inl rfl)
  unfold rtext
  rw [List.append_assoc, h]
  simp only [Nat.zero_add, Nat.pow_zero, Nat.mul_one, if_true]
  rw [if_neg (by rw [List.length_append, List.length_append]; omega), List.drop_left, List.take_left, List.length_append]
/-- A record of kind n, whose key read as T, and whose value as V, u bytes having been read ahead, of len in all. -/
def unrec1 (n : Nat) (T V : List UInt8 × Int × Nat) (u len : Nat) : Int × List UInt8 × List UInt8 × Int :=
  if T.2.1 = 0 then (if n = 1 then (if V.2.1 = 0 then (if u + T.2.2 + V.2.2 < len then (0, [], [], 21) else (1, T.1, V.1, 0)) else (0, [], [], V.2.1)) else if u + T.2.2 < len then (0, [], [], 21) else (2, T.1, [], 0)) else (0, [], [], T.2.1)
/-- What bytes are as a record: its kind, key, value; its error's number. -/
def unrec (l : List UInt8) : Int × List UInt8 × List UInt8 × Int :=
  if (rnum l 0 0).2.1 = 0 then (if (rnum l 0 0).1 = 1 ∨ (rnum l 0 0).1 = 2 then unrec1 (rnum l 0 0).1 (rtext (l.drop (rnum l 0 0).2.2)) (rtext (l.drop ((rnum l 0 0).2.2 + (rtext (l.drop (rnum l 0 0).2.2)).2.2))) (rnum l 0 0).2.2 l.length else (0, [], [], 21)) else (0, [], [], (rnum l 0 0).2.1)
theorem bt_drop {s : ByteArray} {n : Nat} {c : UInt8} {r : List UInt8} (h : s.data.toList.drop n = c :: r) : n < s.size ∧ bt s (n : Int) = (c.toNat : Int) ∧ s.data.toList.drop (n + 1) = r := by
  have hl : n < s.data.toList.length := by
    rcases Nat.lt_or_ge n s.data.toList.length with h1 | h1
    · exact h1
    · rw [List.drop_eq_nil_of_le h1] at h; cases h
  rw [List.drop_eq_getElem_cons hl] at h
  obtain ⟨h1, h2⟩ := List.cons.inj h
  have hs : n < s.size := by rw [← data_length]; exact hl
  refine ⟨hs, ?_, h2⟩
  unfold bt
  rw [dif_pos (by simpa using hs), ← h1]
  rfl
theorem or_shift (acc j c : Nat) (hj : j ≤ 7) (ha : acc < 128 ^ j) (hc : c < 256) : Go.bits .or .i64 (acc : Int) (shl .i64 (wrap64 (Go.bits .and .u8 (c : Int) 127)) (7 * (j : Int))) = ((acc + c % 128 * 128 ^ j : Nat) : Int) := by
  have h1 : Go.bits .and .u8 (c : Int) 127 = ((c % 128 : Nat) : Int) := by
    have := bits_mask .u8 8 (by decide) wraps_u8 7 (by decide) (c : Int) (by omega) (by omega)
    simpa using this
  have hp : (2 : Nat) ^ (7 * j) = 128 ^ j := by rw [Nat.pow_mul]
  have hle : (128 : Nat) ^ j ≤ 128 ^ 7 := Nat.pow_le_pow_right (by decide) hj
  have h2 : shl .i64 ((c % 128 : Nat) : Int) (7 * (j : Int)) = ((c % 128 * 128 ^ j : Nat) : Int) := by
    unfold shl
    have e : min (7 * (j : Int)).toNat IntKind.i64.bits = 7 * j := by
      have : IntKind.i64.bits = 64 := rfl
      omega
    rw [e]
    have e2 : ((c % 128 : Nat) : Int) * 2 ^ (7 * j) = ((c % 128 * 128 ^ j : Nat) : Int) := by
      rw [← hp]; simp
    rw [e2]
    have h3 : c % 128 * 128 ^ j ≤ 127 * 128 ^ 7 := Nat.mul_le_mul (by omega) hle
    exact IntWalk.i64_in _ (by omega)
  rw [h1, w64 _ (by omega) (by omega), h2]
  have h3 : c % 128 * 128 ^ j < 2 ^ 63 := Nat.lt_of_le_of_lt (Nat.mul_le_mul (show c % 128 ≤ 127 by omega) hle) (by decide)
  have h4 : acc < 2 ^ 63 := Nat.lt_of_lt_of_le (Nat.lt_of_lt_of_le ha hle) (by decide)
  rw [(bits_nat .i64 63 (by decide) (fun n h0 h1 => IntWalk.i64_in _ (by omega)) acc (c % 128 * 128 ^ j) h4 h3).2]
  have h5 := Nat.two_pow_add_eq_or_of_lt (i := 7 * j) (by rw [hp]; exact ha) (c % 128)
  rw [hp, Nat.mul_comm] at h5
  rw [Nat.or_comm, ← h5]
  omega
end Go.Proofs.Ytfdccgpbdcdgmaa.Hw
