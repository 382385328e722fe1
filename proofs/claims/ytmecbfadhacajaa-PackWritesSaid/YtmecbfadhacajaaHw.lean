/- Lemmas of the hand-made walks: clear on a row of the call's own; a store beyond a row's length. A library; conditions: none. -/
import Derived.Test.YtmecbfadhacajaaWWords
import Derived.Test.YtmecbfadhacajaaWLast
import Derived.Test.YtmecbfadhacajaaWMore
import Derived.Lib.SliceRun
import Derived.Lib.Hide
import Derived.ScopeJumps
import Derived.WalkMore
import Derived.Lib.FrozenHead2
import Derived.Lib.UnsafeStr
import Derived.Laws.Externs
set_option linter.unusedVariables false
namespace Go.Proofs.Ytmecbfadhacajaa.Hw
open Go.RowKit Go.Proofs.YtmecbfadhacajaaW.PrintWords Go.Proofs.YtmecbfadhacajaaW.PrintLast
variable {P : Program}
/-- 'clear(s)', s of n > 0 elements of whatever many cells. -/
theorem run_clear_row (w : World) (t e ty : TypeId) (z : Value) (ht : P.underlying t = some (.slice e)) (hv : ∀ w, (zeroValue e).run P w = .ok z w) (h1 : ∀ u ∈ z.cells.toList, u.oneCell' = true) (b o n c : Nat) (hn : 0 < n)
    (hc : ∀ j, j < n * z.cells.size → (w.cell? ⟨b, o + j, none⟩).isSome = true) (hf : ∀ j, j < n * z.cells.size → w.frozen? ⟨b, o + j, none⟩ = false) :
    (Builtin.clear_ #[t] ty #[.slice (some ⟨b, o, none⟩) n c]).run P w = .ok (.tuple #[]) (w.setCells b o (Builtin.zeroCells z.cells n).toList) := by
  have hl : (Builtin.zeroCells z.cells n).toList.length = n * z.cells.size := by simp [Builtin.zeroCells]
  have hst := run_storeCells_cells (P := P) b o (Builtin.zeroCells z.cells n).toList 0 w (by rw [hl]; simpa using hc) (by rw [hl]; simpa using hf) (by
    intro v hv'
    have : v ∈ z.cells.toList := by
      simp only [Builtin.zeroCells, Array.mem_toList_iff, Array.mem_map, Array.mem_range] at hv'
      obtain ⟨i, hi, rfl⟩ := hv'
      have hp : 0 < z.cells.size := by
        rcases Nat.eq_zero_or_pos z.cells.size with h | h
        · rw [h, Nat.mul_zero] at hi; omega
        · exact h
      have hlt : i % z.cells.size < z.cells.size := Nat.mod_lt _ hp
      rw [getElem!_pos z.cells _ hlt]
      exact Array.mem_toList_iff.2 (Array.getElem_mem _)
    exact h1 v this)
  simp only [Nat.add_zero] at hst
  obtain ⟨m, rfl⟩ : ∃ m, n = m + 1 := ⟨n - 1, by omega⟩
  simp [Builtin.clear_, run_underlying ht, hv, hst]
theorem run_clear_none (w : World) (t e ty : TypeId) (ht : P.underlying t = some (.slice e)) (a : Option Addr) (c : Nat) :
    (Builtin.clear_ #[t] ty #[.slice a 0 c]).run P w = .ok (.tuple #[]) w := by
  cases a <;> simp [Builtin.clear_, run_underlying ht]
theorem grown_drew (w : World) (row : Option Nat) : w.grownBy w.drew row := ⟨rfl, rfl, rfl, Nat.le_refl _, fun _ _ _ => rfl⟩
theorem grown_drewN (w : World) (n : Nat) (row : Option Nat) : w.grownBy (w.drewN n) row := ⟨rfl, rfl, rfl, Nat.le_refl _, fun _ _ _ => rfl⟩
/-- A scope with one label: what holds at it, each pass from it; and the way to it. -/
theorem wp_scope_label {a : Act} {w : World} {Q : Exit → Act → World → Prop} {c X : Code} (l : Nat) (J : Act → World → Prop) (μ : Act → World → Nat) (hf : findLabel c l = some (Code.skip.seq X))
    (pass : ∀ a w, J a w → X.wp P (Exit.jump l (fun a' w' => J a' w' ∧ μ a' w' < μ a w) Q) a w)
    (first : (∀ a w, J a w → X.wp P (Exit.jump l J Q) a w) → c.wp P (Exit.jump l J Q) a w) : (Code.scope c).wp P Q a w :=
  wp_scope_jumps l J μ hf (first fun a w hJ => wp_mono (pass a w hJ) (fun e a w h => by
    cases e <;> simp only [Exit.jump] at h ⊢ <;> first | exact h | exact ⟨h.1, h.2.1⟩)) (fun a w hJ => wp_seq (wp_skip (pass a w hJ)))
/-- 'append(xs[:k], xs[k+1:]...)' in a region that draws its order, as go_region_law takes it. -/
theorem step_delete {α : Type} (d : Kd α) {ops : Array Oper} {o : Oper} {a : Act} {W : World} {Kc : Act → World → Prop} {Q : Exit → Act → World → Prop} {E : Prop} (hg : o.guard = none) (base : Nat) (s x : Operand) (t e : TypeId) (ho : o.op = .call { callee := .builtin .append, args := #[s, x], argTypes := #[t, t] })
    (ht : P.underlying t = some (.slice e)) (hinfo : (P.info? e).map (·.size) = some d.sz) (g n c k m c2 : Nat) (A : Option Addr) (xs : List α) (ok : Nat → Prop)
    (hs : a.eval s = .slice (some ⟨g, 0, none⟩) k c) (hx : a.eval x = .slice A m c2) (hA : A = if c = k + 1 then some ⟨g, 0, none⟩ else (some (⟨g, 0, none⟩ : Addr)).map (·.add ((k + 1) * d.sz))) (hm : m = n - (k + 1))
    (HO : d.R e W base ok (.slice (some ⟨g, 0, none⟩) n c) xs) (hk : k < n) (hbase : base ≤ W.heap.size)
    (h : ∀ w1, d.R e w1 base ok (.slice (some ⟨g, 0, none⟩) (n - 1) c) (xs.eraseIdx k) → W.grownBy w1 (some g) → Kc (a.put o.dst (.slice (some ⟨g, 0, none⟩) (n - 1) c)) w1) :
    if Region.wanted o (yielded ops a.tmps) = true then Oper.wp P o a W Kc Q else E := by
  have hw : Region.wanted o (yielded ops a.tmps) = true := by simp [Region.wanted, hg]
  have hh := Kd.R_delete_step (Q := Q) (Kc := Kc) d (w0 := W) base hw s x t e ho ht hinfo hs hx hA hm HO hk (Below.refl base W) hbase (fun w1 h1 _ h3 => h w1 h1 h3)
  rw [if_pos hw] at hh ⊢
  exact hh
section
variable {α : Type} {d : Kd α} {e : Nat} {W : World} {base : Nat} {ok : Nat → Prop} {g m c : Nat} {xs : List α}
theorem R_beyond1 (h : d.R e W base ok (.slice (some ⟨g, 0, none⟩) m c) xs) (k : Nat) (u : Value) (hk : m * d.sz ≤ k) : d.R e (W.setCell ⟨g, k, none⟩ u) base ok (.slice (some ⟨g, 0, none⟩) m c) xs ∧ W.grownBy (W.setCell ⟨g, k, none⟩ u) (some g) := by
  have hm := (Kd.R_reads' h).1
  subst hm
  obtain ⟨h0, inner, ho, hr⟩ := h
  have hs := ho.stored k u
  rw [List.set_eq_of_length_le (by rw [hr.1]; exact hk)] at hs
  exact ⟨⟨h0, inner, hs.1, hr.imp_ (fun _ _ hp => Kd.M_far (p := ⟨g, k, none⟩) hp (fun j hj => by
    intro e
    apply hj.2
    rw [e]
    rfl) u)⟩, hs.2⟩
theorem R_beyond (cs : List Value) : ∀ {W : World} (h : d.R e W base ok (.slice (some ⟨g, 0, none⟩) m c) xs) (k : Nat) (hk : m * d.sz ≤ k), d.R e (W.setCells g k cs) base ok (.slice (some ⟨g, 0, none⟩) m c) xs ∧ W.grownBy (W.setCells g k cs) (some g) := by
  induction cs with
  | nil => intro W h k hk; exact ⟨h, World.grownBy.refl _ _⟩
  | cons u r ih =>
    intro W h k hk
    obtain ⟨h1, h2⟩ := R_beyond1 h k u hk
    obtain ⟨h3, h4⟩ := ih h1 (k + 1) (by omega)
    exact ⟨h3, World.grownBy.trans h2 h4⟩
/-- The cells up to the capacity are there, none of them frozen. -/
theorem R_room (h : d.R e W base ok (.slice (some ⟨g, 0, none⟩) m c) xs) (j : Nat) (hj : j < c * d.sz) : (W.cell? ⟨g, j, none⟩).isSome = true ∧ W.frozen? ⟨g, j, none⟩ = false := by
  obtain ⟨_, inner, ho, _⟩ := h
  rcases ho.2 with ⟨h', _⟩ | ⟨g', cap', cur, h', _, hh, _, _, hsz, _⟩
  · cases h'
  · injection h' with h1 h2 h3
    injection h1 with h1
    injection h1 with h1
    subst h1; subst h3
    refine ⟨?_, by simp [World.frozen?, hh]⟩
    rw [cell_of_row W g j cur e (0, 0) hh, Array.getElem?_eq_getElem (by rw [hsz]; exact hj)]
    rfl
theorem R_cap (h : d.R e W base ok (.slice (some ⟨g, 0, none⟩) m c) xs) : m ≤ c ∧ c ≤ maxLen := by
  have hm := (Kd.R_reads' h).1
  subst hm
  obtain ⟨_, inner, ho, _⟩ := h
  rcases ho.2 with ⟨h', _⟩ | ⟨g', cap', cur, h', _, hh, h4, h5, hsz, _⟩
  · cases h'
  · injection h' with h1 h2 h3
    subst h3
    exact ⟨h4, h5⟩
end
end Go.Proofs.Ytmecbfadhacajaa.Hw
