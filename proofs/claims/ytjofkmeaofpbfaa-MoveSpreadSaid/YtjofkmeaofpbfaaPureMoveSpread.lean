/- The pure law behind MoveSpread: for every input that its bounds let in, the law's function answers true. Conditions: none. -/
import Derived.Test.YtjofkmeaofpbfaaPMoveSpreadx5
set_option linter.unusedVariables false
namespace Go.Proofs.Ytjofkmeaofpbfaa.Pure
open Go.RowKit Go.Proofs.Ytjofkmeaofpbfaa.PMoveSpread Go.Proofs.YtjofkmeaofpbfaaW.PrintWords Go.Proofs.YtjofkmeaofpbfaaW.PrintLast

theorem wrap64_in (n : Int) (h : -9223372036854775808 ≤ n) (h2 : n < 9223372036854775808) : wrap64 n = n := by unfold wrap64; omega
theorem rd31 (l : List S31) (i : Nat) (h : i < l.length) : rd_T31 l (i : Int) = l[i] := by
  unfold rd_T31
  simp [List.getD_eq_getElem?_getD, h]
/-- No From of the moves that wait is the location a. -/
def fre (wait : List S31) (a : Int) : Prop := ∀ x ∈ wait, x.f1 ≠ a
theorem go_cases (sp : Int) (n : Nat) (wait out : List S31) (hne : wait ≠ []) :
    (∃ k, ∃ hk : k < wait.length, fre wait wait[k].f0 ∧ move_Order.go sp (n + 1) wait out = move_Order.go sp n (wait.eraseIdx k) (out ++ [wait[k]])) ∨
    ((∀ x ∈ wait, ¬ fre wait x.f0) ∧ move_Order.go sp (n + 1) wait out = move_Order.go sp n (wait.map (move_Order.up sp (wait.getD 0 z31).f0)) (out ++ [(⟨sp, (wait.getD 0 z31).f0⟩ : S31)])) := by
  cases he : wait.findIdx? (fun m => !(wait.any fun x => x.f1 == m.f0)) with
  | none =>
    right
    refine ⟨fun x hx hf => ?_, ?_⟩
    · rw [List.findIdx?_eq_none_iff] at he
      have := he x hx
      simp only [Bool.not_eq_false', List.any_eq_true, beq_iff_eq] at this
      obtain ⟨y, hy, e⟩ := this
      exact hf y hy e
    · simp only [move_Order.go]
      rw [if_neg hne, he]
      rfl
  | some k =>
    left
    have hh := he
    rw [List.findIdx?_eq_some_iff_getElem] at hh
    obtain ⟨hk, hf, _⟩ := hh
    refine ⟨k, hk, fun x hx e => ?_, ?_⟩
    · have hf' : (wait.any fun x => x.f1 == wait[k].f0) = false := by simpa using hf
      rw [List.any_eq_false] at hf'
      exact hf' x hx (by simpa using e)
    · have hg : wait.getD k z31 = wait[k] := by rw [List.getD_eq_getElem?_getD, List.getElem?_eq_getElem hk]; rfl
      simp only [move_Order.go]
      rw [if_neg hne, he]
      simp only [hg]
/-- A move done over what the locations hold. -/
def upd (s : Int → Int) (m : S31) : Int → Int := fun a => if a = m.f0 then s m.f1 else s a
def run (s : Int → Int) (ms : List S31) : Int → Int := ms.foldl upd s
structure Inv (sp : Int) (wait : List S31) : Prop where
  nd : (wait.map (·.f0)).Nodup
  ns : ∀ x ∈ wait, x.f0 ≠ sp
  ne : ∀ x ∈ wait, x.f0 ≠ x.f1
structure Val (sp : Int) (t s : Int → Int) (wait : List S31) : Prop where
  on : ∀ x ∈ wait, s x.f1 = t x.f0
  off : ∀ a, a ≠ sp → (∀ x ∈ wait, x.f0 ≠ a) → s a = t a
theorem mem_erase_or {l : List S31} {k : Nat} (hk : k < l.length) {x : S31} (hx : x ∈ l) : x = l[k] ∨ x ∈ l.eraseIdx k := by
  obtain ⟨j, hj, rfl⟩ := List.getElem_of_mem hx
  by_cases e : j = k
  · subst e; exact Or.inl rfl
  · exact Or.inr (List.mem_eraseIdx_iff_getElem.2 ⟨j, hj, e, rfl⟩)
theorem Inv.erase {sp : Int} {wait : List S31} (h : Inv sp wait) (k : Nat) : Inv sp (wait.eraseIdx k) :=
  ⟨h.nd.sublist ((List.eraseIdx_sublist wait k).map _), fun x hx => h.ns x (List.mem_of_mem_eraseIdx hx), fun x hx => h.ne x (List.mem_of_mem_eraseIdx hx)⟩
theorem Val.free {sp : Int} {t s : Int → Int} {wait : List S31} (h : Val sp t s wait) {k : Nat} (hk : k < wait.length) (hf : fre wait wait[k].f0) : Val sp t (upd s wait[k]) (wait.eraseIdx k) := by
  refine ⟨fun x hx => ?_, fun a ha hx => ?_⟩
  · have hm := List.mem_of_mem_eraseIdx hx
    unfold upd
    rw [if_neg (hf x hm)]
    exact h.on x hm
  · unfold upd
    by_cases e : a = wait[k].f0
    · rw [if_pos e, e]
      exact h.on _ (List.getElem_mem hk)
    · rw [if_neg e]
      refine h.off a ha fun x hm hxa => ?_
      rcases mem_erase_or hk hm with rfl | h2
      · exact e hxa.symm
      · exact hx x h2 hxa
theorem pigeon : ∀ (A B : List Int), A.Nodup → (∀ a ∈ A, a ∈ B) → B.length ≤ A.length → A.Perm B
  | [], B, _, _, hl => by
    have : B = [] := List.eq_nil_of_length_eq_zero (by simpa using hl)
    subst this; exact List.Perm.refl _
  | a :: A, B, hn, hs, hl => by
    have ha : a ∈ B := hs a (List.mem_cons_self)
    have hp := List.perm_cons_erase ha
    rw [List.nodup_cons] at hn
    have h1 : ∀ x ∈ A, x ∈ B.erase a := fun x hx => (List.mem_erase_of_ne (fun e => hn.1 (by rw [← e]; exact hx))).2 (hs x (List.mem_cons_of_mem _ hx))
    have h2 := pigeon A (B.erase a) hn.2 h1 (by rw [List.length_erase_of_mem ha]; simp only [List.length_cons] at hl; omega)
    exact (h2.cons a).trans hp.symm
structure Round (sp : Int) (wait : List S31) : Prop where
  nf : (wait.map (·.f1)).Nodup
  ft : ∀ x ∈ wait, ∃ y ∈ wait, y.f0 = x.f1
  tf : ∀ x ∈ wait, ∃ y ∈ wait, y.f1 = x.f0
theorem Inv.round {sp : Int} {wait : List S31} (h : Inv sp wait) (hb : ∀ x ∈ wait, ¬ fre wait x.f0) : Round sp wait := by
  have tf : ∀ x ∈ wait, ∃ y ∈ wait, y.f1 = x.f0 := by
    intro x hx
    have := hb x hx
    unfold fre at this
    simp only [Classical.not_forall, Decidable.not_not] at this
    obtain ⟨y, hy, e⟩ := this
    exact ⟨y, hy, e⟩
  have hp := pigeon (wait.map (·.f0)) (wait.map (·.f1)) h.nd (by
    intro a ha
    obtain ⟨x, hx, rfl⟩ := List.mem_map.1 ha
    obtain ⟨y, hy, e⟩ := tf x hx
    exact List.mem_map.2 ⟨y, hy, e⟩) (by simp)
  refine ⟨hp.nodup_iff.1 h.nd, fun x hx => ?_, tf⟩
  have : x.f1 ∈ wait.map (·.f0) := hp.mem_iff.2 (List.mem_map.2 ⟨x, hx, rfl⟩)
  obtain ⟨y, hy, e⟩ := List.mem_map.1 this
  exact ⟨y, hy, e⟩
theorem up_f0 (sp t : Int) (x : S31) : (move_Order.up sp t x).f0 = x.f0 := by unfold move_Order.up; split <;> rfl
theorem Inv.up {sp t : Int} {wait : List S31} (h : Inv sp wait) : Inv sp (wait.map (move_Order.up sp t)) := by
  refine ⟨?_, fun x hx => ?_, fun x hx => ?_⟩
  · rw [List.map_map, show ((fun x : S31 => x.f0) ∘ move_Order.up sp t) = (fun x => x.f0) from funext (up_f0 sp t)]
    exact h.nd
  · obtain ⟨y, hy, rfl⟩ := List.mem_map.1 hx
    rw [up_f0]; exact h.ns y hy
  · obtain ⟨y, hy, rfl⟩ := List.mem_map.1 hx
    rw [up_f0]
    unfold move_Order.up
    split
    · exact h.ns y hy
    · exact h.ne y hy
theorem Val.busy {sp t0 : Int} {t s : Int → Int} {wait : List S31} (hi : Inv sp wait) (hr : Round sp wait) (h : Val sp t s wait) : Val sp t (upd s ⟨sp, t0⟩) (wait.map (move_Order.up sp t0)) := by
  refine ⟨fun x hx => ?_, fun a ha hx => ?_⟩
  · obtain ⟨y, hy, rfl⟩ := List.mem_map.1 hx
    rw [up_f0, ← h.on y hy]
    unfold move_Order.up upd
    by_cases e : y.f1 = t0
    · rw [if_pos e]
      show (if sp = sp then s t0 else s sp) = _
      rw [if_pos rfl, e]
    · rw [if_neg e]
      obtain ⟨z, hz, e2⟩ := hr.ft y hy
      rw [if_neg (by rw [← e2]; exact hi.ns z hz)]
  · unfold upd
    rw [if_neg ha]
    exact h.off a ha fun x hm => by
      have := hx (move_Order.up sp t0 x) (List.mem_map.2 ⟨x, hm, rfl⟩)
      rwa [up_f0] at this
theorem nodup_at {α : Type} (f : S31 → α) : ∀ (l : List S31), (l.map f).Nodup → ∀ (i j : Nat) (hi : i < l.length) (hj : j < l.length), f l[i] = f l[j] → i = j
  | [], _, i, _, hi, _, _ => absurd hi (Nat.not_lt_zero _)
  | x :: l, h, i, j, hi, hj, e => by
    rw [List.map_cons, List.nodup_cons] at h
    cases i with
    | zero =>
      cases j with
      | zero => rfl
      | succ j => exact absurd (List.mem_map.2 ⟨l[j]'(by simpa using hj), List.getElem_mem _, e.symm⟩) h.1
    | succ i =>
      cases j with
      | zero => exact absurd (List.mem_map.2 ⟨l[i]'(by simpa using hi), List.getElem_mem _, e⟩) h.1
      | succ j => rw [nodup_at f l h.2 i j (by simpa using hi) (by simpa using hj) e]
theorem head_mem {wait : List S31} (h : wait ≠ []) : wait.getD 0 z31 ∈ wait := by
  cases wait with
  | nil => exact absurd rfl h
  | cons x l => exact List.mem_cons_self
theorem main (sp : Int) : ∀ (N : Nat) (wait : List S31), wait.length = N → Inv sp wait → ∀ (fuel : Nat) (out : List S31), N + N / 2 < fuel →
    ∃ ms, move_Order.go sp fuel wait out = out ++ ms ∧ N ≤ ms.length ∧ ms.length ≤ N + N / 2 ∧ (wait ≠ [] → (∀ x ∈ wait, ¬ fre wait x.f0) → N + 1 ≤ ms.length) ∧
      ∀ t s, Val sp t s wait → ∀ a, a ≠ sp → run s ms a = t a := by
  intro N
  induction N using Nat.strongRecOn with
  | ind N ih =>
  intro wait hl hi fuel out hf
  by_cases hne : wait = []
  · subst hne
    subst hl
    exact ⟨[], by rw [move_Order.go_nil]; simp, by simp, by simp, fun h => absurd rfl h, fun t s h a ha => h.off a ha (fun x hx => absurd hx List.not_mem_nil)⟩
  · have hpos : 0 < N := by rw [← hl]; exact List.length_pos_iff.2 hne
    obtain ⟨f, rfl⟩ : ∃ f, fuel = f + 1 := ⟨fuel - 1, by omega⟩
    rcases go_cases sp f wait out hne with ⟨k, hk, hfr, hgo⟩ | ⟨hb, hgo⟩
    · obtain ⟨ms, h1, h2, h3, _, h5⟩ := ih (N - 1) (by omega) (wait.eraseIdx k) (by rw [List.length_eraseIdx_of_lt hk, hl]) (hi.erase k) f (out ++ [wait[k]]) (by omega)
      refine ⟨wait[k] :: ms, by rw [hgo, h1]; simp, by simp only [List.length_cons]; omega, by simp only [List.length_cons]; omega, fun _ hb => absurd hfr (hb _ (List.getElem_mem hk)), fun t s h a ha => ?_⟩
      exact h5 t _ (h.free hk hfr) a ha
    · have hr := hi.round hb
      generalize ht : (wait.getD 0 z31).f0 = t at hgo
      have htm : ∃ x ∈ wait, x.f0 = t := ⟨_, head_mem hne, ht⟩
      have hts : t ≠ sp := by obtain ⟨x, hx, e⟩ := htm; rw [← e]; exact hi.ns x hx
      have hN2 : 2 ≤ N := by
        obtain ⟨x, hx, e⟩ := htm
        obtain ⟨y, hy, e2⟩ := hr.tf x hx
        rw [← hl]
        rcases wait with _ | ⟨z, _ | ⟨z2, l⟩⟩
        · exact absurd hx List.not_mem_nil
        · rw [List.mem_singleton] at hx hy
          subst hx; subst hy
          exact absurd e2.symm (hi.ne _ (List.mem_singleton.2 rfl))
        · simp
      obtain ⟨f, rfl⟩ : ∃ g, f = g + 2 := ⟨f - 2, by omega⟩
      obtain ⟨w1, hw1⟩ : ∃ w1, w1 = wait.map (move_Order.up sp t) := ⟨_, rfl⟩
      rw [← hw1] at hgo
      have hi1 : Inv sp w1 := by rw [hw1]; exact hi.up
      have hl1 : w1.length = N := by rw [hw1, List.length_map, hl]
      have hne1 : w1 ≠ [] := by intro e; rw [e] at hl1; simp at hl1; omega
      have hft : fre w1 t := by
        intro x hx
        rw [hw1] at hx
        obtain ⟨y, hy, rfl⟩ := List.mem_map.1 hx
        unfold move_Order.up
        split
        · exact fun e => hts e.symm
        · assumption
      obtain ⟨k, hk, hfr, hgo1⟩ : ∃ k, ∃ hk : k < w1.length, fre w1 w1[k].f0 ∧ move_Order.go sp (f + 2) w1 (out ++ [(⟨sp, t⟩ : S31)]) = move_Order.go sp (f + 1) (w1.eraseIdx k) (out ++ [(⟨sp, t⟩ : S31)] ++ [w1[k]]) := by
        rcases go_cases sp (f + 1) w1 (out ++ [(⟨sp, t⟩ : S31)]) hne1 with h | ⟨hb1, _⟩
        · exact h
        · obtain ⟨x, hx, e⟩ := htm
          have := hb1 (move_Order.up sp t x) (by rw [hw1]; exact List.mem_map.2 ⟨x, hx, rfl⟩)
          rw [up_f0, e] at this
          exact absurd hft this
      have hkw : k < wait.length := by omega
      have hk1 : w1[k] = move_Order.up sp t wait[k] := by simp [hw1]
      have hkt : wait[k].f0 = t := by
        apply Classical.byContradiction
        intro hn
        obtain ⟨y, hy, e⟩ := hr.tf wait[k] (List.getElem_mem hkw)
        have h9 := hfr (move_Order.up sp t y) (by rw [hw1]; exact List.mem_map.2 ⟨y, hy, rfl⟩)
        rw [hk1, up_f0] at h9
        unfold move_Order.up at h9
        rw [if_neg (by rw [e]; exact hn)] at h9
        exact h9 e
      have hf1 : wait[k].f1 ≠ t := by
        intro e
        exact hi.ne _ (List.getElem_mem hkw) (by rw [hkt, e])
      obtain ⟨w2, hw2⟩ : ∃ w2, w2 = w1.eraseIdx k := ⟨_, rfl⟩
      rw [← hw2] at hgo1
      have hi2 : Inv sp w2 := by rw [hw2]; exact hi1.erase k
      have hl2 : w2.length = N - 1 := by rw [hw2, List.length_eraseIdx_of_lt hk, hl1]
      have hne2 : w2 ≠ [] := by intro e; rw [e] at hl2; simp at hl2; omega
      obtain ⟨k2, hk2, hfr2, hgo2⟩ : ∃ k2, ∃ hk2 : k2 < w2.length, fre w2 w2[k2].f0 ∧ move_Order.go sp (f + 1) w2 (out ++ [(⟨sp, t⟩ : S31)] ++ [w1[k]]) = move_Order.go sp f (w2.eraseIdx k2) (out ++ [(⟨sp, t⟩ : S31)] ++ [w1[k]] ++ [w2[k2]]) := by
        rcases go_cases sp f w2 (out ++ [(⟨sp, t⟩ : S31)] ++ [w1[k]]) hne2 with h | ⟨hb2, _⟩
        · exact h
        · obtain ⟨y, hy, ey⟩ := hr.ft wait[k] (List.getElem_mem hkw)
          have hym : move_Order.up sp t y ∈ w1 := by rw [hw1]; exact List.mem_map.2 ⟨y, hy, rfl⟩
          have hy2 : move_Order.up sp t y ∈ w2 := by
            rw [hw2]
            rcases mem_erase_or hk hym with e | h
            · have h8 : (move_Order.up sp t y).f0 = w1[k].f0 := by rw [e]
              rw [hk1, up_f0, up_f0, hkt, ey] at h8
              exact absurd h8 hf1
            · exact h
          have hfy : fre w2 (move_Order.up sp t y).f0 := by
            rw [up_f0, ey]
            intro x hx e
            rw [hw2, List.mem_eraseIdx_iff_getElem] at hx
            obtain ⟨j, hj, hjk, rfl⟩ := hx
            have hjw : j < wait.length := by omega
            have hj1 : w1[j] = move_Order.up sp t wait[j] := by simp [hw1]
            rw [hj1] at e
            unfold move_Order.up at e
            split at e
            · obtain ⟨z, hz, ez⟩ := hr.ft wait[k] (List.getElem_mem hkw)
              exact hi.ns z hz (ez.trans e.symm)
            · exact hjk (nodup_at (·.f1) wait hr.nf j k hjw hkw e)
          exact absurd hfy (hb2 _ hy2)
      obtain ⟨ms, h1, h2, h3, _, h5⟩ := ih (N - 2) (by omega) (w2.eraseIdx k2) (by rw [List.length_eraseIdx_of_lt hk2, hl2]; omega) (hi2.erase k2) f (out ++ [(⟨sp, t⟩ : S31)] ++ [w1[k]] ++ [w2[k2]]) (by omega)
      refine ⟨(⟨sp, t⟩ : S31) :: w1[k] :: w2[k2] :: ms, by rw [hgo, hgo1, hgo2, h1]; simp, by simp only [List.length_cons]; omega, by simp only [List.length_cons]; omega, fun _ _ => by simp only [List.length_cons]; omega, fun t' s h a ha => ?_⟩
      have hv1 : Val sp t' (upd s ⟨sp, t⟩) w1 := by rw [hw1]; exact h.busy hi hr
      have hv2 : Val sp t' (upd (upd s ⟨sp, t⟩) w1[k]) w2 := by rw [hw2]; exact hv1.free hk hfr
      exact h5 t' _ (hv2.free hk2 hfr2) a ha
/-- Where ranks go down along the moves none is busy for ever. -/
theorem free_all (sp : Int) (r : Int → Nat) : ∀ (N : Nat) (wait : List S31), wait.length = N → (∀ x ∈ wait, r x.f0 < r x.f1) → ∀ (fuel : Nat) (out : List S31), N ≤ fuel →
    ∃ ms, move_Order.go sp fuel wait out = out ++ ms ∧ ms.length = N ∧ ∀ x ∈ ms, x ∈ wait := by
  intro N
  induction N with
  | zero =>
    intro wait hl _ fuel out _
    have : wait = [] := List.eq_nil_of_length_eq_zero hl
    subst this
    exact ⟨[], by rw [move_Order.go_nil]; simp, rfl, fun x hx => hx⟩
  | succ N ih =>
    intro wait hl hr fuel out hf
    have hne : wait ≠ [] := by intro e; rw [e] at hl; simp at hl
    obtain ⟨f, rfl⟩ : ∃ f, fuel = f + 1 := ⟨fuel - 1, by omega⟩
    rcases go_cases sp f wait out hne with ⟨k, hk, hfr, hgo⟩ | ⟨hb, _⟩
    · obtain ⟨ms, h1, h2, h3⟩ := ih (wait.eraseIdx k) (by rw [List.length_eraseIdx_of_lt hk, hl]; rfl) (fun x hx => hr x (List.mem_of_mem_eraseIdx hx)) f (out ++ [wait[k]]) (by omega)
      refine ⟨wait[k] :: ms, by rw [hgo, h1]; simp, by simp [h2], fun x hx => ?_⟩
      rcases List.mem_cons.1 hx with rfl | hx
      · exact List.getElem_mem hk
      · exact List.mem_of_mem_eraseIdx (h3 x hx)
    · exfalso
      have : ∀ (q : Nat) (x : S31), x ∈ wait → r x.f0 = q → False := by
        intro q
        induction q using Nat.strongRecOn with
        | ind q ihq =>
          intro x hx e
          have := hb x hx
          unfold fre at this
          simp only [Classical.not_forall, Decidable.not_not] at this
          obtain ⟨y, hy, e2⟩ := this
          exact ihq (r y.f0) (by have := hr y hy; rw [e2] at this; omega) y hy rfl
      exact this _ _ (head_mem hne) rfl

/-- With fuel enough it answers v. -/
def Ev {α : Type} (g : Nat → Option α) (v : α) : Prop := ∃ k0, ∀ k, k0 ≤ k → g k = some v
theorem Ev.succ {α : Type} {g : Nat → Option α} {v : α} (h : Ev (fun k => g (k + 1)) v) : Ev g v := by
  obtain ⟨k0, h⟩ := h
  refine ⟨k0 + 1, fun k hk => ?_⟩
  obtain ⟨k, rfl⟩ : ∃ m, k = m + 1 := ⟨k - 1, by omega⟩
  exact h k (by omega)
theorem Ev.bind {α β : Type} {g : Nat → Option α} {f : Nat → α → Option β} {a : α} {v : β} (h1 : Ev g a) (h2 : Ev (fun k => f k a) v) : Ev (fun k => (g k).bind (f k)) v := by
  obtain ⟨k1, h1⟩ := h1
  obtain ⟨k2, h2⟩ := h2
  refine ⟨k1 + k2, fun k hk => ?_⟩
  show (g k).bind (f k) = some v
  rw [h1 k (by omega)]
  exact h2 k (by omega)
theorem Ev.const {α : Type} (v : α) : Ev (fun _ => some v) v := ⟨0, fun _ _ => rfl⟩
theorem Ev.get {α : Type} {g : Nat → Option α} {v : α} (h : Ev g v) : ∃ k, g k = some v := by
  obtain ⟨k0, h⟩ := h
  exact ⟨k0, h k0 (Nat.le_refl _)⟩
theorem Ev.of {α : Type} {g g' : Nat → Option α} {v : α} (h : Ev g v) (e : ∀ k, g' k = g k) : Ev g' v := by
  obtain ⟨k0, h⟩ := h
  exact ⟨k0, fun k hk => (e k).trans (h k hk)⟩
theorem wnat (i : Nat) (h : i < 9223372036854775807) : wrap64 ((i : Int) + 1) = ((i + 1 : Nat) : Int) := by rw [wrap64_in _ (by omega) (by omega)]; omega

theorem rd50 (l : List S50) (i : Nat) (h : i < l.length) : rd_T50 l (i : Int) = l[i] := by
  unfold rd_T50
  simp [List.getD_eq_getElem?_getD, h]
/-- What the locations hold, said by a list of what was set. -/
def envAt (env : List S50) : Int → Int := env.foldl (fun s x => fun a => if a = x.f0 then x.f1 else s a) id
theorem envAt_snoc (env : List S50) (x : S50) (a : Int) : envAt (env ++ [x]) a = if a = x.f0 then x.f1 else envAt env a := by
  unfold envAt
  rw [List.foldl_append]
  rfl
theorem get_l0 (env : List S50) (hl : env.length < 9223372036854775807) (a : Int) : ∀ (i : Nat), i ≤ env.length → Ev (fun k => cubbyref15_Get.l0 k env a ((i : Int) - 1)) (envAt (env.take i) a) := by
  intro i
  induction i with
  | zero =>
    intro _
    refine Ev.succ ?_
    simp only [cubbyref15_Get.l0]
    rw [List.take_zero]
    exact (Ev.const a).of fun k => if_neg (by omega)
  | succ i ih =>
    intro hi
    have hlt : i < env.length := hi
    refine Ev.succ ?_
    simp only [cubbyref15_Get.l0]
    have e : ((i + 1 : Nat) : Int) - 1 = (i : Int) := by omega
    rw [List.take_add_one, List.getElem?_eq_getElem hlt]
    show Ev _ (envAt (env.take i ++ [env[i]]) a)
    rw [envAt_snoc]
    by_cases h : env[i].f0 = a
    · rw [if_pos h.symm]
      refine (Ev.const env[i].f1).of fun k => ?_
      rw [e, if_pos (by omega), if_pos (by omega), if_pos (by omega), rd50 env i hlt, if_pos h]
    · rw [if_neg (fun e => h e.symm)]
      refine (ih (by omega)).of fun k => ?_
      rw [e, if_pos (by omega), if_pos (by omega), if_pos (by omega), rd50 env i hlt, if_neg h, wrap64_in _ (by omega) (by omega)]
theorem get_ev (env : List S50) (hl : env.length < 9223372036854775807) (a : Int) : Ev (fun k => cubbyref15_Get.f k env a) (envAt env a) := by
  have := get_l0 env hl a env.length (Nat.le_refl _)
  rw [List.take_of_length_le (Nat.le_refl _)] at this
  refine this.of fun k => ?_
  unfold cubbyref15_Get.f
  rw [wrap64_in _ (by omega) (by omega)]
theorem play_l0 (ms : List S31) (hl : ms.length ≤ 1000000) (d : Nat) : ∀ (i : Nat) (env : List S50), i + d = ms.length → env.length = i → ∃ env', Ev (fun k => cubbyref15_Play.l0 k ms env (i : Int)) env' ∧ env'.length = ms.length ∧ ∀ a, envAt env' a = run (envAt env) (ms.drop i) a := by
  induction d with
  | zero =>
    intro i env hi he
    refine ⟨env, Ev.succ ?_, by omega, fun a => ?_⟩
    · simp only [cubbyref15_Play.l0]
      exact (Ev.const env).of fun k => if_neg (by omega)
    · rw [List.drop_eq_nil_of_le (by omega)]; rfl
  | succ d ih =>
    intro i env hi he
    have hlt : i < ms.length := by omega
    obtain ⟨env', h1, h2, h3⟩ := ih (i + 1) (env ++ [(⟨ms[i].f0, envAt env ms[i].f1⟩ : S50)]) (by omega) (by simp [he])
    refine ⟨env', Ev.succ ?_, h2, fun a => ?_⟩
    · simp only [cubbyref15_Play.l0]
      refine (Ev.bind (get_ev env (by omega) ms[i].f1) (f := fun k t => cubbyref15_Play.l0 k ms (env ++ [(⟨ms[i].f0, t⟩ : S50)]) ((i + 1 : Nat) : Int)) h1).of fun k => ?_
      rw [if_pos (by omega), if_pos (by omega), rd31 ms i hlt, wnat i (by omega)]
      congr 1
      funext t
      rw [if_pos (by omega)]
    · rw [h3, List.drop_eq_getElem_cons hlt]
      show run _ _ a = run (upd (envAt env) ms[i]) _ a
      congr 1
      funext b
      rw [envAt_snoc]
      rfl
theorem play_ev (ms : List S31) (hl : ms.length ≤ 1000000) : ∃ env, Ev (fun k => cubbyref15_Play.f k ms) env ∧ env.length = ms.length ∧ ∀ a, envAt env a = run id ms a :=
  play_l0 ms hl ms.length 0 [] (by omega) rfl
theorem run_other (ms : List S31) (a : Int) : ∀ (s : Int → Int), (∀ m ∈ ms, m.f0 ≠ a) → run s ms a = s a := by
  induction ms with
  | nil => intro s _; rfl
  | cons m ms ih =>
    intro s h
    show run (upd s m) ms a = s a
    rw [ih _ (fun x hx => h x (List.mem_cons_of_mem _ hx))]
    unfold upd
    exact if_neg (fun e => h m List.mem_cons_self e.symm)

theorem busy_l0 (l : List S31) (hl : l.length ≤ 1000) (a : Int) (d : Nat) : ∀ (i : Nat), i + d = l.length → Ev (fun k => cubbyref15_busy.l0 k l a (i : Int)) ((l.drop i).any fun x => x.f1 == a) := by
  induction d with
  | zero =>
    intro i hi
    refine Ev.succ ?_
    simp only [cubbyref15_busy.l0]
    rw [List.drop_eq_nil_of_le (by omega)]
    exact (Ev.const false).of fun k => by rw [if_neg (by omega)]
  | succ d ih =>
    intro i hi
    have hlt : i < l.length := by omega
    refine Ev.succ ?_
    simp only [cubbyref15_busy.l0]
    rw [List.drop_eq_getElem_cons hlt, List.any_cons]
    by_cases e : l[i].f1 = a
    · rw [beq_iff_eq.2 e, Bool.true_or]
      exact (Ev.const true).of fun k => by rw [if_pos (by omega), if_pos (by omega), rd31 l i hlt, if_pos e]
    · rw [beq_eq_false_iff_ne.2 e, Bool.false_or]
      exact (ih (i + 1) (by omega)).of fun k => by rw [if_pos (by omega), if_pos (by omega), rd31 l i hlt, if_neg e, wnat i (by omega)]
theorem busy_ev (l : List S31) (hl : l.length ≤ 1000) (a : Int) : Ev (fun k => cubbyref15_busy.f k l a) (l.any fun x => x.f1 == a) := busy_l0 l hl a l.length 0 (by omega)
/-- The first that may be done, or how many there are. -/
def firstFree (wait : List S31) : Nat := (wait.findIdx? (fun m => !(wait.any fun x => x.f1 == m.f0))).getD wait.length
theorem firstFree_le (wait : List S31) : firstFree wait ≤ wait.length := by
  unfold firstFree
  cases h : wait.findIdx? (fun m => !(wait.any fun x => x.f1 == m.f0)) with
  | none => exact Nat.le_refl _
  | some k => rw [List.findIdx?_eq_some_iff_getElem] at h; obtain ⟨h, _⟩ := h; exact Nat.le_of_lt h
theorem firstFree_before (wait : List S31) (j : Nat) (hj : j < firstFree wait) (hw : j < wait.length) : (wait.any fun x => x.f1 == wait[j].f0) = true := by
  unfold firstFree at hj
  cases h : wait.findIdx? (fun m => !(wait.any fun x => x.f1 == m.f0)) with
  | none =>
    rw [List.findIdx?_eq_none_iff] at h
    have := h wait[j] (List.getElem_mem hw)
    simpa using this
  | some k =>
    rw [h] at hj
    rw [List.findIdx?_eq_some_iff_getElem] at h
    obtain ⟨hk, _, hb⟩ := h
    have := hb j hj
    simpa using this
theorem firstFree_at (wait : List S31) (h : firstFree wait < wait.length) : (wait.any fun x => x.f1 == (wait[firstFree wait]'h).f0) = false := by
  cases hh : wait.findIdx? (fun m => !(wait.any fun x => x.f1 == m.f0)) with
  | none =>
    have e : firstFree wait = wait.length := by unfold firstFree; rw [hh]; rfl
    exact absurd h (by omega)
  | some k =>
    have e : firstFree wait = k := by unfold firstFree; rw [hh]; rfl
    rw [List.findIdx?_eq_some_iff_getElem] at hh
    obtain ⟨hk, hf, _⟩ := hh
    simp only [e]
    simpa using hf
theorem ro_l2 (l : List S31) (sp : Int) (wait out : List S31) (n : Int) (hw : wait.length ≤ 1000) (v : List S31) (h : Ev (fun k => cubbyref15_Order.j4 k l sp wait out n ((firstFree wait : Nat) : Int)) v) (d : Nat) : ∀ (j : Nat), j + d = firstFree wait → Ev (fun k => cubbyref15_Order.l2 k l sp wait out n (j : Int)) v := by
  have hle := firstFree_le wait
  induction d with
  | zero =>
    intro j hj
    obtain rfl : j = firstFree wait := by omega
    refine Ev.succ ?_
    simp only [cubbyref15_Order.l2]
    by_cases hlt : firstFree wait < wait.length
    · have hb := busy_ev wait hw (wait[firstFree wait]).f0
      rw [firstFree_at wait hlt] at hb
      refine (Ev.bind hb (f := fun k t => if t = true then cubbyref15_Order.l2 k l sp wait out n (wrap64 ((firstFree wait : Int) + 1)) else cubbyref15_Order.j4 k l sp wait out n (firstFree wait : Int)) (h.of fun k => if_neg (by simp))).of fun k => ?_
      rw [if_pos (by omega), if_pos (by omega), rd31 wait _ hlt]
    · exact h.of fun k => by rw [if_neg (by omega)]
  | succ d ih =>
    intro j hj
    have hlt : j < wait.length := by omega
    refine Ev.succ ?_
    simp only [cubbyref15_Order.l2]
    have hb := busy_ev wait hw (wait[j]).f0
    rw [firstFree_before wait j (by omega) hlt] at hb
    refine (Ev.bind hb (f := fun k t => if t = true then cubbyref15_Order.l2 k l sp wait out n (wrap64 ((j : Int) + 1)) else cubbyref15_Order.j4 k l sp wait out n (j : Int)) ((ih (j + 1) (by omega)).of fun k => ?_)).of fun k => ?_
    · rw [if_pos rfl, wnat j (by omega)]
    · rw [if_pos (by omega), if_pos (by omega), rd31 wait _ hlt]
theorem ro_l3 (l : List S31) (sp : Int) (wait out : List S31) (n t : Int) (hw : wait.length ≤ 1000) (v : List S31) (h : Ev (fun k => cubbyref15_Order.l1 k l sp (wait.map (move_Order.up sp t)) out (wrap64 (n + 1))) v) (d : Nat) : ∀ (i : Nat) (rest : List S31), i + d = wait.length → rest = (wait.take i).map (move_Order.up sp t) → Ev (fun k => cubbyref15_Order.l3 k l sp wait out n rest t (i : Int)) v := by
  induction d with
  | zero =>
    intro i rest hi hr
    refine Ev.succ ?_
    simp only [cubbyref15_Order.l3]
    rw [List.take_of_length_le (by omega)] at hr
    subst hr
    exact h.of fun k => by rw [if_neg (by omega)]
  | succ d ih =>
    intro i rest hi hr
    have hlt : i < wait.length := by omega
    have hrl : rest.length < 8796093022208 := by rw [hr]; simp; omega
    have hr2 : rest ++ [move_Order.up sp t wait[i]] = (wait.take (i + 1)).map (move_Order.up sp t) := by
      rw [hr, List.take_add_one, List.getElem?_eq_getElem hlt, List.map_append]; rfl
    have h2 := ih (i + 1) _ (by omega) hr2
    refine Ev.succ ?_
    simp only [cubbyref15_Order.l3]
    refine h2.of fun k => ?_
    rw [if_pos (by omega), if_pos (by omega), rd31 wait i hlt, wnat i (by omega)]
    unfold move_Order.up
    by_cases e : wait[i].f1 = t
    · rw [if_pos e, if_pos hrl, if_pos e]
    · rw [if_neg e, if_pos hrl, if_neg e]
theorem bnd {α β : Type} (a : α) (f : α → Option β) : (some a).bind f = f a := rfl
theorem ro_l1 (l : List S31) (sp : Int) (hl : l.length ≤ 100) (m : Nat) : ∀ (n : Nat) (wait out : List S31), n + m = 2 * l.length + 2 → wait.length ≤ l.length → out.length = n → Ev (fun k => cubbyref15_Order.l1 k l sp wait out (n : Int)) (move_Order.go sp m wait out) := by
  have hww : wrap64 ((wrap64 (2 * (l.length : Int))) + 2) = ((2 * l.length + 2 : Nat) : Int) := by
    rw [wrap64_in (2 * (l.length : Int)) (by omega) (by omega), wrap64_in _ (by omega) (by omega)]; omega
  induction m with
  | zero =>
    intro n wait out hn hw ho
    have : Ev (fun k => cubbyref15_Order.j2 k l sp wait out (n : Int) false) out := Ev.succ (by simp only [cubbyref15_Order.j2]; exact (Ev.const out).of fun k => if_neg (by simp))
    refine Ev.succ ?_
    simp only [cubbyref15_Order.l1]
    exact this.of fun k => by rw [hww, if_neg (by omega)]
  | succ m ih =>
    intro n wait out hn hw ho
    by_cases hwz : wait = []
    · subst hwz
      rw [move_Order.go_nil]
      have : Ev (fun k => cubbyref15_Order.j2 k l sp [] out (n : Int) false) out := Ev.succ (by simp only [cubbyref15_Order.j2]; exact (Ev.const out).of fun k => if_neg (by simp))
      refine Ev.succ ?_
      simp only [cubbyref15_Order.l1]
      exact this.of fun k => by rw [hww, if_pos (by omega), decide_eq_false (by simp)]
    · have hwp : 0 < wait.length := List.length_pos_iff.2 hwz
      have j4 : Ev (fun k => cubbyref15_Order.j4 k l sp wait out (n : Int) ((firstFree wait : Nat) : Int)) (move_Order.go sp (m + 1) wait out) := by
        refine Ev.succ ?_
        simp only [cubbyref15_Order.j4]
        by_cases hlt : firstFree wait < wait.length
        · have hgo : move_Order.go sp (m + 1) wait out = move_Order.go sp m (wait.eraseIdx (firstFree wait)) (out ++ [wait[firstFree wait]]) :=
            move_Order.go_free sp m (firstFree wait) wait out hlt (firstFree_at wait hlt) (fun j hj h => firstFree_before wait j h hj)
          rw [hgo]
          refine (ih (n + 1) _ _ (by omega) (by rw [List.length_eraseIdx_of_lt hlt]; omega) (by simp [ho])).of fun k => ?_
          have e1 : ((firstFree wait : Nat) : Int).toNat = firstFree wait := Int.toNat_natCast _
          have e2 : (((firstFree wait + 1 : Nat) : Int)).toNat = firstFree wait + 1 := Int.toNat_natCast _
          rw [bnd, if_pos (by omega), if_pos (by omega), if_pos (by omega), if_pos (by omega), bnd, e1, if_pos (by rw [List.length_nil, List.length_take]; omega), bnd, List.nil_append, wnat (firstFree wait) (by omega), if_pos (by omega), if_pos (by omega), bnd, e2, if_pos (by rw [List.length_take, List.length_drop]; omega), wnat n (by omega), rd31 wait _ hlt, ← List.eraseIdx_eq_take_drop_succ]
        · have hff : firstFree wait = wait.length := by have := firstFree_le wait; omega
          have hgo : move_Order.go sp (m + 1) wait out = move_Order.go sp m (wait.map (move_Order.up sp (wait.getD 0 z31).f0)) (out ++ [(⟨sp, (wait.getD 0 z31).f0⟩ : S31)]) :=
            move_Order.go_busy sp m wait out hwz (fun j hj => firstFree_before wait j (by omega) hj)
          rw [hgo]
          have h1 := ih (n + 1) (wait.map (move_Order.up sp (wait.getD 0 z31).f0)) (out ++ [(⟨sp, (wait.getD 0 z31).f0⟩ : S31)]) (by omega) (by rw [List.length_map]; exact hw) (by simp [ho])
          rw [← wnat n (by omega)] at h1
          have h3 := ro_l3 l sp wait (out ++ [(⟨sp, (wait.getD 0 z31).f0⟩ : S31)]) (n : Int) (wait.getD 0 z31).f0 (by omega) _ h1 wait.length 0 [] (by omega) (by simp)
          have hr0 : rd_T31 wait 0 = wait.getD 0 z31 := rfl
          rw [show ((0 : Nat) : Int) = 0 from rfl] at h3
          exact h3.of fun k => by rw [bnd, if_neg (by omega), if_pos (by omega), if_pos (by omega), hr0]
      have l2 := ro_l2 l sp wait out (n : Int) (by omega) _ j4 (firstFree wait) 0 (by omega)
      rw [show ((0 : Nat) : Int) = 0 from rfl] at l2
      have j2 : Ev (fun k => cubbyref15_Order.j2 k l sp wait out (n : Int) true) (move_Order.go sp (m + 1) wait out) := Ev.succ (by simp only [cubbyref15_Order.j2]; exact l2.of fun k => if_pos trivial)
      refine Ev.succ ?_
      simp only [cubbyref15_Order.l1]
      exact j2.of fun k => by rw [hww, if_pos (by omega), decide_eq_true (by omega)]
theorem ro_l0 (l : List S31) (sp : Int) (hl : l.length ≤ 100) (v : List S31) (h : Ev (fun k => cubbyref15_Order.l1 k l sp (l.filter fun m => !(m.f0 == m.f1)) [] 0) v) (d : Nat) : ∀ (i : Nat) (acc : List S31), i + d = l.length → acc = (l.take i).filter (fun m => !(m.f0 == m.f1)) → Ev (fun k => cubbyref15_Order.l0 k l sp acc (i : Int)) v := by
  induction d with
  | zero =>
    intro i acc hi ha
    refine Ev.succ ?_
    simp only [cubbyref15_Order.l0]
    rw [List.take_of_length_le (by omega)] at ha
    subst ha
    exact h.of fun k => by rw [if_neg (by omega)]
  | succ d ih =>
    intro i acc hi ha
    have hlt : i < l.length := by omega
    have hal : acc.length < 8796093022208 := by
      have := List.length_filter_le (fun m : S31 => !(m.f0 == m.f1)) (l.take i)
      rw [ha]; simp at this; omega
    have ht : (l.take (i + 1)).filter (fun m => !(m.f0 == m.f1)) = acc ++ if l[i].f0 = l[i].f1 then [] else [l[i]] := by
      rw [List.take_add_one, List.getElem?_eq_getElem hlt, List.filter_append, ha]
      congr 1
      show [l[i]].filter _ = _
      by_cases e : l[i].f0 = l[i].f1
      · rw [if_pos e, List.filter_cons_of_neg (by simp [e])]; rfl
      · rw [if_neg e, List.filter_cons_of_pos (by simp [e])]; rfl
    refine Ev.succ ?_
    simp only [cubbyref15_Order.l0]
    by_cases e : l[i].f0 = l[i].f1
    · rw [if_pos e, List.append_nil] at ht
      exact (ih (i + 1) acc (by omega) ht.symm).of fun k => by rw [if_pos (by omega), if_pos (by omega), rd31 l i hlt, if_pos e, wnat i (by omega)]
    · rw [if_neg e] at ht
      exact (ih (i + 1) _ (by omega) ht.symm).of fun k => by rw [if_pos (by omega), if_pos (by omega), rd31 l i hlt, if_neg e, if_pos hal, wnat i (by omega)]
theorem ro_ev (l : List S31) (sp : Int) (hl : l.length ≤ 100) : Ev (fun k => cubbyref15_Order.f k l sp) (move_Order.go sp (2 * l.length + 2) (l.filter fun m => !(m.f0 == m.f1)) []) :=
  ro_l0 l sp hl _ (ro_l1 l sp hl (2 * l.length + 2) 0 _ [] (by omega) (List.length_filter_le _ _) rfl) l.length 0 [] (by omega) rfl

theorem same_l0 (l : List S31) (hl : l.length ≤ 1000000) (d : Nat) : ∀ (i : Nat), i + d = l.length → Ev (fun k => cubbylaw15_same.l0 k l l (i : Int)) true := by
  induction d with
  | zero =>
    intro i hi
    refine Ev.succ ?_
    simp only [cubbylaw15_same.l0]
    exact (Ev.const true).of fun k => by rw [if_neg (by omega)]
  | succ d ih =>
    intro i hi
    refine Ev.succ ?_
    simp only [cubbylaw15_same.l0]
    exact (ih (i + 1) (by omega)).of fun k => by rw [if_pos (by omega), if_pos (by omega), if_pos (by omega), if_neg (by simp), wnat i (by omega)]
theorem same_ev (l : List S31) (hl : l.length ≤ 1000000) : Ev (fun k => cubbylaw15_same.f k l l) true :=
  (same_l0 l hl l.length 0 (by omega)).of fun k => by unfold cubbylaw15_same.f; exact if_pos rfl

theorem go_begin (l : List S31) (sp : Int) (hi : Inv sp (l.filter fun m => !(m.f0 == m.f1))) : ∃ ms, move_Order.go sp (2 * l.length + 2) (l.filter fun m => !(m.f0 == m.f1)) [] = ms ∧ (l.filter fun m => !(m.f0 == m.f1)).length ≤ ms.length ∧ ms.length ≤ (l.filter fun m => !(m.f0 == m.f1)).length + (l.filter fun m => !(m.f0 == m.f1)).length / 2 ∧
    ∀ t s, Val sp t s (l.filter fun m => !(m.f0 == m.f1)) → ∀ a, a ≠ sp → run s ms a = t a := by
  have hle := List.length_filter_le (fun m : S31 => !(m.f0 == m.f1)) l
  obtain ⟨ms, h1, h2, h3, _, h5⟩ := main sp _ _ rfl hi (2 * l.length + 2) [] (by omega)
  exact ⟨ms, by rw [h1]; rfl, h2, h3, h5⟩
/-- What is to come to each location. -/
def tgt (l : List S31) (a : Int) : Int := match l.find? (fun m => m.f0 == a) with | some m => m.f1 | none => a
theorem tgt_mem : ∀ (l : List S31), (l.map (·.f0)).Nodup → ∀ m ∈ l, tgt l m.f0 = m.f1
  | [], _, m, h => absurd h List.not_mem_nil
  | x :: l, hn, m, hm => by
    rw [List.map_cons, List.nodup_cons] at hn
    unfold tgt
    by_cases e : x.f0 = m.f0
    · rw [List.find?_cons_of_pos (by simp [e])]
      rcases List.mem_cons.1 hm with rfl | h
      · rfl
      · exact absurd (List.mem_map.2 ⟨m, h, e.symm⟩) hn.1
    · rw [List.find?_cons_of_neg (by simp [e])]
      rcases List.mem_cons.1 hm with rfl | h
      · exact absurd rfl e
      · exact tgt_mem l hn.2 m h
theorem tgt_other (l : List S31) (a : Int) (h : ∀ m ∈ l, m.f0 ≠ a) : tgt l a = a := by
  unfold tgt
  have : l.find? (fun m => m.f0 == a) = none := by
    rw [List.find?_eq_none]
    intro m hm
    simpa using h m hm
  rw [this]
theorem val_tgt (l : List S31) (sp : Int) (hn : (l.map (·.f0)).Nodup) : Val sp (tgt l) id (l.filter fun m => !(m.f0 == m.f1)) := by
  refine ⟨fun x hx => (tgt_mem l hn x (List.mem_filter.1 hx).1).symm, fun a _ h => ?_⟩
  by_cases e : ∃ m ∈ l, m.f0 = a
  · obtain ⟨m, hm, rfl⟩ := e
    rw [tgt_mem l hn m hm]
    apply Classical.byContradiction
    intro hne
    exact h m (List.mem_filter.2 ⟨hm, by simpa using hne⟩) rfl
  · exact (tgt_other l a (fun m hm e2 => e ⟨m, hm, e2⟩)).symm

theorem inv_of (l : List S31) (sp : Int) (hn : (l.map (·.f0)).Nodup) (hs : ∀ x ∈ l, x.f0 ≠ sp) : Inv sp (l.filter fun m => !(m.f0 == m.f1)) :=
  ⟨hn.sublist (List.filter_sublist.map _), fun x hx => hs x (List.mem_filter.1 hx).1, fun x hx => by simpa using (List.mem_filter.1 hx).2⟩
theorem vals (l : List S31) (sp : Int) (hl : l.length ≤ 1000) (hn : (l.map (·.f0)).Nodup) (hs : ∀ x ∈ l, x.f0 ≠ sp) : ∃ ms, move_Order.f l sp = some ms ∧ move_Order.go sp (2 * l.length + 2) (l.filter fun m => !(m.f0 == m.f1)) [] = ms ∧ ms.length ≤ 2 * l.length ∧ ∀ a, a ≠ sp → run id ms a = tgt l a := by
  obtain ⟨ms, h1, h2, h3, h4⟩ := go_begin l sp (inv_of l sp hn hs)
  have hle := List.length_filter_le (fun m : S31 => !(m.f0 == m.f1)) l
  exact ⟨ms, by unfold move_Order.f; rw [if_pos (by omega), h1], h1, by omega, h4 _ _ (val_tgt l sp hn)⟩
/-- Moves said by a function of their number. -/
theorem nodup_gen (g : Nat → S31) (n : Nat) (h : ∀ i j, i < n → j < n → (g i).f0 = (g j).f0 → i = j) : (((List.range n).map g).map (·.f0)).Nodup := by
  rw [List.nodup_iff_pairwise_ne, List.pairwise_iff_getElem]
  intro i j hi hj hij
  simp only [List.length_map, List.length_range] at hi hj
  simp only [List.getElem_map, List.getElem_range]
  intro e
  have := h i j hi hj e
  omega
theorem filter_gen (g : Nat → S31) (n : Nat) (h : ∀ i, i < n → (g i).f0 ≠ (g i).f1) : ((List.range n).map g).filter (fun m => !(m.f0 == m.f1)) = (List.range n).map g := by
  rw [List.filter_eq_self]
  intro x hx
  obtain ⟨i, hi, rfl⟩ := List.mem_map.1 hx
  simpa using h i (List.mem_range.1 hi)
theorem gen_snoc (g : Nat → S31) (n : Nat) : (List.range n).map g ++ [g n] = (List.range (n + 1)).map g := by
  rw [List.range_succ, List.map_append]; rfl
theorem rd_gen (g : Nat → S31) (n i : Nat) (h : i < n) : rd_T31 ((List.range n).map g) (i : Int) = g i := by
  rw [rd31 _ i (by simpa using h)]; simp

structure Good (fr : Int) (acc : List S31) (i : Nat) : Prop where
  nd : (acc.map (·.f0)).Nodup
  all : ∀ m ∈ acc, m.f1 = fr ∧ m.f0 ≠ 1000
  len : acc.length ≤ i
theorem sp_l2 (fr : Int) (hfr : wrap64 fr = fr) (acc : List S31) (hl : acc.length ≤ 50) (ms : List S31) (hm : ms.length ≤ acc.length) (env : List S50) (he : env.length ≤ 1000) (hg : ∀ m ∈ acc, envAt env m.f0 = fr) (ho : Ev (fun k => cubbyref15_Order.f k acc 1000) ms) (d : Nat) :
    ∀ (i : Nat), i + d = acc.length → Ev (fun k => cubbylaw15_MoveSpread.l2 k fr acc ms env (i : Int)) true := by
  induction d with
  | zero =>
    intro i hi
    refine Ev.succ ?_
    simp only [cubbylaw15_MoveSpread.l2]
    refine (Ev.bind ho (f := fun k t => (cubbylaw15_same.f k ms t).bind fun b => if b = true then some (decide ((ms.length : Int) ≤ (acc.length : Int))) else some false) (Ev.bind (same_ev ms (by omega)) (f := fun _ b => if b = true then some (decide ((ms.length : Int) ≤ (acc.length : Int))) else some false) ((Ev.const true).of fun k => by rw [if_pos rfl, decide_eq_true (by omega)]))).of fun k => ?_
    rw [if_neg (by omega)]
  | succ d ih =>
    intro i hi
    have hlt : i < acc.length := by omega
    refine Ev.succ ?_
    simp only [cubbylaw15_MoveSpread.l2]
    refine (Ev.bind (get_ev env (by omega) acc[i].f0) (f := fun k t => if t = wrap64 fr then cubbylaw15_MoveSpread.l2 k fr acc ms env ((i + 1 : Nat) : Int) else some false) ((ih (i + 1) (by omega)).of fun k => if_pos (by rw [hfr]; exact hg _ (List.getElem_mem hlt)))).of fun k => ?_
    rw [if_pos (by omega), if_pos (by omega), rd31 acc i hlt, wnat i (by omega)]
theorem sp_fin (fr : Int) (hfr : wrap64 fr = fr) (acc : List S31) (n : Nat) (hn : n ≤ 30) (hG : Good fr acc n) : Ev (fun k => (move_Order.f acc 1000).bind fun t171 => ((cubbyref15_Play.f k t171).bind fun t174 => (cubbylaw15_MoveSpread.l2 k fr acc t171 t174 0))) true := by
  have hla := hG.len
  have hsp : ∀ x ∈ acc, x.f0 ≠ 1000 := fun x hx => (hG.all x hx).2
  obtain ⟨ms, h1, h2, h3, h4⟩ := vals acc 1000 (by omega) hG.nd hsp
  have hle := List.length_filter_le (fun m : S31 => !(m.f0 == m.f1)) acc
  obtain ⟨ms', f1, f2, f3⟩ := free_all 1000 (fun a => if a = fr then 1 else 0) _ (acc.filter fun m => !(m.f0 == m.f1)) rfl (by
    intro x hx
    obtain ⟨hx1, hx2⟩ := List.mem_filter.1 hx
    have e := (hG.all x hx1).1
    have hne : x.f0 ≠ x.f1 := by simpa using hx2
    show (if x.f0 = fr then 1 else 0) < (if x.f1 = fr then 1 else 0)
    rw [if_neg (by rw [← e]; exact hne), if_pos e]; omega) (2 * acc.length + 2) [] (by omega)
  have e : ms' = ms := by rw [h2] at f1; simpa using f1.symm
  subst e
  have ho := ro_ev acc 1000 (by omega)
  rw [h2] at ho
  obtain ⟨env, g1, g2, g3⟩ := play_ev ms' (by omega)
  have hl2 := sp_l2 fr hfr acc (by omega) ms' (by omega) env (by omega) (fun m hm => by rw [g3, h4 _ (hsp m hm), tgt_mem _ hG.nd m hm, (hG.all m hm).1]) ho acc.length 0 (by omega)
  refine (Ev.bind g1 (f := fun k t => cubbylaw15_MoveSpread.l2 k fr acc ms' t 0) hl2).of fun k => ?_
  rw [h1]; rfl
theorem sp_l1 (fr : Int) (hfr : wrap64 fr = fr) (tos : List Int) (hl : tos.length ≤ 30) (hr : ∀ x ∈ tos, -128 ≤ x ∧ x < 128) (i : Nat) (hi : i < tos.length) (acc : List S31) (hG : Good fr acc i)
    (hn : ∀ acc', Good fr acc' (i + 1) → Ev (fun k => cubbylaw15_MoveSpread.l0 k fr tos acc' ((i + 1 : Nat) : Int)) true) (d : Nat) :
    ∀ (j : Nat) (b : Bool), j + d = acc.length → (b = false → ∀ m ∈ acc.take j, m.f0 ≠ tos[i]) → Ev (fun k => cubbylaw15_MoveSpread.l1 k fr tos acc (i : Int) b (j : Int)) true := by
  have hla := hG.len
  have hti := hr tos[i] (List.getElem_mem hi)
  have hrd : wrap64 (rd tos (i : Int)) = tos[i] := by
    have : rd tos (i : Int) = tos[i] := by unfold rd; simp [List.getD_eq_getElem?_getD, hi]
    rw [this, wrap64_in _ (by omega) (by omega)]
  induction d with
  | zero =>
    intro j b hj hb
    refine Ev.succ ?_
    simp only [cubbylaw15_MoveSpread.l1]
    cases b with
    | true => exact (hn acc ⟨hG.nd, hG.all, by omega⟩).of fun k => by rw [if_neg (by omega), if_pos rfl, wnat i (by omega)]
    | false =>
      have hb' := hb rfl
      rw [List.take_of_length_le (by omega)] at hb'
      have hg' : Good fr (acc ++ [(⟨tos[i], fr⟩ : S31)]) (i + 1) := by
        refine ⟨?_, fun m hm => ?_, by simp; omega⟩
        · rw [List.map_append, List.nodup_append]
          refine ⟨hG.nd, by simp, fun a ha b hb2 => ?_⟩
          obtain ⟨m, hm, rfl⟩ := List.mem_map.1 ha
          have : b = tos[i] := by simpa using hb2
          rw [this]
          exact hb' m hm
        · rcases List.mem_append.1 hm with h | h
          · exact hG.all m h
          · have : m = ⟨tos[i], fr⟩ := by simpa using h
            subst this
            refine ⟨rfl, ?_⟩
            show tos[i] ≠ 1000
            omega
      exact (hn _ hg').of fun k => by rw [if_neg (by omega), if_neg (by simp), if_pos (by omega), if_pos (by omega), if_pos (by omega), hrd, hfr, wnat i (by omega)]
  | succ d ih =>
    intro j b hj hb
    have hlt : j < acc.length := by omega
    refine Ev.succ ?_
    simp only [cubbylaw15_MoveSpread.l1]
    cases b with
    | true => exact (ih (j + 1) true (by omega) (fun h => by simp at h)).of fun k => by rw [if_pos (by omega), if_pos rfl, wnat j (by omega)]
    | false =>
      refine (ih (j + 1) (acc[j].f0 == tos[i]) (by omega) (fun h m hm => ?_)).of fun k => ?_
      · rw [List.take_add_one, List.getElem?_eq_getElem hlt] at hm
        rcases List.mem_append.1 hm with h2 | h2
        · exact hb rfl m h2
        · have : m = acc[j] := by simpa using h2
          subst this
          simpa using h
      · rw [if_pos (by omega), if_neg (by simp), if_pos (by omega), if_pos (by omega), if_pos (by omega), hrd, rd31 acc j hlt, wnat j (by omega)]
theorem sp_l0 (fr : Int) (hfr : wrap64 fr = fr) (tos : List Int) (hl : tos.length ≤ 30) (hr : ∀ x ∈ tos, -128 ≤ x ∧ x < 128) (d : Nat) : ∀ (i : Nat) (acc : List S31), i + d = tos.length → Good fr acc i → Ev (fun k => cubbylaw15_MoveSpread.l0 k fr tos acc (i : Int)) true := by
  induction d with
  | zero =>
    intro i acc hi hG
    refine Ev.succ ?_
    simp only [cubbylaw15_MoveSpread.l0]
    exact (sp_fin fr hfr acc i (by omega) hG).of fun k => by rw [if_neg (by omega)]
  | succ d ih =>
    intro i acc hi hG
    refine Ev.succ ?_
    simp only [cubbylaw15_MoveSpread.l0]
    exact (sp_l1 fr hfr tos hl hr i (by omega) acc hG (fun acc' h => ih (i + 1) acc' (by omega) h) acc.length 0 false (by omega) (fun _ m hm => absurd hm (by simp))).of fun k => by rw [if_pos (by omega)]; rfl
theorem i8_in {a : Int} (h : (Lit.int .i8 a).wf = true) : -128 ≤ a ∧ a < 128 := by
  simp only [Lit.wf, IntKind.min, IntKind.max, IntKind.signed, IntKind.bits, Bool.and_eq_true] at h
  have := h.1; have := h.2
  simp at *
  omega
theorem MoveSpread : cubbylaw15_MoveSpread.Pure := by
  intro a0 l h0 _ _ hw
  have h1 := i8_in h0
  by_cases hl : l.length > 30
  · exact ⟨0, by unfold cubbylaw15_MoveSpread.f; rw [if_pos (by omega)]⟩
  · refine (Ev.of (sp_l0 a0 (wrap64_in _ (by omega) (by omega)) l (by omega) (fun x hx => i8_in (hw x hx)) l.length 0 [] (by omega) ⟨by simp, fun m hm => absurd hm List.not_mem_nil, by simp⟩) fun k => ?_).get
    unfold cubbylaw15_MoveSpread.f
    rw [if_neg (by omega)]
    rfl

end Go.Proofs.Ytjofkmeaofpbfaa.Pure
