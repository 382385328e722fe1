/- Plain laws of the disk's steps, for DiskLasts and DiskAgain; by hand. A library; conditions: none. -/
import Derived.Test.YtbikejfjfliamaaPl
set_option linter.unusedVariables false
set_option linter.unusedSimpArgs false
namespace Go.Proofs.Ytbikejfjfliamaa
open Go.RowKit Go.Proofs.YtbikejfjfliamaaW.PrintWords Go.Proofs.YtbikejfjfliamaaW.PrintLast Go.Proofs.YtbikejfjfliamaaW
/-- A disk with no cut and no fault ahead, behind at most m calls. -/
structure Pn.N (m : Nat) (s : Dk.S) : Prop where
  inn : Dk.In s
  many : s.many ≤ m
  off : s.off = false
  cut : s.cut = 0
  fail : s.fail = 0
  len : s.sec.length = 256
  kk : ∀ p ∈ s.l, 0 ≤ p.1 ∧ p.1 < 256
theorem Pn.N.start : Pn.N 0 Dk.S0 := ⟨Tw.S0_in, by decide, rfl, rfl, rfl, List.length_replicate, fun p hp => absurd hp List.not_mem_nil⟩
theorem Pn.N.mono {m n : Nat} {s : Dk.S} (h : Pn.N m s) (hm : m ≤ n) : Pn.N n s := ⟨h.inn, by have := h.many; omega, h.off, h.cut, h.fail, h.len, h.kk⟩
theorem Pn.N.bad {m : Nat} {s : Dk.S} (h : Pn.N m s) (i : Int) (x : ByteArray) (hb : ¬ ((0 ≤ i ∧ i < 256) ∧ x.size ≤ 128)) : (Dk.writ s i x).1 = s ∧ (Dk.writ s i x).2 ≠ 0 := by
  have n0 : ¬ s.off = true := by rw [h.off]; decide
  unfold Dk.writ
  rw [if_neg n0]
  by_cases hi : i < 0 ∨ 256 ≤ i
  · rw [if_pos hi]
    exact ⟨rfl, show (30 : Int) ≠ 0 by decide⟩
  · rw [if_neg hi, if_pos (by omega)]
    exact ⟨rfl, show (31 : Int) ≠ 0 by decide⟩
theorem Pn.N.good {m : Nat} {s : Dk.S} (h : Pn.N m s) (i : Int) (x : ByteArray) (hb : (0 ≤ i ∧ i < 256) ∧ x.size ≤ 128) : Dk.writ s i x = (Dk.putS (Dk.tick s) i x, 0) := by
  have n0 : ¬ s.off = true := by rw [h.off]; decide
  have n3 : ¬ ((s.fail = 1) ∧ s.cut ≠ 1) := by rw [h.fail]; rintro ⟨q, _⟩; cases q
  have n4 : ¬ s.cut = 1 := by rw [h.cut]; decide
  unfold Dk.writ
  rw [if_neg n0, if_neg (by omega), if_neg (by omega), if_neg n3, if_neg n4]
theorem Pn.put_sec (s : Dk.S) (i : Int) (x : ByteArray) : (Dk.putS s i x).sec = s.sec.set i.toNat x ∧ (∀ p ∈ (Dk.putS s i x).l, p ∈ s.l ∨ p.1 = i) ∧ (Dk.putS s i x).off = s.off ∧ (Dk.putS s i x).cut = s.cut ∧ (Dk.putS s i x).fail = s.fail ∧ (Dk.putS s i x).many = s.many := by
  unfold Dk.putS
  split
  · exact ⟨rfl, fun p hp => .inl hp, rfl, rfl, rfl, rfl⟩
  · refine ⟨rfl, fun p hp => ?_, rfl, rfl, rfl, rfl⟩
    rcases List.mem_append.1 hp with hp | hp
    · exact .inl hp
    · rw [List.mem_singleton] at hp
      exact .inr (by rw [hp])
theorem Pn.N.writ {m : Nat} {s : Dk.S} (h : Pn.N m s) (hm : m ≤ 80000) (i : Int) (x : ByteArray) : Pn.N (m + 1) (Dk.writ s i x).1 := by
  by_cases hb : (0 ≤ i ∧ i < 256) ∧ x.size ≤ 128
  · have hin := (Tw.writ_in s h.inn (by have := h.many; omega) i x).1
    rw [h.good i x hb] at hin ⊢
    obtain ⟨e1, e2, e3, e4, e5, e6⟩ := Pn.put_sec (Dk.tick s) i x
    refine ⟨hin, ?_, e3.trans h.off, ?_, ?_, ?_, ?_⟩
    · have := h.many
      rw [e6]
      show s.many + 1 ≤ _
      omega
    · rw [e4]
      show Dk.dn s.cut = 0
      rw [h.cut]
      rfl
    · rw [e5]
      show Dk.dn s.fail = 0
      rw [h.fail]
      rfl
    · rw [e1, List.length_set]
      exact h.len
    · intro p hp
      rcases e2 p hp with q | q
      · exact h.kk p q
      · omega
  · rw [(h.bad i x hb).1]
    exact h.mono (Nat.le_succ m)
theorem Pn.N.barr {m : Nat} {s : Dk.S} (h : Pn.N m s) (hm : m ≤ 80000) : (Dk.barr s).2 = 0 ∧ Pn.N (m + 1) (Dk.barr s).1 ∧ (Dk.barr s).1.sec = s.sec ∧ (Dk.barr s).1.l = [] := by
  have n0 : ¬ s.off = true := by rw [h.off]; decide
  have n3 : ¬ s.fail = 1 := by rw [h.fail]; decide
  have n4 : ¬ s.cut = 1 := by rw [h.cut]; decide
  have hin := (Tw.barr_in s h.inn (by have := h.many; omega)).1
  have e : Dk.barr s = ({ Dk.tick s with l := [] }, 0) := by
    unfold Dk.barr
    rw [if_neg n0, if_neg n4, if_neg n3]
  rw [e] at hin ⊢
  refine ⟨rfl, ⟨hin, ?_, h.off, ?_, ?_, h.len, fun p hp => absurd hp List.not_mem_nil⟩, rfl, rfl⟩
  · have := h.many
    show s.many + 1 ≤ _
    omega
  · show Dk.dn s.cut = 0
    rw [h.cut]
    rfl
  · show Dk.dn s.fail = 0
    rw [h.fail]
    rfl
/-- Which sectors are unchanged since the barrier. -/
structure Pn.L (old : List ByteArray) (ch : Nat → Bool) (s : Dk.S) : Prop where
  same : ∀ j, j < 256 → ch j = false → s.sec.getD j ⟨#[]⟩ = old.getD j ⟨#[]⟩
  loose : ∀ p ∈ s.l, ch p.1.toNat = true
theorem Pn.L.start {s s' : Dk.S} (h : s.sec = s'.sec) (hl : s.l = []) : Pn.L s'.sec (fun _ => false) s := ⟨fun j _ _ => by rw [h], fun p hp => by rw [hl] at hp; exact absurd hp List.not_mem_nil⟩
theorem Pn.L.good {old : List ByteArray} {ch : Nat → Bool} {s : Dk.S} {m : Nat} (h : Pn.L old ch s) (hn : Pn.N m s) (i : Int) (x : ByteArray) (hb : (0 ≤ i ∧ i < 256) ∧ x.size ≤ 128) : Pn.L old (fun j => if j = i.toNat then true else ch j) (Dk.writ s i x).1 := by
  rw [hn.good i x hb]
  obtain ⟨e1, e2, _⟩ := Pn.put_sec (Dk.tick s) i x
  refine ⟨fun j hj hc => ?_, fun p hp => ?_⟩
  · have hji : ¬ j = i.toNat := by
      intro q
      simp only [q, if_true] at hc
      cases hc
    simp only [hji, if_false] at hc
    show (Dk.putS (Dk.tick s) i x).sec.getD j ⟨#[]⟩ = _
    rw [e1, Pl.getset _ _ _ _ (by show i.toNat < s.sec.length; rw [hn.len]; omega), if_neg (fun q => hji q.symm)]
    exact h.same j hj hc
  · by_cases q : p.1.toNat = i.toNat
    · simp only [q, if_true]
    · simp only [q, if_false]
      rcases e2 p hp with z | z
      · exact h.loose p z
      · rw [z] at q
        exact absurd rfl q
theorem Pn.die_other (keep : Int) (x : Nat) : ∀ (l : List (Int × ByteArray)) (k : Nat) (sec : List ByteArray), (∀ p ∈ l, p.1.toNat ≠ x) → (Dk.dieF keep l k sec).getD x ⟨#[]⟩ = sec.getD x ⟨#[]⟩
  | [], _, _, _ => rfl
  | p :: r, k, sec, h => by
    rw [Dk.dieF, Pn.die_other keep x r (k + 1) _ (fun q hq => h q (List.mem_cons_of_mem _ hq))]
    split
    · have hx := h p List.mem_cons_self
      rw [List.getD_eq_getElem?_getD, List.getElem?_set, if_neg hx, List.getD_eq_getElem?_getD]
    · rfl
/-- The power goes with the next barrier, and comes back. -/
def Pn.fin (s : Dk.S) (keep : Int) : Dk.S := Dk.powS (Dk.barr (Dk.cutS s 1 keep)).1
structure Pn.G (m : Nat) (s : Dk.S) (keep : Int) : Prop where
  b : (Dk.barr (Dk.cutS s 1 keep)).2 = 33
  o : (Dk.barr (Dk.cutS s 1 keep)).1.off = true
  ic : Dk.In (Dk.cutS s 1 keep)
  n : Pn.N (m + 1) (Pn.fin s keep)
  sec : (Pn.fin s keep).sec = Dk.dieF keep s.l 0 s.sec
  l : (Pn.fin s keep).l = []
theorem Pn.N.goes {m : Nat} {s : Dk.S} (h : Pn.N m s) (hm : m ≤ 80000) (keep : Int) (hk : 0 ≤ keep ∧ keep < 18446744073709551616) : Pn.G m s keep := by
  have hmm : (Dk.cutS s 1 keep).many ≤ 80000 := by
    have := h.many
    show s.many ≤ _
    omega
  have hc := Tw.cut_in s h.inn 1 keep (by decide) hk
  have hb := (Tw.barr_in _ hc hmm).1
  have e1 : (Dk.cutS s 1 keep).cut = 1 := rfl
  have e0 : ¬ (Dk.cutS s 1 keep).off = true := by
    show ¬ s.off = true
    rw [h.off]
    decide
  have eb : Dk.barr (Dk.cutS s 1 keep) = (Dk.dieS (Dk.tick (Dk.cutS s 1 keep)), 33) := by
    unfold Dk.barr
    rw [if_neg e0, if_pos e1]
  have ef : Pn.fin s keep = { Dk.dieS (Dk.tick (Dk.cutS s 1 keep)) with off := false, cut := 0, fail := 0 } := by
    unfold Pn.fin
    rw [eb]
    rfl
  have hf : Dk.In (Pn.fin s keep) := Tw.pow_in _ hb
  refine ⟨by rw [eb], by rw [eb]; rfl, hc, ⟨hf, ?_, ?_, ?_, ?_, ?_, ?_⟩, ?_, ?_⟩ <;> rw [ef]
  · have := h.many
    show s.many + 1 ≤ _
    omega
  · show (Dk.dieF _ _ _ _).length = 256
    rw [Dk.dieF_len]
    exact h.len
  · exact fun p hp => absurd hp List.not_mem_nil
  · rfl
  · rfl
theorem Pn.L.stays {old : List ByteArray} {ch : Nat → Bool} {s : Dk.S} {m : Nat} (h : Pn.L old ch s) (hn : Pn.N m s) {keep : Int} (hg : Pn.G m s keep) (j : Nat) (hj : j < 256) (hc : ch j = false) : (Pn.fin s keep).sec.getD j ⟨#[]⟩ = old.getD j ⟨#[]⟩ := by
  rw [hg.sec, Pn.die_other]
  · exact h.same j hj hc
  · intro p hp q
    have := h.loose p hp
    rw [q, hc] at this
    cases this
theorem Pn.N.read {m : Nat} {s : Dk.S} (h : Pn.N m s) (i : Nat) (hi : i < 256) : Dk.read s (i : Int) = (s.sec.getD i ⟨#[]⟩, 0) := by
  unfold Dk.read
  rw [if_neg (by rw [h.off]; decide), if_neg (by omega), Int.toNat_natCast]
/-- The sectors are written over to another disk. -/
theorem Pn.copy {i k : Nat} {s F : Dk.S} (h : Pn.N i s) (hF : Pn.N k F) (hi : i < 256) (hc : ∀ j, j < i → s.sec.getD j ⟨#[]⟩ = F.sec.getD j ⟨#[]⟩) :
    (Dk.writ s (i : Int) (F.sec.getD i ⟨#[]⟩)).2 = 0 ∧ Pn.N (i + 1) (Dk.writ s (i : Int) (F.sec.getD i ⟨#[]⟩)).1 ∧ (∀ j, j < i + 1 → (Dk.writ s (i : Int) (F.sec.getD i ⟨#[]⟩)).1.sec.getD j ⟨#[]⟩ = F.sec.getD j ⟨#[]⟩) := by
  have hsz := Tw.getD_le F.sec hF.inn.2.2.2.2.2.1 i
  have hn := h.writ (by omega) (i : Int) (F.sec.getD i ⟨#[]⟩)
  rw [h.good (i : Int) _ ⟨by omega, hsz⟩] at hn ⊢
  refine ⟨rfl, hn, fun j hj => ?_⟩
  show (Dk.putS (Dk.tick s) _ _).sec.getD j _ = _
  rw [(Pn.put_sec _ _ _).1, Int.toNat_natCast, Pl.getset _ _ _ _ (by show i < s.sec.length; rw [h.len]; omega)]
  by_cases e : i = j
  · rw [if_pos e, e]
  · rw [if_neg e]
    exact hc j (by omega)
theorem Pn.sec_eq {a b : List ByteArray} (ha : a.length = 256) (hb : b.length = 256) (h : ∀ j, j < 256 → a.getD j ⟨#[]⟩ = b.getD j ⟨#[]⟩) : a = b := by
  apply List.ext_getElem (by rw [ha, hb])
  intro j h1 h2
  have := h j (by omega)
  rw [List.getD_eq_getElem?_getD, List.getD_eq_getElem?_getD, List.getElem?_eq_getElem h1, List.getElem?_eq_getElem h2] at this
  exact this
/-- Behind the copy both disks are alike. -/
def Pn.over (s F : Dk.S) : Dk.S := { (Dk.barr s).1 with many := F.many }
theorem Pn.alike {k : Nat} {s F : Dk.S} (h : Pn.N 256 s) (hF : Pn.N k F) (hl : F.l = []) (hc : ∀ j, j < 256 → s.sec.getD j ⟨#[]⟩ = F.sec.getD j ⟨#[]⟩) : (Dk.barr s).2 = 0 ∧ Tw.Q F (Pn.over s F) ∧ Dk.In (Pn.over s F) := by
  obtain ⟨e1, e2, e3, e4⟩ := h.barr (by decide)
  have hs := Pn.sec_eq h.len hF.len hc
  refine ⟨e1, ⟨?_, ?_, ?_, ?_, ?_, rfl, .inr hF.cut⟩, ?_⟩
  · show F.sec = (Dk.barr s).1.sec
    rw [e3, hs]
  · show F.l = (Dk.barr s).1.l
    rw [e4, hl]
  · show F.off = (Dk.barr s).1.off
    rw [e2.off, hF.off]
  · show F.cut = (Dk.barr s).1.cut
    rw [e2.cut, hF.cut]
  · show F.fail = (Dk.barr s).1.fail
    rw [e2.fail, hF.fail]
  · obtain ⟨h1, h2, h3, h4, h5, h6, h7⟩ := e2.inn
    obtain ⟨_, _, _, g4, _⟩ := hF.inn
    exact ⟨h1, h2, h3, g4, by show (((Dk.barr s).1.l.length : Nat) : Int) ≤ F.many; rw [e4]; exact g4.1, h6, h7⟩
end Go.Proofs.Ytbikejfjfliamaa
