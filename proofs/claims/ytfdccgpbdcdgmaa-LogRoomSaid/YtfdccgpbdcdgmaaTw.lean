/- Two disks side by side: disk.go's and the document's; frames, and the plain steps' bounds; by hand. A library; conditions: none. -/
import Derived.Test.YtfdccgpbdcdgmaaRf
set_option linter.unusedVariables false
namespace Go.Proofs.Ytfdccgpbdcdgmaa
open Go.RowKit Go.Proofs.YtfdccgpbdcdgmaaW.PrintWords Go.Proofs.YtfdccgpbdcdgmaaW.PrintLast Go.Proofs.YtfdccgpbdcdgmaaW
theorem Tw.row {α : Type} {d : Kd α} {e base : Nat} {W W' : World} {v : Value} {xs : List α} (h : d.R e W base (fun _ => True) v xs) (hf : ∀ (k : Nat) (cells : Array Value) (t : TypeId), W.heap[k]? = some (Obj.cells cells t (0, 0)) → t ∈ e :: d.E → W'.heap[k]? = W.heap[k]?) : d.R e W' base (fun _ => True) v xs := by
  refine Kd.R_mono (Kd.R_move (Kd.R_bound h) ?_) (fun _ _ => trivial)
  rintro k ⟨_, _, _, q, hq, cells, hc⟩
  exact hf k cells q hc hq
theorem Tw.E3 : ∀ q, q ∈ 3 :: (Kd.int .i64).E → q = 3 := by
  intro q hq
  have hE : (Kd.int .i64).E = [] := rfl
  rw [hE] at hq
  exact List.mem_singleton.1 hq
theorem Tw.E9 : ∀ q, q ∈ 9 :: Kd.string.E → q = 9 := by
  intro q hq
  have hE : Kd.string.E = [] := rfl
  rw [hE] at hq
  exact List.mem_singleton.1 hq
theorem Tw.EL : ∀ q, q ∈ 90 :: Rf.K.E → q = 90 := by
  intro q hq
  have hE : Rf.K.E = [] := rfl
  rw [hE] at hq
  exact List.mem_singleton.1 hq
theorem Tw.dk_stays {W W' : World} {base g mb n : Nat} {s : Dk.S} {ov : Value} (h : Dk.D W base g s mb n ov) (hs : W.heap.size ≤ W'.heap.size)
    (hf : ∀ (k : Nat) (cells : Array Value) (t : TypeId), W.heap[k]? = some (Obj.cells cells t (0, 0)) → t = 3 ∨ t = 61 → W'.heap[k]? = W.heap[k]?)
    (hm : ∀ (k : Nat) (es : Array MapEntry) (clock : Nat), W.heap[k]? = some (Obj.map es clock) → W'.heap[k]? = W.heap[k]?) : Dk.D W' base g s mb n ov := by
  refine ⟨(hf g _ _ h.ob (.inr rfl)).trans h.ob, h.hl, h.hg, h.hm, Tw.row h.ro (fun k cells t e ht => hf k cells t e (.inl (Tw.E3 t ht))), ?_, h.kk, Nat.le_trans h.hb hs⟩
  obtain ⟨D, hD, hat⟩ := h.mp
  obtain ⟨es, clock, hes, h1, h2, h3⟩ := hD
  exact ⟨D, ⟨es, clock, (hm mb es clock hes).trans hes, h1, h2, h3⟩, hat⟩
theorem Tw.rf_stays {W W' : World} {base g : Nat} {s : Dk.S} {iv lv : Value} (h : Rf.D W base g s iv lv) (hs : W.heap.size ≤ W'.heap.size)
    (hf : ∀ (k : Nat) (cells : Array Value) (t : TypeId), W.heap[k]? = some (Obj.cells cells t (0, 0)) → t = 9 ∨ t = 64 ∨ t = 90 → W'.heap[k]? = W.heap[k]?) : Rf.D W' base g s iv lv :=
  ⟨(hf g _ _ h.ob (.inr (.inl rfl))).trans h.ob, h.hl, h.hg, Tw.row h.ri (fun k cells t e ht => hf k cells t e (.inl (Tw.E9 t ht))), Tw.row h.rl (fun k cells t e ht => hf k cells t e (.inr (.inr (Tw.EL t ht)))), h.kk, Nat.le_trans h.hb hs⟩
/-- Block g is a disk (what its map's and its row's blocks are is left open). -/
def Tw.D (W : World) (base g n : Nat) (s : Dk.S) : Prop := ∃ mb n' ov, n' ≤ n ∧ Dk.D W base g s mb n' ov
def Tw.R (W : World) (base g : Nat) (s : Dk.S) : Prop := ∃ iv lv, Rf.D W base g s iv lv
/-- What stood below base is as it was, and all blocks of other kinds than the disks'. -/
structure Tw.B (base : Nat) (w w' : World) : Prop where
  b : Below base w w'
  f : ∀ (k : Nat) (cells : Array Value) (t : TypeId), w.heap[k]? = some (Obj.cells cells t (0, 0)) → t ≠ 3 → t ≠ 61 → t ≠ 9 → t ≠ 64 → t ≠ 90 → w'.heap[k]? = w.heap[k]?
theorem Tw.B.refl (base : Nat) (w : World) : Tw.B base w w := ⟨Below.refl _ _, fun _ _ _ _ _ _ _ _ _ => rfl⟩
theorem Tw.B.trans {base : Nat} {a w w' : World} (h : Tw.B base a w) (h' : Tw.B base w w') : Tw.B base a w' :=
  ⟨h.b.trans h'.b, fun k cells t e h1 h2 h3 h4 h5 => by
    have e1 := h.f k cells t e h1 h2 h3 h4 h5
    rw [← e1]
    exact h'.f k cells t (e1.trans e) h1 h2 h3 h4 h5⟩
theorem Tw.B.dk {base : Nat} {w w' : World} (h : Dk.B base w w') : Tw.B base w w' := ⟨h.b, fun k cells t e h1 h2 _ _ _ => h.f k cells t e h1 h2⟩
theorem Tw.B.rf {base : Nat} {w w' : World} (h : Rf.B base w w') : Tw.B base w w' := ⟨h.b, fun k cells t e _ _ h3 h4 h5 => h.f k cells t e h3 h4 h5⟩
theorem Tw.B.of {base : Nat} {w w' : World} (h : Below w.heap.size w w') (hb : base ≤ w.heap.size) : Tw.B base w w' :=
  ⟨h.mono hb, fun k _ _ e _ _ _ _ _ => h.block k (Array.getElem?_eq_some_iff.1 e).1⟩
theorem Tw.B.size {base : Nat} {w w' : World} (h : Tw.B base w w') : w.heap.size ≤ w'.heap.size := h.b.size
theorem Tw.D.hb {W : World} {base g n : Nat} {s : Dk.S} (h : Tw.D W base g n s) : base ≤ W.heap.size := by
  obtain ⟨_, _, _, _, h⟩ := h
  exact h.hb
theorem Tw.R.hb {W : World} {base g : Nat} {s : Dk.S} (h : Tw.R W base g s) : base ≤ W.heap.size := by
  obtain ⟨_, _, h⟩ := h
  exact h.hb
/-- A disk stays where the other one, or nothing of a disk's kind, was turned. -/
theorem Tw.D.rf {W W' : World} {base b2 g n : Nat} {s : Dk.S} (h : Tw.D W base g n s) (hb : Rf.B b2 W W') : Tw.D W' base g n s := by
  obtain ⟨mb, n', ov, hn, h⟩ := h
  refine ⟨mb, n', ov, hn, Tw.dk_stays h hb.size (fun k cells t e ht => hb.f k cells t e ?_ ?_ ?_) hb.m⟩
  · rcases ht with rfl | rfl <;> decide
  · rcases ht with rfl | rfl <;> decide
  · rcases ht with rfl | rfl <;> decide
theorem Tw.R.dk {W W' : World} {base b2 g : Nat} {s : Dk.S} (h : Tw.R W base g s) (hb : Dk.B b2 W W') : Tw.R W' base g s := by
  obtain ⟨iv, lv, h⟩ := h
  refine ⟨iv, lv, Tw.rf_stays h hb.size (fun k cells t e ht => hb.f k cells t e ?_ ?_)⟩
  · rcases ht with rfl | rfl | rfl <;> decide
  · rcases ht with rfl | rfl | rfl <;> decide
theorem Tw.D.below {W W' : World} {base g n : Nat} {s : Dk.S} (h : Tw.D W base g n s) (hb : Below W.heap.size W W') : Tw.D W' base g n s := by
  obtain ⟨mb, n', ov, hn, h⟩ := h
  exact ⟨mb, n', ov, hn, Tw.dk_stays h hb.size (fun k cells t e _ => hb.block k (Array.getElem?_eq_some_iff.1 e).1) (fun k es c e => hb.block k (Array.getElem?_eq_some_iff.1 e).1)⟩
theorem Tw.R.below {W W' : World} {base g : Nat} {s : Dk.S} (h : Tw.R W base g s) (hb : Below W.heap.size W W') : Tw.R W' base g s := by
  obtain ⟨iv, lv, h⟩ := h
  exact ⟨iv, lv, Tw.rf_stays h hb.size (fun k cells t e _ => hb.block k (Array.getElem?_eq_some_iff.1 e).1)⟩
theorem Tw.D.drew {W : World} {base g n : Nat} {s : Dk.S} (h : Tw.D W base g n s) : Tw.D W.drew base g n s := h.below (Below.refl _ _).drew
theorem Tw.R.drew {W : World} {base g : Nat} {s : Dk.S} (h : Tw.R W base g s) : Tw.R W.drew base g s := h.below (Below.refl _ _).drew
theorem Tw.D.alloc {W : World} {base g n : Nat} {s : Dk.S} (h : Tw.D W base g n s) (o : Obj) : Tw.D (W.alloc o) base g n s := h.below ((Below.refl _ _).alloc (Nat.le_refl _) o)
theorem Tw.R.alloc {W : World} {base g : Nat} {s : Dk.S} (h : Tw.R W base g s) (o : Obj) : Tw.R (W.alloc o) base g s := h.below ((Below.refl _ _).alloc (Nat.le_refl _) o)
theorem Tw.B.drew {base : Nat} {a w : World} (h : Tw.B base a w) : Tw.B base a w.drew := ⟨h.b.drew, h.f⟩
theorem Tw.B.alloc {base : Nat} {a w : World} (h : Tw.B base a w) (hb : base ≤ w.heap.size) (o : Obj) : Tw.B base a (w.alloc o) := h.trans (Tw.B.of ((Below.refl w.heap.size w).alloc (Nat.le_refl _) o) hb)
/-- A cell of another kind of block. -/
theorem Tw.D.set {W : World} {base g n b k t0 : Nat} {cs : Array Value} {s : Dk.S} (h : Tw.D W base g n s) (hb : W.heap[b]? = some (.cells cs t0 (0, 0))) (h1 : t0 ≠ 3) (h2 : t0 ≠ 61) (v : Value) : Tw.D (W.setCell ⟨b, k, none⟩ v) base g n s := by
  obtain ⟨mb, n', ov, hn, h⟩ := h
  refine ⟨mb, n', ov, hn, Tw.dk_stays h (Dk.gset W b k v).size (fun q cells t e ht => Below.heap_setCell W _ v q ?_) (fun q es c e => Below.heap_setCell W _ v q ?_)⟩
  · rintro rfl
    rw [hb] at e
    injection e with e
    injection e with _ e
    subst e
    rcases ht with ht | ht
    · exact h1 ht
    · exact h2 ht
  · rintro rfl
    rw [hb] at e
    cases e
theorem Tw.R.set {W : World} {base g b k t0 : Nat} {cs : Array Value} {s : Dk.S} (h : Tw.R W base g s) (hb : W.heap[b]? = some (.cells cs t0 (0, 0))) (h1 : t0 ≠ 9) (h2 : t0 ≠ 64) (h3 : t0 ≠ 90) (v : Value) : Tw.R (W.setCell ⟨b, k, none⟩ v) base g s := by
  obtain ⟨iv, lv, h⟩ := h
  refine ⟨iv, lv, Tw.rf_stays h (Dk.gset W b k v).size (fun q cells t e ht => Below.heap_setCell W _ v q ?_)⟩
  rintro rfl
  rw [hb] at e
  injection e with e
  injection e with _ e
  subst e
  rcases ht with ht | ht | ht
  · exact h1 ht
  · exact h2 ht
  · exact h3 ht
/-! the plain steps' bounds -/
theorem Tw.dn_in (n : Int) (h : 0 ≤ n ∧ n < 9223372036854775808) : 0 ≤ Dk.dn n ∧ Dk.dn n < 9223372036854775808 := by
  unfold Dk.dn
  split
  · rw [Hw.w64 _ (by omega) (by omega)]
    omega
  · exact h
theorem Tw.getD_le (l : List ByteArray) (h : ∀ x ∈ l, x.size ≤ 128) (i : Nat) : (l.getD i ⟨#[]⟩).size ≤ 128 := by
  rw [List.getD_eq_getElem?_getD]
  cases e : l[i]? with
  | none => exact Nat.zero_le _
  | some y => exact h y (List.mem_of_getElem? e)
theorem Tw.set_le (l : List ByteArray) (h : ∀ x ∈ l, x.size ≤ 128) (i : Nat) (y : ByteArray) (hy : y.size ≤ 128) : ∀ x ∈ l.set i y, x.size ≤ 128 := by
  intro x hx
  rcases List.mem_or_eq_of_mem_set hx with hx | rfl
  · exact h x hx
  · exact hy
theorem Tw.dieF_le (keep : Int) : ∀ (l : List (Int × ByteArray)) (k : Nat) (sec : List ByteArray), (∀ p ∈ l, p.2.size ≤ 128) → (∀ x ∈ sec, x.size ≤ 128) → ∀ x ∈ Dk.dieF keep l k sec, x.size ≤ 128
  | [], _, _, _, h => h
  | p :: r, k, sec, hl, h => by
    rw [Dk.dieF]
    refine Tw.dieF_le keep r (k + 1) _ (fun q hq => hl q (List.mem_cons_of_mem _ hq)) ?_
    split
    · exact Tw.set_le sec h _ _ (hl p List.mem_cons_self)
    · exact h
theorem Tw.tick_in (s : Dk.S) (h : Dk.In s) (hm : s.many ≤ 80000) : Dk.In (Dk.tick s) ∧ (Dk.tick s).many ≤ s.many + 1 := by
  obtain ⟨h1, h2, h3, h4, h5, h6, h7⟩ := h
  unfold Dk.tick
  exact ⟨⟨Tw.dn_in _ h1, Tw.dn_in _ h2, h3, ⟨by show 0 ≤ s.many + 1; omega, by show s.many + 1 ≤ 90000; omega⟩, by show (s.l.length : Int) ≤ s.many + 1; omega, h6, h7⟩, Int.le_refl _⟩
theorem Tw.die_in (s : Dk.S) (h : Dk.In s) : Dk.In (Dk.dieS s) := by
  obtain ⟨h1, h2, h3, h4, h5, h6, h7⟩ := h
  unfold Dk.dieS
  exact ⟨h1, h2, h3, h4, by show ((0 : Nat) : Int) ≤ s.many; omega, Tw.dieF_le _ _ _ _ h7 h6, fun p hp => absurd hp List.not_mem_nil⟩
theorem Tw.put_tick_in (s : Dk.S) (h : Dk.In s) (hm : s.many ≤ 80000) (i : Int) (x : ByteArray) (hx : x.size ≤ 128) : Dk.In (Dk.putS (Dk.tick s) i x) ∧ (Dk.putS (Dk.tick s) i x).many ≤ s.many + 1 := by
  obtain ⟨⟨h1, h2, h3, h4, h5, h6, h7⟩, _⟩ := Tw.tick_in s h hm
  obtain ⟨_, _, _, _, g5, _, _⟩ := h
  unfold Dk.putS
  split
  · exact ⟨⟨h1, h2, h3, h4, h5, Tw.set_le _ h6 _ _ hx, h7⟩, Int.le_refl _⟩
  · refine ⟨⟨h1, h2, h3, h4, ?_, Tw.set_le _ h6 _ _ hx, ?_⟩, Int.le_refl _⟩
    · show ((s.l ++ [_]).length : Int) ≤ s.many + 1
      rw [List.length_append, List.length_singleton]
      omega
    · intro p hp
      rcases List.mem_append.1 hp with hp | hp
      · exact h7 p hp
      · rw [List.mem_singleton] at hp
        subst hp
        exact Tw.getD_le _ h6 _
theorem Tw.writ_in (s : Dk.S) (h : Dk.In s) (hm : s.many ≤ 80000) (i : Int) (x : ByteArray) : Dk.In (Dk.writ s i x).1 ∧ (Dk.writ s i x).1.many ≤ s.many + 1 := by
  unfold Dk.writ
  split
  · exact ⟨h, by show s.many ≤ _; omega⟩
  split
  · exact ⟨h, by show s.many ≤ _; omega⟩
  split
  · exact ⟨h, by show s.many ≤ _; omega⟩
  rename_i hx
  have hp := Tw.put_tick_in s h hm i x (by omega)
  split
  · exact Tw.tick_in s h hm
  split
  · exact ⟨Tw.die_in _ hp.1, hp.2⟩
  · exact hp
theorem Tw.barr_in (s : Dk.S) (h : Dk.In s) (hm : s.many ≤ 80000) : Dk.In (Dk.barr s).1 ∧ (Dk.barr s).1.many ≤ s.many + 1 := by
  have ht := Tw.tick_in s h hm
  unfold Dk.barr
  split
  · exact ⟨h, by show s.many ≤ _; omega⟩
  split
  · exact ⟨Tw.die_in _ ht.1, ht.2⟩
  split
  · exact ht
  · obtain ⟨⟨h1, h2, h3, h4, h5, h6, h7⟩, h8⟩ := ht
    exact ⟨⟨h1, h2, h3, h4, by show ((0 : Nat) : Int) ≤ _; exact h4.1, h6, fun p hp => absurd hp List.not_mem_nil⟩, h8⟩
theorem Tw.cut_in (s : Dk.S) (h : Dk.In s) (n keep : Int) (hn : n < 9223372036854775808) (hk : 0 ≤ keep ∧ keep < 18446744073709551616) : Dk.In (Dk.cutS s n keep) := by
  obtain ⟨h1, h2, h3, h4, h5, h6, h7⟩ := h
  exact ⟨by show 0 ≤ mx n 0 ∧ mx n 0 < _; unfold mx; split <;> omega, h2, hk, h4, h5, h6, h7⟩
theorem Tw.fail_in (s : Dk.S) (h : Dk.In s) (n : Int) (hn : n < 9223372036854775808) : Dk.In (Dk.failS s n) := by
  obtain ⟨h1, h2, h3, h4, h5, h6, h7⟩ := h
  exact ⟨h1, by show 0 ≤ mx n 0 ∧ mx n 0 < _; unfold mx; split <;> omega, h3, h4, h5, h6, h7⟩
theorem Tw.pow_in (s : Dk.S) (h : Dk.In s) : Dk.In (Dk.powS s) := by
  unfold Dk.powS
  split
  · obtain ⟨h1, h2, h3, h4, h5, h6, h7⟩ := h
    exact ⟨by show (0 : Int) ≤ 0 ∧ (0 : Int) < 9223372036854775808; decide, by show (0 : Int) ≤ 0 ∧ (0 : Int) < 9223372036854775808; decide, h3, h4, h5, h6, h7⟩
  · exact h
theorem Tw.S0_in : Dk.In Dk.S0 := by
  refine ⟨by decide, by decide, by decide, by decide, Int.le_refl _, ?_, fun p hp => absurd hp List.not_mem_nil⟩
  intro x hx
  rw [List.eq_of_mem_replicate hx]
  exact Nat.zero_le _
/-- The two disks are alike, but for keep, where nothing is to go. -/
structure Tw.Q (s s' : Dk.S) : Prop where
  sec : s.sec = s'.sec
  l : s.l = s'.l
  off : s.off = s'.off
  cut : s.cut = s'.cut
  fail : s.fail = s'.fail
  many : s.many = s'.many
  keep : s.keep = s'.keep ∨ s.cut = 0
theorem Tw.Q.refl (s : Dk.S) : Tw.Q s s := ⟨rfl, rfl, rfl, rfl, rfl, rfl, .inl rfl⟩
/-- A state with another keep. -/
def Tw.kp (s : Dk.S) (k : Int) : Dk.S := { s with keep := k }
theorem Tw.Q.eq {s s' : Dk.S} (h : Tw.Q s s') : s' = Tw.kp s s'.keep := by
  obtain ⟨h1, h2, h3, h4, h5, h6, _⟩ := h
  cases s
  cases s'
  simp only at h1 h2 h3 h4 h5 h6
  subst h1 h2 h3 h4 h5 h6
  rfl
theorem Tw.Q.kp (s : Dk.S) (k : Int) (h : s.keep = k ∨ s.cut = 0) : Tw.Q s (Tw.kp s k) := ⟨rfl, rfl, rfl, rfl, rfl, rfl, h⟩
theorem Tw.dn0 : Dk.dn 0 = 0 := rfl
theorem Tw.Q.tick {s : Dk.S} {k : Int} (h : s.keep = k ∨ s.cut = 0) : (Dk.tick s).keep = k ∨ (Dk.tick s).cut = 0 := by
  rcases h with h | h
  · exact .inl h
  · exact .inr (by show Dk.dn s.cut = 0; rw [h]; exact Tw.dn0)
theorem Tw.Q.writ {s s' : Dk.S} (h : Tw.Q s s') (i : Int) (x : ByteArray) : (Dk.writ s i x).2 = (Dk.writ s' i x).2 ∧ Tw.Q (Dk.writ s i x).1 (Dk.writ s' i x).1 := by
  have hk := h.keep
  rw [h.eq]
  generalize s'.keep = k at hk
  clear h s'
  have e1 : (Tw.kp s k).off = s.off := rfl
  have e2 : (Tw.kp s k).fail = s.fail := rfl
  have e3 : (Tw.kp s k).cut = s.cut := rfl
  have e4 : Dk.tick (Tw.kp s k) = Tw.kp (Dk.tick s) k := rfl
  have e5 : Dk.putS (Tw.kp (Dk.tick s) k) i x = Tw.kp (Dk.putS (Dk.tick s) i x) k := by
    unfold Dk.putS Tw.kp
    split <;> rfl
  have e6 : (Dk.putS (Dk.tick s) i x).keep = (Dk.tick s).keep ∧ (Dk.putS (Dk.tick s) i x).cut = (Dk.tick s).cut := by
    unfold Dk.putS
    split <;> exact ⟨rfl, rfl⟩
  have ht := Tw.Q.tick hk
  have hp : (Dk.putS (Dk.tick s) i x).keep = k ∨ (Dk.putS (Dk.tick s) i x).cut = 0 := by rw [e6.1, e6.2]; exact ht
  unfold Dk.writ
  rw [e1, e2, e3, e4, e5]
  split
  · exact ⟨rfl, Tw.Q.kp _ _ hk⟩
  split
  · exact ⟨rfl, Tw.Q.kp _ _ hk⟩
  split
  · exact ⟨rfl, Tw.Q.kp _ _ hk⟩
  split
  · exact ⟨rfl, Tw.Q.kp _ _ ht⟩
  split
  · rename_i hc
    have hkk : s.keep = k := by
      rcases hk with hk | hk
      · exact hk
      · rw [hk] at hc
        cases hc
    have : Tw.kp (Dk.putS (Dk.tick s) i x) k = Dk.putS (Dk.tick s) i x := by
      have e7 : (Dk.putS (Dk.tick s) i x).keep = k := by rw [e6.1]; exact hkk
      unfold Tw.kp
      rw [← e7]
    rw [this]
    exact ⟨rfl, Tw.Q.refl _⟩
  · exact ⟨rfl, Tw.Q.kp _ _ hp⟩
theorem Tw.Q.barr {s s' : Dk.S} (h : Tw.Q s s') : (Dk.barr s).2 = (Dk.barr s').2 ∧ Tw.Q (Dk.barr s).1 (Dk.barr s').1 := by
  have hk := h.keep
  rw [h.eq]
  generalize s'.keep = k at hk
  clear h s'
  have e1 : (Tw.kp s k).off = s.off := rfl
  have e2 : (Tw.kp s k).fail = s.fail := rfl
  have e3 : (Tw.kp s k).cut = s.cut := rfl
  have e4 : Dk.tick (Tw.kp s k) = Tw.kp (Dk.tick s) k := rfl
  have ht := Tw.Q.tick hk
  unfold Dk.barr
  rw [e1, e2, e3, e4]
  split
  · exact ⟨rfl, Tw.Q.kp _ _ hk⟩
  split
  · rename_i hc
    have hkk : s.keep = k := by
      rcases hk with hk | hk
      · exact hk
      · rw [hk] at hc
        cases hc
    have : Tw.kp (Dk.tick s) k = Dk.tick s := by
      have e7 : (Dk.tick s).keep = k := hkk
      unfold Tw.kp
      rw [← e7]
    rw [this]
    exact ⟨rfl, Tw.Q.refl _⟩
  split
  · exact ⟨rfl, Tw.Q.kp _ _ ht⟩
  · exact ⟨rfl, ⟨rfl, rfl, rfl, rfl, rfl, rfl, ht⟩⟩
theorem Tw.Q.cutS {s s' : Dk.S} (h : Tw.Q s s') (n keep : Int) : Tw.Q (Dk.cutS s n keep) (Dk.cutS s' n keep) := ⟨h.sec, h.l, h.off, rfl, h.fail, h.many, .inl rfl⟩
theorem Tw.Q.failS {s s' : Dk.S} (h : Tw.Q s s') (n : Int) : Tw.Q (Dk.failS s n) (Dk.failS s' n) := ⟨h.sec, h.l, h.off, h.cut, rfl, h.many, h.keep⟩
theorem Tw.Q.powS {s s' : Dk.S} (h : Tw.Q s s') : Tw.Q (Dk.powS s) (Dk.powS s') := by
  unfold Dk.powS
  rw [← h.off]
  split
  · exact ⟨h.sec, h.l, rfl, rfl, rfl, h.many, .inr rfl⟩
  · exact h
theorem Tw.Q.read {s s' : Dk.S} (h : Tw.Q s s') (i : Int) : Dk.read s i = Dk.read s' i := by
  unfold Dk.read
  rw [h.off, h.sec]
/-- Both disks, alike, with at most m calls behind them. -/
def Tw.P (W : World) (base gd gr n : Nat) (m : Int) : Prop := ∃ s s', Tw.D W base gd n s ∧ Tw.R W base gr s' ∧ Tw.Q s s' ∧ Dk.In s ∧ Dk.In s' ∧ s.many ≤ m
theorem Tw.P.hb {W : World} {base gd gr n : Nat} {m : Int} (h : Tw.P W base gd gr n m) : base ≤ W.heap.size := by
  obtain ⟨_, _, h, _⟩ := h
  exact h.hb
theorem Tw.P.below {W W' : World} {base gd gr n : Nat} {m : Int} (h : Tw.P W base gd gr n m) (hb : Below W.heap.size W W') : Tw.P W' base gd gr n m := by
  obtain ⟨s, s', h1, h2, h3⟩ := h
  exact ⟨s, s', h1.below hb, h2.below hb, h3⟩
theorem Tw.P.drew {W : World} {base gd gr n : Nat} {m : Int} (h : Tw.P W base gd gr n m) : Tw.P W.drew base gd gr n m := h.below (Below.refl _ _).drew
theorem Tw.B.blk {base b : Nat} {w w' : World} {cs : Array Value} {t : TypeId} (h : Tw.B base w w') (hb : w.heap[b]? = some (.cells cs t (0, 0))) (ht : t ≠ 3 ∧ t ≠ 61 ∧ t ≠ 9 ∧ t ≠ 64 ∧ t ≠ 90) : w'.heap[b]? = some (.cells cs t (0, 0)) :=
  (h.f b cs t hb ht.1 ht.2.1 ht.2.2.1 ht.2.2.2.1 ht.2.2.2.2).trans hb
end Go.Proofs.Ytfdccgpbdcdgmaa
