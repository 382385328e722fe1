/- The document's disk (ref.go): what its memory is; over the same plain state as disk.go's; by hand. A library; conditions: none. -/
import Derived.Test.YtfdccgpbdcdgmaaDk
set_option linter.unusedVariables false
namespace Go.Proofs.Ytfdccgpbdcdgmaa
open Go.RowKit Go.Proofs.YtfdccgpbdcdgmaaW.PrintWords Go.Proofs.YtfdccgpbdcdgmaaW.PrintLast Go.Proofs.YtfdccgpbdcdgmaaW
def Rf.K : Kd (Int × ByteArray) := Kd.pair (Kd.int .i64) Kd.string
def Rf.arr (s : Dk.S) (iv lv : Value) : Array Value := #[iv, lv, .bool s.off, .int .i64 s.cut, .int .u64 s.keep, .int .i64 s.fail, .int .i64 s.many]
/-- Block g is the document's disk. -/
structure Rf.D (W : World) (base g : Nat) (s : Dk.S) (iv lv : Value) : Prop where
  ob : W.heap[g]? = some (.cells (Rf.arr s iv lv) 64 (0, 0))
  hl : s.sec.length = 256
  hg : base ≤ g
  ri : Kd.R Kd.string 9 W base (fun _ => True) iv s.sec
  rl : Kd.R Rf.K 90 W base (fun _ => True) lv s.l
  kk : ∀ p ∈ s.l, 0 ≤ p.1 ∧ p.1 < 256
  hb : base ≤ W.heap.size
theorem Rf.D.at {W : World} {base g : Nat} {s : Dk.S} {iv lv : Value} (h : Rf.D W base g s iv lv) (k : Nat) : W.cell? ⟨g, k, none⟩ = (Rf.arr s iv lv)[k]? := cell_of_row W g k _ _ _ h.ob
theorem Rf.D.fz {W : World} {base g : Nat} {s : Dk.S} {iv lv : Value} (h : Rf.D W base g s iv lv) (k : Nat) : W.frozen? ⟨g, k, none⟩ = false := by simp [World.frozen?, h.ob]
/-- What stood below base is as it was, and so are all blocks of other kinds than this disk's. -/
structure Rf.B (base : Nat) (w w' : World) : Prop where
  b : Below base w w'
  f : ∀ (k : Nat) (cells : Array Value) (t : TypeId), w.heap[k]? = some (Obj.cells cells t (0, 0)) → t ≠ 9 → t ≠ 64 → t ≠ 90 → w'.heap[k]? = w.heap[k]?
  m : ∀ (k : Nat) (es : Array MapEntry) (clock : Nat), w.heap[k]? = some (Obj.map es clock) → w'.heap[k]? = w.heap[k]?
theorem Rf.B.refl (base : Nat) (w : World) : Rf.B base w w := ⟨Below.refl _ _, fun _ _ _ _ _ _ _ => rfl, fun _ _ _ _ => rfl⟩
theorem Rf.B.size {base : Nat} {w w' : World} (h : Rf.B base w w') : w.heap.size ≤ w'.heap.size := h.b.size
theorem Rf.B.trans {base : Nat} {a w w' : World} (h : Rf.B base a w) (h' : Rf.B base w w') : Rf.B base a w' :=
  ⟨h.b.trans h'.b, fun k cells t e h1 h2 h3 => by
    have e1 := h.f k cells t e h1 h2 h3
    rw [← e1]
    exact h'.f k cells t (e1.trans e) h1 h2 h3, fun k es clock e => by
    have e1 := h.m k es clock e
    rw [← e1]
    exact h'.m k es clock (e1.trans e)⟩
theorem Rf.B.of {base : Nat} {w w' : World} (h : Below w.heap.size w w') (hb : base ≤ w.heap.size) : Rf.B base w w' :=
  ⟨h.mono hb, fun k _ _ e _ _ _ => h.block k (Array.getElem?_eq_some_iff.1 e).1, fun k _ _ e => h.block k (Array.getElem?_eq_some_iff.1 e).1⟩
theorem Rf.B.grown {base t0 : Nat} {row : Option Nat} {a w w' : World} (h : Rf.B base a w) (hg : w.grownBy w' row) (hb : base ≤ w.heap.size) (hbb : ∀ k, row = some k → base ≤ k) (hty : ∀ k, row = some k → ∃ cs, w.heap[k]? = some (.cells cs t0 (0, 0))) (ht : t0 = 9 ∨ t0 = 64 ∨ t0 = 90) : Rf.B base a w' :=
  ⟨h.b.grown hg hb hbb, fun k cells t e h1 h2 h3 => by
    have e1 := h.f k cells t e h1 h2 h3
    rw [← e1]
    have e2 := e1.trans e
    refine hg.block k (Array.getElem?_eq_some_iff.1 e2).1 ?_
    intro e3
    obtain ⟨cs, hcs⟩ := hty k e3.symm
    rw [hcs] at e2
    injection e2 with e2
    injection e2 with _ e2
    subst e2
    rcases ht with ht | ht | ht
    · exact h1 ht
    · exact h2 ht
    · exact h3 ht, fun k es clock e => by
    have e1 := h.m k es clock e
    rw [← e1]
    have e2 := e1.trans e
    refine hg.block k (Array.getElem?_eq_some_iff.1 e2).1 ?_
    intro e3
    obtain ⟨cs, hcs⟩ := hty k e3.symm
    rw [hcs] at e2
    cases e2⟩
theorem Rf.B.set {base t0 : Nat} {cs : Array Value} {a w : World} {b k : Nat} (h : Rf.B base a w) (hb : base ≤ w.heap.size) (hbb : base ≤ b) (hty : w.heap[b]? = some (.cells cs t0 (0, 0))) (ht : t0 = 9 ∨ t0 = 64 ∨ t0 = 90) (u : Value) : Rf.B base a (w.setCell ⟨b, k, none⟩ u) :=
  h.grown (Dk.gset w b k u) hb (fun q e => by cases e; exact hbb) (fun q e => by cases e; exact ⟨cs, hty⟩) ht
theorem Rf.B.drew {base : Nat} {a w : World} (h : Rf.B base a w) : Rf.B base a w.drew := ⟨h.b.drew, h.f, h.m⟩
theorem Rf.B.alloc {base : Nat} {a w : World} (h : Rf.B base a w) (hb : base ≤ w.heap.size) (o : Obj) : Rf.B base a (w.alloc o) := h.trans (Rf.B.of ((Below.refl w.heap.size w).alloc (Nat.le_refl _) o) hb)
theorem Rf.ne9 : ∀ q, q ∈ 9 :: Kd.string.E → q ≠ 64 := by
  intro q hq
  simp [Kd.string, Kd.scalar] at hq
  omega
theorem Rf.neL : ∀ q, q ∈ 90 :: Rf.K.E → q ≠ 64 := by
  intro q hq
  have hE : Rf.K.E = [] := rfl
  rw [hE] at hq
  simp at hq
  omega
/-- A cell of the disk's own block is written, that holds a number. -/
theorem Rf.D.put {W : World} {base g : Nat} {s s' : Dk.S} {iv lv : Value} (h : Rf.D W base g s iv lv) (k : Nat) (v : Value) (ha : (Rf.arr s iv lv).setIfInBounds k v = Rf.arr s' iv lv) (hs : s'.sec = s.sec) (hl : s'.l = s.l) : Rf.D (W.setCell ⟨g, k, none⟩ v) base g s' iv lv ∧ Rf.B base W (W.setCell ⟨g, k, none⟩ v) := by
  have hob := blk_set h.ob k v
  rw [ha] at hob
  have hg := Dk.gset W g k v
  refine ⟨⟨hob, by rw [hs]; exact h.hl, h.hg, ?_, ?_, ?_, Nat.le_trans h.hb hg.size⟩, (Rf.B.refl base W).set h.hb h.hg h.ob (.inr (.inl rfl)) v⟩
  · rw [hs]
    exact Kd.R_set h.ri h.ob Rf.ne9 k v
  · rw [hl]
    exact Kd.R_set h.rl h.ob Rf.neL k v
  · rw [hl]
    exact h.kk
theorem Rf.D.drew {W : World} {base g : Nat} {s : Dk.S} {iv lv : Value} (h : Rf.D W base g s iv lv) : Rf.D W.drew base g s iv lv := ⟨h.ob, h.hl, h.hg, Kd.R_drew h.ri, Kd.R_drew h.rl, h.kk, h.hb⟩
/-- The loose ones are no more. -/
theorem Rf.D.calm {W : World} {base g : Nat} {s : Dk.S} {iv lv : Value} (h : Rf.D W base g s iv lv) : Rf.D (W.setCell ⟨g, 1, none⟩ (.slice none 0 0)) base g { s with l := [] } iv (.slice none 0 0) ∧ Rf.B base W (W.setCell ⟨g, 1, none⟩ (.slice none 0 0)) :=
  ⟨⟨blk_set h.ob 1 _, h.hl, h.hg, Kd.R_set h.ri h.ob Rf.ne9 1 _, Kd.R_nil _ _ _ _ _, fun p hp => absurd hp List.not_mem_nil, Nat.le_trans h.hb (Dk.gset W g 1 (.slice none 0 0)).size⟩, (Rf.B.refl base W).set h.hb h.hg h.ob (.inr (.inl rfl)) _⟩
/-- A cell of the row of sectors. -/
theorem Rf.D.form {W : World} {base g : Nat} {s : Dk.S} {iv lv : Value} (h : Rf.D W base g s iv lv) : ∃ b c, iv = .slice (some ⟨b, 0, none⟩) 256 c ∧ base ≤ b ∧ b < W.heap.size ∧ (∃ cells, W.heap[b]? = some (.cells cells 9 (0, 0))) ∧
    ∀ i, i < 256 → W.cell? ⟨b, i, none⟩ = some (.string (s.sec.getD i ⟨#[]⟩)) ∧ W.frozen? ⟨b, i, none⟩ = false := by
  have hl := h.hl
  obtain ⟨b, c, rfl, h1, h2, h3⟩ := Kd.R_form h.ri (by rw [hl]; decide)
  have hr := h.ri
  rw [hl]
  refine ⟨b, c, rfl, h1, h2, h3, fun i hi => ?_⟩
  have hc := Kd.R_celln (⟨#[]⟩ : ByteArray) hr (i : Int) (by omega) (by omega)
  rw [Int.toNat_natCast] at hc
  refine ⟨?_, hc.2⟩
  rw [hc.1]
  unfold rdOf
  rw [Int.toNat_natCast]
theorem Rf.even (x : Int) (h0 : 0 ≤ x) (h1 : x < 18446744073709551616) : (Go.bits .and .u64 x 1 == 0) = decide (x % 2 = 0) := by
  obtain ⟨n, rfl⟩ : ∃ n : Nat, x = (n : Int) := ⟨x.toNat, by omega⟩
  have e0 : Go.bits .and .u64 (n : Int) 1 = ((n &&& 1 : Nat) : Int) := u64_and_nat n 1 (by omega) (by decide)
  rw [e0, Nat.and_one_is_mod]
  have e : ((n % 2 : Nat) : Int) = (n : Int) % 2 := by omega
  rw [e]
  by_cases h : (n : Int) % 2 = 0
  · rw [h]; rfl
  · rw [decide_eq_false h]
    exact beq_eq_false_iff_ne.2 h
/-- What is left of keep, at loose sector number k. -/
def Rf.rest (keep : Int) (k : Nat) : Int := keep / 2 ^ (k % 64)
theorem Rf.rest_in (keep : Int) (k : Nat) (h : 0 ≤ keep ∧ keep < 18446744073709551616) : 0 ≤ Rf.rest keep k ∧ Rf.rest keep k < 18446744073709551616 := by
  unfold Rf.rest
  have hp : (0 : Int) < 2 ^ (k % 64) := Int.pow_pos (by decide)
  refine ⟨Int.ediv_nonneg h.1 (Int.le_of_lt hp), Int.lt_of_le_of_lt (Int.ediv_le_self _ h.1) h.2⟩
theorem Rf.rest_half (keep : Int) (k : Nat) (h : (k + 1) % 64 ≠ 0) : Rf.rest keep k / 2 = Rf.rest keep (k + 1) := by
  unfold Rf.rest
  have e : (k + 1) % 64 = k % 64 + 1 := by omega
  rw [e, Int.ediv_ediv_of_nonneg (Int.le_of_lt (Int.pow_pos (by decide))), Int.pow_succ]
theorem Rf.rest_new (keep : Int) (k : Nat) (h : k % 64 = 0) : Rf.rest keep k = keep := by
  unfold Rf.rest
  rw [h]
  exact Int.ediv_one keep
theorem Rf.lost_eq (keep : Int) (k : Nat) (h : 0 ≤ keep ∧ keep < 18446744073709551616) : Dk.lost keep k = decide (Rf.rest keep k % 2 = 0) := by
  obtain ⟨h1, h2⟩ := Rf.rest_in keep k h
  exact Rf.even (Rf.rest keep k) h1 h2
/-- The row of loose sectors, as it is read. -/
theorem Rf.D.loose {W : World} {base g : Nat} {s : Dk.S} {iv lv : Value} (h : Rf.D W base g s iv lv) (hp : 0 < s.l.length) : ∃ b c, lv = .slice (some ⟨b, 0, none⟩) s.l.length c ∧ s.l.length ≤ c ∧ base ≤ b ∧ b < W.heap.size ∧ (∃ cells, W.heap[b]? = some (.cells cells 90 (0, 0))) ∧
    ∀ i (hi : i < s.l.length), W.cell? ⟨b, i * 2, none⟩ = some (.int .i64 (s.l[i]).1) ∧ W.cell? ⟨b, i * 2 + 1, none⟩ = some (.string (s.l[i]).2) := by
  obtain ⟨b, c, rfl, h1, h2, h3⟩ := Kd.R_form h.rl hp
  obtain ⟨_, hle, hC⟩ := Kd.R_reads' h.rl
  refine ⟨b, c, rfl, hle, h1, h2, h3, fun i hi => ?_⟩
  obtain ⟨ad, cs, e, hcl, hK, hcc⟩ := Kd.C_get hC ((0, ⟨#[]⟩) : Int × ByteArray) (i : Int) (by omega) (by omega)
  cases e
  obtain ⟨_, _, rfl, rfl, rfl⟩ := hK
  have ea : ∀ m : Nat, (⟨b, 0, none⟩ : Addr).add m = ⟨b, m, none⟩ := by
    intro m
    unfold Addr.add
    split
    · rename_i h; rw [h]
    · simp
  have e2 : Rf.K.sz = 2 := rfl
  have eg : s.l.getD (i : Int).toNat (0, ⟨#[]⟩) = s.l[i] := by rw [Int.toNat_natCast, List.getD_eq_getElem?_getD, List.getElem?_eq_getElem hi]; rfl
  have a0 := hcc 0 _ rfl
  have a1 := hcc 1 _ rfl
  rw [e2, ea, Int.toNat_natCast] at a0 a1
  rw [Int.toNat_natCast] at eg
  rw [eg] at a0 a1
  exact ⟨a0, a1⟩
/-- A sector is written. -/
theorem Rf.D.setsec {W : World} {base g b c : Nat} {s : Dk.S} {lv : Value} (h : Rf.D W base g s (.slice (some ⟨b, 0, none⟩) 256 c) lv) (hb : base ≤ b) (hty : ∃ cells, W.heap[b]? = some (.cells cells 9 (0, 0))) (i : Nat) (x : ByteArray) :
    Rf.D (W.setCell ⟨b, i, none⟩ (.string x)) base g { s with sec := s.sec.set i x } (.slice (some ⟨b, 0, none⟩) 256 c) lv ∧ Rf.B base W (W.setCell ⟨b, i, none⟩ (.string x)) := by
  obtain ⟨cells, hty⟩ := hty
  have hne : g ≠ b := by
    rintro rfl
    rw [h.ob] at hty
    cases hty
  have hr := Kd.R_putn h.ri (i : Int) x
  rw [Int.toNat_natCast] at hr
  have hg := Dk.gset W b i (.string x)
  refine ⟨⟨(Below.heap_setCell W _ _ g hne).trans h.ob, by show (s.sec.set i x).length = 256; rw [List.length_set]; exact h.hl, h.hg, hr, ?_, h.kk, Nat.le_trans h.hb hg.size⟩, (Rf.B.refl base W).set h.hb hb hty (.inl rfl) _⟩
  refine Kd.R_set h.rl hty ?_ i _
  intro q hq
  have hE : Rf.K.E = [] := rfl
  rw [hE] at hq
  simp at hq
  omega
/-- append of one element, of which the cells lie in block gb, onto a row of the call's own. -/
theorem Rf.app_step {α : Type} (d : Kd α) {ops : Array Oper} {o : Oper} {a : Act} {Q : Exit → Act → World → Prop} {K : Act → World → Prop} {E : Prop} {W : World} (base : Nat) (hw : Region.wanted o (yielded ops a.tmps) = true) (s x : Operand) (t e : TypeId) (z : Value) (bytes : Nat)
    (ho : o.op = .call { callee := .builtin .append, args := #[s, x], argTypes := #[t, t] })
    (ht : Try.prog.underlying t = some (.slice e)) (hinfo : (Try.prog.info? e).map (fun i => (i.zero, i.size, i.bytes)) = some (some z, d.sz, bytes)) (hz : z.cells.size = d.sz) (hs0 : 0 < d.sz) (hb0 : 0 < bytes)
    (v : Value) (xs : List α) (p : α) (cs : List Value) (gb : Nat) (hs : a.eval s = v) (hx : a.eval x = .slice (some ⟨gb, 0, none⟩) 1 1)
    (hblk : W.heap[gb]? = some (.cells cs.toArray e (0, 0)))
    (hp : d.M W base (fun _ => False) p cs) (HO : d.R e W base (fun _ => True) v xs) (hbase : base ≤ W.heap.size) (hl : (xs.length + 1) * bytes ≤ 140737488355328)
    (h : ∀ v1 w1, d.R e w1 base (fun _ => True) v1 (xs ++ [p]) → W.grownBy w1 v.ownBlock → K (a.put o.dst v1) w1) :
    if Region.wanted o (yielded ops a.tmps) = true then Oper.wp Try.prog o a W K Q else E := by
  obtain ⟨i0, hi, hzz⟩ := Option.map_eq_some_iff.1 hinfo
  simp only [Prod.mk.injEq] at hzz
  obtain ⟨hz0, hz1, hz2⟩ := hzz
  have hlen : xs.length + 1 ≤ 140737488355328 := Nat.le_trans (Nat.le_mul_of_pos_right _ hb0) hl
  obtain ⟨h0, inner, hown, hr⟩ := HO
  rw [if_pos hw]
  obtain ⟨v1, w1, hrun, hown1, hg, _, hat⟩ := run_append_own_at (P := Try.prog) W base t o.type e i0 z d.sz bytes ht hi hz0 hz1 hz2 hz hs0 v xs.length inner hown ⟨gb, 0, none⟩ 1 1 cs (by rw [d.K_len (d.K_of_M hp)]; simp)
    (by simpa using World.news_of_block (cs := cs.toArray) (t := e) (fr := (0, 0)) hblk) (d.K_one (d.K_of_M hp)) (by simp only [maxLen]; omega) hl hbase
  unfold Oper.wp execOp
  simp only [ho, resolve, invoke, builtin, Sem.run_bind, Sem.run_pure, Result.andThen_ok, List.map_toArray, List.map_cons, List.map_nil, hs, hx, hrun]
  refine h v1 w1 (Kd.R_appended h0 hr hp (fun _ hk => hk.elim) (fun _ _ => trivial) hown1 hg ?_) hg
  rcases hat with hat | hat
  · exact .inl hat
  · exact .inr ⟨_, hat, Nat.le_refl _⟩
/-- A row stays where a row of another type was turned. -/
theorem Rf.other {α : Type} {d : Kd α} {e t0 base : Nat} {W w9 : World} {v u : Value} {xs : List α} (h : d.R e W base (fun _ => True) v xs) (hg : W.grownBy w9 u.ownBlock) (hty : ∀ k, u.ownBlock = some k → ∃ cs, W.heap[k]? = some (.cells cs t0 (0, 0))) (ht : ∀ q, q ∈ e :: d.E → q ≠ t0) : d.R e w9 base (fun _ => True) v xs := by
  refine Kd.R_mono (Kd.R_move (Kd.R_bound h) ?_) (fun _ _ => trivial)
  rintro k ⟨_, _, hlt, q, hq, cells, hc⟩
  refine hg.block k hlt ?_
  intro e1
  obtain ⟨cs, hcs⟩ := hty k e1.symm
  rw [hc] at hcs
  injection hcs with hcs
  injection hcs with _ hcs
  exact ht q hq hcs
theorem Rf.ne9L : ∀ q, q ∈ 9 :: Kd.string.E → q ≠ 90 := by
  intro q hq
  simp [Kd.string, Kd.scalar] at hq
  omega
theorem Rf.D.alloc {W : World} {base g : Nat} {s : Dk.S} {iv lv : Value} (h : Rf.D W base g s iv lv) (o : Obj) : Rf.D (W.alloc o) base g s iv lv :=
  ⟨Hw.blk_al h.ob o, h.hl, h.hg, Kd.R_alloc h.ri o, Kd.R_alloc h.rl o, h.kk, Nat.le_trans h.hb ((Below.refl 0 W).alloc (Nat.zero_le _) o).size⟩
/-- A new row of loose sectors is put in its place. -/
theorem Rf.D.row {W w9 : World} {base g : Nat} {s : Dk.S} {iv lv v1 : Value} {p : Int × ByteArray} (h : Rf.D W base g s iv lv) (hp : 0 ≤ p.1 ∧ p.1 < 256) (hr : Kd.R Rf.K 90 w9 base (fun _ => True) v1 (s.l ++ [p])) (hg : W.grownBy w9 lv.ownBlock) :
    w9.heap[g]? = some (.cells (Rf.arr s iv lv) 64 (0, 0)) ∧ Kd.R Kd.string 9 w9 base (fun _ => True) iv s.sec ∧ Rf.D (w9.setCell ⟨g, 1, none⟩ v1) base g { s with l := s.l ++ [p] } iv v1 ∧ Rf.B base W (w9.setCell ⟨g, 1, none⟩ v1) := by
  have ho1 := Dk.apart hg (Kd.R_typed h.rl) h.ob (by decide)
  have hri := Rf.other h.ri hg (Kd.R_typed h.rl) Rf.ne9L
  have hb1 := Nat.le_trans h.hb hg.size
  have B1 := (Rf.B.refl base W).grown hg h.hb (Kd.R_base h.rl) (Kd.R_typed h.rl) (.inr (.inr rfl))
  have hg2 := Dk.gset w9 g 1 v1
  refine ⟨ho1, hri, ⟨blk_set ho1 1 v1, h.hl, h.hg, Kd.R_set hri ho1 Rf.ne9 1 v1, Kd.R_set hr ho1 Rf.neL 1 v1, ?_, Nat.le_trans hb1 hg2.size⟩, B1.set hb1 h.hg ho1 (.inr (.inl rfl)) v1⟩
  intro q hq
  rcases List.mem_append.1 hq with hq | hq
  · exact h.kk q hq
  · rw [List.mem_singleton] at hq
    subst hq
    exact hp
theorem Rf.sec_row {W : World} {base b c i : Nat} {xs : List ByteArray} (hr : Kd.R Kd.string 9 W base (fun _ => True) (.slice (some ⟨b, 0, none⟩) 256 c) xs) (hl : xs.length = 256) (hi : i < 256) : W.cell? ⟨b, i, none⟩ = some (.string (xs.getD i ⟨#[]⟩)) := by
  have hr2 : Kd.R Kd.string 9 W base (fun _ => True) (.slice (some ⟨b, 0, none⟩) xs.length c) xs := by rw [hl]; exact hr
  have hc := Kd.R_celln (⟨#[]⟩ : ByteArray) hr2 (i : Int) (by omega) (by omega)
  rw [Int.toNat_natCast] at hc
  rw [hc.1]
  unfold rdOf
  rw [Int.toNat_natCast]
theorem Rf.K_mk (W : World) (base : Nat) (ok : Nat → Prop) (a : Int) (y : ByteArray) : Rf.K.M W base ok (a, y) [.int .i64 a, .string y] := ⟨[.int .i64 a], [.string y], rfl, rfl, rfl⟩
theorem Rf.D.ity {W : World} {base g b c : Nat} {s : Dk.S} {lv : Value} (h : Rf.D W base g s (.slice (some ⟨b, 0, none⟩) 256 c) lv) : ∃ cells, W.heap[b]? = some (.cells cells 9 (0, 0)) := by
  obtain ⟨b', c', e, _, _, h3, _⟩ := h.form
  injection e with e
  injection e with e
  injection e with e
  subst e
  exact h3
end Go.Proofs.Ytfdccgpbdcdgmaa
