/- A disk as disk.go has it: what its memory is, and its steps as plain functions; by hand. A library; conditions: none. -/
import Derived.Test.YtfdccgpbdcdgmaaHw
import Derived.Test.YtfdccgpbdcdgmaaProg
import Derived.Maps.Views
import Derived.Maps.OwnSet
import Derived.Maps.StringElems
import Derived.Deep.AppendLies
set_option linter.unusedVariables false
namespace Go.Proofs.Ytfdccgpbdcdgmaa
open Go.RowKit Go.Proofs.YtfdccgpbdcdgmaaW.PrintWords Go.Proofs.YtfdccgpbdcdgmaaW.PrintLast Go.Proofs.YtfdccgpbdcdgmaaW
/-- What a disk is: its sectors, the loose ones with what lasts of them, and its numbers. -/
structure Dk.S where
  sec : List ByteArray
  l : List (Int × ByteArray)
  off : Bool
  cut : Int
  fail : Int
  keep : Int
  many : Int
def Dk.tl (s : Dk.S) (mb : Nat) (ov : Value) : List Value := [.map (some mb), ov, .bool s.off, .int .i64 s.cut, .int .i64 s.fail, .int .u64 s.keep, .int .i64 s.many]
def Dk.arr (s : Dk.S) (mb : Nat) (ov : Value) : Array Value := (s.sec.map Value.string ++ Dk.tl s mb ov).toArray
/-- Block mb is a map that has, of each loose sector, what lasts. -/
def Dk.Mp (W : World) (mb n : Nat) (l : List (Int × ByteArray)) : Prop :=
  ∃ D : DataW Unit, W.ownsMap Try.prog 3 (plainElem Try.prog 9) mb n D ∧ ∀ p ∈ l, D.atKey (.int .i64 p.1) (.lit (.string [])) = .lit (.string p.2.data.toList)
/-- Block g is a disk. -/
structure Dk.D (W : World) (base g : Nat) (s : Dk.S) (mb n : Nat) (ov : Value) : Prop where
  ob : W.heap[g]? = some (.cells (Dk.arr s mb ov) 61 (0, 0))
  hl : s.sec.length = 256
  hg : base ≤ g
  hm : base ≤ mb
  ro : Kd.R (Kd.int .i64) 3 W base (fun _ => True) ov (s.l.map Prod.fst)
  mp : Dk.Mp W mb n s.l
  kk : ∀ p ∈ s.l, 0 ≤ p.1 ∧ p.1 < 256
  hb : base ≤ W.heap.size
theorem Dk.D.sec {W : World} {base g mb n : Nat} {s : Dk.S} {ov : Value} (h : Dk.D W base g s mb n ov) (i : Nat) (hi : i < 256) : W.cell? ⟨g, i, none⟩ = some (.string (s.sec.getD i ⟨#[]⟩)) := by
  rw [cell_of_row W g i _ _ _ h.ob]
  have hl := h.hl
  unfold Dk.arr
  rw [List.getElem?_toArray, List.getElem?_append_left (by rw [List.length_map]; omega), List.getElem?_map, List.getD_eq_getElem?_getD, List.getElem?_eq_getElem (by omega)]
  rfl
theorem Dk.D.at {W : World} {base g mb n : Nat} {s : Dk.S} {ov : Value} (h : Dk.D W base g s mb n ov) (k : Nat) : W.cell? ⟨g, 256 + k, none⟩ = (Dk.tl s mb ov)[k]? := by
  rw [cell_of_row W g _ _ _ _ h.ob]
  have hl := h.hl
  unfold Dk.arr
  rw [List.getElem?_toArray, List.getElem?_append_right (by rw [List.length_map]; omega), List.length_map, hl, Nat.add_sub_cancel_left]
theorem Dk.D.fz {W : World} {base g mb n : Nat} {s : Dk.S} {ov : Value} (h : Dk.D W base g s mb n ov) (k : Nat) : W.frozen? ⟨g, k, none⟩ = false := by simp [World.frozen?, h.ob]
def Dk.dn (n : Int) : Int := if 0 < n then wrap64 (n - 1) else n
theorem Dk.set_same (cs : Array Value) (k : Nat) (v : Value) (h : cs[k]? = some v) : cs.setIfInBounds k v = cs := by
  apply Array.ext
  · simp
  · intro i h1 h2
    rw [Array.getElem_setIfInBounds]
    split
    · rename_i e
      subst e
      rw [Array.getElem?_eq_getElem h2] at h
      exact (Option.some.inj h).symm
    · rfl
theorem Dk.gset (W : World) (b k : Nat) (v : Value) : W.grownBy (W.setCell ⟨b, k, none⟩ v) (some b) := by
  have h := (Below.refl 0 W).setCell (p := ⟨b, k, none⟩) (Nat.zero_le _) v
  exact ⟨h.os, h.tape, h.output, h.size, fun i _ hi => Below.heap_setCell W _ v i (fun e => hi (by rw [e]))⟩
/-- What stood below base is as it was, and so are all blocks of other kinds than a disk's. -/
structure Dk.B (base : Nat) (w w' : World) : Prop where
  b : Below base w w'
  f : ∀ (k : Nat) (cells : Array Value) (t : TypeId), w.heap[k]? = some (Obj.cells cells t (0, 0)) → t ≠ 3 → t ≠ 61 → w'.heap[k]? = w.heap[k]?
theorem Dk.B.refl (base : Nat) (w : World) : Dk.B base w w := ⟨Below.refl _ _, fun _ _ _ _ _ _ => rfl⟩
theorem Dk.B.size {base : Nat} {w w' : World} (h : Dk.B base w w') : w.heap.size ≤ w'.heap.size := h.b.size
theorem Dk.B.trans {base : Nat} {a w w' : World} (h : Dk.B base a w) (h' : Dk.B base w w') : Dk.B base a w' :=
  ⟨h.b.trans h'.b, fun k cells t e h1 h2 => by
    have e1 := h.f k cells t e h1 h2
    rw [← e1]
    exact h'.f k cells t (e1.trans e) h1 h2⟩
theorem Dk.B.of {base : Nat} {w w' : World} (h : Below w.heap.size w w') (hb : base ≤ w.heap.size) : Dk.B base w w' :=
  ⟨h.mono hb, fun k _ _ e _ _ => h.block k (Array.getElem?_eq_some_iff.1 e).1⟩
/-- A row, or none, of a disk's kinds. -/
theorem Dk.B.grown {base t0 : Nat} {row : Option Nat} {a w w' : World} (h : Dk.B base a w) (hg : w.grownBy w' row) (hb : base ≤ w.heap.size) (hbb : ∀ k, row = some k → base ≤ k) (hty : ∀ k, row = some k → ∃ cs, w.heap[k]? = some (.cells cs t0 (0, 0))) (ht : t0 = 3 ∨ t0 = 61) : Dk.B base a w' :=
  ⟨h.b.grown hg hb hbb, fun k cells t e h1 h2 => by
    have e1 := h.f k cells t e h1 h2
    rw [← e1]
    have e2 := e1.trans e
    refine hg.block k (Array.getElem?_eq_some_iff.1 e2).1 ?_
    intro e3
    obtain ⟨cs, hcs⟩ := hty k e3.symm
    rw [hcs] at e2
    injection e2 with e2
    injection e2 with _ e2
    subst e2
    rcases ht with ht | ht
    · exact h1 ht
    · exact h2 ht⟩
/-- A map's block. -/
theorem Dk.B.grownM {base b : Nat} {es : Array MapEntry} {clock : Nat} {a w w' : World} (h : Dk.B base a w) (hg : w.grownBy w' (some b)) (hb : base ≤ w.heap.size) (hbb : base ≤ b) (hty : w.heap[b]? = some (.map es clock)) : Dk.B base a w' :=
  ⟨h.b.grown hg hb (fun k e => by cases e; exact hbb), fun k cells t e h1 h2 => by
    have e1 := h.f k cells t e h1 h2
    rw [← e1]
    have e2 := e1.trans e
    refine hg.block k (Array.getElem?_eq_some_iff.1 e2).1 ?_
    intro e3
    cases e3
    rw [hty] at e2
    cases e2⟩
theorem Dk.B.set {base t0 : Nat} {cs : Array Value} {a w : World} {b k : Nat} (h : Dk.B base a w) (hb : base ≤ w.heap.size) (hbb : base ≤ b) (hty : w.heap[b]? = some (.cells cs t0 (0, 0))) (ht : t0 = 3 ∨ t0 = 61) (u : Value) : Dk.B base a (w.setCell ⟨b, k, none⟩ u) :=
  h.grown (Dk.gset w b k u) hb (fun q e => by cases e; exact hbb) (fun q e => by cases e; exact ⟨cs, hty⟩) ht
theorem Dk.B.drew {base : Nat} {a w : World} (h : Dk.B base a w) : Dk.B base a w.drew := ⟨h.b.drew, h.f⟩
theorem Dk.B.alloc {base : Nat} {a w : World} (h : Dk.B base a w) (hb : base ≤ w.heap.size) (o : Obj) : Dk.B base a (w.alloc o) := h.trans (Dk.B.of ((Below.refl w.heap.size w).alloc (Nat.le_refl _) o) hb)
theorem Dk.keyed   : Maps.Keyed Try.prog 3 := Maps.int_keyed (q := .i64) (by kernel_rfl)
theorem Dk.wf (x : Int) (h : 0 ≤ x ∧ x < 256) : (Lit.int .i64 x).wf = true := by
  simp [Lit.wf, IntKind.min, IntKind.max, IntKind.signed, IntKind.bits]
  omega
theorem Dk.key (x : Int) (h : 0 ≤ x ∧ x < 256) : keyOf Try.prog 3 (.int .i64 x) = some (.int .i64 x) := Maps.keyOf_int_mk (q := .i64) (by kernel_rfl) (Dk.wf x h)
theorem Dk.ints {W : World} {base b2 n c2 : Nat} {ok : Nat → Prop} {ys : List Int} (h : Kd.R (Kd.int .i64) 3 W base ok (.slice (some ⟨b2, 0, none⟩) n c2) ys) (i : Nat) (hi : i < ys.length) :
    W.cell? ⟨b2, i, none⟩ = some (.int .i64 (ys.getD i 0)) ∧ W.frozen? ⟨b2, i, none⟩ = false := by
  obtain ⟨hn, hle, hC⟩ := Kd.R_reads' h
  obtain ⟨ad, c, e, hcl, hK, hcc⟩ := Kd.C_get hC (0 : Int) (i : Int) (by omega) (by omega)
  cases e
  have hk : c = [.int .i64 (ys.getD (i : Int).toNat 0)] := hK
  have h0 := hcc 0 (.int .i64 (ys.getD i 0)) (by rw [hk, Int.toNat_natCast]; rfl)
  have e3 : (Kd.int .i64).sz = 1 := rfl
  have ea : (⟨b2, 0, none⟩ : Addr).add i = ⟨b2, i, none⟩ := by
    unfold Addr.add
    split
    · rename_i h; rw [h]
    · simp
  rw [Int.toNat_natCast, e3, Nat.mul_one, Nat.add_zero, ea] at h0
  refine ⟨h0, ?_⟩
  obtain ⟨_, inner, ho, _⟩ := h
  rcases ho.2 with ⟨h', _⟩ | ⟨g', cap', cur, h', _, hh, _⟩
  · cases h'
  · injection h' with h1 h2 h3
    injection h1 with h1
    injection h1 with h1
    subst h1
    simp [World.frozen?, hh]
theorem Dk.ne3 : ∀ q, q ∈ 3 :: (Kd.int .i64).E → q ≠ 61 := by
  intro q hq
  simp [Kd.int, Kd.scalar] at hq
  omega
/-- A row stays where a map alone was turned. -/
theorem Dk.row_map {W w1 : World} {base mb : Nat} {ok : Nat → Prop} {es : Array MapEntry} {clock : Nat} {v : Value} {ys : List Int} (h : Kd.R (Kd.int .i64) 3 W base ok v ys) (hm : W.heap[mb]? = some (.map es clock)) (hg : W.grownBy w1 (some mb)) : Kd.R (Kd.int .i64) 3 w1 base ok v ys := by
  refine Kd.R_mono (Kd.R_move (Kd.R_bound h) ?_) (fun k hk => hk.1)
  rintro k ⟨_, _, hlt, q, hq, cells, hc⟩
  refine hg.block k hlt ?_
  intro e
  cases e
  rw [hm] at hc
  cases hc
theorem Dk.nilrow (W : World) (base : Nat) : Kd.R (Kd.int .i64) 3 W base (fun _ => True) (.slice none 0 0) [] := Kd.R_nil _ _ _ _ _
theorem Dk.arr_get (s : Dk.S) (mb : Nat) (ov : Value) (k : Nat) (hl : s.sec.length = 256) : (Dk.arr s mb ov)[256 + k]? = (Dk.tl s mb ov)[k]? := by
  unfold Dk.arr
  rw [List.getElem?_toArray, List.getElem?_append_right (by rw [List.length_map]; omega), List.length_map, hl, Nat.add_sub_cancel_left]
theorem Dk.arr_set (s : Dk.S) (mb : Nat) (ov : Value) (k : Nat) (v : Value) (hl : s.sec.length = 256) : (Dk.arr s mb ov).setIfInBounds (256 + k) v = (s.sec.map Value.string ++ (Dk.tl s mb ov).set k v).toArray := by
  unfold Dk.arr
  rw [List.setIfInBounds_toArray, List.set_append_right _ _ (by rw [List.length_map]; omega), List.length_map, hl, Nat.add_sub_cancel_left]
theorem Dk.arr_sec (s : Dk.S) (mb : Nat) (ov : Value) (i : Nat) (x : ByteArray) (hl : s.sec.length = 256) (hi : i < 256) : (Dk.arr s mb ov).setIfInBounds i (.string x) = Dk.arr { s with sec := s.sec.set i x } mb ov := by
  unfold Dk.arr
  rw [List.setIfInBounds_toArray, List.set_append_left _ _ (by rw [List.length_map]; omega), List.map_set]
  rfl
theorem Dk.Mp.kept {W w1 : World} {mb n : Nat} {row : Option Nat} {l : List (Int × ByteArray)} (h : Dk.Mp W mb n l) (hg : W.grownBy w1 row) (hne : some mb ≠ row) : Dk.Mp w1 mb n l := by
  obtain ⟨D, hD, hat⟩ := h
  exact ⟨D, hD.kept hg hne, hat⟩
theorem Dk.D.ne {W : World} {base g mb n : Nat} {s : Dk.S} {ov : Value} (h : Dk.D W base g s mb n ov) : some mb ≠ some g := by
  obtain ⟨D, hD, _⟩ := h.mp
  obtain ⟨es, clock, hes, _⟩ := hD
  intro e
  cases e
  rw [h.ob] at hes
  cases hes
theorem Dk.D.drew {W : World} {base g mb n : Nat} {s : Dk.S} {ov : Value} (h : Dk.D W base g s mb n ov) : Dk.D W.drew base g s mb n ov :=
  ⟨h.ob, h.hl, h.hg, h.hm, Kd.R_drew h.ro, h.mp.kept (Hw.grown_drew W (some g)) h.ne, h.kk, h.hb⟩
theorem Dk.D.drewN {W : World} {base g mb n : Nat} {s : Dk.S} {ov : Value} (h : Dk.D W base g s mb n ov) (m : Nat) : Dk.D (W.drewN m) base g s mb n ov :=
  ⟨h.ob, h.hl, h.hg, h.hm, Kd.R_drewN h.ro m, h.mp.kept (Hw.grown_drewN W m (some g)) h.ne, h.kk, h.hb⟩
theorem Dk.B.drewN {base : Nat} {a w : World} (h : Dk.B base a w) (m : Nat) : Dk.B base a (w.drewN m) := ⟨pw_below_drewN h.b m, h.f⟩
/-- A cell of the disk's own block is written. -/
theorem Dk.D.put {W : World} {base g mb n : Nat} {s s' : Dk.S} {ov : Value} (h : Dk.D W base g s mb n ov) (k : Nat) (v : Value) (ha : (Dk.arr s mb ov).setIfInBounds k v = Dk.arr s' mb ov) (hl : s'.sec.length = 256) (hs : s'.l = s.l) : Dk.D (W.setCell ⟨g, k, none⟩ v) base g s' mb n ov ∧ Dk.B base W (W.setCell ⟨g, k, none⟩ v) := by
  have hob := blk_set h.ob k v
  rw [ha] at hob
  have hg := Dk.gset W g k v
  refine ⟨⟨hob, hl, h.hg, h.hm, ?_, ?_, ?_, Nat.le_trans h.hb hg.size⟩, (Dk.B.refl base W).set h.hb h.hg h.ob (.inr rfl) v⟩
  · rw [hs]
    exact Kd.R_set h.ro h.ob Dk.ne3 k v
  · rw [hs]
    exact h.mp.kept hg h.ne
  · rw [hs]
    exact h.kk
set_option maxRecDepth 100000 in
theorem Dk.Mp.look {W : World} {mb n : Nat} {l : List (Int × ByteArray)} (h : Dk.Mp W mb n l) (p : Int × ByteArray) (hp : p ∈ l) (hk : 0 ≤ p.1 ∧ p.1 < 256) : (Instr.lookup 57 (.map (some mb)) (.int .i64 p.1) false).run Try.prog W = .ok (.string p.2) W := by
  obtain ⟨D, hD, hat⟩ := h
  obtain ⟨v, ps, hrun, hv⟩ := hD.lookup Dk.keyed (t := 57) (e := 9) (by kernel_rfl) (z := .string ⟨#[]⟩) (by kernel_rfl) (zd := .lit (.string [])) (zp := []) (plainElem_string (by kernel_rfl) (by decide)) (Dk.key p.1 hk)
  obtain ⟨y, rfl, hy, _⟩ := plainElem_string_inv (by kernel_rfl) hv
  rw [hat p hp] at hy
  injection hy with hy _
  injection hy with hy
  injection hy with hy
  have e : y = p.2 := by
    cases y with | mk a => cases hp2 : p.2 with | mk b =>
      rw [hp2] at hy
      simp only at hy
      have := Array.toList_inj.1 hy
      rw [this]
  rw [← e]
  exact hrun
/-- Is loose sector number k lost, when the power goes. -/
def Dk.lost (keep : Int) (k : Nat) : Bool := Go.bits .and .u64 (keep / 2 ^ (k % 64)) 1 == 0
def Dk.dieF (keep : Int) : List (Int × ByteArray) → Nat → List ByteArray → List ByteArray
  | [], _, sec => sec
  | p :: r, k, sec => Dk.dieF keep r (k + 1) (if Dk.lost keep k = true then sec.set p.1.toNat p.2 else sec)
theorem Dk.dieF_len (keep : Int) : ∀ (l : List (Int × ByteArray)) (k : Nat) (sec : List ByteArray), (Dk.dieF keep l k sec).length = sec.length
  | [], _, _ => rfl
  | p :: r, k, sec => by
    rw [Dk.dieF, Dk.dieF_len keep r]
    split
    · rw [List.length_set]
    · rfl
def Dk.dieS (s : Dk.S) : Dk.S := { s with sec := Dk.dieF s.keep s.l 0 s.sec, l := [], off := true }
def Dk.cutS (s : Dk.S) (n keep : Int) : Dk.S := { s with cut := mx n 0, keep := keep }
def Dk.failS (s : Dk.S) (n : Int) : Dk.S := { s with fail := mx n 0 }
def Dk.powS (s : Dk.S) : Dk.S := if s.off = true then { s with off := false, cut := 0, fail := 0 } else s
def Dk.read (s : Dk.S) (i : Int) : ByteArray × Int := if s.off = true then (⟨#[]⟩, 33) else if i < 0 ∨ 256 ≤ i then (⟨#[]⟩, 30) else (s.sec.getD i.toNat ⟨#[]⟩, 0)
def Dk.In (s : Dk.S) : Prop := (0 ≤ s.cut ∧ s.cut < 9223372036854775808) ∧ (0 ≤ s.fail ∧ s.fail < 9223372036854775808) ∧ (0 ≤ s.keep ∧ s.keep < 18446744073709551616) ∧ (0 ≤ s.many ∧ s.many ≤ 90000) ∧ (s.l.length : Int) ≤ s.many ∧ (∀ x ∈ s.sec, x.size ≤ 128) ∧ (∀ p ∈ s.l, p.2.size ≤ 128)
def Dk.tick (s : Dk.S) : Dk.S := { s with many := s.many + 1, cut := Dk.dn s.cut, fail := Dk.dn s.fail }
def Dk.barr (s : Dk.S) : Dk.S × Int := if s.off = true then (s, 33) else if s.cut = 1 then (Dk.dieS (Dk.tick s), 33) else if s.fail = 1 then (Dk.tick s, 32) else ({ Dk.tick s with l := [] }, 0)
/-- Behind the counting of a call. -/
theorem Dk.D.ticked {W W1 W2 : World} {base g mb n : Nat} {s : Dk.S} {ov : Value} (h : Dk.D W base g { s with many := s.many + 1 } mb n ov)
    (h1 : W1.heap[g]? = some (.cells ((Dk.arr { s with many := s.many + 1 } mb ov).setIfInBounds 259 (.int .i64 (Dk.dn s.cut))) 61 (0, 0))) (hg1 : W.grownBy W1 (some g))
    (h2 : W2.heap[g]? = some (.cells (((Dk.arr { s with many := s.many + 1 } mb ov).setIfInBounds 259 (.int .i64 (Dk.dn s.cut))).setIfInBounds 260 (.int .i64 (Dk.dn s.fail))) 61 (0, 0))) (hg2 : W1.grownBy W2 (some g)) :
    Dk.D W2 base g (Dk.tick s) mb n ov ∧ Dk.B base W W2 := by
  have hg := hg1.trans hg2
  have hl : s.sec.length = 256 := h.hl
  have e1 : (Dk.arr { s with many := s.many + 1 } mb ov).setIfInBounds 259 (.int .i64 (Dk.dn s.cut)) = Dk.arr { s with many := s.many + 1, cut := Dk.dn s.cut } mb ov := by rw [Dk.arr_set { s with many := s.many + 1 } mb _ 3 _ hl]; rfl
  have e2 : (Dk.arr { s with many := s.many + 1, cut := Dk.dn s.cut } mb ov).setIfInBounds 260 (.int .i64 (Dk.dn s.fail)) = Dk.arr (Dk.tick s) mb ov := by rw [Dk.arr_set { s with many := s.many + 1, cut := Dk.dn s.cut } mb _ 4 _ hl]; rfl
  rw [e1, e2] at h2
  refine ⟨⟨h2, hl, h.hg, h.hm, ?_, h.mp.kept hg h.ne, h.kk, Nat.le_trans h.hb hg.size⟩, (Dk.B.refl base W).grown hg h.hb (fun k e => by cases e; exact h.hg) (fun k e => by cases e; exact ⟨_, h.ob⟩) (.inr rfl)⟩
  exact Kd.R_mono (Kd.R_grown (Kd.R_types h.ro h.ob Dk.ne3) hg (fun k hk e => hk.2 (Option.some.inj e))) (fun _ _ => trivial)
theorem Dk.arr259 (s : Dk.S) (mb : Nat) (ov : Value) (hl : s.sec.length = 256) : (Dk.arr s mb ov)[259]? = some (.int .i64 s.cut) := Dk.arr_get s mb ov 3 hl
theorem Dk.arr260 (s : Dk.S) (mb : Nat) (ov : Value) (v : Value) (hl : s.sec.length = 256) : ((Dk.arr s mb ov).setIfInBounds 259 v)[260]? = some (.int .i64 s.fail) := by
  rw [Array.getElem?_setIfInBounds_ne (by decide)]
  exact Dk.arr_get s mb ov 4 hl
def Dk.putS (s : Dk.S) (i : Int) (x : ByteArray) : Dk.S :=
  if i ∈ s.l.map Prod.fst then { s with sec := s.sec.set i.toNat x } else { s with l := s.l ++ [(i, s.sec.getD i.toNat ⟨#[]⟩)], sec := s.sec.set i.toNat x }
def Dk.writ (s : Dk.S) (i : Int) (x : ByteArray) : Dk.S × Int :=
  if s.off = true then (s, 33) else if i < 0 ∨ 256 ≤ i then (s, 30) else if 128 < x.size then (s, 31) else
  if s.fail = 1 ∧ s.cut ≠ 1 then (Dk.tick s, 32) else if s.cut = 1 then (Dk.dieS (Dk.putS (Dk.tick s) i x), 33) else (Dk.putS (Dk.tick s) i x, 0)
/-- Another kind of block than the row that is turned. -/
theorem Dk.apart {W' w1 : World} {v : Value} {b t t0 : Nat} {cs : Array Value} (hg : W'.grownBy w1 v.ownBlock) (hty : ∀ k, v.ownBlock = some k → ∃ cs, W'.heap[k]? = some (.cells cs t0 (0, 0))) (hb : W'.heap[b]? = some (.cells cs t (0, 0))) (ht : t ≠ t0) : w1.heap[b]? = some (.cells cs t (0, 0)) := by
  refine (hg.block b (Array.getElem?_eq_some_iff.1 hb).1 ?_).trans hb
  intro e
  obtain ⟨cs', h'⟩ := hty b e.symm
  rw [hb] at h'
  injection h' with h'
  injection h' with _ h'
  exact ht h'
theorem Dk.Mp.row {W w1 : World} {mb n : Nat} {l : List (Int × ByteArray)} {v : Value} {t0 : Nat} (h : Dk.Mp W mb n l) (hg : W.grownBy w1 v.ownBlock) (hty : ∀ k, v.ownBlock = some k → ∃ cs, W.heap[k]? = some (.cells cs t0 (0, 0))) : Dk.Mp w1 mb n l := by
  refine h.kept hg ?_
  intro e
  obtain ⟨D, ⟨es, clock, hes, _⟩, _⟩ := h
  obtain ⟨cs, hcs⟩ := hty mb e.symm
  rw [hes] at hcs
  cases hcs
/-- A new row of loose sectors is put in its place. -/
theorem Dk.D.row {W w1 : World} {base g mb n : Nat} {s : Dk.S} {ov v1 : Value} (h : Dk.D W base g s mb n ov) {i : Int} (hr : Kd.R (Kd.int .i64) 3 w1 base (fun _ => True) v1 (s.l.map Prod.fst ++ [i])) (hg : W.grownBy w1 ov.ownBlock) :
    w1.heap[g]? = some (.cells (Dk.arr s mb ov) 61 (0, 0)) ∧ (w1.setCell ⟨g, 257, none⟩ v1).heap[g]? = some (.cells (Dk.arr s mb v1) 61 (0, 0)) ∧ Kd.R (Kd.int .i64) 3 (w1.setCell ⟨g, 257, none⟩ v1) base (fun _ => True) v1 (s.l.map Prod.fst ++ [i]) ∧ Dk.Mp (w1.setCell ⟨g, 257, none⟩ v1) mb n s.l ∧ Dk.B base W (w1.setCell ⟨g, 257, none⟩ v1) ∧ base ≤ w1.heap.size := by
  have ho1 := Dk.apart hg (Kd.R_typed h.ro) h.ob (by decide)
  have hm1 := h.mp.row hg (Kd.R_typed h.ro)
  have hb1 := Nat.le_trans h.hb hg.size
  have B1 := (Dk.B.refl base W).grown hg h.hb (Kd.R_base h.ro) (Kd.R_typed h.ro) (.inl rfl)
  have ho2 := blk_set ho1 257 v1
  rw [Dk.arr_set s mb ov 1 v1 h.hl] at ho2
  refine ⟨ho1, ho2, Kd.R_set hr ho1 Dk.ne3 257 v1, hm1.kept (Dk.gset w1 g 257 v1) h.ne, B1.set hb1 h.hg ho1 (.inr rfl) v1, hb1⟩
/-- The sector is told to the map. -/
theorem Dk.Mp.upd {W : World} {mb n : Nat} {l : List (Int × ByteArray)} (h : Dk.Mp W mb n l) (hn : n < maxLen) (i : Int) (hi : 0 ≤ i ∧ i < 256) (hk : ∀ p ∈ l, 0 ≤ p.1 ∧ p.1 < 256) (hno : i ∉ l.map Prod.fst) (x : ByteArray) (hx : x.size ≤ 128) :
    ∃ w', (Instr.mapUpdate 57 (.map (some mb)) (.int .i64 i) (.string x)).run Try.prog W = .ok () w' ∧ Dk.Mp w' mb (n + 1) (l ++ [(i, x)]) ∧ W.grownBy w' (some mb) ∧ ∃ es clock, W.heap[mb]? = some (.map es clock) := by
  obtain ⟨D, hD, hat⟩ := h
  obtain ⟨w', h1, h2, h3⟩ := hD.update Dk.keyed (t := 57) (e := 9) (by kernel_rfl) hn (Dk.key i hi) (val := .string x) (plainElem_string (by kernel_rfl) (Nat.le_trans hx (by decide)))
  have hM : Maps.IsMap D := by
    obtain ⟨es, clock, _, _, _, e⟩ := hD
    exact ⟨_, e⟩
  refine ⟨w', h1, ⟨_, h2, ?_⟩, h3, ?_⟩
  · intro p hp
    rcases List.mem_append.1 hp with hp | hp
    · rw [Maps.atKey_put_other]
      · exact hat p hp
      · intro e
        injection e with _ e
        exact hno (List.mem_map.2 ⟨p, hp, e⟩)
    · rw [List.mem_singleton] at hp
      subst hp
      exact Maps.atKey_put_same hM (show WideAt.IsKeyLit (.int .i64 i) from trivial) _ _
  · obtain ⟨es, clock, hes, _⟩ := hD
    exact ⟨es, clock, hes⟩
theorem Dk.arr_low (s : Dk.S) (mb : Nat) (ov : Value) (i : Nat) (hl : s.sec.length = 256) (hi : i < 256) : (Dk.arr s mb ov)[i]? = some (.string (s.sec.getD i ⟨#[]⟩)) := by
  unfold Dk.arr
  rw [List.getElem?_toArray, List.getElem?_append_left (by rw [List.length_map]; omega), List.getElem?_map, List.getD_eq_getElem?_getD, List.getElem?_eq_getElem (by omega)]
  rfl
/-- Behind the row's and the map's turning: one loose sector more. -/
theorem Dk.D.more {W w9 : World} {base g mb n : Nat} {s : Dk.S} {v1 : Value} {i : Int} {y : ByteArray} (hl : s.sec.length = 256) (hg : base ≤ g) (hm : base ≤ mb) (hk : ∀ p ∈ s.l, 0 ≤ p.1 ∧ p.1 < 256) (hi : 0 ≤ i ∧ i < 256) (hb : base ≤ W.heap.size)
    (ob : W.heap[g]? = some (.cells (Dk.arr s mb v1) 61 (0, 0))) (ro : Kd.R (Kd.int .i64) 3 W base (fun _ => True) v1 (s.l.map Prod.fst ++ [i])) (mp : Dk.Mp w9 mb (n + 1) (s.l ++ [(i, y)])) (hgr : W.grownBy w9 (some mb)) (hes : ∃ es clock, W.heap[mb]? = some (.map es clock)) :
    Dk.D w9 base g { s with l := s.l ++ [(i, y)] } mb (n + 1) v1 ∧ Dk.B base W w9 := by
  obtain ⟨es, clock, hes⟩ := hes
  have hne : some g ≠ some mb := by
    intro e
    cases e
    rw [ob] at hes
    cases hes
  refine ⟨⟨(hgr.block g (Array.getElem?_eq_some_iff.1 ob).1 hne).trans ob, hl, hg, hm, ?_, mp, ?_, Nat.le_trans hb hgr.size⟩, (Dk.B.refl base W).grownM hgr hb hm hes⟩
  · have e : (s.l ++ [(i, y)]).map Prod.fst = s.l.map Prod.fst ++ [i] := by rw [List.map_append]; rfl
    show Kd.R _ _ _ _ _ _ ((s.l ++ [(i, y)]).map Prod.fst)
    rw [e]
    exact Dk.row_map ro hes hgr
  · intro p hp
    rcases List.mem_append.1 hp with hp | hp
    · exact hk p hp
    · rw [List.mem_singleton] at hp
      subst hp
      exact hi
def Dk.Zt : List Value := [.map none, .slice none 0 0, .bool false, .int .i64 0, .int .i64 0, .int .u64 0, .int .i64 0]
def Dk.Z : Array Value := (List.replicate 256 (Value.string ⟨#[]⟩) ++ Dk.Zt).toArray
theorem Dk.Z_size : Dk.Z.size = 263 := by
  unfold Dk.Z
  rw [List.size_toArray, List.length_append, List.length_replicate]
  rfl
def Dk.S0 : Dk.S := ⟨List.replicate 256 ⟨#[]⟩, [], false, 0, 0, 0, 0⟩
theorem Dk.Z_set (mb : Nat) : Dk.Z.setIfInBounds 256 (.map (some mb)) = Dk.arr Dk.S0 mb (.slice none 0 0) := by
  unfold Dk.Z Dk.arr
  have e1 : Dk.S0.sec.map Value.string = List.replicate 256 (Value.string ⟨#[]⟩) := List.map_replicate
  have e2 : Dk.Zt.set 0 (.map (some mb)) = Dk.tl Dk.S0 mb (.slice none 0 0) := rfl
  rw [e1, List.setIfInBounds_toArray, List.set_append_right _ _ (by rw [List.length_replicate]; exact Nat.le_refl _), List.length_replicate, Nat.sub_self, e2]
end Go.Proofs.Ytfdccgpbdcdgmaa
