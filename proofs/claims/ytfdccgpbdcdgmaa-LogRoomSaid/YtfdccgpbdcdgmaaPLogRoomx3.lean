-- By a program of this session (wip/tools/mkprint.py), for this claim.
import Derived.Test.YtfdccgpbdcdgmaaPLogRoomx0
import Derived.Test.YtfdccgpbdcdgmaaPLogRoomx1
import Derived.Test.YtfdccgpbdcdgmaaPLogRoomx2
namespace Go.Proofs.Ytfdccgpbdcdgmaa.PLogRoom
open Go.RowKit Go.Proofs.YtfdccgpbdcdgmaaW.PrintWords Go.Proofs.YtfdccgpbdcdgmaaW.PrintLast Go.Proofs.YtfdccgpbdcdgmaaW.PrintMore
attribute [local go_sem] max2_int min2_int max_two min_two max_three min_three max_four min_four   -- for this text's walks alone
set_option linter.unusedVariables false
set_option linter.unusedSimpArgs false

/-! ### chunk_Decode: function 57 (by hand) -/
/-- The numbers of a chunk's bytes, and its text. -/
def chunk_Decode.pos (l : List UInt8) : Nat → Nat
  | 0 => 0
  | j + 1 => chunk_Decode.pos l j + (Hw.rnum (l.drop (chunk_Decode.pos l j)) 0 0).2.2
def chunk_Decode.val (l : List UInt8) (j : Nat) : Int := ((Hw.rnum (l.drop (chunk_Decode.pos l j)) 0 0).1 : Int)
def chunk_Decode.err (l : List UInt8) (j : Nat) : Int := (Hw.rnum (l.drop (chunk_Decode.pos l j)) 0 0).2.1
def chunk_Decode.txt (l : List UInt8) : List UInt8 × Int × Nat := Hw.rtext (l.drop (chunk_Decode.pos l 3))
def chunk_Decode.bad : Int × Int × Bool × Bool × ByteArray × Int := (0, 0, false, false, ⟨#[]⟩, 21)
/-- What bytes ahead of the sum are as a chunk. -/
def chunk_Decode.dec (l : List UInt8) : Int × Int × Bool × Bool × ByteArray × Int :=
  if chunk_Decode.err l 0 = 0 ∧ chunk_Decode.err l 1 = 0 ∧ chunk_Decode.err l 2 = 0 ∧ (chunk_Decode.txt l).2.1 = 0 ∧ l.length ≤ chunk_Decode.pos l 3 + (chunk_Decode.txt l).2.2 ∧ chunk_Decode.val l 0 ≤ 1099511627776 ∧ chunk_Decode.val l 1 ≤ 1099511627776 ∧ chunk_Decode.val l 2 ≤ 3 ∧ (chunk_Decode.txt l).1.length ≤ 96 then
    (chunk_Decode.val l 0, chunk_Decode.val l 1, decide (chunk_Decode.val l 2 = 1 ∨ chunk_Decode.val l 2 = 3), decide (chunk_Decode.val l 2 = 2 ∨ chunk_Decode.val l 2 = 3), ⟨(chunk_Decode.txt l).1.toArray⟩, 0) else chunk_Decode.bad
def chunk_Decode.f (k : Nat) (a0 : ByteArray) : Option (Int × Int × Bool × Bool × ByteArray × Int) :=
  if a0.size ≤ 140737488355328 then (if (a0.size : Int) < 4 then some chunk_Decode.bad else (chunk_tail.f k (a0.extract 0 (a0.size - 4))).bind fun t => if t.toList = (a0.extract (a0.size - 4) a0.size).toList then some (chunk_Decode.dec (a0.data.toList.take (a0.size - 4))) else some chunk_Decode.bad) else none
theorem chunk_Decode.mono : ∀ a0 k, LeO (chunk_Decode.f k a0) (chunk_Decode.f (k + 1) a0) := by
  intro a0 k
  unfold chunk_Decode.f
  exact LeO.ite (LeO.ite (LeO.refl _) (LeO.bind (chunk_tail.mono _ _) fun _ => LeO.refl _)) (LeO.refl _)
theorem chunk_Decode.pos_le (l : List UInt8) : ∀ j, chunk_Decode.pos l j ≤ l.length := by
  intro j
  induction j with
  | zero => exact Nat.zero_le _
  | succ j ih =>
    have h := (Hw.rnum_used (l.drop (chunk_Decode.pos l j)) 0 0).1
    rw [List.length_drop] at h
    unfold chunk_Decode.pos
    omega
abbrev chunk_Decode.Z0 : Array Value := #[.int .i64 0, .int .i64 0, .bool false, .bool false, .string ⟨#[]⟩]
structure chunk_Decode.Loc (w0 : World) (s : ByteArray) (g b0 bx : Nat) (a x0 x1 x2 : Int) (W : World) : Prop where
  rd : IsS127 w0 W g s a
  bl : Below w0.heap.size w0 W
  h0 : W.heap[b0]? = some (.cells chunk_Decode.Z0 25 (0, 0))
  hx : W.heap[bx]? = some (.cells #[.int .i64 x0, .int .i64 x1, .int .i64 x2] 110 (0, 0))
  lo : w0.heap.size ≤ b0 ∧ w0.heap.size ≤ bx
  ne : b0 ≠ bx ∧ g ≠ b0 ∧ g ≠ bx
section
variable {w0 : World} {s : ByteArray} {g b0 bx : Nat} {a x0 x1 x2 : Int} {W : World}
theorem chunk_Decode.Loc.set0 (h : chunk_Decode.Loc w0 s g b0 bx a x0 x1 x2 W) (x : Int) : chunk_Decode.Loc w0 s g b0 bx a x x1 x2 (W.setCell ⟨bx, 0, none⟩ (.int .i64 x)) := by
  obtain ⟨h1, h2, h3, h4, h5, h6⟩ := h
  exact ⟨h1.far (by show g ≠ bx; omega) _, h2.setCell (by show _ ≤ bx; omega) _, blk_far h3 (by show b0 ≠ bx; omega) _, blk_set h4 0 _, h5, h6⟩
theorem chunk_Decode.Loc.set1 (h : chunk_Decode.Loc w0 s g b0 bx a x0 x1 x2 W) (x : Int) : chunk_Decode.Loc w0 s g b0 bx a x0 x x2 (W.setCell ⟨bx, 1, none⟩ (.int .i64 x)) := by
  obtain ⟨h1, h2, h3, h4, h5, h6⟩ := h
  exact ⟨h1.far (by show g ≠ bx; omega) _, h2.setCell (by show _ ≤ bx; omega) _, blk_far h3 (by show b0 ≠ bx; omega) _, blk_set h4 1 _, h5, h6⟩
theorem chunk_Decode.Loc.set2 (h : chunk_Decode.Loc w0 s g b0 bx a x0 x1 x2 W) (x : Int) : chunk_Decode.Loc w0 s g b0 bx a x0 x1 x (W.setCell ⟨bx, 2, none⟩ (.int .i64 x)) := by
  obtain ⟨h1, h2, h3, h4, h5, h6⟩ := h
  exact ⟨h1.far (by show g ≠ bx; omega) _, h2.setCell (by show _ ≤ bx; omega) _, blk_far h3 (by show b0 ≠ bx; omega) _, blk_set h4 2 _, h5, h6⟩
theorem chunk_Decode.Loc.step (h : chunk_Decode.Loc w0 s g b0 bx a x0 x1 x2 W) {W' : World} {a' : Int} (hi : IsS127 w0 W' g s a') (hb : Below w0.heap.size w0 W') (hk : KeepBut W W' g none) : chunk_Decode.Loc w0 s g b0 bx a' x0 x1 x2 W' := by
  obtain ⟨h1, h2, h3, h4, h5, h6⟩ := h
  exact ⟨hi, hb, hk.blk h3 (by omega) (by simp), hk.blk h4 (by omega) (by simp), h5, h6⟩
theorem chunk_Decode.Loc.xcells (h : chunk_Decode.Loc w0 s g b0 bx a x0 x1 x2 W) : W.cell? ⟨bx, 0, none⟩ = some (.int .i64 x0) ∧ W.cell? ⟨bx, 1, none⟩ = some (.int .i64 x1) ∧ W.cell? ⟨bx, 2, none⟩ = some (.int .i64 x2) ∧ W.frozen? ⟨bx, 0, none⟩ = false ∧ W.frozen? ⟨bx, 1, none⟩ = false ∧ W.frozen? ⟨bx, 2, none⟩ = false :=
  ⟨blk_cell h.hx 0, blk_cell h.hx 1, blk_cell h.hx 2, blk_frozen h.hx 0, blk_frozen h.hx 1, blk_frozen h.hx 2⟩
/-- The result's variable, and what is kept. -/
structure chunk_Decode.Res (w0 : World) (b0 : Nat) (W : World) : Prop where
  bl : Below w0.heap.size w0 W
  h0 : W.heap[b0]? = some (.cells chunk_Decode.Z0 25 (0, 0))
  lo : w0.heap.size ≤ b0
theorem chunk_Decode.Loc.res (h : chunk_Decode.Loc w0 s g b0 bx a x0 x1 x2 W) : chunk_Decode.Res w0 b0 W := ⟨h.bl, h.h0, h.lo.1⟩
theorem chunk_Decode.Res.cells (h : chunk_Decode.Res w0 b0 W) : W.cell? ⟨b0, 0, none⟩ = some (.int .i64 0) ∧ W.cell? ⟨b0, 1, none⟩ = some (.int .i64 0) ∧ W.cell? ⟨b0, 2, none⟩ = some (.bool false) ∧ W.cell? ⟨b0, 3, none⟩ = some (.bool false) ∧ W.cell? ⟨b0, 4, none⟩ = some (.string ⟨#[]⟩) ∧ W.frozen? ⟨b0, 0, none⟩ = false ∧ W.frozen? ⟨b0, 1, none⟩ = false ∧ W.frozen? ⟨b0, 2, none⟩ = false ∧ W.frozen? ⟨b0, 3, none⟩ = false ∧ W.frozen? ⟨b0, 4, none⟩ = false :=
  ⟨blk_cell h.h0 0, blk_cell h.h0 1, blk_cell h.h0 2, blk_cell h.h0 3, blk_cell h.h0 4, blk_frozen h.h0 0, blk_frozen h.h0 1, blk_frozen h.h0 2, blk_frozen h.h0 3, blk_frozen h.h0 4⟩
theorem chunk_Decode.Res.drew (h : chunk_Decode.Res w0 b0 W) : chunk_Decode.Res w0 b0 W.drew := ⟨h.bl.drew, h.h0, h.lo⟩
theorem chunk_Decode.Res.drewN (h : chunk_Decode.Res w0 b0 W) (m : Nat) : chunk_Decode.Res w0 b0 (W.drewN m) := ⟨pw_below_drewN h.bl m, h.h0, h.lo⟩
theorem chunk_Decode.Res.below (h : chunk_Decode.Res w0 b0 W) {W' : World} (hb : Below W.heap.size W W') : chunk_Decode.Res w0 b0 W' := ⟨h.bl.trans (hb.mono h.bl.size), blk_below h.h0 hb, h.lo⟩
theorem chunk_Decode.Res.fin (h : chunk_Decode.Res w0 b0 W) (x y : Int) (p q : Bool) (t : ByteArray) : (((((W.setCell ⟨b0, 0, none⟩ (.int .i64 x)).setCell ⟨b0, 1, none⟩ (.int .i64 y)).setCell ⟨b0, 2, none⟩ (.bool p)).setCell ⟨b0, 3, none⟩ (.bool q)).setCell ⟨b0, 4, none⟩ (.string t)).heap[b0]? = some (.cells #[.int .i64 x, .int .i64 y, .bool p, .bool q, .string t] 25 (0, 0)) ∧ Below w0.heap.size w0 (((((W.setCell ⟨b0, 0, none⟩ (.int .i64 x)).setCell ⟨b0, 1, none⟩ (.int .i64 y)).setCell ⟨b0, 2, none⟩ (.bool p)).setCell ⟨b0, 3, none⟩ (.bool q)).setCell ⟨b0, 4, none⟩ (.string t)) := by
  refine ⟨(blk_set (blk_set (blk_set (blk_set (blk_set h.h0 0 _) 1 _) 2 _) 3 _) 4 _).trans rfl, ((((h.bl.setCell ?_ _).setCell ?_ _).setCell ?_ _).setCell ?_ _).setCell ?_ _⟩ <;> exact h.lo
end
theorem chunk_Decode.first (w : World) : chunk_Decode.Res w w.heap.size (w.alloc (.cells chunk_Decode.Z0 25)) := ⟨below_alloc (Below.refl _ _) _, Hw.blk_nw w _, Nat.le_refl _⟩
/-- How far the loop over the three numbers has come. -/
def chunk_Decode.St (l : List UInt8) (w : World) (sv : ByteArray) (g bx : Nat) (x : Int) (gg : Nat) (W : World) : Prop :=
  (x = 0 ∧ gg = 3 ∧ chunk_Decode.Loc w sv g w.heap.size bx ((chunk_Decode.pos l 0 : Nat) : Int) 0 0 0 W) ∨
  (x = 1 ∧ gg = 2 ∧ chunk_Decode.err l 0 = 0 ∧ chunk_Decode.Loc w sv g w.heap.size bx ((chunk_Decode.pos l 1 : Nat) : Int) (chunk_Decode.val l 0) 0 0 W) ∨
  (x = 2 ∧ gg = 1 ∧ chunk_Decode.err l 0 = 0 ∧ chunk_Decode.err l 1 = 0 ∧ chunk_Decode.Loc w sv g w.heap.size bx ((chunk_Decode.pos l 2 : Nat) : Int) (chunk_Decode.val l 0) (chunk_Decode.val l 1) 0 W) ∨
  (x = 3 ∧ gg = 0 ∧ chunk_Decode.err l 0 = 0 ∧ chunk_Decode.err l 1 = 0 ∧ chunk_Decode.err l 2 = 0 ∧ chunk_Decode.Loc w sv g w.heap.size bx ((chunk_Decode.pos l 3 : Nat) : Int) (chunk_Decode.val l 0) (chunk_Decode.val l 1) (chunk_Decode.val l 2) W)
theorem chunk_Decode.dec_bad (l : List UInt8) {r1 r2 : Int} {r3 r4 : Bool} {r5 : ByteArray} {r6 : Int} (h : chunk_Decode.dec l = (r1, r2, r3, r4, r5, r6)) (hb : ¬ (chunk_Decode.err l 0 = 0 ∧ chunk_Decode.err l 1 = 0 ∧ chunk_Decode.err l 2 = 0 ∧ (chunk_Decode.txt l).2.1 = 0 ∧ l.length ≤ chunk_Decode.pos l 3 + (chunk_Decode.txt l).2.2 ∧ chunk_Decode.val l 0 ≤ 1099511627776 ∧ chunk_Decode.val l 1 ≤ 1099511627776 ∧ chunk_Decode.val l 2 ≤ 3 ∧ (chunk_Decode.txt l).1.length ≤ 96)) : r1 = 0 ∧ r2 = 0 ∧ r3 = false ∧ r4 = false ∧ r5 = ⟨#[]⟩ ∧ r6 = 21 := by
  unfold chunk_Decode.dec at h
  rw [if_neg hb] at h
  simp only [chunk_Decode.bad, Prod.mk.injEq] at h
  obtain ⟨rfl, rfl, rfl, rfl, rfl, rfl⟩ := h
  exact ⟨rfl, rfl, rfl, rfl, rfl, rfl⟩
set_option maxHeartbeats 4000000 in
set_option maxRecDepth 100000 in
theorem chunk_Decode.calls (k : Nat) (a0 : ByteArray) (r1 r2 : Int) (r3 r4 : Bool) (r5 : ByteArray) (r6 : Int) (w : World) (h : chunk_Decode.f k a0 = some (r1, r2, r3, r4, r5, r6)) :
    Calls Try.prog 57 #[.string a0] w fun e w' => e = .returned (.tuple #[.agg #[.int .i64 r1, .int .i64 r2, .bool r3, .bool r4, .string r5], .int .i64 r6]) ∧ Below w.heap.size w w' := by
  unfold chunk_Decode.f at h
  by_cases hz : a0.size ≤ 140737488355328
  case neg => rw [if_neg hz] at h; cases h
  rw [if_pos hz] at h
  have HR0 := Aside0.mk (chunk_Decode.first w)
  by_cases hs : (a0.size : Int) < 4
  · rw [if_pos hs] at h
    simp only [chunk_Decode.bad, Option.some.injEq, Prod.mk.injEq] at h
    obtain ⟨rfl, rfl, rfl, rfl, rfl, rfl⟩ := h
    have hs1 : decide ((a0.size : Int) - 4 < 0) = true := decide_eq_true (by omega)
    obtain ⟨c0, c1, c2, c3, c4, f0, f1, f2, f3, f4⟩ := HR0.out.cells
    go_enter Try.func57, Try.ntmps57
    go_wp2
    go_quiet (fail)
    go_wp2
    have F := (HR0.out.drewN nq).fin 0 0 false false ⟨#[]⟩
    exact bodyPost_ret (results_ct rfl _ _ _ _ _ (0, 0) _ rfl F.1 Try.underlying25 rfl (by kernel_rfl)) rfl ⟨rfl, by first | exact F.2 | exact Below.drew F.2⟩
  · rw [if_neg hs] at h
    obtain ⟨t, ht, h⟩ := Option.bind_eq_some_iff.1 h
    have hs0 : ¬ ((a0.size : Int) - 4 < 0) := by omega
    obtain ⟨n, hn⟩ : ∃ n : Nat, a0.size = n + 4 := ⟨a0.size - 4, by omega⟩
    have hn4 : (a0.size : Int) - 4 = (n : Int) := by omega
    have hn5 : a0.size - 4 = n := by omega
    have hs1 : decide ((n : Int) < 0) = false := decide_eq_false (by omega)
    have hs2 : ((n : Int) < 0) = False := eq_false (by omega)
    rw [hn5] at ht h
    have HT : Aside0 (∀ W, chunk_Decode.Res w w.heap.size W → Calls Try.prog 70 #[.string (a0.extract 0 n)] W fun e w' => e = .returned (.string t) ∧ chunk_Decode.Res w w.heap.size w') := ⟨fun W hW => (chunk_tail.calls k (a0.extract 0 n) t W ht).mono fun e w' hh => ⟨hh.1, hW.below hh.2⟩⟩
    have hsl1 : ∀ W, (Instr.slice 9 (.string a0) none (some (.int .i64 (n : Int))) none).run Try.prog W = .ok (.string (a0.extract 0 n)) W := fun W => run_slice_string_h W _ _ Try.underlying9 _ _ (by omega) (by omega)
    have hsl2 : ∀ W, (Instr.slice 9 (.string a0) (some (.int .i64 (n : Int))) none none).run Try.prog W = .ok (.string (a0.extract n a0.size)) W := fun W => run_slice_string_l W _ _ Try.underlying9 _ _ (by omega) (by omega)
    have hnb : (n : Int) ≤ 140737488355328 := by omega
    have HN := Aside0.mk (And.intro hn (And.intro hz hs0))
    have HH := Aside0.mk h
    clear ht h hn hz hs hs0 hn5
    by_cases htt : t.toList = (a0.extract n a0.size).toList
    · have ht1 : (t.toList == (a0.extract n a0.size).toList) = true := by simpa using htt
      have h := HH.out
      rw [if_pos htt] at h
      have h := Option.some.inj h
      have HD := Aside0.mk h
      clear htt h HH
      have HL : Aside0 ((a0.extract 0 n).data.toList = a0.data.toList.take n ∧ (a0.extract 0 n).size = n ∧ (a0.data.toList.take n).length = n) := by
        have e0 := HN.out
        have e1 : (a0.extract 0 n).data.toList = a0.data.toList.take n := by rw [ByteArray.data_extract]; simp
        have e2 : (a0.extract 0 n).size = n := by rw [ByteArray.size_extract]; omega
        exact ⟨e1, e2, by rw [← e1, data_length, e2]⟩
      generalize hsv : a0.extract 0 n = sv at *
      have HNX : Aside0 (∀ (j g : Nat) (W : World), IsS127 w W g sv ((chunk_Decode.pos (a0.data.toList.take n) j : Nat) : Int) → Below w.heap.size w W → Calls Try.prog 72 #[.pointer (some ⟨g, 0, none⟩)] W fun r W' => r = .returned (.tuple #[.int .i64 (chunk_Decode.val (a0.data.toList.take n) j), .int .i64 (chunk_Decode.err (a0.data.toList.take n) j)]) ∧ IsS127 w W' g sv ((chunk_Decode.pos (a0.data.toList.take n) (j + 1) : Nat) : Int) ∧ Below w.heap.size w W' ∧ KeepBut W W' g none) := ⟨fun j g W h1 h2 => by
        have hp := chunk_Decode.pos_le (a0.data.toList.take n) j
        have hl := HL.out
        obtain ⟨k, hk⟩ := (pack_Reader_Text.num_ev sv (chunk_Decode.pos (a0.data.toList.take n) j) (by omega) (by omega)).rounds
        rw [hl.1] at hk
        exact pack_Reader_Number.calls k g _ _ _ _ _ _ w W h1 h2 hk⟩
      have HTX : Aside0 (∀ (g : Nat) (W : World), IsS127 w W g sv ((chunk_Decode.pos (a0.data.toList.take n) 3 : Nat) : Int) → Below w.heap.size w W → Calls Try.prog 73 #[.pointer (some ⟨g, 0, none⟩)] W fun r W' => r = .returned (.tuple #[.string ⟨(chunk_Decode.txt (a0.data.toList.take n)).1.toArray⟩, .int .i64 (chunk_Decode.txt (a0.data.toList.take n)).2.1]) ∧ IsS127 w W' g sv ((chunk_Decode.pos (a0.data.toList.take n) 3 + (chunk_Decode.txt (a0.data.toList.take n)).2.2 : Nat) : Int) ∧ Below w.heap.size w W' ∧ KeepBut W W' g none) := ⟨fun g W h1 h2 => by
        have hp := chunk_Decode.pos_le (a0.data.toList.take n) 3
        have hl := HL.out
        obtain ⟨k, hk⟩ := (pack_Reader_Text.text_ev sv (chunk_Decode.pos (a0.data.toList.take n) 3) (by omega) (by omega)).rounds
        rw [hl.1] at hk
        exact pack_Reader_Text.calls k g _ _ _ _ _ _ w W h1 h2 hk⟩
      have HEX : Aside0 (∀ (g : Nat) (a e : Int) (W : World), (if a < (n : Int) then 21 else 0) = e → IsS127 w W g sv a → Below w.heap.size w W → Calls Try.prog 74 #[.pointer (some ⟨g, 0, none⟩)] W fun r W' => r = .returned (.int .i64 e) ∧ IsS127 w W' g sv a ∧ Below w.heap.size w W' ∧ KeepBut W W' g none) := ⟨fun g a e W he h1 h2 => by
        refine (pack_Reader_End.calls g _ _ e sv a w W h1 h2 ?_)
        unfold pack_Reader_End.f
        rw [HL.out.2.1, ← he]
        split <;> rfl⟩
      generalize a0.data.toList.take n = l at *
      go_enter Try.func57, Try.ntmps57
      go_wp2
      go_region_held3 (fun W => chunk_Decode.Res w w.heap.size W) (first | assumption | exact HR0.out | exact HR0.out.drew | (refine chunk_Decode.Res.drew ?_; assumption)) (first | (go_at_call 70; refine (HT.out _ (by assumption)).mono ?_; rintro e w' ⟨rfl, hw'⟩))
      have R1 : Aside0 (chunk_Decode.Res w w.heap.size w') := ⟨by assumption⟩
      go_wp2_with (go_at_call 71; refine (pack_Read.calls sv sv 0 w _ R1.out.bl rfl).mono ?_; rintro e w2 ⟨g, rfl, h2, b2, b2'⟩; have I2 := Aside0.mk h2; have B2 := Aside0.mk b2; have R2 := Aside0.mk (R1.out.below b2'); clear h2 b2 b2')
      have h2l : w.heap.size < w2.heap.size := blk_lt R2.out.h0
      have L0 : Aside0 (chunk_Decode.Loc w sv g w.heap.size w2.heap.size ((chunk_Decode.pos l 0 : Nat) : Int) 0 0 0 (w2.alloc (.cells #[.int .i64 0, .int .i64 0, .int .i64 0] 110))) := ⟨⟨I2.out.alloc _, below_alloc B2.out _, Hw.blk_al R2.out.h0 _, Hw.blk_nw w2 _, ⟨Nat.le_refl _, by omega⟩, ⟨by omega, I2.out.ne_blk R2.out.h0 (by decide), by have := I2.out.lt; omega⟩⟩⟩
      have BX := Aside0.mk (Eq.refl w2.heap.size)
      clear hs1 hs2 hsl1 hsl2 ht1 h2l hsv h
      go_loopg [32] 3 (fun gg v32 wq => ∃ x : Int, v32 = .int .i64 x ∧ Aside0 (chunk_Decode.St l w sv g w2.heap.size x gg wq))
      case atStart => exact ⟨0, by first | rfl | simp, ⟨.inl ⟨rfl, rfl, L0.out⟩⟩⟩
      case round =>
        obtain ⟨x, rfl, HS⟩ := hrel
        rcases HS.out with ⟨rfl, hg, L⟩ | ⟨rfl, hg, h0, L⟩ | ⟨rfl, hg, h0, h1, L⟩ | ⟨rfl, hg, h0, h1, h2, L⟩
        · clear HS
          have LL := Aside0.mk L
          have HG := Aside0.mk hg
          clear L hg
          by_cases he : chunk_Decode.err l 0 = 0
          · have HN0 := Aside0.mk (HNX.out 0 g)
            rw [he] at HN0
            have HE := Aside0.mk he
            clear he
            go_wp2_with (go_at_call 72; refine (HN0.out _ LL.out.rd LL.out.bl).mono ?_; rintro r w4 ⟨rfl, hi4, hb4, hk4⟩; have L4 := Aside0.mk (LL.out.step hi4 hb4 hk4); obtain ⟨c0, c1, c2, c3, c4, f0, f1, f2, f3, f4⟩ := L4.out.res.cells; obtain ⟨y0, y1, y2, z0, z1, z2⟩ := L4.out.xcells; clear hi4 hb4 hk4)
            go_roundg (gk - 1)
            case measure => have := HG.out; omega
            case rel =>
              have hg := HG.out
              have he := HE.out
              exact ⟨1, by go_num, ⟨(.inr (.inl ⟨rfl, by omega, he, L4.out.set0 _⟩))⟩⟩
          · have HN0 := Aside0.mk (HNX.out 0 g)
            have he2 : (chunk_Decode.err l 0 != 0) = true := by simpa using he
            have he3 : (chunk_Decode.err l 0 == 0) = false := by simpa using he
            obtain ⟨rfl, rfl, rfl, rfl, rfl, rfl⟩ := chunk_Decode.dec_bad l HD.out (fun q => he q.1)
            clear he
            go_wp2_with (go_at_call 72; refine (HN0.out _ LL.out.rd LL.out.bl).mono ?_; rintro r w4 ⟨rfl, hi4, hb4, hk4⟩; have L4 := Aside0.mk (LL.out.step hi4 hb4 hk4); obtain ⟨c0, c1, c2, c3, c4, f0, f1, f2, f3, f4⟩ := L4.out.res.cells; obtain ⟨y0, y1, y2, z0, z1, z2⟩ := L4.out.xcells; clear hi4 hb4 hk4)
            have F := L4.out.res.fin 0 0 false false ⟨#[]⟩
            exact bodyPost_ret (results_ct rfl _ _ _ _ _ (0, 0) _ rfl F.1 Try.underlying25 rfl (by kernel_rfl)) rfl ⟨rfl, by first | exact F.2 | exact Below.drew F.2⟩
        · clear HS
          have H0 := Aside0.mk h0
          clear h0
          have LL := Aside0.mk L
          have HG := Aside0.mk hg
          clear L hg
          by_cases he : chunk_Decode.err l 1 = 0
          · have HN0 := Aside0.mk (HNX.out 1 g)
            rw [he] at HN0
            have HE := Aside0.mk he
            clear he
            go_wp2_with (go_at_call 72; refine (HN0.out _ LL.out.rd LL.out.bl).mono ?_; rintro r w4 ⟨rfl, hi4, hb4, hk4⟩; have L4 := Aside0.mk (LL.out.step hi4 hb4 hk4); obtain ⟨c0, c1, c2, c3, c4, f0, f1, f2, f3, f4⟩ := L4.out.res.cells; obtain ⟨y0, y1, y2, z0, z1, z2⟩ := L4.out.xcells; clear hi4 hb4 hk4)
            go_roundg (gk - 1)
            case measure => have := HG.out; omega
            case rel =>
              have hg := HG.out
              have he := HE.out
              have h0 := H0.out
              exact ⟨2, by go_num, ⟨(.inr (.inr (.inl ⟨rfl, by omega, h0, he, L4.out.set1 _⟩)))⟩⟩
          · have HN0 := Aside0.mk (HNX.out 1 g)
            have he2 : (chunk_Decode.err l 1 != 0) = true := by simpa using he
            have he3 : (chunk_Decode.err l 1 == 0) = false := by simpa using he
            obtain ⟨rfl, rfl, rfl, rfl, rfl, rfl⟩ := chunk_Decode.dec_bad l HD.out (fun q => he q.2.1)
            clear he
            go_wp2_with (go_at_call 72; refine (HN0.out _ LL.out.rd LL.out.bl).mono ?_; rintro r w4 ⟨rfl, hi4, hb4, hk4⟩; have L4 := Aside0.mk (LL.out.step hi4 hb4 hk4); obtain ⟨c0, c1, c2, c3, c4, f0, f1, f2, f3, f4⟩ := L4.out.res.cells; obtain ⟨y0, y1, y2, z0, z1, z2⟩ := L4.out.xcells; clear hi4 hb4 hk4)
            have F := L4.out.res.fin 0 0 false false ⟨#[]⟩
            exact bodyPost_ret (results_ct rfl _ _ _ _ _ (0, 0) _ rfl F.1 Try.underlying25 rfl (by kernel_rfl)) rfl ⟨rfl, by first | exact F.2 | exact Below.drew F.2⟩
        · clear HS
          have H0 := Aside0.mk h0
          have H1 := Aside0.mk h1
          clear h0 h1
          have LL := Aside0.mk L
          have HG := Aside0.mk hg
          clear L hg
          by_cases he : chunk_Decode.err l 2 = 0
          · have HN0 := Aside0.mk (HNX.out 2 g)
            rw [he] at HN0
            have HE := Aside0.mk he
            clear he
            go_wp2_with (go_at_call 72; refine (HN0.out _ LL.out.rd LL.out.bl).mono ?_; rintro r w4 ⟨rfl, hi4, hb4, hk4⟩; have L4 := Aside0.mk (LL.out.step hi4 hb4 hk4); obtain ⟨c0, c1, c2, c3, c4, f0, f1, f2, f3, f4⟩ := L4.out.res.cells; obtain ⟨y0, y1, y2, z0, z1, z2⟩ := L4.out.xcells; clear hi4 hb4 hk4)
            go_roundg (gk - 1)
            case measure => have := HG.out; omega
            case rel =>
              have hg := HG.out
              have he := HE.out
              have h0 := H0.out
              have h1 := H1.out
              exact ⟨3, by go_num, ⟨(.inr (.inr (.inr ⟨rfl, by omega, h0, h1, he, L4.out.set2 _⟩)))⟩⟩
          · have HN0 := Aside0.mk (HNX.out 2 g)
            have he2 : (chunk_Decode.err l 2 != 0) = true := by simpa using he
            have he3 : (chunk_Decode.err l 2 == 0) = false := by simpa using he
            obtain ⟨rfl, rfl, rfl, rfl, rfl, rfl⟩ := chunk_Decode.dec_bad l HD.out (fun q => he q.2.2.1)
            clear he
            go_wp2_with (go_at_call 72; refine (HN0.out _ LL.out.rd LL.out.bl).mono ?_; rintro r w4 ⟨rfl, hi4, hb4, hk4⟩; have L4 := Aside0.mk (LL.out.step hi4 hb4 hk4); obtain ⟨c0, c1, c2, c3, c4, f0, f1, f2, f3, f4⟩ := L4.out.res.cells; obtain ⟨y0, y1, y2, z0, z1, z2⟩ := L4.out.xcells; clear hi4 hb4 hk4)
            have F := L4.out.res.fin 0 0 false false ⟨#[]⟩
            exact bodyPost_ret (results_ct rfl _ _ _ _ _ (0, 0) _ rfl F.1 Try.underlying25 rfl (by kernel_rfl)) rfl ⟨rfl, by first | exact F.2 | exact Below.drew F.2⟩
        · clear HS
          have HX := Aside0.mk (And.intro h0 (And.intro h1 h2))
          have LL := Aside0.mk L
          clear L hg h0 h1 h2
          have hv0 : (0 : Int) ≤ chunk_Decode.val l 0 := Int.natCast_nonneg _
          have hv2 : (0 : Int) ≤ chunk_Decode.val l 2 := Int.natCast_nonneg _
          have HDB := Aside0.mk (fun hb => chunk_Decode.dec_bad l HD.out hb)
          have HDG : Aside0 (∀ _ : (chunk_Decode.txt l).2.1 = 0 ∧ l.length ≤ chunk_Decode.pos l 3 + (chunk_Decode.txt l).2.2 ∧ chunk_Decode.val l 0 ≤ 1099511627776 ∧ chunk_Decode.val l 1 ≤ 1099511627776 ∧ chunk_Decode.val l 2 ≤ 3 ∧ (chunk_Decode.txt l).1.length ≤ 96, (chunk_Decode.val l 0, chunk_Decode.val l 1, decide (chunk_Decode.val l 2 = 1 ∨ chunk_Decode.val l 2 = 3), decide (chunk_Decode.val l 2 = 2 ∨ chunk_Decode.val l 2 = 3), (⟨(chunk_Decode.txt l).1.toArray⟩ : ByteArray), (0 : Int)) = (r1, r2, r3, r4, r5, r6)) := ⟨fun q => by
            have hd := HD.out
            unfold chunk_Decode.dec at hd
            rw [if_pos ⟨HX.out.1, HX.out.2.1, HX.out.2.2, q⟩] at hd
            exact hd⟩
          have htl : ((⟨(chunk_Decode.txt l).1.toArray⟩ : ByteArray).size : Int) = ((chunk_Decode.txt l).1.length : Int) := congrArg _ List.size_toArray
          generalize chunk_Decode.txt l = T at *
          obtain ⟨tt, te, tu⟩ := T
          simp only at HTX HDB HDG htl
          by_cases k0 : te = 0
          · subst k0
            by_cases k1 : l.length ≤ chunk_Decode.pos l 3 + tu
            · have HEE := Aside0.mk (show (if ((chunk_Decode.pos l 3 + tu : Nat) : Int) < (n : Int) then (21 : Int) else 0) = 0 from if_neg (by have := HL.out; omega))
              obtain ⟨ts, hts⟩ : ∃ ts : ByteArray, (⟨tt.toArray⟩ : ByteArray) = ts := ⟨_, rfl⟩
              rw [hts] at HTX HDG htl
              have K1 := Aside0.mk k1
              clear k1 hts
              by_cases k2 : chunk_Decode.val l 0 ≤ 1099511627776
              · have d2 : decide ((1099511627776 : Int) < chunk_Decode.val l 0) = false := decide_eq_false (by omega)
                by_cases k3 : chunk_Decode.val l 1 ≤ 1099511627776
                · have d3 : decide ((1099511627776 : Int) < chunk_Decode.val l 1) = false := decide_eq_false (by omega)
                  by_cases k4 : chunk_Decode.val l 2 ≤ 3
                  · have d4 : decide ((3 : Int) < chunk_Decode.val l 2) = false := decide_eq_false (by omega)
                    by_cases k5 : tt.length ≤ 96
                    · have d5 : decide ((96 : Int) < (ts.size : Int)) = false := decide_eq_false (by omega)
                      have d6 : decide (96 < ts.size) = false := decide_eq_false (by omega)
                      have hd := HDG.out ⟨rfl, K1.out, k2, k3, k4, k5⟩
                      simp only [Prod.mk.injEq] at hd
                      obtain ⟨rfl, rfl, hd3, hd4, rfl, rfl⟩ := hd
                      have hv : chunk_Decode.val l 2 = 0 ∨ chunk_Decode.val l 2 = 1 ∨ chunk_Decode.val l 2 = 2 ∨ chunk_Decode.val l 2 = 3 := by omega
                      clear HDB HDG k2 k3 k4 k5 htl d4 hv2 hv0
                      have B01 : Go.bits .and .i64 0 1 = 0 := by decide
                      have B02 : Go.bits .and .i64 0 2 = 0 := by decide
                      have B11 : Go.bits .and .i64 1 1 = 1 := by decide
                      have B12 : Go.bits .and .i64 1 2 = 0 := by decide
                      have B21 : Go.bits .and .i64 2 1 = 0 := by decide
                      have B22 : Go.bits .and .i64 2 2 = 2 := by decide
                      have B31 : Go.bits .and .i64 3 1 = 1 := by decide
                      have B32 : Go.bits .and .i64 3 2 = 2 := by decide
                      rcases hv with hv | hv | hv | hv
                      · rw [hv] at LL hd3 hd4
                        clear hv
                        obtain rfl : r3 = false := by rw [← hd3]; decide
                        obtain rfl : r4 = false := by rw [← hd4]; decide
                        clear hd3 hd4
                        go_wp2_with (first | (go_at_call 73; refine (HTX.out g _ LL.out.rd LL.out.bl).mono ?_; rintro r w5 ⟨rfl, hi5, hb5, hk5⟩; have L5 := Aside0.mk (LL.out.step hi5 hb5 hk5); obtain ⟨c0, c1, c2, c3, c4, f0, f1, f2, f3, f4⟩ := L5.out.res.cells; obtain ⟨y0, y1, y2, z0, z1, z2⟩ := L5.out.xcells; clear hi5 hb5 hk5) | (go_at_call 74; refine (HEX.out g _ _ _ HEE.out L5.out.rd L5.out.bl).mono ?_; rintro r w6 ⟨rfl, hi6, hb6, hk6⟩; have L6 := Aside0.mk (L5.out.step hi6 hb6 hk6); obtain ⟨c0, c1, c2, c3, c4, f0, f1, f2, f3, f4⟩ := L6.out.res.cells; obtain ⟨y0, y1, y2, z0, z1, z2⟩ := L6.out.xcells; clear hi6 hb6 hk6))
                        have F := L6.out.res.fin (chunk_Decode.val l 0) (chunk_Decode.val l 1) false false ts
                        exact bodyPost_ret (results_ct rfl _ _ _ _ _ (0, 0) _ rfl F.1 Try.underlying25 rfl (by kernel_rfl)) rfl ⟨rfl, F.2⟩
                      · rw [hv] at LL hd3 hd4
                        clear hv
                        obtain rfl : r3 = true := by rw [← hd3]; decide
                        obtain rfl : r4 = false := by rw [← hd4]; decide
                        clear hd3 hd4
                        go_wp2_with (first | (go_at_call 73; refine (HTX.out g _ LL.out.rd LL.out.bl).mono ?_; rintro r w5 ⟨rfl, hi5, hb5, hk5⟩; have L5 := Aside0.mk (LL.out.step hi5 hb5 hk5); obtain ⟨c0, c1, c2, c3, c4, f0, f1, f2, f3, f4⟩ := L5.out.res.cells; obtain ⟨y0, y1, y2, z0, z1, z2⟩ := L5.out.xcells; clear hi5 hb5 hk5) | (go_at_call 74; refine (HEX.out g _ _ _ HEE.out L5.out.rd L5.out.bl).mono ?_; rintro r w6 ⟨rfl, hi6, hb6, hk6⟩; have L6 := Aside0.mk (L5.out.step hi6 hb6 hk6); obtain ⟨c0, c1, c2, c3, c4, f0, f1, f2, f3, f4⟩ := L6.out.res.cells; obtain ⟨y0, y1, y2, z0, z1, z2⟩ := L6.out.xcells; clear hi6 hb6 hk6))
                        have F := L6.out.res.fin (chunk_Decode.val l 0) (chunk_Decode.val l 1) true false ts
                        exact bodyPost_ret (results_ct rfl _ _ _ _ _ (0, 0) _ rfl F.1 Try.underlying25 rfl (by kernel_rfl)) rfl ⟨rfl, F.2⟩
                      · rw [hv] at LL hd3 hd4
                        clear hv
                        obtain rfl : r3 = false := by rw [← hd3]; decide
                        obtain rfl : r4 = true := by rw [← hd4]; decide
                        clear hd3 hd4
                        go_wp2_with (first | (go_at_call 73; refine (HTX.out g _ LL.out.rd LL.out.bl).mono ?_; rintro r w5 ⟨rfl, hi5, hb5, hk5⟩; have L5 := Aside0.mk (LL.out.step hi5 hb5 hk5); obtain ⟨c0, c1, c2, c3, c4, f0, f1, f2, f3, f4⟩ := L5.out.res.cells; obtain ⟨y0, y1, y2, z0, z1, z2⟩ := L5.out.xcells; clear hi5 hb5 hk5) | (go_at_call 74; refine (HEX.out g _ _ _ HEE.out L5.out.rd L5.out.bl).mono ?_; rintro r w6 ⟨rfl, hi6, hb6, hk6⟩; have L6 := Aside0.mk (L5.out.step hi6 hb6 hk6); obtain ⟨c0, c1, c2, c3, c4, f0, f1, f2, f3, f4⟩ := L6.out.res.cells; obtain ⟨y0, y1, y2, z0, z1, z2⟩ := L6.out.xcells; clear hi6 hb6 hk6))
                        have F := L6.out.res.fin (chunk_Decode.val l 0) (chunk_Decode.val l 1) false true ts
                        exact bodyPost_ret (results_ct rfl _ _ _ _ _ (0, 0) _ rfl F.1 Try.underlying25 rfl (by kernel_rfl)) rfl ⟨rfl, F.2⟩
                      · rw [hv] at LL hd3 hd4
                        clear hv
                        obtain rfl : r3 = true := by rw [← hd3]; decide
                        obtain rfl : r4 = true := by rw [← hd4]; decide
                        clear hd3 hd4
                        go_wp2_with (first | (go_at_call 73; refine (HTX.out g _ LL.out.rd LL.out.bl).mono ?_; rintro r w5 ⟨rfl, hi5, hb5, hk5⟩; have L5 := Aside0.mk (LL.out.step hi5 hb5 hk5); obtain ⟨c0, c1, c2, c3, c4, f0, f1, f2, f3, f4⟩ := L5.out.res.cells; obtain ⟨y0, y1, y2, z0, z1, z2⟩ := L5.out.xcells; clear hi5 hb5 hk5) | (go_at_call 74; refine (HEX.out g _ _ _ HEE.out L5.out.rd L5.out.bl).mono ?_; rintro r w6 ⟨rfl, hi6, hb6, hk6⟩; have L6 := Aside0.mk (L5.out.step hi6 hb6 hk6); obtain ⟨c0, c1, c2, c3, c4, f0, f1, f2, f3, f4⟩ := L6.out.res.cells; obtain ⟨y0, y1, y2, z0, z1, z2⟩ := L6.out.xcells; clear hi6 hb6 hk6))
                        have F := L6.out.res.fin (chunk_Decode.val l 0) (chunk_Decode.val l 1) true true ts
                        exact bodyPost_ret (results_ct rfl _ _ _ _ _ (0, 0) _ rfl F.1 Try.underlying25 rfl (by kernel_rfl)) rfl ⟨rfl, F.2⟩
                    · have d5 : decide ((96 : Int) < (ts.size : Int)) = true := decide_eq_true (by omega)
                      have d6 : decide (96 < ts.size) = true := decide_eq_true (by omega)
                      obtain ⟨rfl, rfl, rfl, rfl, rfl, rfl⟩ := HDB.out (fun q => k5 q.2.2.2.2.2.2.2.2)
                      clear HDG k2 k3 k4 k5 htl
                      go_wp2_with (first | (go_at_call 73; refine (HTX.out g _ LL.out.rd LL.out.bl).mono ?_; rintro r w5 ⟨rfl, hi5, hb5, hk5⟩; have L5 := Aside0.mk (LL.out.step hi5 hb5 hk5); obtain ⟨c0, c1, c2, c3, c4, f0, f1, f2, f3, f4⟩ := L5.out.res.cells; obtain ⟨y0, y1, y2, z0, z1, z2⟩ := L5.out.xcells; clear hi5 hb5 hk5) | (go_at_call 74; refine (HEX.out g _ _ _ HEE.out L5.out.rd L5.out.bl).mono ?_; rintro r w6 ⟨rfl, hi6, hb6, hk6⟩; have L6 := Aside0.mk (L5.out.step hi6 hb6 hk6); obtain ⟨c0, c1, c2, c3, c4, f0, f1, f2, f3, f4⟩ := L6.out.res.cells; obtain ⟨y0, y1, y2, z0, z1, z2⟩ := L6.out.xcells; clear hi6 hb6 hk6))
                      have F := L6.out.res.fin 0 0 false false ⟨#[]⟩
                      exact bodyPost_ret (results_ct rfl _ _ _ _ _ (0, 0) _ rfl F.1 Try.underlying25 rfl (by kernel_rfl)) rfl ⟨rfl, by first | exact F.2 | exact Below.drew F.2⟩
                  · have d4 : decide ((3 : Int) < chunk_Decode.val l 2) = true := decide_eq_true (by omega)
                    obtain ⟨rfl, rfl, rfl, rfl, rfl, rfl⟩ := HDB.out (fun q => k4 q.2.2.2.2.2.2.2.1)
                    clear HDG k2 k3 k4 htl
                    go_wp2_with (first | (go_at_call 73; refine (HTX.out g _ LL.out.rd LL.out.bl).mono ?_; rintro r w5 ⟨rfl, hi5, hb5, hk5⟩; have L5 := Aside0.mk (LL.out.step hi5 hb5 hk5); obtain ⟨c0, c1, c2, c3, c4, f0, f1, f2, f3, f4⟩ := L5.out.res.cells; obtain ⟨y0, y1, y2, z0, z1, z2⟩ := L5.out.xcells; clear hi5 hb5 hk5) | (go_at_call 74; refine (HEX.out g _ _ _ HEE.out L5.out.rd L5.out.bl).mono ?_; rintro r w6 ⟨rfl, hi6, hb6, hk6⟩; have L6 := Aside0.mk (L5.out.step hi6 hb6 hk6); obtain ⟨c0, c1, c2, c3, c4, f0, f1, f2, f3, f4⟩ := L6.out.res.cells; obtain ⟨y0, y1, y2, z0, z1, z2⟩ := L6.out.xcells; clear hi6 hb6 hk6))
                    have F := L6.out.res.fin 0 0 false false ⟨#[]⟩
                    exact bodyPost_ret (results_ct rfl _ _ _ _ _ (0, 0) _ rfl F.1 Try.underlying25 rfl (by kernel_rfl)) rfl ⟨rfl, by first | exact F.2 | exact Below.drew F.2⟩
                · have d3 : decide ((1099511627776 : Int) < chunk_Decode.val l 1) = true := decide_eq_true (by omega)
                  obtain ⟨rfl, rfl, rfl, rfl, rfl, rfl⟩ := HDB.out (fun q => k3 q.2.2.2.2.2.2.1)
                  clear HDG k2 k3 htl
                  go_wp2_with (first | (go_at_call 73; refine (HTX.out g _ LL.out.rd LL.out.bl).mono ?_; rintro r w5 ⟨rfl, hi5, hb5, hk5⟩; have L5 := Aside0.mk (LL.out.step hi5 hb5 hk5); obtain ⟨c0, c1, c2, c3, c4, f0, f1, f2, f3, f4⟩ := L5.out.res.cells; obtain ⟨y0, y1, y2, z0, z1, z2⟩ := L5.out.xcells; clear hi5 hb5 hk5) | (go_at_call 74; refine (HEX.out g _ _ _ HEE.out L5.out.rd L5.out.bl).mono ?_; rintro r w6 ⟨rfl, hi6, hb6, hk6⟩; have L6 := Aside0.mk (L5.out.step hi6 hb6 hk6); obtain ⟨c0, c1, c2, c3, c4, f0, f1, f2, f3, f4⟩ := L6.out.res.cells; obtain ⟨y0, y1, y2, z0, z1, z2⟩ := L6.out.xcells; clear hi6 hb6 hk6))
                  have F := L6.out.res.fin 0 0 false false ⟨#[]⟩
                  exact bodyPost_ret (results_ct rfl _ _ _ _ _ (0, 0) _ rfl F.1 Try.underlying25 rfl (by kernel_rfl)) rfl ⟨rfl, by first | exact F.2 | exact Below.drew F.2⟩
              · have d2 : decide ((1099511627776 : Int) < chunk_Decode.val l 0) = true := decide_eq_true (by omega)
                obtain ⟨rfl, rfl, rfl, rfl, rfl, rfl⟩ := HDB.out (fun q => k2 q.2.2.2.2.2.1)
                clear HDG k2 htl
                go_wp2_with (first | (go_at_call 73; refine (HTX.out g _ LL.out.rd LL.out.bl).mono ?_; rintro r w5 ⟨rfl, hi5, hb5, hk5⟩; have L5 := Aside0.mk (LL.out.step hi5 hb5 hk5); obtain ⟨c0, c1, c2, c3, c4, f0, f1, f2, f3, f4⟩ := L5.out.res.cells; obtain ⟨y0, y1, y2, z0, z1, z2⟩ := L5.out.xcells; clear hi5 hb5 hk5) | (go_at_call 74; refine (HEX.out g _ _ _ HEE.out L5.out.rd L5.out.bl).mono ?_; rintro r w6 ⟨rfl, hi6, hb6, hk6⟩; have L6 := Aside0.mk (L5.out.step hi6 hb6 hk6); obtain ⟨c0, c1, c2, c3, c4, f0, f1, f2, f3, f4⟩ := L6.out.res.cells; obtain ⟨y0, y1, y2, z0, z1, z2⟩ := L6.out.xcells; clear hi6 hb6 hk6))
                have F := L6.out.res.fin 0 0 false false ⟨#[]⟩
                exact bodyPost_ret (results_ct rfl _ _ _ _ _ (0, 0) _ rfl F.1 Try.underlying25 rfl (by kernel_rfl)) rfl ⟨rfl, by first | exact F.2 | exact Below.drew F.2⟩
            · have HEE := Aside0.mk (show (if ((chunk_Decode.pos l 3 + tu : Nat) : Int) < (n : Int) then (21 : Int) else 0) = 21 from if_pos (by have := HL.out; omega))
              obtain ⟨rfl, rfl, rfl, rfl, rfl, rfl⟩ := HDB.out (fun q => k1 q.2.2.2.2.1)
              clear HDG k1 htl
              go_wp2_with (first | (go_at_call 73; refine (HTX.out g _ LL.out.rd LL.out.bl).mono ?_; rintro r w5 ⟨rfl, hi5, hb5, hk5⟩; have L5 := Aside0.mk (LL.out.step hi5 hb5 hk5); obtain ⟨c0, c1, c2, c3, c4, f0, f1, f2, f3, f4⟩ := L5.out.res.cells; obtain ⟨y0, y1, y2, z0, z1, z2⟩ := L5.out.xcells; clear hi5 hb5 hk5) | (go_at_call 74; refine (HEX.out g _ _ _ HEE.out L5.out.rd L5.out.bl).mono ?_; rintro r w6 ⟨rfl, hi6, hb6, hk6⟩; have L6 := Aside0.mk (L5.out.step hi6 hb6 hk6); obtain ⟨c0, c1, c2, c3, c4, f0, f1, f2, f3, f4⟩ := L6.out.res.cells; obtain ⟨y0, y1, y2, z0, z1, z2⟩ := L6.out.xcells; clear hi6 hb6 hk6))
              have F := L6.out.res.fin 0 0 false false ⟨#[]⟩
              exact bodyPost_ret (results_ct rfl _ _ _ _ _ (0, 0) _ rfl F.1 Try.underlying25 rfl (by kernel_rfl)) rfl ⟨rfl, by first | exact F.2 | exact Below.drew F.2⟩
          · have k0b : (te != 0) = true := by simpa using k0
            have k0c : (te == 0) = false := by simpa using k0
            obtain ⟨rfl, rfl, rfl, rfl, rfl, rfl⟩ := HDB.out (fun q => k0 q.2.2.2.1)
            clear HDG k0 htl
            go_wp2_with (first | (go_at_call 73; refine (HTX.out g _ LL.out.rd LL.out.bl).mono ?_; rintro r w5 ⟨rfl, hi5, hb5, hk5⟩; have L5 := Aside0.mk (LL.out.step hi5 hb5 hk5); obtain ⟨c0, c1, c2, c3, c4, f0, f1, f2, f3, f4⟩ := L5.out.res.cells; obtain ⟨y0, y1, y2, z0, z1, z2⟩ := L5.out.xcells; clear hi5 hb5 hk5))
            have F := L5.out.res.fin 0 0 false false ⟨#[]⟩
            exact bodyPost_ret (results_ct rfl _ _ _ _ _ (0, 0) _ rfl F.1 Try.underlying25 rfl (by kernel_rfl)) rfl ⟨rfl, by first | exact F.2 | exact Below.drew F.2⟩
    · have ht1 : (t.toList == (a0.extract n a0.size).toList) = false := by simpa using htt
      have h := HH.out
      rw [if_neg htt] at h
      simp only [chunk_Decode.bad, Option.some.injEq, Prod.mk.injEq] at h
      obtain ⟨rfl, rfl, rfl, rfl, rfl, rfl⟩ := h
      clear htt
      go_enter Try.func57, Try.ntmps57
      go_wp2
      go_region_held3 (fun W => chunk_Decode.Res w w.heap.size W) (first | assumption | exact HR0.out | exact HR0.out.drew | (refine chunk_Decode.Res.drew ?_; assumption)) (first | (go_at_call 70; refine (HT.out _ (by assumption)).mono ?_; rintro e w' ⟨rfl, hw'⟩))
      have R1 : chunk_Decode.Res w w.heap.size w' := by assumption
      obtain ⟨c0, c1, c2, c3, c4, f0, f1, f2, f3, f4⟩ := R1.cells
      go_wp2
      have F := R1.fin 0 0 false false ⟨#[]⟩
      exact bodyPost_ret (results_ct rfl _ _ _ _ _ (0, 0) _ rfl F.1 Try.underlying25 rfl (by kernel_rfl)) rfl ⟨rfl, by first | exact F.2 | exact Below.drew F.2⟩

end Go.Proofs.Ytfdccgpbdcdgmaa.PLogRoom
