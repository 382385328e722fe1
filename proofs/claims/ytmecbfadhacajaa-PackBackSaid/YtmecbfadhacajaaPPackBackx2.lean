-- By a program of this session (wip/tools/mkprint.py), for this claim.
import Derived.Test.YtmecbfadhacajaaPPackBackx0
import Derived.Test.YtmecbfadhacajaaPPackBackx1
namespace Go.Proofs.Ytmecbfadhacajaa.PPackBack
open Go.RowKit Go.Proofs.YtmecbfadhacajaaW.PrintWords Go.Proofs.YtmecbfadhacajaaW.PrintLast Go.Proofs.YtmecbfadhacajaaW.PrintMore
attribute [local go_sem] max2_int min2_int max_two min_two max_three min_three max_four min_four   -- for this text's walks alone
set_option linter.unusedVariables false
set_option linter.unusedSimpArgs false

/-! ### pack_Reader_Text: function 15 (by hand) -/
set_option maxRecDepth 100000 in
theorem pack_Reader_Text.d_ok (a b c : Addr) (u : FrameMode) (w : World) (hc : w.cell? a = some (.int .i64 0)) :
    CallsD Try.prog 24 #[.pointer (some a), .pointer (some b), .pointer (some c)] u w fun e u' w' => u' = u ∧ (e = .returned (.tuple #[]) ∧ w' = w) := by
  go_enter_d Try.func24, Try.ntmps24
  go_wp2
  go_end0
  exact ⟨rfl, rfl⟩
set_option maxRecDepth 100000 in
theorem pack_Reader_Text.d_bad (a b c : Addr) (g : Nat) (f x n : Int) (u : FrameMode) (w : World) (hn : (n == 0) = false) (hc : w.cell? a = some (.int .i64 n)) (hb : w.cell? b = some (.int .i64 f)) (hr : w.cell? c = some (.pointer (some ⟨g, 0, none⟩))) (h1 : w.cell? ⟨g, 1, none⟩ = some (.int .i64 x)) (hf : w.frozen? ⟨g, 1, none⟩ = false) :
    CallsD Try.prog 24 #[.pointer (some a), .pointer (some b), .pointer (some c)] u w fun e u' w' => u' = u ∧ (e = .returned (.tuple #[]) ∧ w' = w.setCell ⟨g, 1, none⟩ (.int .i64 f)) := by
  have hn2 : (n != 0) = true := by simpa using hn
  go_enter_d Try.func24, Try.ntmps24
  go_wp2
  go_end0
  exact ⟨rfl, rfl⟩
theorem pack_Reader_Text.num_l0 (s : ByteArray) (a : Nat) (hs : s.size ≤ 140737488355328) : ∀ (l : List UInt8) (j acc : Nat), s.data.toList.drop (a + j) = l → a + j ≤ s.size → j ≤ 8 → acc < 128 ^ j → Ev (fun k => pack_Reader_Number.l0 k (acc : Int) ((a + j : Nat) : Int) s (a : Int)) (((Hw.rnum l j acc).1 : Int), (Hw.rnum l j acc).2.1, s, ((a + (Hw.rnum l j acc).2.2 : Nat) : Int)) := by
  intro l
  induction l with
  | nil =>
    intro j acc hd hle hj ha
    have hl : s.data.toList.length ≤ a + j := List.drop_eq_nil_iff.1 hd
    rw [data_length] at hl
    refine Ev.step (f := fun _ => some (0, 20, s, (a : Int))) (fun k => ?_) (Ev.now _)
    simp only [pack_Reader_Number.l0]
    rw [if_neg (by omega)]
  | cons c r ih =>
    intro j acc hd hle hj ha
    obtain ⟨h1, h2, h3⟩ := Hw.bt_drop hd
    have hc := c.toNat_lt
    have e1 : wrap64 (7 * wrap64 (((a + j : Nat) : Int) - (a : Int))) = 7 * (j : Int) := by rw [Hw.w64 (((a + j : Nat) : Int) - (a : Int)) (by omega) (by omega), Hw.w64 _ (by omega) (by omega)]; omega
    have e2 : IntKind.u64.wrap (7 * (j : Int)) = 7 * (j : Int) := IntWalk.u64_in _ (by omega)
    rw [Hw.rnum]
    by_cases hj8 : 8 ≤ j
    · rw [if_pos hj8]
      refine Ev.step (f := fun _ => some (0, 21, s, (a : Int))) (fun k => ?_) (Ev.now _)
      simp only [pack_Reader_Number.l0]
      rw [if_pos (by omega), e1, if_pos (by omega)]
    · rw [if_neg hj8]
      have e3 := Hw.or_shift acc j c.toNat (by omega) ha (by omega)
      by_cases hc1 : 127 < c.toNat
      · rw [if_pos hc1]
        have ha2 : acc + c.toNat % 128 * 128 ^ j < 128 ^ (j + 1) := by
          have : c.toNat % 128 * 128 ^ j ≤ 127 * 128 ^ j := Nat.mul_le_mul_right _ (by omega)
          rw [Nat.pow_succ]
          omega
        refine Ev.step (fun k => ?_) (ih (j + 1) _ (by rw [← Nat.add_assoc]; exact h3) (by omega) (by omega) ha2)
        simp only [pack_Reader_Number.l0]
        rw [if_pos (by omega), e1, if_neg (by omega), if_pos (by omega), e2, if_pos (by omega), h2, if_pos (by omega), e3, Hw.wnat _ (by omega)]
        rfl
      · rw [if_neg hc1]
        by_cases hc0 : c.toNat = 0 ∧ 0 < j
        · rw [if_pos hc0]
          refine Ev.step (f := fun _ => some (0, 21, s, (a : Int))) (fun k => ?_) (Ev.now _)
          simp only [pack_Reader_Number.l0]
          rw [if_pos (by omega), e1, if_neg (by omega), if_pos (by omega), e2, if_pos (by omega), h2, if_neg (by omega), if_pos (by omega), if_pos (by omega)]
        · rw [if_neg hc0]
          refine Ev.step (f := fun _ => some (((acc + c.toNat % 128 * 128 ^ j : Nat) : Int), 0, s, ((a + (j + 1) : Nat) : Int))) (fun k => ?_) (Ev.now _)
          simp only [pack_Reader_Number.l0]
          rw [if_pos (by omega), e1, if_neg (by omega), if_pos (by omega), e2, if_pos (by omega), h2, if_neg (by omega), e3, Hw.wnat _ (by omega)]
          by_cases hz : (c.toNat : Int) = 0
          · rw [if_pos hz, if_neg (by omega)]
            rfl
          · rw [if_neg hz]
            rfl
theorem pack_Reader_Text.num_ev (s : ByteArray) (a : Nat) (hs : s.size ≤ 140737488355328) (ha : a ≤ s.size) : Ev (fun k => pack_Reader_Number.f k s (a : Int)) (((Hw.rnum (s.data.toList.drop a) 0 0).1 : Int), (Hw.rnum (s.data.toList.drop a) 0 0).2.1, s, ((a + (Hw.rnum (s.data.toList.drop a) 0 0).2.2 : Nat) : Int)) := pack_Reader_Text.num_l0 s a hs _ 0 0 rfl ha (by omega) (by decide)
def pack_Reader_Text.f (k : Nat) (s : ByteArray) (a : Int) : Option (ByteArray × Int × ByteArray × Int) := (pack_Reader_Number.f k s a).bind fun t => if t.2.1 = 0 then (if t.2.2.1 = s ∧ s.size ≤ 9223372036854775807 ∧ 0 ≤ a ∧ 0 ≤ t.2.2.2 ∧ t.2.2.2 ≤ (s.size : Int) ∧ 0 ≤ t.1 then (if t.1 > (s.size : Int) - t.2.2.2 then some (.empty, 20, s, a) else some (s.extract t.2.2.2.toNat (t.2.2.2 + t.1).toNat, 0, s, t.2.2.2 + t.1)) else none) else if t.2.2 = (s, a) then some (.empty, t.2.1, s, a) else none
/-- What a reader makes of bytes as a text: the text, its error's number, how many bytes it took. -/
def pack_Reader_Text.rtext (l : List UInt8) : List UInt8 × Int × Nat := if (Hw.rnum l 0 0).2.1 = 0 then (if l.length < (Hw.rnum l 0 0).2.2 + (Hw.rnum l 0 0).1 then ([], 20, 0) else ((l.drop (Hw.rnum l 0 0).2.2).take (Hw.rnum l 0 0).1, 0, (Hw.rnum l 0 0).2.2 + (Hw.rnum l 0 0).1)) else ([], (Hw.rnum l 0 0).2.1, 0)
theorem pack_Reader_Text.extract_list (s : ByteArray) (a b : Nat) : (s.extract a (a + b)) = ⟨((s.data.toList.drop a).take b).toArray⟩ := by
  apply ByteArray.ext
  rw [ByteArray.data_extract]
  apply Array.ext'
  simp
theorem pack_Reader_Text.text_ev (s : ByteArray) (a : Nat) (hs : s.size ≤ 140737488355328) (ha : a ≤ s.size) : Ev (fun k => pack_Reader_Text.f k s (a : Int)) (⟨(pack_Reader_Text.rtext (s.data.toList.drop a)).1.toArray⟩, (pack_Reader_Text.rtext (s.data.toList.drop a)).2.1, s, ((a + (pack_Reader_Text.rtext (s.data.toList.drop a)).2.2 : Nat) : Int)) := by
  have h1 := pack_Reader_Text.num_ev s a hs ha
  have hu := Hw.rnum_used (s.data.toList.drop a) 0 0
  have hl : (s.data.toList.drop a).length = s.size - a := by rw [List.length_drop, data_length]
  unfold pack_Reader_Text.rtext
  generalize hR : Hw.rnum (s.data.toList.drop a) 0 0 = R at *
  obtain ⟨n, e, u⟩ := R
  simp only at *
  rw [hl] at hu ⊢
  refine Ev.bind h1 (Ev.congr (f := fun _ => some _) (fun k => ?_) (Ev.now _))
  simp only
  by_cases he : e = 0
  · rw [if_pos he, if_pos he, if_pos ⟨by trivial, by omega, by omega, by omega, by omega, by omega⟩]
    by_cases hn : s.size - a < u + n
    · rw [if_pos hn, if_pos (by omega)]
      rfl
    · rw [if_neg hn, if_neg (by omega)]
      have e1 : ((a + u : Nat) : Int).toNat = a + u := by omega
      have e2 : (((a + u : Nat) : Int) + (n : Int)).toNat = (a + u) + n := by omega
      rw [e1, e2, pack_Reader_Text.extract_list, List.drop_drop]
      simp only [Nat.add_assoc, Int.natCast_add, Int.add_assoc]
  · rw [if_neg he, if_neg he]
    obtain ⟨h3, h4⟩ := hu.2.1 he
    subst h4
    rw [if_pos (by simp)]
    rfl
set_option maxHeartbeats 2000000 in
set_option maxRecDepth 100000 in
theorem pack_Reader_Text.calls (k : Nat) (g : Nat) (s : ByteArray) (a : Int) (r1 : ByteArray) (r2 : Int) (r3 : ByteArray) (r4 : Int) (w0 w : World) (hI : IsS60 w0 w g s a) (hB : Below w0.heap.size w0 w) (h : pack_Reader_Text.f k s a = some (r1, r2, r3, r4)) :
    Calls Try.prog 15 #[.pointer (some ⟨g, 0, none⟩)] w fun e w' => e = .returned (.tuple #[.string r1, .int .i64 r2]) ∧ IsS60 w0 w' g r3 r4 ∧ Below w0.heap.size w0 w' ∧ KeepBut w w' g none := by
  unfold pack_Reader_Text.f at h
  obtain ⟨⟨n, e, s', a'⟩, hN, h⟩ := Option.bind_eq_some_iff.1 h
  have HN := Aside0.mk (fun W (hI : IsS60 w0 W g s a) (hB : Below w0.heap.size w0 W) => pack_Reader_Number.calls k g s a n e s' a' w0 W hI hB hN)
  have HI := Aside0.mk hI
  have HB := Aside0.mk hB
  have hgl : g < w.heap.size := hI.lt
  have hne0 : ¬ g = w.heap.size := by omega
  have hne1 : ¬ g = w.heap.size + 1 := by omega
  have hne2 : ¬ g = w.heap.size + 1 + 1 := by omega
  have hne3 : ¬ g = w.heap.size + 2 := by omega
  have hg0 : w.cell? ⟨g, 0, none⟩ = some (.string s) := cellS60_0 hI.1
  have hg1 : w.cell? ⟨g, 1, none⟩ = some (.int .i64 a) := cellS60_1 hI.1
  have hmf : ∀ (fn : Fn) (first cap : Array Value) (w : World), (Instr.makeFunc fn first cap).run Try.prog w = .ok (.func fn first cap) w := fun _ _ _ _ => rfl
  have hgA := fun o1 o2 => Hw.cell_al (Hw.cell_al hg1 o1) o2
  clear hI hB hN hgl
  simp only at h
  by_cases he : e = 0
  · rw [if_pos he] at h
    subst he
    by_cases hc : s' = s ∧ s.size ≤ 9223372036854775807 ∧ 0 ≤ a ∧ 0 ≤ a' ∧ a' ≤ (s.size : Int) ∧ 0 ≤ n
    case neg => rw [if_neg hc] at h; cases h
    rw [if_pos hc] at h
    obtain ⟨rfl, hc1, hc2, hc3, hc4, hc5⟩ := hc
    by_cases hn : n > (s'.size : Int) - a'
    · rw [if_pos hn] at h
      simp only [Option.some.injEq, Prod.mk.injEq] at h
      obtain ⟨rfl, rfl, rfl, rfl⟩ := h
      have hnb : decide ((s'.size : Int) - a' < n) = true := decide_eq_true hn
      go_enter_defers Try.func15, Try.ntmps15
      go_wp2_with (go_at_call 16; refine (HN.out _ (by repeat' (first | exact HI.out | apply IsS60.alloc)) (by repeat' (first | exact HB.out | apply below_alloc))).mono ?_; rintro e4 w4 ⟨rfl, hI4, hB4, hK4⟩; have I4 := Aside0.mk hI4; have B4 := Aside0.mk hB4; have K4 := Aside0.mk hK4; have b0 := hK4.blk (Hw.blk_al (Hw.blk_al (Hw.blk_nw w _) _) _) (fun h => hne0 h.symm) (by simp); have b1 := hK4.blk (Hw.blk_al (Hw.blk_nw1 w _ _) _) (fun h => hne1 h.symm) (by simp); have b2 := hK4.blk (Hw.blk_nw2 w _ _ _) (fun h => hne2 h.symm) (by simp); have c0 := blk_cell b0 0; have c1 := blk_cell b1 0; have c2 := blk_cell b2 0; have f1 := blk_frozen b1 0; have c3 := cellS60_0 hI4.1; have c4 := cellS60_1 hI4.1; have f4 := blk_frozen hI4.1 1; simp only [List.getElem?_toArray, List.getElem?_cons_zero] at c0 c1 c2; clear b0 b1 b2 hI4 hB4 hK4)
      go_quiet (fail)
      go_wp2
      refine leaves_cons (f := 24) (args := #[.pointer (some ⟨w.heap.size + 1, 0, none⟩), .pointer (some ⟨w.heap.size + 1 + 1, 0, none⟩), .pointer (some ⟨w.heap.size, 0, none⟩)]) (by simp) (by simp [go_sem]) ?_
      refine (pack_Reader_Text.d_bad _ _ _ g a a' 20 .returning _ (by decide) ?h1 ?h2 ?h3 ?h4 ?h5).mono ?_
      case h1 => simp [go_sem, c1]
      case h2 => simp [go_sem, c2]
      case h3 => simp [go_sem, c0]
      case h4 => simp [go_sem, c4, hne1]
      case h5 => simp [go_sem, f4]
      rintro e5 u' w5 ⟨rfl, rfl, rfl⟩
      refine ⟨.tuple #[.string .empty, .int .i64 20], by simp [results, Try.results15, go_sem, hne1, c1, f1]; rfl, rfl, ?_, ?_, ?_⟩
      · refine IsS60.set_1 (f1 := a') ?_ _
        repeat' (first | exact I4.out | refine IsS60.far ?_ (by simpa using hne1) _ | apply IsS60.drewN | apply IsS60.drew)
      · have hg := HI.out.ge
        have hs := HB.out.size
        repeat' (first | exact B4.out | refine Below.setCell ?_ (by simp only; omega) _ | refine pw_below_drewN ?_ _ | apply Below.drew)
      · repeat' (first | exact Hw.keep_al (Hw.keep_al (Hw.keep_al K4.out)) | apply KeepBut.set_ | refine Hw.keep_new ?_ (by simp only; omega) _ | apply keep_drewN | apply keep_drew)
    · rw [if_neg hn] at h
      simp only [Option.some.injEq, Prod.mk.injEq] at h
      obtain ⟨rfl, rfl, rfl, rfl⟩ := h
      have hnb : decide ((s'.size : Int) - a' < n) = false := decide_eq_false (by omega)
      go_enter_defers Try.func15, Try.ntmps15
      go_wp2_with (go_at_call 16; refine (HN.out _ (by repeat' (first | exact HI.out | apply IsS60.alloc)) (by repeat' (first | exact HB.out | apply below_alloc))).mono ?_; rintro e4 w4 ⟨rfl, hI4, hB4, hK4⟩; have I4 := Aside0.mk hI4; have B4 := Aside0.mk hB4; have K4 := Aside0.mk hK4; have b0 := hK4.blk (Hw.blk_al (Hw.blk_al (Hw.blk_nw w _) _) _) (fun h => hne0 h.symm) (by simp); have b1 := hK4.blk (Hw.blk_al (Hw.blk_nw1 w _ _) _) (fun h => hne1 h.symm) (by simp); have b2 := hK4.blk (Hw.blk_nw2 w _ _ _) (fun h => hne2 h.symm) (by simp); have c0 := blk_cell b0 0; have c1 := blk_cell b1 0; have c2 := blk_cell b2 0; have f1 := blk_frozen b1 0; have c3 := cellS60_0 hI4.1; have c4 := cellS60_1 hI4.1; have f4 := blk_frozen hI4.1 1; simp only [List.getElem?_toArray, List.getElem?_cons_zero] at c0 c1 c2; clear b0 b1 b2 hI4 hB4 hK4)
      go_quiet (fail)
      go_wp2
      obtain ⟨W5, hW5⟩ : ∃ W5 : World, W5 = ((w4.setCell ⟨w.heap.size + 1, 0, none⟩ (.int .i64 0)).drewN nq).setCell ⟨g, 1, none⟩ (.int .i64 (a' + n)) := ⟨_, rfl⟩
      have d0 : W5.cell? ⟨w.heap.size, 0, none⟩ = some (.pointer (some ⟨g, 0, none⟩)) := by rw [hW5]; simp [go_sem, c0, hne0]
      have d1 : W5.cell? ⟨w.heap.size + 1, 0, none⟩ = some (.int .i64 0) := by rw [hW5]; simp [go_sem, c1, hne1]
      have e1 : W5.frozen? ⟨w.heap.size + 1, 0, none⟩ = false := by rw [hW5]; simp [go_sem, f1, hne1]
      have d3 : W5.cell? ⟨g, 0, none⟩ = some (.string s') := by rw [hW5]; simp [go_sem, c3, hne1]
      have d4 : W5.cell? ⟨g, 1, none⟩ = some (.int .i64 (a' + n)) := by rw [hW5]; simp [go_sem, c4, hne1]
      rw [← hW5]
      have HW5 := Aside0.mk hW5
      clear hW5 c0 c1 c2 c3 c4 f1 f4 hgA hg0 hg1 hnb
      have hsl : ∀ W, (Instr.slice 9 (.string s') (some (.int .i64 a')) (some (.int .i64 (a' + n))) none).run Try.prog W = .ok (.string (s'.extract a'.toNat (a' + n).toNat)) W := fun W => run_slice_string _ _ _ _ _ _ _ Try.underlying9 hc3 (by omega) (by omega)
      have hwr : IntKind.i64.wrap a' = a' := IntWalk.i64_in _ (by omega)
      go_still_tail 16, (by kernel_rfl)
      change wpList _ _ _ _ _ W5.drew
      go_wp2
      refine leaves_cons (f := 24) (args := #[.pointer (some ⟨w.heap.size + 1, 0, none⟩), .pointer (some ⟨w.heap.size + 1 + 1, 0, none⟩), .pointer (some ⟨w.heap.size, 0, none⟩)]) (by simp) (by simp [go_sem]) ?_
      refine (pack_Reader_Text.d_ok _ _ _ .returning _ ?h1).mono ?_
      case h1 => simp [go_sem, d1]
      rintro e5 u' w5 ⟨rfl, rfl, rfl⟩
      refine ⟨.tuple #[.string (s'.extract a'.toNat (a' + n).toNat), .int .i64 0], by simp [results, Try.results15, go_sem, hne1, d1, e1], rfl, ?_, ?_, ?_⟩
      · have h5 : IsS60 w0 W5 g s' (a' + n) := by
          rw [HW5.out]
          refine IsS60.set_1 (f1 := a') ?_ _
          repeat' (first | exact I4.out | refine IsS60.far ?_ (by simpa using hne1) _ | apply IsS60.drewN)
        repeat' (first | exact h5 | refine IsS60.far ?_ (by simpa using hne1) _ | apply IsS60.drew)
      · have hg := HI.out.ge
        have hs := HB.out.size
        rw [HW5.out]
        repeat' (first | exact B4.out | refine Below.setCell ?_ (by simp only; omega) _ | refine pw_below_drewN ?_ _ | apply Below.drew)
      · rw [HW5.out]
        repeat' (first | exact Hw.keep_al (Hw.keep_al (Hw.keep_al K4.out)) | apply KeepBut.set_ | refine Hw.keep_new ?_ (by simp only; omega) _ | apply keep_drewN | apply keep_drew)
  · rw [if_neg he] at h
    have HH := Aside0.mk h
    clear h
    have he1 : (e == 0) = false := by simpa using he
    have he2 : (e != 0) = true := by simpa using he
    clear he
    go_enter_defers Try.func15, Try.ntmps15
    go_wp2_with (go_at_call 16; refine (HN.out _ (by repeat' (first | exact HI.out | apply IsS60.alloc)) (by repeat' (first | exact HB.out | apply below_alloc))).mono ?_; rintro e4 w4 ⟨rfl, hI4, hB4, hK4⟩; have I4 := Aside0.mk hI4; have B4 := Aside0.mk hB4; have K4 := Aside0.mk hK4; have b0 := hK4.blk (Hw.blk_al (Hw.blk_al (Hw.blk_nw w _) _) _) (fun h => hne0 h.symm) (by simp); have b1 := hK4.blk (Hw.blk_al (Hw.blk_nw1 w _ _) _) (fun h => hne1 h.symm) (by simp); have b2 := hK4.blk (Hw.blk_nw2 w _ _ _) (fun h => hne2 h.symm) (by simp); have c0 := blk_cell b0 0; have c1 := blk_cell b1 0; have c2 := blk_cell b2 0; have f1 := blk_frozen b1 0; have c3 := cellS60_0 hI4.1; have c4 := cellS60_1 hI4.1; have f4 := blk_frozen hI4.1 1; simp only [List.getElem?_toArray, List.getElem?_cons_zero] at c0 c1 c2; clear b0 b1 b2 hI4 hB4 hK4)
    go_region
    all_goals go_wp2
    all_goals
      refine leaves_cons (f := 24) (args := #[.pointer (some ⟨w.heap.size + 1, 0, none⟩), .pointer (some ⟨w.heap.size + 1 + 1, 0, none⟩), .pointer (some ⟨w.heap.size, 0, none⟩)]) (by simp) (by simp [go_sem]) ?_
      refine (pack_Reader_Text.d_bad _ _ _ g a a' e .returning _ he1 ?h1 ?h2 ?h3 ?h4 ?h5).mono ?_
      case h1 => simp [go_sem, c1]
      case h2 => simp [go_sem, c2]
      case h3 => simp [go_sem, c0]
      case h4 => simp [go_sem, c4, hne1]
      case h5 => simp [go_sem, f4]
      rintro e5 u' w5 ⟨rfl, rfl, rfl⟩
      have HH := HH.out
      by_cases hp : (s', a') = (s, a)
      · rw [if_pos hp] at HH
        obtain ⟨rfl, rfl⟩ := Prod.mk.inj hp
        simp only [Option.some.injEq, Prod.mk.injEq] at HH
        obtain ⟨rfl, rfl, rfl, rfl⟩ := HH
        refine ⟨.tuple #[.string .empty, .int .i64 e], by simp [results, Try.results15, go_sem, hne1, c1, f1]; rfl, rfl, ?_, ?_, ?_⟩
        · refine IsS60.set_1 (f1 := a') ?_ _
          repeat' (first | exact I4.out | refine IsS60.far ?_ (by simpa using hne1) _ | apply IsS60.drew)
        · have hg := HI.out.ge
          have hs := HB.out.size
          repeat' (first | exact B4.out | refine Below.setCell ?_ (by simp only; omega) _ | apply Below.drew)
        · repeat' (first | exact Hw.keep_al (Hw.keep_al (Hw.keep_al K4.out)) | apply KeepBut.set_ | refine Hw.keep_new ?_ (by simp only; omega) _ | apply keep_drew)
      · rw [if_neg hp] at HH; cases HH

/-! ### pack_Reader_End: function 17 -/
def pack_Reader_End.f (s0_0 : ByteArray) (s0_1 : Int) : Option (Int × ByteArray × Int) := if s0_1 < (s0_0.size : Int) then (some (21, s0_0, s0_1)) else (some (0, s0_0, s0_1))
set_option maxHeartbeats 8000000 in
set_option maxRecDepth 100000 in
theorem pack_Reader_End.calls (g : Nat) (s0_0 : ByteArray) (s0_1 : Int) (r1 : Int) (r2 : ByteArray) (r3 : Int) (w0 w : World) (hI : IsS60 w0 w g s0_0 s0_1) (hB : Below w0.heap.size w0 w) (h : pack_Reader_End.f s0_0 s0_1 = some (r1, r2, r3)) :
    Calls Try.prog 17 #[.pointer (some ⟨g, 0, none⟩)] w fun e w' => e = .returned (.int .i64 r1) ∧ IsS60 w0 w' g r2 r3 ∧ Below w0.heap.size w0 w' ∧ KeepBut w w' g none := by
  have HI0 := Aside0.mk hI
  have HK := Aside0.mk (KeepBut.refl w g none)
  have HL := Aside0.mk hB.size
  clear hI
  have HW0 := Aside0.mk hB.size
  have HB := Aside0.mk hB
  clear hB
  have H : (if s0_1 < (s0_0.size : Int) then (some (21, s0_0, s0_1)) else (some (0, s0_0, s0_1))) = some (r1, r2, r3) := h
  clear h
  by_cases c2 : s0_1 < (s0_0.size : Int)
  · rw [if_pos c2] at H
    have c2b0 : decide (s0_1 < (s0_0.size : Int)) = true := decide_eq_true c2
    clear c2
    simp only [Option.some.injEq, Prod.mk.injEq] at H
    obtain ⟨rfl, rfl, rfl⟩ := H
    obtain ⟨HGz3, hgz3⟩ := HI0.out
    have hcz3_0 := cellS60_0 HGz3
    have hcz3_1 := cellS60_1 HGz3
    have hfz3_0 := blk_frozen HGz3 0
    have hfz3_1 := blk_frozen HGz3 1
    clear HGz3 hgz3
    go_enter Try.func17, Try.ntmps17
    go_wp2
    repeat (go_quiet (fail); try go_wp2)
    go_ret
    exact ⟨by first | rfl | (simp [errW_none, errW_some] <;> rfl) | (simp [*, errW_none, errW_some] <;> rfl), by repeat (first | (with_reducible first | exact HI0.out | apply IsS60.alloc | apply IsS60.drewN | apply IsS60.drew | apply IsS60.set_0 | apply IsS60.set_1) | exact HI0.out), by repeat (first | (with_reducible first | exact HB.out | apply below_alloc | apply pw_below_drewN | apply below_drew1 | refine below_set ?_ (IsS60.ge HI0.out)) | exact HB.out), by repeat (first | (with_reducible first | exact HK.out | apply KeepBut.set_ | apply keep_drewN | apply keep_drew | apply keep_alloc) | exact HK.out)⟩
  · rw [if_neg c2] at H
    have c2b0 : decide (s0_1 < (s0_0.size : Int)) = false := decide_eq_false c2
    clear c2
    simp only [Option.some.injEq, Prod.mk.injEq] at H
    obtain ⟨rfl, rfl, rfl⟩ := H
    obtain ⟨HGz4, hgz4⟩ := HI0.out
    have hcz4_0 := cellS60_0 HGz4
    have hcz4_1 := cellS60_1 HGz4
    have hfz4_0 := blk_frozen HGz4 0
    have hfz4_1 := blk_frozen HGz4 1
    clear HGz4 hgz4
    go_enter Try.func17, Try.ntmps17
    go_wp2
    repeat (go_quiet (fail); try go_wp2)
    go_ret
    exact ⟨by first | rfl | (simp [errW_none, errW_some] <;> rfl) | (simp [*, errW_none, errW_some] <;> rfl), by repeat (first | (with_reducible first | exact HI0.out | apply IsS60.alloc | apply IsS60.drewN | apply IsS60.drew | apply IsS60.set_0 | apply IsS60.set_1) | exact HI0.out), by repeat (first | (with_reducible first | exact HB.out | apply below_alloc | apply pw_below_drewN | apply below_drew1 | refine below_set ?_ (IsS60.ge HI0.out)) | exact HB.out), by repeat (first | (with_reducible first | exact HK.out | apply KeepBut.set_ | apply keep_drewN | apply keep_drew | apply keep_alloc) | exact HK.out)⟩

/-! ### cubbylaw02_PackBack: function 5 (by hand) -/
theorem cubbylaw02_PackBack.wrap64_in (n : Int) (h : -9223372036854775808 ≤ n) (h2 : n < 9223372036854775808) : wrap64 n = n := by unfold wrap64; omega
/-- With fuel enough it answers v. -/
def cubbylaw02_PackBack.Ev {α : Type} (g : Nat → Option α) (v : α) : Prop := ∃ k0, ∀ k, k0 ≤ k → g k = some v
theorem cubbylaw02_PackBack.Ev.succ {α : Type} {g : Nat → Option α} {v : α} (h : cubbylaw02_PackBack.Ev (fun k => g (k + 1)) v) : cubbylaw02_PackBack.Ev g v := by
  obtain ⟨k0, h⟩ := h
  refine ⟨k0 + 1, fun k hk => ?_⟩
  obtain ⟨k, rfl⟩ : ∃ m, k = m + 1 := ⟨k - 1, by omega⟩
  exact h k (by omega)
theorem cubbylaw02_PackBack.Ev.bind {α β : Type} {g : Nat → Option α} {f : Nat → α → Option β} {a : α} {v : β} (h1 : cubbylaw02_PackBack.Ev g a) (h2 : cubbylaw02_PackBack.Ev (fun k => f k a) v) : cubbylaw02_PackBack.Ev (fun k => (g k).bind (f k)) v := by
  obtain ⟨k1, h1⟩ := h1
  obtain ⟨k2, h2⟩ := h2
  refine ⟨k1 + k2, fun k hk => ?_⟩
  show (g k).bind (f k) = some v
  rw [h1 k (by omega)]
  exact h2 k (by omega)
theorem cubbylaw02_PackBack.Ev.const {α : Type} (v : α) : cubbylaw02_PackBack.Ev (fun _ => some v) v := ⟨0, fun _ _ => rfl⟩
theorem cubbylaw02_PackBack.Ev.get {α : Type} {g : Nat → Option α} {v : α} (h : cubbylaw02_PackBack.Ev g v) : ∃ k, g k = some v := by
  obtain ⟨k0, h⟩ := h
  exact ⟨k0, h k0 (Nat.le_refl _)⟩
theorem cubbylaw02_PackBack.Ev.of {α : Type} {g g' : Nat → Option α} {v : α} (h : cubbylaw02_PackBack.Ev g v) (e : ∀ k, g' k = g k) : cubbylaw02_PackBack.Ev g' v := by
  obtain ⟨k0, h⟩ := h
  exact ⟨k0, fun k hk => (e k).trans (h k hk)⟩
theorem cubbylaw02_PackBack.wnat (i : Nat) (h : i < 9223372036854775807) : wrap64 ((i : Int) + 1) = ((i + 1 : Nat) : Int) := by rw [cubbylaw02_PackBack.wrap64_in _ (by omega) (by omega)]; omega
theorem cubbylaw02_PackBack.bs_app (a b : List UInt8) : (⟨a.toArray⟩ : ByteArray) ++ (⟨b.toArray⟩ : ByteArray) = ⟨(a ++ b).toArray⟩ := by
  apply ByteArray.ext
  rw [ByteArray.data_append]
  simp
def cubbylaw02_PackBack.str (l : List UInt8) : ByteArray := ⟨l.toArray⟩
theorem cubbylaw02_PackBack.str_app (a b : List UInt8) : cubbylaw02_PackBack.str a ++ cubbylaw02_PackBack.str b = cubbylaw02_PackBack.str (a ++ b) := cubbylaw02_PackBack.bs_app a b
theorem cubbylaw02_PackBack.str_size (a : List UInt8) : (cubbylaw02_PackBack.str a).size = a.length := List.size_toArray
def cubbylaw02_PackBack.enc1 (x : S34) : List UInt8 := if x.f0 = 1 then Hw.code x.f2.size ++ x.f2.data.toList else Hw.code (Hw.clamp x.f1)
def cubbylaw02_PackBack.enc (l : List S34) : List UInt8 := l.flatMap cubbylaw02_PackBack.enc1
def cubbylaw02_PackBack.tot (l : List S34) : Nat := (l.map fun x => x.f2.size).sum
theorem cubbylaw02_PackBack.rd34 (l : List S34) (i : Nat) (h : i < l.length) : rd_T34 l (i : Int) = l[i] := by
  unfold rd_T34
  simp [List.getD_eq_getElem?_getD, h]
theorem cubbylaw02_PackBack.heavy_l0 (l : List S34) (hl : l.length ≤ maxLen) (d : Nat) : ∀ (i n : Nat), i + d = l.length → n ≤ maxLen + 1048576 → ∃ b, cubbylaw02_PackBack.Ev (fun k => cubbylaw02_heavy.l0 k l (n : Int) (i : Int)) b ∧ (b = false → n + cubbylaw02_PackBack.tot (l.drop i) ≤ 2048) := by
  unfold maxLen at hl
  unfold maxLen
  induction d with
  | zero =>
    intro i n hi hn
    refine ⟨decide ((n : Int) > 2048), cubbylaw02_PackBack.Ev.succ ?_, fun h => ?_⟩
    · simp only [cubbylaw02_heavy.l0]
      exact (cubbylaw02_PackBack.Ev.const _).of fun k => by rw [if_neg (by omega)]
    · have := of_decide_eq_false h
      rw [List.drop_eq_nil_of_le (by omega)]
      show n + 0 ≤ 2048
      omega
  | succ d ih =>
    intro i n hi hn
    have hlt : i < l.length := by omega
    by_cases hn2 : n ≤ 2048
    · have hm : mn (l[i].f2.size : Int) 1048576 = ((min l[i].f2.size 1048576 : Nat) : Int) := by unfold mn; split <;> omega
      obtain ⟨b, h1, h2⟩ := ih (i + 1) (n + min l[i].f2.size 1048576) (by omega) (by omega)
      refine ⟨b, cubbylaw02_PackBack.Ev.succ ?_, fun h => ?_⟩
      · simp only [cubbylaw02_heavy.l0]
        refine h1.of fun k => ?_
        rw [if_pos (by omega), if_pos (by omega), if_pos (by omega), cubbylaw02_PackBack.rd34 l i hlt, hm, cubbylaw02_PackBack.wnat i (by omega), cubbylaw02_PackBack.wrap64_in _ (by omega) (by omega)]
        congr 1
      · have h3 := h2 h
        rw [List.drop_eq_getElem_cons hlt]
        show n + (l[i].f2.size + cubbylaw02_PackBack.tot (l.drop (i + 1))) ≤ 2048
        omega
    · refine ⟨true, cubbylaw02_PackBack.Ev.succ ?_, fun h => by cases h⟩
      simp only [cubbylaw02_heavy.l0]
      exact (cubbylaw02_PackBack.Ev.const _).of fun k => by rw [if_pos (by omega), if_neg (by omega), decide_eq_true (by omega)]
theorem cubbylaw02_PackBack.heavy_ev (l : List S34) (hl : l.length ≤ maxLen) : ∃ k b, cubbylaw02_heavy.f k l = some b ∧ (b = false → l.length + cubbylaw02_PackBack.tot l ≤ 2048) := by
  obtain ⟨b, h1, h2⟩ := cubbylaw02_PackBack.heavy_l0 l hl l.length 0 l.length (by omega) (by unfold maxLen at hl ⊢; omega)
  obtain ⟨k, h⟩ := h1.get
  exact ⟨k, b, h, h2⟩
theorem cubbylaw02_PackBack.enc_len (l : List S34) (h : ∀ x ∈ l, x.f2.size ≤ 1000000) : (cubbylaw02_PackBack.enc l).length ≤ 8 * l.length + cubbylaw02_PackBack.tot l := by
  induction l with
  | nil => simp [cubbylaw02_PackBack.enc]
  | cons x l ih =>
    have h1 := ih (fun y hy => h y (List.mem_cons_of_mem _ hy))
    have hx := h x List.mem_cons_self
    have h2 := Hw.code_len 7 x.f2.size (by omega)
    have h3 := Hw.code_len 7 _ (Hw.clamp_lt x.f1)
    have h4 : (cubbylaw02_PackBack.enc1 x).length ≤ 8 + x.f2.size := by
      unfold cubbylaw02_PackBack.enc1
      have : x.f2.data.toList.length = x.f2.size := data_length _
      split
      · rw [List.length_append]; omega
      · omega
    show (cubbylaw02_PackBack.enc1 x ++ cubbylaw02_PackBack.enc l).length ≤ _
    rw [List.length_append, List.length_cons]
    show _ ≤ 8 * (l.length + 1) + (x.f2.size + cubbylaw02_PackBack.tot l)
    omega
theorem cubbylaw02_PackBack.tot_take (l : List S34) (i : Nat) : cubbylaw02_PackBack.tot (l.take i) ≤ cubbylaw02_PackBack.tot l := by
  induction l generalizing i with
  | nil => simp
  | cons x l ih =>
    cases i with
    | zero => simp [cubbylaw02_PackBack.tot]
    | succ i =>
      show x.f2.size + cubbylaw02_PackBack.tot (l.take i) ≤ x.f2.size + cubbylaw02_PackBack.tot l
      have := ih i
      omega
theorem cubbylaw02_PackBack.mem_tot (l : List S34) (x : S34) (h : x ∈ l) : x.f2.size ≤ cubbylaw02_PackBack.tot l := by
  induction l with
  | nil => exact absurd h List.not_mem_nil
  | cons y l ih =>
    show _ ≤ y.f2.size + cubbylaw02_PackBack.tot l
    rcases List.mem_cons.1 h with rfl | h
    · omega
    · have := ih h; omega
theorem cubbylaw02_PackBack.enc_snoc (l : List S34) (x : Int) (h0 : 0 ≤ x) (h : x < (l.length : Int)) : cubbylaw02_PackBack.enc (l.take (x + 1).toNat) = cubbylaw02_PackBack.enc (l.take x.toNat) ++ cubbylaw02_PackBack.enc1 (rd_T34 l x) := by
  obtain ⟨i, rfl⟩ : ∃ i : Nat, x = (i : Int) := ⟨x.toNat, by omega⟩
  have hi : i < l.length := by omega
  rw [cubbylaw02_PackBack.rd34 l i hi, show ((i : Int) + 1).toNat = i + 1 by omega, show ((i : Int)).toNat = i by omega, List.take_succ_eq_append_getElem hi]
  show List.flatMap _ _ = _
  rw [List.flatMap_append, List.flatMap_cons, List.flatMap_nil, List.append_nil]
  rfl
theorem cubbylaw02_PackBack.rd_mem (l : List S34) (x : Int) (h0 : 0 ≤ x) (h : x < (l.length : Int)) : rd_T34 l x ∈ l := by
  obtain ⟨i, rfl⟩ : ∃ i : Nat, x = (i : Int) := ⟨x.toNat, by omega⟩
  rw [cubbylaw02_PackBack.rd34 l i (by omega)]
  exact List.getElem_mem _
theorem cubbylaw02_PackBack.rnum_clamp (n : Int) (rest : List UInt8) : Hw.rnum (Hw.code (Hw.clamp n) ++ rest) 0 0 = (Hw.clamp n, 0, (Hw.code (Hw.clamp n)).length) := by
  rw [Hw.rnum_code 7 _ 0 0 rest (Hw.clamp_lt n) (by omega) (.inl rfl)]
  simp
theorem cubbylaw02_PackBack.rtext_enc (s : ByteArray) (hs : s.size ≤ 2048) (rest : List UInt8) : pack_Reader_Text.rtext (Hw.code s.size ++ s.data.toList ++ rest) = (s.data.toList, 0, (Hw.code s.size ++ s.data.toList).length) := by
  have h := Hw.rnum_code 7 s.size 0 0 (s.data.toList ++ rest) (by omega) (by omega) (.inl rfl)
  have hl := data_length s
  unfold pack_Reader_Text.rtext
  rw [List.append_assoc, h]
  simp only [Nat.zero_add, Nat.pow_zero, Nat.mul_one, if_true]
  rw [if_neg (by rw [List.length_append, List.length_append]; omega), List.drop_left, ← hl, List.take_left, List.length_append]
theorem cubbylaw02_PackBack.drop_enc (l : List S34) (x : Int) (h0 : 0 ≤ x) (h : x < (l.length : Int)) : (cubbylaw02_PackBack.enc l).drop (cubbylaw02_PackBack.enc (l.take x.toNat)).length = cubbylaw02_PackBack.enc1 (rd_T34 l x) ++ cubbylaw02_PackBack.enc (l.drop (x + 1).toNat) := by
  have h1 := cubbylaw02_PackBack.enc_snoc l x h0 h
  have h2 : cubbylaw02_PackBack.enc l = cubbylaw02_PackBack.enc (l.take (x + 1).toNat) ++ cubbylaw02_PackBack.enc (l.drop (x + 1).toNat) := by
    conv => lhs; rw [← List.take_append_drop (x + 1).toNat l]
    show List.flatMap _ _ = _
    rw [List.flatMap_append]
    rfl
  rw [h2, h1, List.append_assoc, List.drop_left]
theorem cubbylaw02_PackBack.of_list (s : ByteArray) : (⟨s.data.toList.toArray⟩ : ByteArray) = s := by
  apply ByteArray.ext
  simp
def cubbylaw02_PackBack.f (l0 : List (S34)) : Option Bool := if l0.length ≤ maxLen then some true else none
set_option maxHeartbeats 4000000 in
set_option maxRecDepth 100000 in
theorem cubbylaw02_PackBack.calls (A0 : Option Addr) (c0 : Nat) (l0 : List (S34)) (r : Bool) (w : World) (hr0 : Kd.C k34 w A0 l0.length l0) (hc0 : l0.length ≤ c0) (h : cubbylaw02_PackBack.f l0 = some r) :
    Calls Try.prog 5 #[.slice A0 l0.length c0] w fun e w' => e = .returned (.bool r) ∧ Below w.heap.size w w' := by
  unfold cubbylaw02_PackBack.f at h
  by_cases hl : l0.length ≤ maxLen
  case neg => rw [if_neg hl] at h; cases h
  rw [if_pos hl] at h
  obtain rfl := Option.some.inj h
  clear h
  obtain ⟨kh, b, hh, hb⟩ := cubbylaw02_PackBack.heavy_ev l0 hl
  have HH := Aside0.mk (cubbylaw02_heavy.calls kh A0 c0 l0 b w hr0 hc0 hh)
  have HR := Aside0.mk hr0
  clear hr0 hh hl
  cases b with
  | true =>
    clear hb
    go_enter Try.func5, Try.ntmps5
    go_wp2_with (go_at_call 9; refine HH.out.mono ?_; rintro e w1 ⟨rfl, hb1⟩; have HB1 := Aside0.mk hb1; clear hb1)
    go_ret
    exact ⟨rfl, HB1.out⟩
  | false =>
    have htot := hb rfl
    clear hb
    have HT : Aside0 (∀ x ∈ l0, x.f2.size ≤ 2048) := ⟨fun x hx => Nat.le_trans (cubbylaw02_PackBack.mem_tot l0 x hx) (by omega)⟩
    go_enter Try.func5, Try.ntmps5
    go_wp2_with (go_at_call 9; refine HH.out.mono ?_; rintro e w1 ⟨rfl, hb1⟩; have HB1 := Aside0.mk hb1; clear hb1)
    have HB0 := Aside0.mk (below_alloc HB1.out (.cells #[.pointer none, .slice none 0 0] 32))
    have HW0 := Aside0.mk (strings_Builder_copyCheck.fresh_wr 32 w1)
    have HBW := Aside0.mk HB1.out.size
    have HR1 := Aside0.mk (fun wq (hq : Below w.heap.size w wq) => Kd.C_below HR.out hq)
    have HL : Aside0 (∀ i : Nat, (cubbylaw02_PackBack.enc (l0.take i)).length ≤ 20000 ∧ l0.length ≤ 2048) := ⟨fun i => by
      have h1 := cubbylaw02_PackBack.enc_len (l0.take i) (fun x hx => Nat.le_trans (HT.out x (List.mem_of_mem_take hx)) (by omega))
      have h2 := cubbylaw02_PackBack.tot_take l0 i
      have h3 : (l0.take i).length ≤ l0.length := by rw [List.length_take]; omega
      omega⟩
    have HTX : Aside0 (∀ (bs : List UInt8) (s : ByteArray) (wq : World), strings_Builder_copyCheck.Wr 32 w1.heap.size w1.heap.size (Lib.byteCells bs) wq → s.size ≤ 2048 → bs.length ≤ 20000 →
      Calls Try.prog 10 #[.pointer (some ⟨w1.heap.size, 0, none⟩), .string s] wq fun e w' => e = .returned (.tuple #[]) ∧ strings_Builder_copyCheck.Wr 32 w1.heap.size w1.heap.size (Lib.byteCells (bs ++ (Hw.code s.size ++ s.data.toList))) w' ∧ Below w1.heap.size wq w') := ⟨fun bs s wq h1 h2 h3 => pack_Writer_Text.calls w1.heap.size w1.heap.size bs s wq h1 (by omega) (by omega) (Nat.le_of_lt h1.lt)⟩
    have HNX : Aside0 (∀ (bs : List UInt8) (n : Int) (wq : World), strings_Builder_copyCheck.Wr 32 w1.heap.size w1.heap.size (Lib.byteCells bs) wq → bs.length ≤ 20000 →
      Calls Try.prog 12 #[.pointer (some ⟨w1.heap.size, 0, none⟩), .int .i64 n] wq fun e w' => e = .returned (.tuple #[]) ∧ strings_Builder_copyCheck.Wr 32 w1.heap.size w1.heap.size (Lib.byteCells (bs ++ Hw.code (Hw.clamp n))) w' ∧ Below w1.heap.size wq w') := ⟨fun bs n wq h1 h3 => pack_Writer_Number.calls w1.heap.size w1.heap.size bs n wq h1 (by omega) (Nat.le_of_lt h1.lt)⟩
    have HBX : Aside0 (∀ (bs : List UInt8) (wq : World), strings_Builder_copyCheck.Wr 32 w1.heap.size w1.heap.size (Lib.byteCells bs) wq →
      Calls Try.prog 13 #[.pointer (some ⟨w1.heap.size, 0, none⟩)] wq fun e w' => e = .returned (.string (cubbylaw02_PackBack.str bs)) ∧ strings_Builder_copyCheck.Wr 32 w1.heap.size w1.heap.size (Lib.byteCells bs) w' ∧ Below w1.heap.size wq w') := ⟨fun bs wq h1 => pack_Writer_Bytes.calls w1.heap.size w1.heap.size bs wq h1⟩
    clear HH
    have HCELL : Aside0 (∀ x : Int, 0 ≤ x → x < (l0.length : Int) → ∃ ad, A0 = some ad ∧ ∀ wq, Below w.heap.size w wq → wq.cell? (ad.add (x.toNat * 3)) = some (.int .i64 (rd_T34 l0 x).f0) ∧ wq.cell? ⟨(ad.add (x.toNat * 3)).block, (ad.add (x.toNat * 3)).off + 1, none⟩ = some (.int .i64 (rd_T34 l0 x).f1) ∧ wq.cell? ⟨(ad.add (x.toNat * 3)).block, (ad.add (x.toNat * 3)).off + 2, none⟩ = some (.string (rd_T34 l0 x).f2)) := ⟨fun x hx1 hx => by
      obtain ⟨ad, ea, g0, g1, g2⟩ := at_T34 HR.out x hx1 hx
      have hbk := World.block_lt_of_cell? w _ g0
      exact ⟨ad, ea, fun wq hq => ⟨(hq.cell (p := ad.add (x.toNat * 3)) hbk).trans g0, (hq.cell (p := ⟨(ad.add (x.toNat * 3)).block, (ad.add (x.toNat * 3)).off + 1, none⟩) hbk).trans g1, (hq.cell (p := ⟨(ad.add (x.toNat * 3)).block, (ad.add (x.toNat * 3)).off + 2, none⟩) hbk).trans g2⟩⟩⟩
    go_loopg [4] (l0.length) (fun gg v4 wq => ∃ (x : Int) (bs : List UInt8), v4 = .int .i64 x ∧ Aside0 (0 ≤ x ∧ x ≤ (l0.length : Int) ∧ (gg : Int) = (l0.length : Int) - x ∧ bs = cubbylaw02_PackBack.enc (l0.take x.toNat)) ∧ Aside0 (strings_Builder_copyCheck.Wr 32 w1.heap.size w1.heap.size (Lib.byteCells bs) wq) ∧ Aside0 (Below w.heap.size w wq))
    case atStart =>
      refine ⟨0, [], by first | rfl | simp, ⟨Int.le_refl _, by omega, by omega, rfl⟩, ?_, ?_⟩
      · exact HW0
      · exact HB0
    case round =>
      obtain ⟨x, bs, rfl, HX, HWr, HB⟩ := hrel
      have HBL : Aside0 (bs.length ≤ 20000) := ⟨by rw [HX.out.2.2.2]; exact (HL.out _).1⟩
      by_cases hx : x < (l0.length : Int)
      · have hx1 : 0 ≤ x := HX.out.1
        have hmem := Aside0.mk (HT.out _ (cubbylaw02_PackBack.rd_mem l0 x hx1 hx))
        have HSN := Aside0.mk (cubbylaw02_PackBack.enc_snoc l0 x hx1 hx)
        obtain ⟨ad, ea, hce⟩ := HCELL.out x hx1 hx
        cases ea
        obtain ⟨hc0, hc1, hc2⟩ := hce _ HB.out
        clear hce
        generalize rd_T34 l0 x = y at hc0 hc1 hc2 hmem HSN
        have hxb := decide_eq_true hx
        obtain ⟨k1, rfl⟩ : ∃ k, gk = k + 1 := ⟨gk - 1, by have := HX.out; omega⟩
        by_cases hk : y.f0 = 1
        · have hkb : (y.f0 == 1) = true := by rw [hk]; rfl
          have HE := Aside0.mk (show cubbylaw02_PackBack.enc1 y = Hw.code y.f2.size ++ y.f2.data.toList from if_pos hk)
          clear hk
          go_wp2_with (go_at_call 10; refine (HTX.out bs y.f2 _ HWr.out hmem.out HBL.out).mono ?_; rintro e w3 ⟨rfl, h3, hb3⟩; have H3 := Aside0.mk h3; have HB3 := Aside0.mk (HB.out.trans (Below.mono hb3 HBW.out)); clear h3 hb3)
          go_roundg k1
          case measure => omega
          case rel =>
            refine ⟨x + 1, bs ++ (Hw.code y.f2.size ++ y.f2.data.toList), by go_num, ⟨?_, ?_, ?_, ?_⟩, H3, HB3⟩
            · omega
            · omega
            · have := HX.out.2.2.1; omega
            · rw [HSN.out, HE.out, ← HX.out.2.2.2]
        · have hkb : (y.f0 == 1) = false := by simpa using hk
          have HE := Aside0.mk (show cubbylaw02_PackBack.enc1 y = Hw.code (Hw.clamp y.f1) from if_neg hk)
          clear hk
          go_wp2_with (go_at_call 12; refine (HNX.out bs y.f1 _ HWr.out HBL.out).mono ?_; rintro e w3 ⟨rfl, h3, hb3⟩; have H3 := Aside0.mk h3; have HB3 := Aside0.mk (HB.out.trans (Below.mono hb3 HBW.out)); clear h3 hb3)
          go_roundg k1
          case measure => omega
          case rel =>
            refine ⟨x + 1, bs ++ Hw.code (Hw.clamp y.f1), by go_num, ⟨?_, ?_, ?_, ?_⟩, H3, HB3⟩
            · omega
            · omega
            · have := HX.out.2.2.1; omega
            · rw [HSN.out, HE.out, ← HX.out.2.2.2]
      · have hxb := decide_eq_false hx
        have HBS : Aside0 (bs = cubbylaw02_PackBack.enc l0) := ⟨by have h1 := HX.out; rw [h1.2.2.2, List.take_of_length_le (by omega)]⟩
        clear hx
        go_wp2_with (first | (go_at_call 13; refine (HBX.out _ _ HWr.out).mono ?_; rintro e w5 ⟨rfl, h5, hb5⟩; have HB5 := Aside0.mk (HB.out.trans (Below.mono hb5 HBW.out)); clear h5 hb5) | (go_at_call 14; refine (pack_Read.calls (cubbylaw02_PackBack.str bs) (cubbylaw02_PackBack.str bs) 0 w _ HB5.out rfl).mono ?_; rintro e w6 ⟨g, rfl, h6, hb6, hb7⟩; have H6 := Aside0.mk h6; have HB6 := Aside0.mk hb6; clear h6 hb6 hb7))
        clear hxb HX HWr HB HBX HTX HNX
        have HSL : Aside0 ((cubbylaw02_PackBack.str bs).data.toList = cubbylaw02_PackBack.enc l0 ∧ (cubbylaw02_PackBack.str bs).size ≤ 20000 ∧ (cubbylaw02_PackBack.str bs).size = (cubbylaw02_PackBack.enc l0).length) := ⟨by
          have h1 := (HL.out l0.length).1
          rw [List.take_length] at h1
          refine ⟨?_, ?_, ?_⟩
          · rw [HBS.out]; rfl
          · rw [cubbylaw02_PackBack.str_size, HBS.out]; exact h1
          · rw [cubbylaw02_PackBack.str_size, HBS.out]⟩
        go_loopg [6] (l0.length) (fun gg v6 wq => ∃ (x : Int), v6 = .int .i64 x ∧ Aside0 (0 ≤ x ∧ x ≤ (l0.length : Int) ∧ (gg : Int) = (l0.length : Int) - x) ∧ Aside0 (IsS60 w wq g (cubbylaw02_PackBack.str bs) (((cubbylaw02_PackBack.enc (l0.take x.toNat)).length : Nat) : Int)) ∧ Aside0 (Below w.heap.size w wq))
        case atStart =>
          refine ⟨0, by first | rfl | simp, ⟨Int.le_refl _, by omega, by omega⟩, ?_, ?_⟩
          · exact H6
          · exact HB6
        case round =>
          obtain ⟨x, rfl, HX, HI, HB⟩ := hrel
          by_cases hx : x < (l0.length : Int)
          · have hx1 : 0 ≤ x := HX.out.1
            have hmem := Aside0.mk (HT.out _ (cubbylaw02_PackBack.rd_mem l0 x hx1 hx))
            have HSN := Aside0.mk (cubbylaw02_PackBack.enc_snoc l0 x hx1 hx)
            have HDR := Aside0.mk (cubbylaw02_PackBack.drop_enc l0 x hx1 hx)
            have HPL : Aside0 ((cubbylaw02_PackBack.enc (l0.take x.toNat)).length ≤ (cubbylaw02_PackBack.str bs).size) := ⟨by
              rw [HSL.out.2.2]
              conv => rhs; rw [← List.take_append_drop x.toNat l0]
              show _ ≤ (List.flatMap _ _).length
              rw [List.flatMap_append, List.length_append]
              exact Nat.le_add_right _ _⟩
            obtain ⟨ad, ea, hce⟩ := HCELL.out x hx1 hx
            cases ea
            have HCE := Aside0.mk hce
            obtain ⟨hc0, hc1, hc2⟩ := hce _ HB.out
            clear hce
            generalize rd_T34 l0 x = y at hc0 hc1 hc2 hmem HSN HDR HCE
            have hxb := decide_eq_true hx
            obtain ⟨k1, rfl⟩ : ∃ k, gk = k + 1 := ⟨gk - 1, by have := HX.out; omega⟩
            by_cases hk : y.f0 = 1
            · have hkb : (y.f0 == 1) = true := by rw [hk]; rfl
              have HE := Aside0.mk (show cubbylaw02_PackBack.enc1 y = Hw.code y.f2.size ++ y.f2.data.toList from if_pos hk)
              clear hk
              have HRT : Aside0 (∀ W, IsS60 w W g (cubbylaw02_PackBack.str bs) (((cubbylaw02_PackBack.enc (l0.take x.toNat)).length : Nat) : Int) → Below w.heap.size w W → Calls Try.prog 15 #[.pointer (some ⟨g, 0, none⟩)] W fun e w' => e = .returned (.tuple #[.string y.f2, .int .i64 0]) ∧ IsS60 w w' g (cubbylaw02_PackBack.str bs) (((cubbylaw02_PackBack.enc (l0.take (x + 1).toNat)).length : Nat) : Int) ∧ Below w.heap.size w w') := ⟨fun W h1 h2 => by
                obtain ⟨k, hk⟩ := (pack_Reader_Text.text_ev (cubbylaw02_PackBack.str bs) _ (by have := HSL.out.2.1; omega) HPL.out).rounds
                rw [HSL.out.1, HDR.out, HE.out, cubbylaw02_PackBack.rtext_enc y.f2 hmem.out, cubbylaw02_PackBack.of_list] at hk
                refine (pack_Reader_Text.calls k g _ _ _ _ _ _ w W h1 h2 hk).mono ?_
                rintro e w' ⟨rfl, h3, h4, h5⟩
                rw [← List.length_append, ← HE.out, ← HSN.out] at h3
                exact ⟨rfl, h3, h4⟩⟩
              go_wp2_with (go_at_call 15; refine (HRT.out _ HI.out HB.out).mono ?_; rintro e w3 ⟨rfl, h3, hb3⟩; have H3 := Aside0.mk h3; have HB3 := Aside0.mk hb3; obtain ⟨hd0, hd1, hd2⟩ := HCE.out _ hb3; clear h3 hb3)
              go_roundg k1
              case measure => omega
              case rel =>
                refine ⟨x + 1, by go_num, ⟨?_, ?_, ?_⟩, H3, HB3⟩
                · omega
                · omega
                · have := HX.out.2.2; omega
            · have hkb : (y.f0 == 1) = false := by simpa using hk
              have HE := Aside0.mk (show cubbylaw02_PackBack.enc1 y = Hw.code (Hw.clamp y.f1) from if_neg hk)
              clear hk
              have HRT : Aside0 (∀ W, IsS60 w W g (cubbylaw02_PackBack.str bs) (((cubbylaw02_PackBack.enc (l0.take x.toNat)).length : Nat) : Int) → Below w.heap.size w W → Calls Try.prog 16 #[.pointer (some ⟨g, 0, none⟩)] W fun e w' => e = .returned (.tuple #[.int .i64 (mx 0 (mn y.f1 72057594037927935)), .int .i64 0]) ∧ IsS60 w w' g (cubbylaw02_PackBack.str bs) (((cubbylaw02_PackBack.enc (l0.take (x + 1).toNat)).length : Nat) : Int) ∧ Below w.heap.size w w') := ⟨fun W h1 h2 => by
                obtain ⟨k, hk⟩ := (pack_Reader_Text.num_ev (cubbylaw02_PackBack.str bs) _ (by have := HSL.out.2.1; omega) HPL.out).rounds
                rw [HSL.out.1, HDR.out, HE.out, cubbylaw02_PackBack.rnum_clamp] at hk
                refine (pack_Reader_Number.calls k g _ _ _ _ _ _ w W h1 h2 hk).mono ?_
                rintro e w' ⟨rfl, h3, h4, h5⟩
                rw [← List.length_append, ← HE.out, ← HSN.out] at h3
                exact ⟨by rw [Hw.mx_clamp], h3, h4⟩⟩
              obtain ⟨v, hv, hv3⟩ : ∃ v : Int, mx 0 (mn y.f1 72057594037927935) = v ∧ ((72057594037927935 < y.f1 ∧ v = 72057594037927935) ∨ (y.f1 ≤ 0 ∧ v = 0) ∨ (0 < y.f1 ∧ y.f1 ≤ 72057594037927935 ∧ v = y.f1)) := ⟨_, rfl, by unfold mx mn; split <;> split <;> omega⟩
              rw [hv] at HRT
              clear hv
              rcases hv3 with ⟨hv1, rfl⟩ | ⟨hv1, rfl⟩ | ⟨hv0, hv1, rfl⟩
              all_goals
                go_wp2_with (go_at_call 16; refine (HRT.out _ HI.out HB.out).mono ?_; rintro e w3 ⟨rfl, h3, hb3⟩; have H3 := Aside0.mk h3; have HB3 := Aside0.mk hb3; obtain ⟨hd0, hd1, hd2⟩ := HCE.out _ hb3; clear h3 hb3)
                go_roundg k1
                case measure => omega
                case rel =>
                  refine ⟨x + 1, by go_num, ⟨?_, ?_, ?_⟩, H3, HB3⟩
                  · omega
                  · omega
                  · have := HX.out.2.2; omega
          · have hxb := decide_eq_false hx
            have HE : Aside0 ((cubbylaw02_PackBack.enc (l0.take x.toNat)).length = (cubbylaw02_PackBack.str bs).size) := ⟨by have h1 := HX.out; rw [HSL.out.2.2, List.take_of_length_le (by omega)]⟩
            clear hx
            have HRT : Aside0 (∀ W, IsS60 w W g (cubbylaw02_PackBack.str bs) (((cubbylaw02_PackBack.enc (l0.take x.toNat)).length : Nat) : Int) → Below w.heap.size w W → Calls Try.prog 16 #[.pointer (some ⟨g, 0, none⟩)] W fun e w' => e = .returned (.tuple #[.int .i64 0, .int .i64 20]) ∧ IsS60 w w' g (cubbylaw02_PackBack.str bs) ((cubbylaw02_PackBack.str bs).size : Int) ∧ Below w.heap.size w w') := ⟨fun W h1 h2 => by
              obtain ⟨k, hk⟩ := (pack_Reader_Text.num_ev (cubbylaw02_PackBack.str bs) _ (by have := HSL.out.2.1; omega) (Nat.le_of_eq HE.out)).rounds
              rw [List.drop_of_length_le (by rw [HE.out, data_length]; exact Nat.le_refl _)] at hk
              refine (pack_Reader_Number.calls k g _ _ _ _ _ _ w W h1 h2 hk).mono ?_
              rintro e w' ⟨rfl, h3, h4, h5⟩
              rw [HE.out] at h3
              exact ⟨rfl, h3, h4⟩⟩
            have HRE : Aside0 (∀ W, IsS60 w W g (cubbylaw02_PackBack.str bs) ((cubbylaw02_PackBack.str bs).size : Int) → Below w.heap.size w W → Calls Try.prog 17 #[.pointer (some ⟨g, 0, none⟩)] W fun e w' => e = .returned (.int .i64 0) ∧ Below w.heap.size w w') := ⟨fun W h1 h2 => by
              refine (pack_Reader_End.calls g _ _ 0 _ _ w W h1 h2 (by unfold pack_Reader_End.f; exact if_neg (by omega))).mono ?_
              rintro e w' ⟨rfl, h3, h4, h5⟩
              exact ⟨rfl, h4⟩⟩
            go_wp2_with (first | (go_at_call 16; refine (HRT.out _ HI.out HB.out).mono ?_; rintro e w3 ⟨rfl, h3, hb3⟩; have H3 := Aside0.mk h3; have HB3 := Aside0.mk hb3; clear h3 hb3) | (go_at_call 17; refine (HRE.out _ H3.out HB3.out).mono ?_; rintro e w4 ⟨rfl, hb4⟩; have HB4 := Aside0.mk hb4; clear hb4))
            go_ret
            exact ⟨rfl, HB4.out⟩

/-- THE ONE PURE STATEMENT of cubbylaw02_PackBack: yours. -/
def cubbylaw02_PackBack.Pure : Prop := ∀ (l0 : List (S34)), (l0.length ≤ maxLen ∧ l0.length * 32 ≤ 140737488351232 ∧ ∀ x ∈ l0, ((Lit.int .i64 x.f0).wf = true ∧ (Lit.int .i64 x.f1).wf = true ∧ x.f2.size ≤ 140737488351232)) → cubbylaw02_PackBack.f l0 = some true
theorem cubbylaw02_PackBack.walk (P : cubbylaw02_PackBack.Pure) (A0 : Option Addr) (c0 : Nat) (l0 : List (S34)) (w : World) (hr0 : Kd.C k34 w A0 l0.length l0) (hc0 : l0.length ≤ c0) (o0 : (l0.length ≤ maxLen ∧ l0.length * 32 ≤ 140737488351232 ∧ ∀ x ∈ l0, ((Lit.int .i64 x.f0).wf = true ∧ (Lit.int .i64 x.f1).wf = true ∧ x.f2.size ≤ 140737488351232))) :
    Calls Try.prog 5 #[.slice A0 l0.length c0] w fun e w' => e = .returned (.bool true) ∧ Below w.heap.size w w' := by
  have h := P l0 o0
  refine (cubbylaw02_PackBack.calls A0 c0 l0 true w hr0 hc0 h).mono ?_
  rintro e w' ⟨rfl, hd⟩
  exact ⟨rfl, hd⟩

end Go.Proofs.Ytmecbfadhacajaa.PPackBack
