-- By a program of this session (wip/tools/mkprint.py), for this claim.
import Derived.Test.YtfdccgpbdcdgmaaPLogRoomx0
import Derived.Test.YtfdccgpbdcdgmaaPLogRoomx1
namespace Go.Proofs.Ytfdccgpbdcdgmaa.PLogRoom
open Go.RowKit Go.Proofs.YtfdccgpbdcdgmaaW.PrintWords Go.Proofs.YtfdccgpbdcdgmaaW.PrintLast Go.Proofs.YtfdccgpbdcdgmaaW.PrintMore
attribute [local go_sem] max2_int min2_int max_two min_two max_three min_three max_four min_four   -- for this text's walks alone
set_option linter.unusedVariables false
set_option linter.unusedSimpArgs false

/-! ### pack_Reader_Text: function 73 (by hand) -/
set_option maxRecDepth 100000 in
theorem pack_Reader_Text.d_ok (a b c : Addr) (u : FrameMode) (w : World) (hc : w.cell? a = some (.int .i64 0)) :
    CallsD Try.prog 85 #[.pointer (some a), .pointer (some b), .pointer (some c)] u w fun e u' w' => u' = u ∧ (e = .returned (.tuple #[]) ∧ w' = w) := by
  go_enter_d Try.func85, Try.ntmps85
  go_wp2
  go_end0
  exact ⟨rfl, rfl⟩
set_option maxRecDepth 100000 in
theorem pack_Reader_Text.d_bad (a b c : Addr) (g : Nat) (f x n : Int) (u : FrameMode) (w : World) (hn : (n == 0) = false) (hc : w.cell? a = some (.int .i64 n)) (hb : w.cell? b = some (.int .i64 f)) (hr : w.cell? c = some (.pointer (some ⟨g, 0, none⟩))) (h1 : w.cell? ⟨g, 1, none⟩ = some (.int .i64 x)) (hf : w.frozen? ⟨g, 1, none⟩ = false) :
    CallsD Try.prog 85 #[.pointer (some a), .pointer (some b), .pointer (some c)] u w fun e u' w' => u' = u ∧ (e = .returned (.tuple #[]) ∧ w' = w.setCell ⟨g, 1, none⟩ (.int .i64 f)) := by
  have hn2 : (n != 0) = true := by simpa using hn
  go_enter_d Try.func85, Try.ntmps85
  go_wp2
  go_end0
  exact ⟨rfl, rfl⟩
theorem pack_Reader_Text.num_l0 (s : ByteArray) (a : Nat) (hs : s.size ≤ 140737488355328) : ∀ (l : List UInt8) (j acc : Nat), s.data.toList.drop (a + j) = l → a + j ≤ s.size → j ≤ 8 → acc < 128 ^ j → Ev (fun k => pack_Reader_Number.l0 k (acc : Int) ((a + j : Nat) : Int) s (a : Int)) (((Hw.rnum l j acc).1 : Int), (Hw.rnum l j acc).2.1, s, ((a + (Hw.rnum l j acc).2.2 : Nat) : Int)) := by
  intro l
  induction l with
  | nil =>
    intro j acc hd hle hj ha
    have hl : s.data.toList.length ≤ a + j := List.drop_eq_nil_iff.1 hd
    rw [data_length] at hl
    refine Ev.step (f := fun _ => some (0, 20, s, (a : Int))) (fun k => ?_) (Ev.now _)
    simp only [pack_Reader_Number.l0]
    rw [if_neg (by omega)]
  | cons c r ih =>
    intro j acc hd hle hj ha
    obtain ⟨h1, h2, h3⟩ := Hw.bt_drop hd
    have hc := c.toNat_lt
    have e1 : wrap64 (7 * wrap64 (((a + j : Nat) : Int) - (a : Int))) = 7 * (j : Int) := by rw [Hw.w64 (((a + j : Nat) : Int) - (a : Int)) (by omega) (by omega), Hw.w64 _ (by omega) (by omega)]; omega
    have e2 : IntKind.u64.wrap (7 * (j : Int)) = 7 * (j : Int) := IntWalk.u64_in _ (by omega)
    rw [Hw.rnum]
    by_cases hj8 : 8 ≤ j
    · rw [if_pos hj8]
      refine Ev.step (f := fun _ => some (0, 21, s, (a : Int))) (fun k => ?_) (Ev.now _)
      simp only [pack_Reader_Number.l0]
      rw [if_pos (by omega), e1, if_pos (by omega)]
    · rw [if_neg hj8]
      have e3 := Hw.or_shift acc j c.toNat (by omega) ha (by omega)
      by_cases hc1 : 127 < c.toNat
      · rw [if_pos hc1]
        have ha2 : acc + c.toNat % 128 * 128 ^ j < 128 ^ (j + 1) := by
          have : c.toNat % 128 * 128 ^ j ≤ 127 * 128 ^ j := Nat.mul_le_mul_right _ (by omega)
          rw [Nat.pow_succ]
          omega
        refine Ev.step (fun k => ?_) (ih (j + 1) _ (by rw [← Nat.add_assoc]; exact h3) (by omega) (by omega) ha2)
        simp only [pack_Reader_Number.l0]
        rw [if_pos (by omega), e1, if_neg (by omega), if_pos (by omega), e2, if_pos (by omega), h2, if_pos (by omega), e3, Hw.wnat _ (by omega)]
        rfl
      · rw [if_neg hc1]
        by_cases hc0 : c.toNat = 0 ∧ 0 < j
        · rw [if_pos hc0]
          refine Ev.step (f := fun _ => some (0, 21, s, (a : Int))) (fun k => ?_) (Ev.now _)
          simp only [pack_Reader_Number.l0]
          rw [if_pos (by omega), e1, if_neg (by omega), if_pos (by omega), e2, if_pos (by omega), h2, if_neg (by omega), if_pos (by omega), if_pos (by omega)]
        · rw [if_neg hc0]
          refine Ev.step (f := fun _ => some (((acc + c.toNat % 128 * 128 ^ j : Nat) : Int), 0, s, ((a + (j + 1) : Nat) : Int))) (fun k => ?_) (Ev.now _)
          simp only [pack_Reader_Number.l0]
          rw [if_pos (by omega), e1, if_neg (by omega), if_pos (by omega), e2, if_pos (by omega), h2, if_neg (by omega), e3, Hw.wnat _ (by omega)]
          by_cases hz : (c.toNat : Int) = 0
          · rw [if_pos hz, if_neg (by omega)]
            rfl
          · rw [if_neg hz]
            rfl
theorem pack_Reader_Text.num_ev (s : ByteArray) (a : Nat) (hs : s.size ≤ 140737488355328) (ha : a ≤ s.size) : Ev (fun k => pack_Reader_Number.f k s (a : Int)) (((Hw.rnum (s.data.toList.drop a) 0 0).1 : Int), (Hw.rnum (s.data.toList.drop a) 0 0).2.1, s, ((a + (Hw.rnum (s.data.toList.drop a) 0 0).2.2 : Nat) : Int)) := pack_Reader_Text.num_l0 s a hs _ 0 0 rfl ha (by omega) (by decide)
def pack_Reader_Text.f (k : Nat) (s : ByteArray) (a : Int) : Option (ByteArray × Int × ByteArray × Int) := (pack_Reader_Number.f k s a).bind fun t => if t.2.1 = 0 then (if t.2.2.1 = s ∧ s.size ≤ 9223372036854775807 ∧ 0 ≤ a ∧ 0 ≤ t.2.2.2 ∧ t.2.2.2 ≤ (s.size : Int) ∧ 0 ≤ t.1 then (if t.1 > (s.size : Int) - t.2.2.2 then some (.empty, 20, s, a) else some (s.extract t.2.2.2.toNat (t.2.2.2 + t.1).toNat, 0, s, t.2.2.2 + t.1)) else none) else if t.2.2 = (s, a) then some (.empty, t.2.1, s, a) else none
theorem pack_Reader_Text.extract_list (s : ByteArray) (a b : Nat) : (s.extract a (a + b)) = ⟨((s.data.toList.drop a).take b).toArray⟩ := by
  apply ByteArray.ext
  rw [ByteArray.data_extract]
  apply Array.ext'
  simp
theorem pack_Reader_Text.text_ev (s : ByteArray) (a : Nat) (hs : s.size ≤ 140737488355328) (ha : a ≤ s.size) : Ev (fun k => pack_Reader_Text.f k s (a : Int)) (⟨(Hw.rtext (s.data.toList.drop a)).1.toArray⟩, (Hw.rtext (s.data.toList.drop a)).2.1, s, ((a + (Hw.rtext (s.data.toList.drop a)).2.2 : Nat) : Int)) := by
  have h1 := pack_Reader_Text.num_ev s a hs ha
  have hu := Hw.rnum_used (s.data.toList.drop a) 0 0
  have hl : (s.data.toList.drop a).length = s.size - a := by rw [List.length_drop, data_length]
  unfold Hw.rtext
  generalize hR : Hw.rnum (s.data.toList.drop a) 0 0 = R at *
  obtain ⟨n, e, u⟩ := R
  simp only at *
  rw [hl] at hu ⊢
  refine Ev.bind h1 (Ev.congr (f := fun _ => some _) (fun k => ?_) (Ev.now _))
  simp only
  by_cases he : e = 0
  · rw [if_pos he, if_pos he, if_pos ⟨by trivial, by omega, by omega, by omega, by omega, by omega⟩]
    by_cases hn : s.size - a < u + n
    · rw [if_pos hn, if_pos (by omega)]
      rfl
    · rw [if_neg hn, if_neg (by omega)]
      have e1 : ((a + u : Nat) : Int).toNat = a + u := by omega
      have e2 : (((a + u : Nat) : Int) + (n : Int)).toNat = (a + u) + n := by omega
      rw [e1, e2, pack_Reader_Text.extract_list, List.drop_drop]
      simp only [Nat.add_assoc, Int.natCast_add, Int.add_assoc]
  · rw [if_neg he, if_neg he]
    obtain ⟨h3, h4⟩ := hu.2.1 he
    subst h4
    rw [if_pos (by simp)]
    rfl
set_option maxHeartbeats 2000000 in
set_option maxRecDepth 100000 in
theorem pack_Reader_Text.calls (k : Nat) (g : Nat) (s : ByteArray) (a : Int) (r1 : ByteArray) (r2 : Int) (r3 : ByteArray) (r4 : Int) (w0 w : World) (hI : IsS127 w0 w g s a) (hB : Below w0.heap.size w0 w) (h : pack_Reader_Text.f k s a = some (r1, r2, r3, r4)) :
    Calls Try.prog 73 #[.pointer (some ⟨g, 0, none⟩)] w fun e w' => e = .returned (.tuple #[.string r1, .int .i64 r2]) ∧ IsS127 w0 w' g r3 r4 ∧ Below w0.heap.size w0 w' ∧ KeepBut w w' g none := by
  unfold pack_Reader_Text.f at h
  obtain ⟨⟨n, e, s', a'⟩, hN, h⟩ := Option.bind_eq_some_iff.1 h
  have HN := Aside0.mk (fun W (hI : IsS127 w0 W g s a) (hB : Below w0.heap.size w0 W) => pack_Reader_Number.calls k g s a n e s' a' w0 W hI hB hN)
  have HI := Aside0.mk hI
  have HB := Aside0.mk hB
  have hgl : g < w.heap.size := hI.lt
  have hne0 : ¬ g = w.heap.size := by omega
  have hne1 : ¬ g = w.heap.size + 1 := by omega
  have hne2 : ¬ g = w.heap.size + 1 + 1 := by omega
  have hne3 : ¬ g = w.heap.size + 2 := by omega
  have hg0 : w.cell? ⟨g, 0, none⟩ = some (.string s) := cellS127_0 hI.1
  have hg1 : w.cell? ⟨g, 1, none⟩ = some (.int .i64 a) := cellS127_1 hI.1
  have hmf : ∀ (fn : Fn) (first cap : Array Value) (w : World), (Instr.makeFunc fn first cap).run Try.prog w = .ok (.func fn first cap) w := fun _ _ _ _ => rfl
  have hgA := fun o1 o2 => Hw.cell_al (Hw.cell_al hg1 o1) o2
  clear hI hB hN hgl
  simp only at h
  by_cases he : e = 0
  · rw [if_pos he] at h
    subst he
    by_cases hc : s' = s ∧ s.size ≤ 9223372036854775807 ∧ 0 ≤ a ∧ 0 ≤ a' ∧ a' ≤ (s.size : Int) ∧ 0 ≤ n
    case neg => rw [if_neg hc] at h; cases h
    rw [if_pos hc] at h
    obtain ⟨rfl, hc1, hc2, hc3, hc4, hc5⟩ := hc
    by_cases hn : n > (s'.size : Int) - a'
    · rw [if_pos hn] at h
      simp only [Option.some.injEq, Prod.mk.injEq] at h
      obtain ⟨rfl, rfl, rfl, rfl⟩ := h
      have hnb : decide ((s'.size : Int) - a' < n) = true := decide_eq_true hn
      go_enter_defers Try.func73, Try.ntmps73
      go_wp2_with (go_at_call 72; refine (HN.out _ (by repeat' (first | exact HI.out | apply IsS127.alloc)) (by repeat' (first | exact HB.out | apply below_alloc))).mono ?_; rintro e4 w4 ⟨rfl, hI4, hB4, hK4⟩; have I4 := Aside0.mk hI4; have B4 := Aside0.mk hB4; have K4 := Aside0.mk hK4; have b0 := hK4.blk (Hw.blk_al (Hw.blk_al (Hw.blk_nw w _) _) _) (fun h => hne0 h.symm) (by simp); have b1 := hK4.blk (Hw.blk_al (Hw.blk_nw1 w _ _) _) (fun h => hne1 h.symm) (by simp); have b2 := hK4.blk (Hw.blk_nw2 w _ _ _) (fun h => hne2 h.symm) (by simp); have c0 := blk_cell b0 0; have c1 := blk_cell b1 0; have c2 := blk_cell b2 0; have f1 := blk_frozen b1 0; have c3 := cellS127_0 hI4.1; have c4 := cellS127_1 hI4.1; have f4 := blk_frozen hI4.1 1; simp only [List.getElem?_toArray, List.getElem?_cons_zero] at c0 c1 c2; clear b0 b1 b2 hI4 hB4 hK4)
      go_quiet (fail)
      go_wp2
      refine leaves_cons (f := 85) (args := #[.pointer (some ⟨w.heap.size + 1, 0, none⟩), .pointer (some ⟨w.heap.size + 1 + 1, 0, none⟩), .pointer (some ⟨w.heap.size, 0, none⟩)]) (by simp) (by simp [go_sem]) ?_
      refine (pack_Reader_Text.d_bad _ _ _ g a a' 20 .returning _ (by decide) ?h1 ?h2 ?h3 ?h4 ?h5).mono ?_
      case h1 => simp [go_sem, c1]
      case h2 => simp [go_sem, c2]
      case h3 => simp [go_sem, c0]
      case h4 => simp [go_sem, c4, hne1]
      case h5 => simp [go_sem, f4]
      rintro e5 u' w5 ⟨rfl, rfl, rfl⟩
      refine ⟨.tuple #[.string .empty, .int .i64 20], by simp [results, Try.results73, go_sem, hne1, c1, f1]; rfl, rfl, ?_, ?_, ?_⟩
      · refine IsS127.set_1 (f1 := a') ?_ _
        repeat' (first | exact I4.out | refine IsS127.far ?_ (by simpa using hne1) _ | apply IsS127.drewN | apply IsS127.drew)
      · have hg := HI.out.ge
        have hs := HB.out.size
        repeat' (first | exact B4.out | refine Below.setCell ?_ (by simp only; omega) _ | refine pw_below_drewN ?_ _ | apply Below.drew)
      · repeat' (first | exact Hw.keep_al (Hw.keep_al (Hw.keep_al K4.out)) | apply KeepBut.set_ | refine Hw.keep_new ?_ (by simp only; omega) _ | apply keep_drewN | apply keep_drew)
    · rw [if_neg hn] at h
      simp only [Option.some.injEq, Prod.mk.injEq] at h
      obtain ⟨rfl, rfl, rfl, rfl⟩ := h
      have hnb : decide ((s'.size : Int) - a' < n) = false := decide_eq_false (by omega)
      go_enter_defers Try.func73, Try.ntmps73
      go_wp2_with (go_at_call 72; refine (HN.out _ (by repeat' (first | exact HI.out | apply IsS127.alloc)) (by repeat' (first | exact HB.out | apply below_alloc))).mono ?_; rintro e4 w4 ⟨rfl, hI4, hB4, hK4⟩; have I4 := Aside0.mk hI4; have B4 := Aside0.mk hB4; have K4 := Aside0.mk hK4; have b0 := hK4.blk (Hw.blk_al (Hw.blk_al (Hw.blk_nw w _) _) _) (fun h => hne0 h.symm) (by simp); have b1 := hK4.blk (Hw.blk_al (Hw.blk_nw1 w _ _) _) (fun h => hne1 h.symm) (by simp); have b2 := hK4.blk (Hw.blk_nw2 w _ _ _) (fun h => hne2 h.symm) (by simp); have c0 := blk_cell b0 0; have c1 := blk_cell b1 0; have c2 := blk_cell b2 0; have f1 := blk_frozen b1 0; have c3 := cellS127_0 hI4.1; have c4 := cellS127_1 hI4.1; have f4 := blk_frozen hI4.1 1; simp only [List.getElem?_toArray, List.getElem?_cons_zero] at c0 c1 c2; clear b0 b1 b2 hI4 hB4 hK4)
      go_quiet (fail)
      go_wp2
      obtain ⟨W5, hW5⟩ : ∃ W5 : World, W5 = ((w4.setCell ⟨w.heap.size + 1, 0, none⟩ (.int .i64 0)).drewN nq).setCell ⟨g, 1, none⟩ (.int .i64 (a' + n)) := ⟨_, rfl⟩
      have d0 : W5.cell? ⟨w.heap.size, 0, none⟩ = some (.pointer (some ⟨g, 0, none⟩)) := by rw [hW5]; simp [go_sem, c0, hne0]
      have d1 : W5.cell? ⟨w.heap.size + 1, 0, none⟩ = some (.int .i64 0) := by rw [hW5]; simp [go_sem, c1, hne1]
      have e1 : W5.frozen? ⟨w.heap.size + 1, 0, none⟩ = false := by rw [hW5]; simp [go_sem, f1, hne1]
      have d3 : W5.cell? ⟨g, 0, none⟩ = some (.string s') := by rw [hW5]; simp [go_sem, c3, hne1]
      have d4 : W5.cell? ⟨g, 1, none⟩ = some (.int .i64 (a' + n)) := by rw [hW5]; simp [go_sem, c4, hne1]
      rw [← hW5]
      have HW5 := Aside0.mk hW5
      clear hW5 c0 c1 c2 c3 c4 f1 f4 hgA hg0 hg1 hnb
      have hsl : ∀ W, (Instr.slice 9 (.string s') (some (.int .i64 a')) (some (.int .i64 (a' + n))) none).run Try.prog W = .ok (.string (s'.extract a'.toNat (a' + n).toNat)) W := fun W => run_slice_string _ _ _ _ _ _ _ Try.underlying9 hc3 (by omega) (by omega)
      have hwr : IntKind.i64.wrap a' = a' := IntWalk.i64_in _ (by omega)
      go_still_tail 16, (by kernel_rfl)
      change wpList _ _ _ _ _ W5.drew
      go_wp2
      refine leaves_cons (f := 85) (args := #[.pointer (some ⟨w.heap.size + 1, 0, none⟩), .pointer (some ⟨w.heap.size + 1 + 1, 0, none⟩), .pointer (some ⟨w.heap.size, 0, none⟩)]) (by simp) (by simp [go_sem]) ?_
      refine (pack_Reader_Text.d_ok _ _ _ .returning _ ?h1).mono ?_
      case h1 => simp [go_sem, d1]
      rintro e5 u' w5 ⟨rfl, rfl, rfl⟩
      refine ⟨.tuple #[.string (s'.extract a'.toNat (a' + n).toNat), .int .i64 0], by simp [results, Try.results73, go_sem, hne1, d1, e1], rfl, ?_, ?_, ?_⟩
      · have h5 : IsS127 w0 W5 g s' (a' + n) := by
          rw [HW5.out]
          refine IsS127.set_1 (f1 := a') ?_ _
          repeat' (first | exact I4.out | refine IsS127.far ?_ (by simpa using hne1) _ | apply IsS127.drewN)
        repeat' (first | exact h5 | refine IsS127.far ?_ (by simpa using hne1) _ | apply IsS127.drew)
      · have hg := HI.out.ge
        have hs := HB.out.size
        rw [HW5.out]
        repeat' (first | exact B4.out | refine Below.setCell ?_ (by simp only; omega) _ | refine pw_below_drewN ?_ _ | apply Below.drew)
      · rw [HW5.out]
        repeat' (first | exact Hw.keep_al (Hw.keep_al (Hw.keep_al K4.out)) | apply KeepBut.set_ | refine Hw.keep_new ?_ (by simp only; omega) _ | apply keep_drewN | apply keep_drew)
  · rw [if_neg he] at h
    have HH := Aside0.mk h
    clear h
    have he1 : (e == 0) = false := by simpa using he
    have he2 : (e != 0) = true := by simpa using he
    clear he
    go_enter_defers Try.func73, Try.ntmps73
    go_wp2_with (go_at_call 72; refine (HN.out _ (by repeat' (first | exact HI.out | apply IsS127.alloc)) (by repeat' (first | exact HB.out | apply below_alloc))).mono ?_; rintro e4 w4 ⟨rfl, hI4, hB4, hK4⟩; have I4 := Aside0.mk hI4; have B4 := Aside0.mk hB4; have K4 := Aside0.mk hK4; have b0 := hK4.blk (Hw.blk_al (Hw.blk_al (Hw.blk_nw w _) _) _) (fun h => hne0 h.symm) (by simp); have b1 := hK4.blk (Hw.blk_al (Hw.blk_nw1 w _ _) _) (fun h => hne1 h.symm) (by simp); have b2 := hK4.blk (Hw.blk_nw2 w _ _ _) (fun h => hne2 h.symm) (by simp); have c0 := blk_cell b0 0; have c1 := blk_cell b1 0; have c2 := blk_cell b2 0; have f1 := blk_frozen b1 0; have c3 := cellS127_0 hI4.1; have c4 := cellS127_1 hI4.1; have f4 := blk_frozen hI4.1 1; simp only [List.getElem?_toArray, List.getElem?_cons_zero] at c0 c1 c2; clear b0 b1 b2 hI4 hB4 hK4)
    go_region
    all_goals go_wp2
    all_goals
      refine leaves_cons (f := 85) (args := #[.pointer (some ⟨w.heap.size + 1, 0, none⟩), .pointer (some ⟨w.heap.size + 1 + 1, 0, none⟩), .pointer (some ⟨w.heap.size, 0, none⟩)]) (by simp) (by simp [go_sem]) ?_
      refine (pack_Reader_Text.d_bad _ _ _ g a a' e .returning _ he1 ?h1 ?h2 ?h3 ?h4 ?h5).mono ?_
      case h1 => simp [go_sem, c1]
      case h2 => simp [go_sem, c2]
      case h3 => simp [go_sem, c0]
      case h4 => simp [go_sem, c4, hne1]
      case h5 => simp [go_sem, f4]
      rintro e5 u' w5 ⟨rfl, rfl, rfl⟩
      have HH := HH.out
      by_cases hp : (s', a') = (s, a)
      · rw [if_pos hp] at HH
        obtain ⟨rfl, rfl⟩ := Prod.mk.inj hp
        simp only [Option.some.injEq, Prod.mk.injEq] at HH
        obtain ⟨rfl, rfl, rfl, rfl⟩ := HH
        refine ⟨.tuple #[.string .empty, .int .i64 e], by simp [results, Try.results73, go_sem, hne1, c1, f1]; rfl, rfl, ?_, ?_, ?_⟩
        · refine IsS127.set_1 (f1 := a') ?_ _
          repeat' (first | exact I4.out | refine IsS127.far ?_ (by simpa using hne1) _ | apply IsS127.drew)
        · have hg := HI.out.ge
          have hs := HB.out.size
          repeat' (first | exact B4.out | refine Below.setCell ?_ (by simp only; omega) _ | apply Below.drew)
        · repeat' (first | exact Hw.keep_al (Hw.keep_al (Hw.keep_al K4.out)) | apply KeepBut.set_ | refine Hw.keep_new ?_ (by simp only; omega) _ | apply keep_drew)
      · rw [if_neg hp] at HH; cases HH

/-! ### pack_Reader_End: function 74 -/
def pack_Reader_End.f (s0_0 : ByteArray) (s0_1 : Int) : Option (Int × ByteArray × Int) := if s0_1 < (s0_0.size : Int) then (some (21, s0_0, s0_1)) else (some (0, s0_0, s0_1))
set_option maxHeartbeats 8000000 in
set_option maxRecDepth 100000 in
theorem pack_Reader_End.calls (g : Nat) (s0_0 : ByteArray) (s0_1 : Int) (r1 : Int) (r2 : ByteArray) (r3 : Int) (w0 w : World) (hI : IsS127 w0 w g s0_0 s0_1) (hB : Below w0.heap.size w0 w) (h : pack_Reader_End.f s0_0 s0_1 = some (r1, r2, r3)) :
    Calls Try.prog 74 #[.pointer (some ⟨g, 0, none⟩)] w fun e w' => e = .returned (.int .i64 r1) ∧ IsS127 w0 w' g r2 r3 ∧ Below w0.heap.size w0 w' ∧ KeepBut w w' g none := by
  have HI0 := Aside0.mk hI
  have HK := Aside0.mk (KeepBut.refl w g none)
  have HL := Aside0.mk hB.size
  clear hI
  have HW0 := Aside0.mk hB.size
  have HB := Aside0.mk hB
  clear hB
  have H : (if s0_1 < (s0_0.size : Int) then (some (21, s0_0, s0_1)) else (some (0, s0_0, s0_1))) = some (r1, r2, r3) := h
  clear h
  by_cases c2 : s0_1 < (s0_0.size : Int)
  · rw [if_pos c2] at H
    have c2b0 : decide (s0_1 < (s0_0.size : Int)) = true := decide_eq_true c2
    clear c2
    simp only [Option.some.injEq, Prod.mk.injEq] at H
    obtain ⟨rfl, rfl, rfl⟩ := H
    obtain ⟨HGz3, hgz3⟩ := HI0.out
    have hcz3_0 := cellS127_0 HGz3
    have hcz3_1 := cellS127_1 HGz3
    have hfz3_0 := blk_frozen HGz3 0
    have hfz3_1 := blk_frozen HGz3 1
    clear HGz3 hgz3
    go_enter Try.func74, Try.ntmps74
    go_wp2
    repeat (go_quiet (fail); try go_wp2)
    go_ret
    exact ⟨by first | rfl | (simp [errW_none, errW_some] <;> rfl) | (simp [*, errW_none, errW_some] <;> rfl), by repeat (first | (with_reducible first | exact HI0.out | apply IsS127.alloc | apply IsS127.drewN | apply IsS127.drew | apply IsS127.set_0 | apply IsS127.set_1) | exact HI0.out), by repeat (first | (with_reducible first | exact HB.out | apply below_alloc | apply pw_below_drewN | apply below_drew1 | refine below_set ?_ (IsS127.ge HI0.out)) | exact HB.out), by repeat (first | (with_reducible first | exact HK.out | apply KeepBut.set_ | apply keep_drewN | apply keep_drew | apply keep_alloc) | exact HK.out)⟩
  · rw [if_neg c2] at H
    have c2b0 : decide (s0_1 < (s0_0.size : Int)) = false := decide_eq_false c2
    clear c2
    simp only [Option.some.injEq, Prod.mk.injEq] at H
    obtain ⟨rfl, rfl, rfl⟩ := H
    obtain ⟨HGz4, hgz4⟩ := HI0.out
    have hcz4_0 := cellS127_0 HGz4
    have hcz4_1 := cellS127_1 HGz4
    have hfz4_0 := blk_frozen HGz4 0
    have hfz4_1 := blk_frozen HGz4 1
    clear HGz4 hgz4
    go_enter Try.func74, Try.ntmps74
    go_wp2
    repeat (go_quiet (fail); try go_wp2)
    go_ret
    exact ⟨by first | rfl | (simp [errW_none, errW_some] <;> rfl) | (simp [*, errW_none, errW_some] <;> rfl), by repeat (first | (with_reducible first | exact HI0.out | apply IsS127.alloc | apply IsS127.drewN | apply IsS127.drew | apply IsS127.set_0 | apply IsS127.set_1) | exact HI0.out), by repeat (first | (with_reducible first | exact HB.out | apply below_alloc | apply pw_below_drewN | apply below_drew1 | refine below_set ?_ (IsS127.ge HI0.out)) | exact HB.out), by repeat (first | (with_reducible first | exact HK.out | apply KeepBut.set_ | apply keep_drewN | apply keep_drew | apply keep_alloc) | exact HK.out)⟩

end Go.Proofs.Ytfdccgpbdcdgmaa.PLogRoom
