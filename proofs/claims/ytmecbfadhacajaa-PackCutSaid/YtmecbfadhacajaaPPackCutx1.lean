-- By a program of this session (wip/tools/mkprint.py), for this claim.
import Derived.Test.YtmecbfadhacajaaPPackCutx0
namespace Go.Proofs.Ytmecbfadhacajaa.PPackCut
open Go.RowKit Go.Proofs.YtmecbfadhacajaaW.PrintWords Go.Proofs.YtmecbfadhacajaaW.PrintLast Go.Proofs.YtmecbfadhacajaaW.PrintMore
attribute [local go_sem] max2_int min2_int max_two min_two max_three min_three max_four min_four   -- for this text's walks alone
set_option linter.unusedVariables false
set_option linter.unusedSimpArgs false

-- NOT PRINTED: function 27 (abi_NoEscape)

/-! ### strings_Builder_copyCheck: function 26 (by hand) -/
/-- A strings.Builder that holds the bytes bs: alone, or as the one field of a struct of type T. One that holds none has no row of bytes. -/
def strings_Builder_copyCheck.Wr (T : TypeId) (B b : Nat) (bs : List Value) (w : World) : Prop := Lib.IsBuilderF T 5 B b bs w ∧ (bs = [] → w.cell? ⟨b, 1, none⟩ = some (.slice none 0 0))
def strings_Builder_copyCheck.Ok (T : TypeId) : Prop := liesAt Try.prog Try.prog.depth T (2 / Try.prog.cellsOf T) 0 30 1 = true ∧ T ≠ 5
set_option maxRecDepth 100000 in
theorem strings_Builder_copyCheck.used (b : Nat) (w : World) (h0 : w.cell? ⟨b, 0, none⟩ = some (.pointer (some ⟨b, 0, none⟩))) :
    Calls Try.prog 26 #[.pointer (some ⟨b, 0, none⟩)] w fun e w' => e = .returned (.tuple #[]) ∧ w' = w := by
  obtain ⟨j, hj, _⟩ := Option.map_eq_some_iff.1 (show (Try.prog.info? 30).map (·.size) = some 2 from by kernel_rfl)
  go_enter Try.func26, Try.ntmps26
  go_wp2
  rw [Lib.run_neq_ptr_same w _ Try.underlying27 hj]
  go_wp2
  go_end0
  exact ⟨rfl, rfl⟩
set_option maxRecDepth 100000 in
theorem strings_Builder_copyCheck.fresh (T : TypeId) (hT : liesAt Try.prog Try.prog.depth T (2 / Try.prog.cellsOf T) 0 30 1 = true) (b : Nat) (w : World) (h0 : w.cell? ⟨b, 0, none⟩ = some (.pointer none)) (hsh : w.shape? b = some (T, 2)) (hfz : w.frozen? ⟨b, 0, none⟩ = false) :
    Calls Try.prog 26 #[.pointer (some ⟨b, 0, none⟩)] w fun e w' => e = .returned (.tuple #[]) ∧ w' = w.setCell ⟨b, 0, none⟩ (.pointer (some ⟨b, 0, none⟩)) := by
  obtain ⟨j, hj, hjs⟩ := Option.map_eq_some_iff.1 (show (Try.prog.info? 30).map (·.size) = some 2 from by kernel_rfl)
  have HT := Lib.hid hT
  clear hT
  go_enter Try.func26, Try.ntmps26
  go_wp2
  rw [Lib.run_to_unsafe w ⟨b, 0, none⟩ Try.underlying27 Try.underlying64 hj (by rw [hjs]; decide) hsh (Nat.zero_lt_succ 1)]
  simp only [Result.andThen]
  rw [Oper.upon_value]
  go_wp2
  rw [run_callFunc_extern Try.func27 (by kernel_rfl) (by kernel_rfl) (by kernel_rfl) (e := Extern.AbiNoEscape.same) (by kernel_rfl)]
  rw [Lib.run_noEscape]
  simp only [Result.andThen]
  rw [Oper.upon_value]
  go_wp2
  rw [Lib.run_from_unsafe w ⟨b, 0, none⟩ Try.underlying64 Try.underlying27 hj hsh HT.out]
  simp only [Result.andThen]
  rw [Oper.upon_value]
  go_wp2
  go_end0
  exact ⟨rfl, rfl⟩
theorem strings_Builder_copyCheck.calls (T : TypeId) (hT : strings_Builder_copyCheck.Ok T) (B b : Nat) (bs : List Value) (w : World) (h : Lib.IsBuilderF T 5 B b bs w) :
    Calls Try.prog 26 #[.pointer (some ⟨b, 0, none⟩)] w fun e w' => e = .returned (.tuple #[]) ∧ Lib.BuilderAtF T 5 B b (.pointer (some ⟨b, 0, none⟩)) bs w' ∧ Below B w w' := by
  rcases h with h | h
  · refine (strings_Builder_copyCheck.fresh T hT.1 b w h.cell0 h.shape h.frozen0).mono ?_
    rintro e w' ⟨rfl, rfl⟩
    exact ⟨rfl, h.used _, (Below.refl B w).setCell (p := ⟨b, 0, none⟩) h.1 _⟩
  · refine (strings_Builder_copyCheck.used b w h.cell0).mono ?_
    rintro e w' ⟨rfl, rfl⟩
    exact ⟨rfl, h, Below.refl B _⟩
theorem strings_Builder_copyCheck.fresh_wr (T : TypeId) (w : World) : strings_Builder_copyCheck.Wr T w.heap.size w.heap.size (Lib.byteCells []) (w.alloc (.cells #[.pointer none, .slice none 0 0] T)) := by
  refine ⟨Lib.IsBuilderF.of (Lib.fresh_isBuilder T 5 w), fun _ => ?_⟩
  have h : (w.alloc (.cells #[.pointer none, .slice none 0 0] T)).heap[w.heap.size]? = some (.cells #[.pointer none, .slice none 0 0] T (0, 0)) := heap_alloc_new w _
  rw [Lib.cell_of_heap h]
  rfl
theorem strings_Builder_copyCheck.Wr.below {T : TypeId} {B b : Nat} {bs : List Value} {w w' : World} (h : strings_Builder_copyCheck.Wr T B b bs w) (hb : Below w.heap.size w w') : strings_Builder_copyCheck.Wr T B b bs w' := by
  have hat : ∀ p, Lib.BuilderAtF T 5 B b p bs w → Lib.BuilderAtF T 5 B b p bs w' := by
    intro p hp
    have hlt := hp.lt
    obtain ⟨hB, v, hbk, hown, hne⟩ := hp
    exact ⟨hB, v, (hb.block b hlt).trans hbk, hown.kept (grown_of_below hb none) (by cases v.ownBlock <;> simp), hne⟩
  have hlt : b < w.heap.size := by rcases h.1 with h | h <;> exact h.lt
  exact ⟨h.1.imp (hat _) (hat _), fun e => (hb.cell (p := ⟨b, 1, none⟩) hlt).trans (h.2 e)⟩
theorem strings_Builder_copyCheck.Wr.lt {T : TypeId} {B b : Nat} {bs : List Value} {w : World} (h : strings_Builder_copyCheck.Wr T B b bs w) : b < w.heap.size := by rcases h.1 with h | h <;> exact h.lt

/-! ### strings_Builder_WriteByte: function 22 (by hand) -/
set_option maxHeartbeats 2000000 in
set_option maxRecDepth 100000 in
theorem strings_Builder_WriteByte.calls (T : TypeId) (hT : strings_Builder_copyCheck.Ok T) (B b : Nat) (bs : List Value) (c : Int) (w : World) (h : Lib.IsBuilderF T 5 B b bs w) (hlen : bs.length + 1 ≤ 140737488355328) (hBw : B ≤ w.heap.size) :
    Calls Try.prog 22 #[.pointer (some ⟨b, 0, none⟩), .int .u8 c] w fun e w' => e = .returned .nilIface ∧ Lib.BuilderAtF T 5 B b (.pointer (some ⟨b, 0, none⟩)) (bs ++ [.int .u8 c]) w' ∧ Below B w w' := by
  obtain ⟨i0, hi, hz0, hz1, hz2⟩ := info_parts (show (Try.prog.info? 5).map (fun i => (i.zero, i.size, i.bytes)) = some (some (.int .u8 0), 1, 1) from by kernel_rfl)
  have HT := Aside0.mk (strings_Builder_copyCheck.calls T hT B b bs)
  have HTE := Lib.hid hT.2
  clear hT
  have H := Aside0.mk h
  clear h
  go_enter Try.func22, Try.ntmps22
  go_wp2_with (go_at_call 26; refine (HT.out _ H.out).mono ?_)
  rintro e w1 ⟨rfl, h1, hb1⟩
  obtain ⟨hB, v, hbk, hown, hne⟩ := h1
  have c0 : w1.cell? ⟨b, 0, none⟩ = some (.pointer (some ⟨b, 0, none⟩)) := by rw [Lib.cell_of_heap hbk]; rfl
  have c1 : w1.cell? ⟨b, 1, none⟩ = some v := by rw [Lib.cell_of_heap hbk]; rfl
  go_wp2_with (at_builtin; refine wpList_append_ownF _ rfl _ _ 28 rfl B 5 i0 (.int .u8 0) 1 1 Try.underlying28 hi hz0 hz1 hz2 rfl (by decide) _ _ _ rfl (hown.alloc _) ⟨w1.heap.size, 0, none⟩ 1 1 [.int .u8 c] rfl rfl ?c1 ?c2 ?c3 ?c4 ?c5 ?_)
  case c1 =>
    intro j u hj
    match j, hj with
    | 0, hj => simp at hj; subst hj; simp [Addr.add]
  case c2 => intro u hu; simp at hu; subst hu; rfl
  case c3 => unfold maxLen; omega
  case c4 => omega
  case c5 => have := hb1.size; simp; omega
  intro v' w2 hown' hgrow _
  have hlt : b < w1.heap.size := by
    rcases Nat.lt_or_ge b w1.heap.size with h' | h'
    · exact h'
    · simp [Array.getElem?_eq_none h'] at hbk
  have hb2 : w2.heap[b]? = some (.cells #[.pointer (some ⟨b, 0, none⟩), v] T (0, 0)) := by
    rw [hgrow.block b (by simp; omega) (fun e => hne e.symm), Lib.alloc_old w1 _ b hlt]
    exact hbk
  have d0 : w2.cell? ⟨b, 0, none⟩ = some (.pointer (some ⟨b, 0, none⟩)) := by rw [Lib.cell_of_heap hb2]; rfl
  have d1 : w2.cell? ⟨b, 1, none⟩ = some v := by rw [Lib.cell_of_heap hb2]; rfl
  have f1 : w2.frozen? ⟨b, 1, none⟩ = false := Lib.frozen_of_heap hb2 1
  obtain ⟨g, cap, rfl⟩ : ∃ g cap, v' = .slice (some ⟨g, 0, none⟩) (bs.length + 1) cap := by
    rcases hown'.2 with ⟨_, h0⟩ | ⟨g, cap, cur, fz, hv, _⟩
    · omega
    · exact ⟨g, cap, hv⟩
  go_wp2
  go_ret
  refine ⟨rfl, ?_, ?_⟩
  · exact Lib.BuilderAtF.put (T := T) (e := 5) hB hb2 (bs' := bs ++ [.int .u8 c]) (by simpa using hown') HTE.out
  · exact ((hb1.alloc (by have := hb1.size; omega) _).grown hgrow (by have := hb1.size; simp; omega) (fun k hk => (hown.lt k hk).1)).setCell (p := ⟨b, 1, none⟩) hB _

/-! ### pack_Writer_Number: function 12 (by hand) -/
theorem pack_Writer_Number.cells_snoc (l : List UInt8) (c : UInt8) : Lib.byteCells l ++ [.int .u8 (c.toNat : Int)] = Lib.byteCells (l ++ [c]) := by simp [Lib.byteCells]
set_option maxRecDepth 100000 in
theorem pack_Writer_Number.or_bits : ∀ x : Fin 256, Go.bits .or .u8 (x.val : Int) 128 = ((x.val % 128 + 128 : Nat) : Int) := by decide
theorem pack_Writer_Number.hi_byte (m : Nat) : Go.bits .or .u8 ((m : Int) % 256) 128 = ((UInt8.ofNat (m % 128 + 128)).toNat : Int) := by
  have h := pack_Writer_Number.or_bits ⟨m % 256, Nat.mod_lt _ (by decide)⟩
  rw [show ((m : Int) % 256) = ((m % 256 : Nat) : Int) by omega]
  refine h.trans ?_
  show ((m % 256 % 128 + 128 : Nat) : Int) = _
  rw [UInt8.toNat_ofNat']
  omega
theorem pack_Writer_Number.lo_byte (m : Nat) (h : m < 128) : (m : Int) = ((UInt8.ofNat m).toNat : Int) := by
  rw [UInt8.toNat_ofNat']
  omega
set_option maxHeartbeats 2000000 in
set_option maxRecDepth 100000 in
theorem pack_Writer_Number.calls (B b : Nat) (bs : List UInt8) (n : Int) (w : World) (h : strings_Builder_copyCheck.Wr 32 B b (Lib.byteCells bs) w) (hlen : bs.length + 16 ≤ 140737488355328) (hBw : B ≤ w.heap.size) :
    Calls Try.prog 12 #[.pointer (some ⟨b, 0, none⟩), .int .i64 n] w fun e w' => e = .returned (.tuple #[]) ∧ strings_Builder_copyCheck.Wr 32 B b (Lib.byteCells (bs ++ Hw.code (Hw.clamp n))) w' ∧ Below B w w' := by
  have HW := Aside0.mk h
  clear h
  have hT : strings_Builder_copyCheck.Ok 32 := ⟨by kernel_rfl, by decide⟩
  have HWB := Aside0.mk (fun bs c w => strings_Builder_WriteByte.calls 32 hT B b bs c w)
  clear hT
  obtain ⟨p, hp⟩ : ∃ p, (if (72057594037927935 : Int) < n then 72057594037927935 else n) = p := ⟨_, rfl⟩
  have hcl : (if (0 : Int) < p then p else 0) = ((Hw.clamp n : Nat) : Int) := by
    rw [← hp]
    unfold Hw.clamp
    split <;> split <;> (try split) <;> omega
  have HM := Lib.hid (Hw.clamp_lt n)
  generalize Hw.clamp n = m0 at hcl HM ⊢
  go_enter Try.func12, Try.ntmps12
  go_wp2_with (fail)
  clear hp hcl
  go_loopg [1] 10 (fun gg v1 wq => ∃ (m : Nat) (pre : List UInt8), v1 = .int .i64 (m : Int) ∧ m < 128 ^ gg ∧ m < 72057594037927936 ∧ pre ++ Hw.code m = Hw.code m0 ∧ Aside0 (strings_Builder_copyCheck.Wr 32 B b (Lib.byteCells (bs ++ pre)) wq) ∧ Aside0 (Below B w wq))
  case atStart => exact ⟨m0, [], rfl, Nat.lt_of_lt_of_le HM.out (by decide), HM.out, rfl, ⟨by rw [List.append_nil]; exact HW.out⟩, ⟨Below.refl _ _⟩⟩
  case round =>
    obtain ⟨m, pre, rfl, hm, hm2, hpre, HWr, HB⟩ := hrel
    have hpl : pre.length ≤ 8 := by
      have h1 := Hw.code_len 7 m0 HM.out
      rw [← hpre, List.length_append] at h1
      omega
    have HP := Aside0.mk hpre
    clear hpre
    have hcl : (Lib.byteCells (bs ++ pre)).length + 1 ≤ 140737488355328 := by rw [Lib.byteCells_length, List.length_append]; omega
    have hbw : B ≤ wr.heap.size := Nat.le_trans hBw HB.out.size
    by_cases hlt : (127 : Int) < (m : Int)
    · have hhb := pack_Writer_Number.hi_byte m
      have HSH := Lib.hid (show (m : Int) / 128 = ((m / 128 : Nat) : Int) by omega)
      obtain ⟨gk, rfl⟩ : ∃ q, gk = q + 1 := by
        cases gk with
        | zero => rw [Nat.pow_zero] at hm; omega
        | succ q => exact ⟨q, rfl⟩
      have HMK := Aside0.mk hm
      have HM2 := Aside0.mk hm2
      clear hm hm2
      go_wp2_with (go_at_call 22; refine (HWB.out _ _ _ HWr.out.1 hcl hbw).mono ?_; rintro e w3 ⟨rfl, h3, hb3⟩; have H3 := Aside0.mk h3; have HB3 := Aside0.mk hb3; clear h3 hb3)
      go_roundg gk
      case measure => omega
      case rel =>
        refine ⟨m / 128, pre ++ [UInt8.ofNat (m % 128 + 128)], by first | go_num | rw [HSH.out], Nat.div_lt_of_lt_mul (by have hm := HMK.out; rw [Nat.pow_succ] at hm; omega), by have := HM2.out; omega, ?_, ⟨?_⟩, ⟨?_⟩⟩
        · rw [List.append_assoc, List.singleton_append, ← Hw.code_hi m (by omega)]
          exact HP.out
        · have h9 := H3.out
          have hv : (((m : Int) % 128 + 128) % 256) = ((UInt8.ofNat (m % 128 + 128)).toNat : Int) := by rw [UInt8.toNat_ofNat']; omega
          rw [hv, pack_Writer_Number.cells_snoc, List.append_assoc] at h9
          exact ⟨.inr h9, fun e => absurd (congrArg List.length e) (by simp [Lib.byteCells])⟩
        · exact HB.out.trans HB3.out
    · have HLB := Lib.hid (pack_Writer_Number.lo_byte m (by omega))
      go_wp2_with (go_at_call 22; refine (HWB.out _ _ _ HWr.out.1 hcl hbw).mono ?_; rintro e w3 ⟨rfl, h3, hb3⟩; have H3 := Aside0.mk h3; have HB3 := Aside0.mk hb3; clear h3 hb3)
      go_end0
      refine ⟨rfl, ?_, HB.out.trans HB3.out⟩
      have h9 := H3.out
      have hb : (Lib.byteCells (bs ++ pre) ++ [Value.int .u8 (m : Int)]) = Lib.byteCells (bs ++ Hw.code m0) := by
        rw [HLB.out, pack_Writer_Number.cells_snoc, List.append_assoc, ← Hw.code_lo m (by omega), HP.out]
      rw [hb] at h9
      exact ⟨.inr h9, fun e => absurd (congrArg List.length e) (by have h8 := List.length_pos_iff.2 (Hw.code_ne m0); rw [Lib.byteCells_length, List.length_append, List.length_nil]; omega)⟩

/-! ### strings_Builder_WriteString: function 21 (by hand) -/
set_option maxHeartbeats 2000000 in
set_option maxRecDepth 100000 in
theorem strings_Builder_WriteString.calls (T : TypeId) (hT : strings_Builder_copyCheck.Ok T) (B b : Nat) (bs : List Value) (s : ByteArray) (w : World) (h : Lib.IsBuilderF T 5 B b bs w) (hlen : bs.length + s.size ≤ 140737488355328) (hBw : B ≤ w.heap.size) :
    Calls Try.prog 21 #[.pointer (some ⟨b, 0, none⟩), .string s] w fun e w' => e = .returned (.tuple #[.int .i64 s.size, .nilIface]) ∧ Lib.BuilderAtF T 5 B b (.pointer (some ⟨b, 0, none⟩)) (bs ++ Lib.strCells s) w' ∧ Below B w w' := by
  obtain ⟨i0, hi, hz0, hz1, hz2⟩ := info_parts (show (Try.prog.info? 5).map (fun i => (i.zero, i.size, i.bytes)) = some (some (.int .u8 0), 1, 1) from by kernel_rfl)
  have HT := Aside0.mk (strings_Builder_copyCheck.calls T hT B b bs)
  have HTE := Lib.hid hT.2
  clear hT
  have H := Aside0.mk h
  clear h
  go_enter Try.func21, Try.ntmps21
  go_wp2_with (go_at_call 26; refine (HT.out _ H.out).mono ?_)
  rintro e w1 ⟨rfl, h1, hb1⟩
  obtain ⟨hB, v, hbk, hown, hne⟩ := h1
  have c0 : w1.cell? ⟨b, 0, none⟩ = some (.pointer (some ⟨b, 0, none⟩)) := by rw [Lib.cell_of_heap hbk]; rfl
  have c1 : w1.cell? ⟨b, 1, none⟩ = some v := by rw [Lib.cell_of_heap hbk]; rfl
  go_wp2_with (at_builtin; refine Lib.wpList_append_own_stringF _ rfl _ _ 28 9 rfl B 5 i0 Try.underlying28 Try.underlying9 hi hz0 hz1 hz2 _ _ _ rfl hown s rfl ?c3 ?c4 ?c5 ?_)
  case c3 => unfold maxLen; omega
  case c4 => omega
  case c5 => have := hb1.size; omega
  intro v' w2 hown' hgrow _
  have hlt : b < w1.heap.size := by
    rcases Nat.lt_or_ge b w1.heap.size with h' | h'
    · exact h'
    · simp [Array.getElem?_eq_none h'] at hbk
  have hb2 : w2.heap[b]? = some (.cells #[.pointer (some ⟨b, 0, none⟩), v] T (0, 0)) := by
    rw [hgrow.block b hlt (fun e => hne e.symm)]
    exact hbk
  have d0 : w2.cell? ⟨b, 0, none⟩ = some (.pointer (some ⟨b, 0, none⟩)) := by rw [Lib.cell_of_heap hb2]; rfl
  have d1 : w2.cell? ⟨b, 1, none⟩ = some v := by rw [Lib.cell_of_heap hb2]; rfl
  have f1 : w2.frozen? ⟨b, 1, none⟩ = false := Lib.frozen_of_heap hb2 1
  obtain ⟨ao, n', cap, rfl⟩ : ∃ ao n' cap, v' = .slice ao n' cap := by
    rcases hown'.2 with ⟨hv, _⟩ | ⟨g, cap, cur, fz, hv, _⟩
    · exact ⟨_, _, _, hv⟩
    · exact ⟨_, _, _, hv⟩
  go_wp2
  go_ret2
  refine ⟨rfl, ?_, ?_⟩
  · exact Lib.BuilderAtF.put (T := T) (e := 5) hB hb2 (bs' := bs ++ Lib.strCells s) (by simpa [Lib.strCells_length] using hown') HTE.out
  · exact (hb1.grown hgrow (by have := hb1.size; omega) (fun k hk => (hown.lt k hk).1)).setCell (p := ⟨b, 1, none⟩) hB _

/-! ### pack_Writer_Text: function 10 (by hand) -/
theorem pack_Writer_Text.str_cells (s : ByteArray) : Lib.strCells s = Lib.byteCells s.data.toList := rfl
theorem pack_Writer_Text.cells_app (l l' : List UInt8) : Lib.byteCells l ++ Lib.byteCells l' = Lib.byteCells (l ++ l') := by simp [Lib.byteCells]
set_option maxHeartbeats 2000000 in
set_option maxRecDepth 100000 in
theorem pack_Writer_Text.calls (B b : Nat) (bs : List UInt8) (s : ByteArray) (w : World) (h : strings_Builder_copyCheck.Wr 32 B b (Lib.byteCells bs) w) (hs : s.size < 72057594037927936) (hlen : bs.length + s.size + 32 ≤ 140737488355328) (hBw : B ≤ w.heap.size) :
    Calls Try.prog 10 #[.pointer (some ⟨b, 0, none⟩), .string s] w fun e w' => e = .returned (.tuple #[]) ∧ strings_Builder_copyCheck.Wr 32 B b (Lib.byteCells (bs ++ (Hw.code s.size ++ s.data.toList))) w' ∧ Below B w w' := by
  have hT : strings_Builder_copyCheck.Ok 32 := ⟨by kernel_rfl, by decide⟩
  have HN := Aside0.mk (pack_Writer_Number.calls B b bs (s.size : Int) w h (by omega) hBw)
  have HWS := Aside0.mk (fun bs w => strings_Builder_WriteString.calls 32 hT B b bs s w)
  clear hT h
  have HC : Hid (Hw.clamp (s.size : Int) = s.size) := Lib.hid (by unfold Hw.clamp; rw [if_neg (by omega), if_neg (by omega)]; omega)
  have HL := Lib.hid (show (Hw.code s.size).length ≤ 8 from Hw.code_len 7 s.size hs)
  clear hs
  go_enter Try.func10, Try.ntmps10
  go_wp2_with (first | (go_at_call 12; refine HN.out.mono ?_; rintro e w3 ⟨rfl, h3, hb3⟩; have H3 := Aside0.mk h3; have HB3 := Aside0.mk hb3; clear h3 hb3) | (go_at_call 21; refine (HWS.out _ _ H3.out.1 (by have := HL.out; have := HC.out; rw [Lib.byteCells_length, List.length_append, HC.out]; omega) (Nat.le_trans hBw HB3.out.size)).mono ?_; rintro e w4 ⟨rfl, h4, hb4⟩; have H4 := Aside0.mk h4; have HB4 := Aside0.mk hb4; clear h4 hb4))
  go_end0
  refine ⟨rfl, ?_, HB3.out.trans HB4.out⟩
  have h9 := H4.out
  have hl := List.length_pos_iff.2 (Hw.code_ne s.size)
  rw [pack_Writer_Text.str_cells, pack_Writer_Text.cells_app, List.append_assoc, HC.out] at h9
  exact ⟨.inr h9, fun e => absurd (congrArg List.length e) (by rw [Lib.byteCells_length, List.length_append, List.length_append, List.length_nil]; omega)⟩

/-! ### strings_Builder_String: function 23 (by hand) -/
set_option maxHeartbeats 2000000 in
set_option maxRecDepth 100000 in
theorem strings_Builder_String.some_ (T : TypeId) (B b : Nat) (l : List UInt8) (w : World) (h : Lib.IsBuilderF T 5 B b (Lib.byteCells l) w) (h0 : l ≠ []) :
    Calls Try.prog 23 #[.pointer (some ⟨b, 0, none⟩)] w fun e w' => e = .returned (.string ⟨l.toArray⟩) ∧ Lib.IsBuilderF T 5 B b (Lib.byteCells l) w' ∧ Below B w w' := by
  obtain ⟨p, hp, hAt⟩ : ∃ p, (p = .pointer none ∨ p = .pointer (some ⟨b, 0, none⟩)) ∧ Lib.BuilderAtF T 5 B b p (Lib.byteCells l) w := by
    rcases h with h | h
    · exact ⟨_, .inl rfl, h⟩
    · exact ⟨_, .inr rfl, h⟩
  obtain ⟨hB, v, hbk, hown, hne⟩ := hAt
  have hl0 : l.length ≠ 0 := by simpa using h0
  rw [Lib.byteCells_length] at hown
  obtain ⟨g, cap, cur, fz, rfl, hbg, hg, hfz, hnc, hcm, hcs, htake⟩ : ∃ g cap cur fz, v = .slice (some ⟨g, 0, none⟩) l.length cap ∧ B ≤ g ∧ w.heap[g]? = some (.cells cur 5 fz) ∧ fz.2 ≤ l.length * 1 ∧ l.length ≤ cap ∧ cap ≤ maxLen ∧ cur.size = cap * 1 ∧ cur.toList.take (l.length * 1) = Lib.byteCells l := by
    rcases hown.2 with ⟨_, hz⟩ | ⟨g, cap, cur, fz, hv, r⟩
    · exact absurd hz hl0
    · exact ⟨g, cap, cur, fz, hv, r⟩
  have c1 : w.drew.cell? ⟨b, 1, none⟩ = some (.slice (some ⟨g, 0, none⟩) l.length cap) := by
    have : w.drew.heap[b]? = some (.cells #[p, .slice (some ⟨g, 0, none⟩) l.length cap] T (0, 0)) := hbk
    rw [Lib.cell_of_heap this]; rfl
  have hSD : (Builtin.unsafeSliceData_ #[28] 63 #[.slice (some ⟨g, 0, none⟩) l.length cap]).run Try.prog w.drew = .ok (.pointer (some ⟨g, 0, none⟩)) w.drew :=
    Lib.run_unsafeSliceData_row _ _ _ _ _ _ (by omega)
  have hUS : (Builtin.unsafeString_ #[63, 3] 9 #[.pointer (some ⟨g, 0, none⟩), .int .i64 l.length]).run Try.prog w.drew = .ok (.string ⟨l.toArray⟩) (w.drew.freeze ⟨g, 0, none⟩ l.length) := by
    refine Lib.run_unsafeString_row w.drew 63 3 9 5 Try.underlying63 (by kernel_rfl) g cur.size (by have hg' : w.drew.heap[g]? = some (.cells cur 5 fz) := hg; simp [World.shape?, hg']) l h0 (by omega) (by unfold maxLen at hcm; omega) ?_
    intro j x hx
    have := hown.cells (g := g) rfl j (.int .u8 x.toNat) (by simp [Lib.byteCells, hx])
    exact this
  have hkeep : Lib.IsBuilderF T 5 B b (Lib.byteCells l) (w.drew.freeze ⟨g, 0, none⟩ l.length) := by
    have hA : Lib.BuilderAtF T 5 B b p (Lib.byteCells l) w.drew := ⟨hB, _, hbk, by rw [Lib.byteCells_length]; exact hown, hne⟩
    have hF := hA.froze (g := g) (cap := cap) (by rw [Lib.byteCells_length]; exact c1)
    rw [Lib.byteCells_length] at hF
    rcases hp with rfl | rfl
    · exact .inl hF
    · exact .inr hF
  have HK := Aside0.mk hkeep
  have HG := Aside0.mk hbg
  clear hkeep hbg
  go_enter Try.func23, Try.ntmps23
  go_wp2
  go_region
  all_goals (go_wp2; go_ret; exact ⟨rfl, HK.out, Lib.below_freeze (Below.drew (Below.refl B w)) (p := ⟨g, 0, none⟩) HG.out _⟩)
set_option maxHeartbeats 2000000 in
set_option maxRecDepth 100000 in
theorem strings_Builder_String.none_ (T : TypeId) (B b : Nat) (p : Value) (w : World) (hbk : w.heap[b]? = some (.cells #[p, .slice none 0 0] T (0, 0))) (hA : Lib.BuilderAtF T 5 B b p [] w) :
    Calls Try.prog 23 #[.pointer (some ⟨b, 0, none⟩)] w fun e w' => e = .returned (.string ⟨#[]⟩) ∧ w' = w.drew := by
  have hUS : ∀ (W : World) (q : Option Addr), (Builtin.unsafeString_ #[63, 3] 9 #[.pointer q, .int .i64 0]).run Try.prog W = .ok (.string .empty) W := fun W q => Lib.run_unsafeString_none W _ _ _ q
  have c1 : w.drew.cell? ⟨b, 1, none⟩ = some (.slice none 0 0) := by
    have : w.drew.heap[b]? = some (.cells #[p, .slice none 0 0] T (0, 0)) := hbk
    rw [Lib.cell_of_heap this]; rfl
  have hSD : (Builtin.unsafeSliceData_ #[28] 63 #[.slice none 0 0]).run Try.prog w.drew = .ok (.pointer none) w.drew := rfl
  clear hA
  go_enter Try.func23, Try.ntmps23
  go_wp2
  go_region
  all_goals (go_wp2; go_ret; exact ⟨rfl, rfl⟩)
theorem strings_Builder_String.calls (T : TypeId) (B b : Nat) (l : List UInt8) (w : World) (h : strings_Builder_copyCheck.Wr T B b (Lib.byteCells l) w) :
    Calls Try.prog 23 #[.pointer (some ⟨b, 0, none⟩)] w fun e w' => e = .returned (.string ⟨l.toArray⟩) ∧ strings_Builder_copyCheck.Wr T B b (Lib.byteCells l) w' ∧ Below B w w' := by
  by_cases h0 : l = []
  · subst h0
    have hc := h.2 rfl
    obtain ⟨p, hp, hAt⟩ : ∃ p, (p = .pointer none ∨ p = .pointer (some ⟨b, 0, none⟩)) ∧ Lib.BuilderAtF T 5 B b p [] w := by
      rcases h.1 with h | h
      · exact ⟨_, .inl rfl, h⟩
      · exact ⟨_, .inr rfl, h⟩
    have hAt' := hAt
    obtain ⟨hB, v, hbk, hown, hne⟩ := hAt
    have hv : v = .slice none 0 0 := by
      have : w.cell? ⟨b, 1, none⟩ = some v := by rw [Lib.cell_of_heap hbk]; rfl
      rw [this] at hc
      exact Option.some.inj hc
    subst hv
    refine (strings_Builder_String.none_ T B b p w hbk hAt').mono ?_
    rintro e w' ⟨rfl, rfl⟩
    refine ⟨rfl, ⟨?_, fun _ => hc⟩, Below.drew (Below.refl B w)⟩
    rcases hp with rfl | rfl
    · exact .inl hAt'.drew
    · exact .inr hAt'.drew
  · refine (strings_Builder_String.some_ T B b l w h.1 h0).mono ?_
    rintro e w' ⟨rfl, h1, h2⟩
    exact ⟨rfl, ⟨h1, fun e => absurd (by simpa [Lib.byteCells] using e) h0⟩, h2⟩

/-! ### pack_Writer_Bytes: function 13 (by hand) -/
set_option maxRecDepth 100000 in
theorem pack_Writer_Bytes.calls (B b : Nat) (l : List UInt8) (w : World) (h : strings_Builder_copyCheck.Wr 32 B b (Lib.byteCells l) w) :
    Calls Try.prog 13 #[.pointer (some ⟨b, 0, none⟩)] w fun e w' => e = .returned (.string ⟨l.toArray⟩) ∧ strings_Builder_copyCheck.Wr 32 B b (Lib.byteCells l) w' ∧ Below B w w' := by
  have HN := Aside0.mk (strings_Builder_String.calls 32 B b l w h)
  clear h
  go_enter Try.func13, Try.ntmps13
  go_wp2_with (go_at_call 23; refine HN.out.mono ?_; rintro e w3 ⟨rfl, h3, hb3⟩; have H3 := Aside0.mk h3; have HB3 := Aside0.mk hb3; clear h3 hb3)
  go_ret
  exact ⟨rfl, H3.out, HB3.out⟩

/-! ### pack_Record: function 18 (by hand) -/
def pack_Record.recd (kd : Int) (key value : ByteArray) : List UInt8 := Hw.code (Hw.clamp kd) ++ (Hw.code key.size ++ key.data.toList) ++ (if kd = 1 then Hw.code value.size ++ value.data.toList else [])
def pack_Record.f (a0_0 : Int) (a0_1 a0_2 : ByteArray) : Option ByteArray := if a0_1.size ≤ 1000000 ∧ a0_2.size ≤ 1000000 then some ⟨(pack_Record.recd a0_0 a0_1 a0_2).toArray⟩ else none
set_option maxHeartbeats 2000000 in
set_option maxRecDepth 100000 in
theorem pack_Record.calls (a0_0 : Int) (a0_1 a0_2 : ByteArray) (r : ByteArray) (w : World) (h : pack_Record.f a0_0 a0_1 a0_2 = some r) :
    Calls Try.prog 18 #[.agg #[.int .i64 a0_0, .string a0_1, .string a0_2]] w fun e w' => e = .returned (.string r) ∧ Below w.heap.size w w' := by
  unfold pack_Record.f at h
  by_cases hs : a0_1.size ≤ 1000000 ∧ a0_2.size ≤ 1000000
  case neg => rw [if_neg hs] at h; cases h
  rw [if_pos hs] at h
  obtain rfl := Option.some.inj h
  clear h
  obtain ⟨hs1, hs2⟩ := hs
  have HS := Aside0.mk (And.intro hs1 hs2)
  clear hs1 hs2
  have HL : Aside0 ((Hw.code (Hw.clamp a0_0)).length ≤ 8 ∧ (Hw.code a0_1.size).length ≤ 8 ∧ a0_1.data.toList.length = a0_1.size) := ⟨Hw.code_len 7 _ (Hw.clamp_lt _), Hw.code_len 7 _ (by have := HS.out; omega), data_length _⟩
  have hsz : (w.alloc (.cells #[.int .i64 a0_0, .string a0_1, .string a0_2] 48)).heap.size = w.heap.size + 1 := by simp
  have HW0 := strings_Builder_copyCheck.fresh_wr 32 (w.alloc (.cells #[.int .i64 a0_0, .string a0_1, .string a0_2] 48))
  rw [hsz] at HW0
  have HW0 := Aside0.mk HW0
  have HC0 : Aside0 (∀ W, Below (w.heap.size + 1) ((w.alloc (.cells #[.int .i64 a0_0, .string a0_1, .string a0_2] 48)).alloc (.cells #[.pointer none, .slice none 0 0] 32)) W → W.cell? ⟨w.heap.size, 0, none⟩ = some (.int .i64 a0_0) ∧ W.cell? ⟨w.heap.size, 1, none⟩ = some (.string a0_1) ∧ W.cell? ⟨w.heap.size, 2, none⟩ = some (.string a0_2)) := ⟨fun W hb => by
    have hk := blk_cell (Hw.blk_al (Hw.blk_nw w (.cells #[.int .i64 a0_0, .string a0_1, .string a0_2] 48)) (.cells #[.pointer none, .slice none 0 0] 32))
    exact ⟨(hb.cell (p := ⟨w.heap.size, 0, none⟩) (by simp)).trans (hk 0), (hb.cell (p := ⟨w.heap.size, 1, none⟩) (by simp)).trans (hk 1), (hb.cell (p := ⟨w.heap.size, 2, none⟩) (by simp)).trans (hk 2)⟩⟩
  have HB0 : Aside0 (Below w.heap.size w ((w.alloc (.cells #[.int .i64 a0_0, .string a0_1, .string a0_2] 48)).alloc (.cells #[.pointer none, .slice none 0 0] 32))) := ⟨below_alloc (below_alloc (Below.refl _ _) _) _⟩
  have HTX : Aside0 (∀ (bs : List UInt8) (s : ByteArray) (wq : World), strings_Builder_copyCheck.Wr 32 (w.heap.size + 1) (w.heap.size + 1) (Lib.byteCells bs) wq → s.size ≤ 1000000 → bs.length ≤ 2000000 →
    Calls Try.prog 10 #[.pointer (some ⟨w.heap.size + 1, 0, none⟩), .string s] wq fun e w' => e = .returned (.tuple #[]) ∧ strings_Builder_copyCheck.Wr 32 (w.heap.size + 1) (w.heap.size + 1) (Lib.byteCells (bs ++ (Hw.code s.size ++ s.data.toList))) w' ∧ Below (w.heap.size + 1) wq w') := ⟨fun bs s wq h1 h2 h3 => pack_Writer_Text.calls _ _ bs s wq h1 (by omega) (by omega) (Nat.le_of_lt h1.lt)⟩
  have HNX : Aside0 (∀ (wq : World), strings_Builder_copyCheck.Wr 32 (w.heap.size + 1) (w.heap.size + 1) (Lib.byteCells []) wq →
    Calls Try.prog 12 #[.pointer (some ⟨w.heap.size + 1, 0, none⟩), .int .i64 a0_0] wq fun e w' => e = .returned (.tuple #[]) ∧ strings_Builder_copyCheck.Wr 32 (w.heap.size + 1) (w.heap.size + 1) (Lib.byteCells (Hw.code (Hw.clamp a0_0))) w' ∧ Below (w.heap.size + 1) wq w') := ⟨fun wq h1 => pack_Writer_Number.calls _ _ [] a0_0 wq h1 (by simp) (Nat.le_of_lt h1.lt)⟩
  have HBX : Aside0 (∀ (bs : List UInt8) (wq : World), strings_Builder_copyCheck.Wr 32 (w.heap.size + 1) (w.heap.size + 1) (Lib.byteCells bs) wq →
    Calls Try.prog 13 #[.pointer (some ⟨w.heap.size + 1, 0, none⟩)] wq fun e w' => e = .returned (.string ⟨bs.toArray⟩) ∧ Below (w.heap.size + 1) wq w') := ⟨fun bs wq h1 => (pack_Writer_Bytes.calls _ _ bs wq h1).mono fun e w' h => ⟨h.1, h.2.2⟩⟩
  clear hsz
  obtain ⟨hc0, hc1, hc2⟩ := HC0.out _ (Below.refl _ _)
  by_cases hk : a0_0 = 1
  · have hkb : (a0_0 == 1) = true := by rw [hk]; rfl
    have HE : Aside0 (pack_Record.recd a0_0 a0_1 a0_2 = Hw.code (Hw.clamp a0_0) ++ (Hw.code a0_1.size ++ a0_1.data.toList) ++ (Hw.code a0_2.size ++ a0_2.data.toList)) := ⟨by unfold pack_Record.recd; rw [if_pos hk]⟩
    clear hk
    go_enter Try.func18, Try.ntmps18
    go_wp2_with (first | (go_at_call 12; refine (HNX.out _ HW0.out).mono ?_; rintro e w3 ⟨rfl, h3, hb3⟩; have H3 := Aside0.mk h3; have B3 := Aside0.mk hb3; obtain ⟨hd0, hd1, hd2⟩ := HC0.out _ hb3; clear h3 hb3; have T1 := trivial) | (go_at_call 10; have T2 := T1; refine (HTX.out _ a0_1 _ H3.out HS.out.1 (by have := HL.out; omega)).mono ?_; rintro e w4 ⟨rfl, h4, hb4⟩; have H4 := Aside0.mk h4; have B4 := Aside0.mk (B3.out.trans hb4); obtain ⟨he0, he1, he2⟩ := HC0.out _ B4.out; clear h4 hb4 T1 T2) | (go_at_call 10; refine (HTX.out _ a0_2 _ H4.out HS.out.2 (by have := HL.out; have := HS.out; rw [List.length_append, List.length_append]; omega)).mono ?_; rintro e w5 ⟨rfl, h5, hb5⟩; have H5 := Aside0.mk h5; have B5 := Aside0.mk (B4.out.trans hb5); clear h5 hb5) | (go_at_call 13; refine (HBX.out _ _ H5.out).mono ?_; rintro e w6 ⟨rfl, hb6⟩; have B6 := Aside0.mk (B5.out.trans hb6); clear hb6))
    go_ret
    exact ⟨by rw [HE.out]; simp only [List.append_assoc]; rfl, HB0.out.trans (B6.out.mono (by omega))⟩
  · have hkb : (a0_0 == 1) = false := by simpa using hk
    have HE : Aside0 (pack_Record.recd a0_0 a0_1 a0_2 = Hw.code (Hw.clamp a0_0) ++ (Hw.code a0_1.size ++ a0_1.data.toList)) := ⟨by unfold pack_Record.recd; rw [if_neg hk, List.append_nil]⟩
    clear hk
    go_enter Try.func18, Try.ntmps18
    go_wp2_with (first | (go_at_call 12; refine (HNX.out _ HW0.out).mono ?_; rintro e w3 ⟨rfl, h3, hb3⟩; have H3 := Aside0.mk h3; have B3 := Aside0.mk hb3; obtain ⟨hd0, hd1, hd2⟩ := HC0.out _ hb3; clear h3 hb3) | (go_at_call 10; refine (HTX.out _ a0_1 _ H3.out HS.out.1 (by have := HL.out; omega)).mono ?_; rintro e w4 ⟨rfl, h4, hb4⟩; have H4 := Aside0.mk h4; have B4 := Aside0.mk (B3.out.trans hb4); obtain ⟨he0, he1, he2⟩ := HC0.out _ B4.out; clear h4 hb4) | (go_at_call 13; refine (HBX.out _ _ H4.out).mono ?_; rintro e w6 ⟨rfl, hb6⟩; have B6 := Aside0.mk (B4.out.trans hb6); clear hb6))
    go_ret
    exact ⟨by rw [HE.out]; simp only [List.append_assoc]; rfl, HB0.out.trans (B6.out.mono (by omega))⟩

end Go.Proofs.Ytmecbfadhacajaa.PPackCut
