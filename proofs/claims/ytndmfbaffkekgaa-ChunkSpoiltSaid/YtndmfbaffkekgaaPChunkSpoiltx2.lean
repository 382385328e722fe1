-- By a program of this session (wip/tools/mkprint.py), for this claim.
import Derived.Test.YtndmfbaffkekgaaPChunkSpoiltx0
namespace Go.Proofs.Ytndmfbaffkekgaa.PChunkSpoilt
open Go.RowKit Go.Proofs.YtndmfbaffkekgaaW.PrintWords Go.Proofs.YtndmfbaffkekgaaW.PrintLast Go.Proofs.YtndmfbaffkekgaaW.PrintMore
attribute [local go_sem] max2_int min2_int max_two min_two max_three min_three max_four min_four   -- for this text's walks alone
set_option linter.unusedVariables false
set_option linter.unusedSimpArgs false

-- NOT PRINTED: function 39 (abi_NoEscape)

/-! ### strings_Builder_copyCheck: function 37 (by hand) -/
/-- A strings.Builder that holds the bytes bs: alone, or as the one field of a struct of type T. One that holds none has no row of bytes. -/
def strings_Builder_copyCheck.Wr (T : TypeId) (B b : Nat) (bs : List Value) (w : World) : Prop := Lib.IsBuilderF T 5 B b bs w ∧ (bs = [] → w.cell? ⟨b, 1, none⟩ = some (.slice none 0 0))
def strings_Builder_copyCheck.Ok (T : TypeId) : Prop := liesAt Try.prog Try.prog.depth T (2 / Try.prog.cellsOf T) 0 43 1 = true ∧ T ≠ 5
set_option maxRecDepth 100000 in
theorem strings_Builder_copyCheck.used (b : Nat) (w : World) (h0 : w.cell? ⟨b, 0, none⟩ = some (.pointer (some ⟨b, 0, none⟩))) :
    Calls Try.prog 37 #[.pointer (some ⟨b, 0, none⟩)] w fun e w' => e = .returned (.tuple #[]) ∧ w' = w := by
  obtain ⟨j, hj, _⟩ := Option.map_eq_some_iff.1 (show (Try.prog.info? 43).map (·.size) = some 2 from by kernel_rfl)
  go_enter Try.func37, Try.ntmps37
  go_wp2
  rw [Lib.run_neq_ptr_same w _ Try.underlying41 hj]
  go_wp2
  go_end0
  exact ⟨rfl, rfl⟩
set_option maxRecDepth 100000 in
theorem strings_Builder_copyCheck.fresh (T : TypeId) (hT : liesAt Try.prog Try.prog.depth T (2 / Try.prog.cellsOf T) 0 43 1 = true) (b : Nat) (w : World) (h0 : w.cell? ⟨b, 0, none⟩ = some (.pointer none)) (hsh : w.shape? b = some (T, 2)) (hfz : w.frozen? ⟨b, 0, none⟩ = false) :
    Calls Try.prog 37 #[.pointer (some ⟨b, 0, none⟩)] w fun e w' => e = .returned (.tuple #[]) ∧ w' = w.setCell ⟨b, 0, none⟩ (.pointer (some ⟨b, 0, none⟩)) := by
  obtain ⟨j, hj, hjs⟩ := Option.map_eq_some_iff.1 (show (Try.prog.info? 43).map (·.size) = some 2 from by kernel_rfl)
  have HT := Lib.hid hT
  clear hT
  go_enter Try.func37, Try.ntmps37
  go_wp2
  rw [Lib.run_to_unsafe w ⟨b, 0, none⟩ Try.underlying41 Try.underlying74 hj (by rw [hjs]; decide) hsh (Nat.zero_lt_succ 1)]
  simp only [Result.andThen]
  rw [Oper.upon_value]
  go_wp2
  rw [run_callFunc_extern Try.func39 (by kernel_rfl) (by kernel_rfl) (by kernel_rfl) (e := Extern.AbiNoEscape.same) (by kernel_rfl)]
  rw [Lib.run_noEscape]
  simp only [Result.andThen]
  rw [Oper.upon_value]
  go_wp2
  rw [Lib.run_from_unsafe w ⟨b, 0, none⟩ Try.underlying74 Try.underlying41 hj hsh HT.out]
  simp only [Result.andThen]
  rw [Oper.upon_value]
  go_wp2
  go_end0
  exact ⟨rfl, rfl⟩
theorem strings_Builder_copyCheck.calls (T : TypeId) (hT : strings_Builder_copyCheck.Ok T) (B b : Nat) (bs : List Value) (w : World) (h : Lib.IsBuilderF T 5 B b bs w) :
    Calls Try.prog 37 #[.pointer (some ⟨b, 0, none⟩)] w fun e w' => e = .returned (.tuple #[]) ∧ Lib.BuilderAtF T 5 B b (.pointer (some ⟨b, 0, none⟩)) bs w' ∧ Below B w w' := by
  rcases h with h | h
  · refine (strings_Builder_copyCheck.fresh T hT.1 b w h.cell0 h.shape h.frozen0).mono ?_
    rintro e w' ⟨rfl, rfl⟩
    exact ⟨rfl, h.used _, (Below.refl B w).setCell (p := ⟨b, 0, none⟩) h.1 _⟩
  · refine (strings_Builder_copyCheck.used b w h.cell0).mono ?_
    rintro e w' ⟨rfl, rfl⟩
    exact ⟨rfl, h, Below.refl B _⟩
theorem strings_Builder_copyCheck.fresh_wr (T : TypeId) (w : World) : strings_Builder_copyCheck.Wr T w.heap.size w.heap.size (Lib.byteCells []) (w.alloc (.cells #[.pointer none, .slice none 0 0] T)) := by
  refine ⟨Lib.IsBuilderF.of (Lib.fresh_isBuilder T 5 w), fun _ => ?_⟩
  have h : (w.alloc (.cells #[.pointer none, .slice none 0 0] T)).heap[w.heap.size]? = some (.cells #[.pointer none, .slice none 0 0] T (0, 0)) := heap_alloc_new w _
  rw [Lib.cell_of_heap h]
  rfl
theorem strings_Builder_copyCheck.Wr.below {T : TypeId} {B b : Nat} {bs : List Value} {w w' : World} (h : strings_Builder_copyCheck.Wr T B b bs w) (hb : Below w.heap.size w w') : strings_Builder_copyCheck.Wr T B b bs w' := by
  have hat : ∀ p, Lib.BuilderAtF T 5 B b p bs w → Lib.BuilderAtF T 5 B b p bs w' := by
    intro p hp
    have hlt := hp.lt
    obtain ⟨hB, v, hbk, hown, hne⟩ := hp
    exact ⟨hB, v, (hb.block b hlt).trans hbk, hown.kept (grown_of_below hb none) (by cases v.ownBlock <;> simp), hne⟩
  have hlt : b < w.heap.size := by rcases h.1 with h | h <;> exact h.lt
  exact ⟨h.1.imp (hat _) (hat _), fun e => (hb.cell (p := ⟨b, 1, none⟩) hlt).trans (h.2 e)⟩
theorem strings_Builder_copyCheck.Wr.lt {T : TypeId} {B b : Nat} {bs : List Value} {w : World} (h : strings_Builder_copyCheck.Wr T B b bs w) : b < w.heap.size := by rcases h.1 with h | h <;> exact h.lt

/-! ### strings_Builder_WriteByte: function 31 (by hand) -/
set_option maxHeartbeats 2000000 in
set_option maxRecDepth 100000 in
theorem strings_Builder_WriteByte.calls (T : TypeId) (hT : strings_Builder_copyCheck.Ok T) (B b : Nat) (bs : List Value) (c : Int) (w : World) (h : Lib.IsBuilderF T 5 B b bs w) (hlen : bs.length + 1 ≤ 140737488355328) (hBw : B ≤ w.heap.size) :
    Calls Try.prog 31 #[.pointer (some ⟨b, 0, none⟩), .int .u8 c] w fun e w' => e = .returned .nilIface ∧ Lib.BuilderAtF T 5 B b (.pointer (some ⟨b, 0, none⟩)) (bs ++ [.int .u8 c]) w' ∧ Below B w w' := by
  obtain ⟨i0, hi, hz0, hz1, hz2⟩ := info_parts (show (Try.prog.info? 5).map (fun i => (i.zero, i.size, i.bytes)) = some (some (.int .u8 0), 1, 1) from by kernel_rfl)
  have HT := Aside0.mk (strings_Builder_copyCheck.calls T hT B b bs)
  have HTE := Lib.hid hT.2
  clear hT
  have H := Aside0.mk h
  clear h
  go_enter Try.func31, Try.ntmps31
  go_wp2_with (go_at_call 37; refine (HT.out _ H.out).mono ?_)
  rintro e w1 ⟨rfl, h1, hb1⟩
  obtain ⟨hB, v, hbk, hown, hne⟩ := h1
  have c0 : w1.cell? ⟨b, 0, none⟩ = some (.pointer (some ⟨b, 0, none⟩)) := by rw [Lib.cell_of_heap hbk]; rfl
  have c1 : w1.cell? ⟨b, 1, none⟩ = some v := by rw [Lib.cell_of_heap hbk]; rfl
  go_wp2_with (at_builtin; refine wpList_append_ownF _ rfl _ _ 35 rfl B 5 i0 (.int .u8 0) 1 1 Try.underlying35 hi hz0 hz1 hz2 rfl (by decide) _ _ _ rfl (hown.alloc _) ⟨w1.heap.size, 0, none⟩ 1 1 [.int .u8 c] rfl rfl ?c1 ?c2 ?c3 ?c4 ?c5 ?_)
  case c1 =>
    intro j u hj
    match j, hj with
    | 0, hj => simp at hj; subst hj; simp [Addr.add]
  case c2 => intro u hu; simp at hu; subst hu; rfl
  case c3 => unfold maxLen; omega
  case c4 => omega
  case c5 => have := hb1.size; simp; omega
  intro v' w2 hown' hgrow _
  have hlt : b < w1.heap.size := by
    rcases Nat.lt_or_ge b w1.heap.size with h' | h'
    · exact h'
    · simp [Array.getElem?_eq_none h'] at hbk
  have hb2 : w2.heap[b]? = some (.cells #[.pointer (some ⟨b, 0, none⟩), v] T (0, 0)) := by
    rw [hgrow.block b (by simp; omega) (fun e => hne e.symm), Lib.alloc_old w1 _ b hlt]
    exact hbk
  have d0 : w2.cell? ⟨b, 0, none⟩ = some (.pointer (some ⟨b, 0, none⟩)) := by rw [Lib.cell_of_heap hb2]; rfl
  have d1 : w2.cell? ⟨b, 1, none⟩ = some v := by rw [Lib.cell_of_heap hb2]; rfl
  have f1 : w2.frozen? ⟨b, 1, none⟩ = false := Lib.frozen_of_heap hb2 1
  obtain ⟨g, cap, rfl⟩ : ∃ g cap, v' = .slice (some ⟨g, 0, none⟩) (bs.length + 1) cap := by
    rcases hown'.2 with ⟨_, h0⟩ | ⟨g, cap, cur, fz, hv, _⟩
    · omega
    · exact ⟨g, cap, hv⟩
  go_wp2
  go_ret
  refine ⟨rfl, ?_, ?_⟩
  · exact Lib.BuilderAtF.put (T := T) (e := 5) hB hb2 (bs' := bs ++ [.int .u8 c]) (by simpa using hown') HTE.out
  · exact ((hb1.alloc (by have := hb1.size; omega) _).grown hgrow (by have := hb1.size; simp; omega) (fun k hk => (hown.lt k hk).1)).setCell (p := ⟨b, 1, none⟩) hB _

/-! ### pack_Writer_Number: function 16 (by hand) -/
theorem pack_Writer_Number.cells_snoc (l : List UInt8) (c : UInt8) : Lib.byteCells l ++ [.int .u8 (c.toNat : Int)] = Lib.byteCells (l ++ [c]) := by simp [Lib.byteCells]
set_option maxRecDepth 100000 in
theorem pack_Writer_Number.or_bits : ∀ x : Fin 256, Go.bits .or .u8 (x.val : Int) 128 = ((x.val % 128 + 128 : Nat) : Int) := by decide
theorem pack_Writer_Number.hi_byte (m : Nat) : Go.bits .or .u8 ((m : Int) % 256) 128 = ((UInt8.ofNat (m % 128 + 128)).toNat : Int) := by
  have h := pack_Writer_Number.or_bits ⟨m % 256, Nat.mod_lt _ (by decide)⟩
  rw [show ((m : Int) % 256) = ((m % 256 : Nat) : Int) by omega]
  refine h.trans ?_
  show ((m % 256 % 128 + 128 : Nat) : Int) = _
  rw [UInt8.toNat_ofNat']
  omega
theorem pack_Writer_Number.lo_byte (m : Nat) (h : m < 128) : (m : Int) = ((UInt8.ofNat m).toNat : Int) := by
  rw [UInt8.toNat_ofNat']
  omega
set_option maxHeartbeats 2000000 in
set_option maxRecDepth 100000 in
theorem pack_Writer_Number.calls (B b : Nat) (bs : List UInt8) (n : Int) (w : World) (h : strings_Builder_copyCheck.Wr 45 B b (Lib.byteCells bs) w) (hlen : bs.length + 16 ≤ 140737488355328) (hBw : B ≤ w.heap.size) :
    Calls Try.prog 16 #[.pointer (some ⟨b, 0, none⟩), .int .i64 n] w fun e w' => e = .returned (.tuple #[]) ∧ strings_Builder_copyCheck.Wr 45 B b (Lib.byteCells (bs ++ Hw.code (Hw.clamp n))) w' ∧ Below B w w' := by
  have HW := Aside0.mk h
  clear h
  have hT : strings_Builder_copyCheck.Ok 45 := ⟨by kernel_rfl, by decide⟩
  have HWB := Aside0.mk (fun bs c w => strings_Builder_WriteByte.calls 45 hT B b bs c w)
  clear hT
  obtain ⟨p, hp⟩ : ∃ p, (if (72057594037927935 : Int) < n then 72057594037927935 else n) = p := ⟨_, rfl⟩
  have hcl : (if (0 : Int) < p then p else 0) = ((Hw.clamp n : Nat) : Int) := by
    rw [← hp]
    unfold Hw.clamp
    split <;> split <;> (try split) <;> omega
  have HM := Lib.hid (Hw.clamp_lt n)
  generalize Hw.clamp n = m0 at hcl HM ⊢
  go_enter Try.func16, Try.ntmps16
  go_wp2_with (fail)
  clear hp hcl
  go_loopg [1] 10 (fun gg v1 wq => ∃ (m : Nat) (pre : List UInt8), v1 = .int .i64 (m : Int) ∧ m < 128 ^ gg ∧ m < 72057594037927936 ∧ pre ++ Hw.code m = Hw.code m0 ∧ Aside0 (strings_Builder_copyCheck.Wr 45 B b (Lib.byteCells (bs ++ pre)) wq) ∧ Aside0 (Below B w wq))
  case atStart => exact ⟨m0, [], rfl, Nat.lt_of_lt_of_le HM.out (by decide), HM.out, rfl, ⟨by rw [List.append_nil]; exact HW.out⟩, ⟨Below.refl _ _⟩⟩
  case round =>
    obtain ⟨m, pre, rfl, hm, hm2, hpre, HWr, HB⟩ := hrel
    have hpl : pre.length ≤ 8 := by
      have h1 := Hw.code_len 7 m0 HM.out
      rw [← hpre, List.length_append] at h1
      omega
    have HP := Aside0.mk hpre
    clear hpre
    have hcl : (Lib.byteCells (bs ++ pre)).length + 1 ≤ 140737488355328 := by rw [Lib.byteCells_length, List.length_append]; omega
    have hbw : B ≤ wr.heap.size := Nat.le_trans hBw HB.out.size
    by_cases hlt : (127 : Int) < (m : Int)
    · have hhb := pack_Writer_Number.hi_byte m
      have HSH := Lib.hid (show (m : Int) / 128 = ((m / 128 : Nat) : Int) by omega)
      obtain ⟨gk, rfl⟩ : ∃ q, gk = q + 1 := by
        cases gk with
        | zero => rw [Nat.pow_zero] at hm; omega
        | succ q => exact ⟨q, rfl⟩
      have HMK := Aside0.mk hm
      have HM2 := Aside0.mk hm2
      clear hm hm2
      go_wp2_with (go_at_call 31; refine (HWB.out _ _ _ HWr.out.1 hcl hbw).mono ?_; rintro e w3 ⟨rfl, h3, hb3⟩; have H3 := Aside0.mk h3; have HB3 := Aside0.mk hb3; clear h3 hb3)
      go_roundg gk
      case measure => omega
      case rel =>
        refine ⟨m / 128, pre ++ [UInt8.ofNat (m % 128 + 128)], by first | go_num | rw [HSH.out], Nat.div_lt_of_lt_mul (by have hm := HMK.out; rw [Nat.pow_succ] at hm; omega), by have := HM2.out; omega, ?_, ⟨?_⟩, ⟨?_⟩⟩
        · rw [List.append_assoc, List.singleton_append, ← Hw.code_hi m (by omega)]
          exact HP.out
        · have h9 := H3.out
          have hv : (((m : Int) % 128 + 128) % 256) = ((UInt8.ofNat (m % 128 + 128)).toNat : Int) := by rw [UInt8.toNat_ofNat']; omega
          rw [hv, pack_Writer_Number.cells_snoc, List.append_assoc] at h9
          exact ⟨.inr h9, fun e => absurd (congrArg List.length e) (by simp [Lib.byteCells])⟩
        · exact HB.out.trans HB3.out
    · have HLB := Lib.hid (pack_Writer_Number.lo_byte m (by omega))
      go_wp2_with (go_at_call 31; refine (HWB.out _ _ _ HWr.out.1 hcl hbw).mono ?_; rintro e w3 ⟨rfl, h3, hb3⟩; have H3 := Aside0.mk h3; have HB3 := Aside0.mk hb3; clear h3 hb3)
      go_end0
      refine ⟨rfl, ?_, HB.out.trans HB3.out⟩
      have h9 := H3.out
      have hb : (Lib.byteCells (bs ++ pre) ++ [Value.int .u8 (m : Int)]) = Lib.byteCells (bs ++ Hw.code m0) := by
        rw [HLB.out, pack_Writer_Number.cells_snoc, List.append_assoc, ← Hw.code_lo m (by omega), HP.out]
      rw [hb] at h9
      exact ⟨.inr h9, fun e => absurd (congrArg List.length e) (by have h8 := List.length_pos_iff.2 (Hw.code_ne m0); rw [Lib.byteCells_length, List.length_append, List.length_nil]; omega)⟩

/-! ### strings_Builder_WriteString: function 32 (by hand) -/
set_option maxHeartbeats 2000000 in
set_option maxRecDepth 100000 in
theorem strings_Builder_WriteString.calls (T : TypeId) (hT : strings_Builder_copyCheck.Ok T) (B b : Nat) (bs : List Value) (s : ByteArray) (w : World) (h : Lib.IsBuilderF T 5 B b bs w) (hlen : bs.length + s.size ≤ 140737488355328) (hBw : B ≤ w.heap.size) :
    Calls Try.prog 32 #[.pointer (some ⟨b, 0, none⟩), .string s] w fun e w' => e = .returned (.tuple #[.int .i64 s.size, .nilIface]) ∧ Lib.BuilderAtF T 5 B b (.pointer (some ⟨b, 0, none⟩)) (bs ++ Lib.strCells s) w' ∧ Below B w w' := by
  obtain ⟨i0, hi, hz0, hz1, hz2⟩ := info_parts (show (Try.prog.info? 5).map (fun i => (i.zero, i.size, i.bytes)) = some (some (.int .u8 0), 1, 1) from by kernel_rfl)
  have HT := Aside0.mk (strings_Builder_copyCheck.calls T hT B b bs)
  have HTE := Lib.hid hT.2
  clear hT
  have H := Aside0.mk h
  clear h
  go_enter Try.func32, Try.ntmps32
  go_wp2_with (go_at_call 37; refine (HT.out _ H.out).mono ?_)
  rintro e w1 ⟨rfl, h1, hb1⟩
  obtain ⟨hB, v, hbk, hown, hne⟩ := h1
  have c0 : w1.cell? ⟨b, 0, none⟩ = some (.pointer (some ⟨b, 0, none⟩)) := by rw [Lib.cell_of_heap hbk]; rfl
  have c1 : w1.cell? ⟨b, 1, none⟩ = some v := by rw [Lib.cell_of_heap hbk]; rfl
  go_wp2_with (at_builtin; refine Lib.wpList_append_own_stringF _ rfl _ _ 35 9 rfl B 5 i0 Try.underlying35 Try.underlying9 hi hz0 hz1 hz2 _ _ _ rfl hown s rfl ?c3 ?c4 ?c5 ?_)
  case c3 => unfold maxLen; omega
  case c4 => omega
  case c5 => have := hb1.size; omega
  intro v' w2 hown' hgrow _
  have hlt : b < w1.heap.size := by
    rcases Nat.lt_or_ge b w1.heap.size with h' | h'
    · exact h'
    · simp [Array.getElem?_eq_none h'] at hbk
  have hb2 : w2.heap[b]? = some (.cells #[.pointer (some ⟨b, 0, none⟩), v] T (0, 0)) := by
    rw [hgrow.block b hlt (fun e => hne e.symm)]
    exact hbk
  have d0 : w2.cell? ⟨b, 0, none⟩ = some (.pointer (some ⟨b, 0, none⟩)) := by rw [Lib.cell_of_heap hb2]; rfl
  have d1 : w2.cell? ⟨b, 1, none⟩ = some v := by rw [Lib.cell_of_heap hb2]; rfl
  have f1 : w2.frozen? ⟨b, 1, none⟩ = false := Lib.frozen_of_heap hb2 1
  obtain ⟨ao, n', cap, rfl⟩ : ∃ ao n' cap, v' = .slice ao n' cap := by
    rcases hown'.2 with ⟨hv, _⟩ | ⟨g, cap, cur, fz, hv, _⟩
    · exact ⟨_, _, _, hv⟩
    · exact ⟨_, _, _, hv⟩
  go_wp2
  go_ret2
  refine ⟨rfl, ?_, ?_⟩
  · exact Lib.BuilderAtF.put (T := T) (e := 5) hB hb2 (bs' := bs ++ Lib.strCells s) (by simpa [Lib.strCells_length] using hown') HTE.out
  · exact (hb1.grown hgrow (by have := hb1.size; omega) (fun k hk => (hown.lt k hk).1)).setCell (p := ⟨b, 1, none⟩) hB _

/-! ### pack_Writer_Text: function 17 (by hand) -/
theorem pack_Writer_Text.str_cells (s : ByteArray) : Lib.strCells s = Lib.byteCells s.data.toList := rfl
theorem pack_Writer_Text.cells_app (l l' : List UInt8) : Lib.byteCells l ++ Lib.byteCells l' = Lib.byteCells (l ++ l') := by simp [Lib.byteCells]
set_option maxHeartbeats 2000000 in
set_option maxRecDepth 100000 in
theorem pack_Writer_Text.calls (B b : Nat) (bs : List UInt8) (s : ByteArray) (w : World) (h : strings_Builder_copyCheck.Wr 45 B b (Lib.byteCells bs) w) (hs : s.size < 72057594037927936) (hlen : bs.length + s.size + 32 ≤ 140737488355328) (hBw : B ≤ w.heap.size) :
    Calls Try.prog 17 #[.pointer (some ⟨b, 0, none⟩), .string s] w fun e w' => e = .returned (.tuple #[]) ∧ strings_Builder_copyCheck.Wr 45 B b (Lib.byteCells (bs ++ (Hw.code s.size ++ s.data.toList))) w' ∧ Below B w w' := by
  have hT : strings_Builder_copyCheck.Ok 45 := ⟨by kernel_rfl, by decide⟩
  have HN := Aside0.mk (pack_Writer_Number.calls B b bs (s.size : Int) w h (by omega) hBw)
  have HWS := Aside0.mk (fun bs w => strings_Builder_WriteString.calls 45 hT B b bs s w)
  clear hT h
  have HC : Hid (Hw.clamp (s.size : Int) = s.size) := Lib.hid (by unfold Hw.clamp; rw [if_neg (by omega), if_neg (by omega)]; omega)
  have HL := Lib.hid (show (Hw.code s.size).length ≤ 8 from Hw.code_len 7 s.size hs)
  clear hs
  go_enter Try.func17, Try.ntmps17
  go_wp2_with (first | (go_at_call 16; refine HN.out.mono ?_; rintro e w3 ⟨rfl, h3, hb3⟩; have H3 := Aside0.mk h3; have HB3 := Aside0.mk hb3; clear h3 hb3) | (go_at_call 32; refine (HWS.out _ _ H3.out.1 (by have := HL.out; have := HC.out; rw [Lib.byteCells_length, List.length_append, HC.out]; omega) (Nat.le_trans hBw HB3.out.size)).mono ?_; rintro e w4 ⟨rfl, h4, hb4⟩; have H4 := Aside0.mk h4; have HB4 := Aside0.mk hb4; clear h4 hb4))
  go_end0
  refine ⟨rfl, ?_, HB3.out.trans HB4.out⟩
  have h9 := H4.out
  have hl := List.length_pos_iff.2 (Hw.code_ne s.size)
  rw [pack_Writer_Text.str_cells, pack_Writer_Text.cells_app, List.append_assoc, HC.out] at h9
  exact ⟨.inr h9, fun e => absurd (congrArg List.length e) (by rw [Lib.byteCells_length, List.length_append, List.length_append, List.length_nil]; omega)⟩

/-! ### strings_Builder_String: function 33 (by hand) -/
set_option maxHeartbeats 2000000 in
set_option maxRecDepth 100000 in
theorem strings_Builder_String.some_ (T : TypeId) (B b : Nat) (l : List UInt8) (w : World) (h : Lib.IsBuilderF T 5 B b (Lib.byteCells l) w) (h0 : l ≠ []) :
    Calls Try.prog 33 #[.pointer (some ⟨b, 0, none⟩)] w fun e w' => e = .returned (.string ⟨l.toArray⟩) ∧ Lib.IsBuilderF T 5 B b (Lib.byteCells l) w' ∧ Below B w w' := by
  obtain ⟨p, hp, hAt⟩ : ∃ p, (p = .pointer none ∨ p = .pointer (some ⟨b, 0, none⟩)) ∧ Lib.BuilderAtF T 5 B b p (Lib.byteCells l) w := by
    rcases h with h | h
    · exact ⟨_, .inl rfl, h⟩
    · exact ⟨_, .inr rfl, h⟩
  obtain ⟨hB, v, hbk, hown, hne⟩ := hAt
  have hl0 : l.length ≠ 0 := by simpa using h0
  rw [Lib.byteCells_length] at hown
  obtain ⟨g, cap, cur, fz, rfl, hbg, hg, hfz, hnc, hcm, hcs, htake⟩ : ∃ g cap cur fz, v = .slice (some ⟨g, 0, none⟩) l.length cap ∧ B ≤ g ∧ w.heap[g]? = some (.cells cur 5 fz) ∧ fz.2 ≤ l.length * 1 ∧ l.length ≤ cap ∧ cap ≤ maxLen ∧ cur.size = cap * 1 ∧ cur.toList.take (l.length * 1) = Lib.byteCells l := by
    rcases hown.2 with ⟨_, hz⟩ | ⟨g, cap, cur, fz, hv, r⟩
    · exact absurd hz hl0
    · exact ⟨g, cap, cur, fz, hv, r⟩
  have c1 : w.drew.cell? ⟨b, 1, none⟩ = some (.slice (some ⟨g, 0, none⟩) l.length cap) := by
    have : w.drew.heap[b]? = some (.cells #[p, .slice (some ⟨g, 0, none⟩) l.length cap] T (0, 0)) := hbk
    rw [Lib.cell_of_heap this]; rfl
  have hSD : (Builtin.unsafeSliceData_ #[35] 73 #[.slice (some ⟨g, 0, none⟩) l.length cap]).run Try.prog w.drew = .ok (.pointer (some ⟨g, 0, none⟩)) w.drew :=
    Lib.run_unsafeSliceData_row _ _ _ _ _ _ (by omega)
  have hUS : (Builtin.unsafeString_ #[73, 3] 9 #[.pointer (some ⟨g, 0, none⟩), .int .i64 l.length]).run Try.prog w.drew = .ok (.string ⟨l.toArray⟩) (w.drew.freeze ⟨g, 0, none⟩ l.length) := by
    refine Lib.run_unsafeString_row w.drew 73 3 9 5 Try.underlying73 (by kernel_rfl) g cur.size (by have hg' : w.drew.heap[g]? = some (.cells cur 5 fz) := hg; simp [World.shape?, hg']) l h0 (by omega) (by unfold maxLen at hcm; omega) ?_
    intro j x hx
    have := hown.cells (g := g) rfl j (.int .u8 x.toNat) (by simp [Lib.byteCells, hx])
    exact this
  have hkeep : Lib.IsBuilderF T 5 B b (Lib.byteCells l) (w.drew.freeze ⟨g, 0, none⟩ l.length) := by
    have hA : Lib.BuilderAtF T 5 B b p (Lib.byteCells l) w.drew := ⟨hB, _, hbk, by rw [Lib.byteCells_length]; exact hown, hne⟩
    have hF := hA.froze (g := g) (cap := cap) (by rw [Lib.byteCells_length]; exact c1)
    rw [Lib.byteCells_length] at hF
    rcases hp with rfl | rfl
    · exact .inl hF
    · exact .inr hF
  have HK := Aside0.mk hkeep
  have HG := Aside0.mk hbg
  clear hkeep hbg
  go_enter Try.func33, Try.ntmps33
  go_wp2
  go_region
  all_goals (go_wp2; go_ret; exact ⟨rfl, HK.out, Lib.below_freeze (Below.drew (Below.refl B w)) (p := ⟨g, 0, none⟩) HG.out _⟩)
set_option maxHeartbeats 2000000 in
set_option maxRecDepth 100000 in
theorem strings_Builder_String.none_ (T : TypeId) (B b : Nat) (p : Value) (w : World) (hbk : w.heap[b]? = some (.cells #[p, .slice none 0 0] T (0, 0))) (hA : Lib.BuilderAtF T 5 B b p [] w) :
    Calls Try.prog 33 #[.pointer (some ⟨b, 0, none⟩)] w fun e w' => e = .returned (.string ⟨#[]⟩) ∧ w' = w.drew := by
  have hUS : ∀ (W : World) (q : Option Addr), (Builtin.unsafeString_ #[73, 3] 9 #[.pointer q, .int .i64 0]).run Try.prog W = .ok (.string .empty) W := fun W q => Lib.run_unsafeString_none W _ _ _ q
  have c1 : w.drew.cell? ⟨b, 1, none⟩ = some (.slice none 0 0) := by
    have : w.drew.heap[b]? = some (.cells #[p, .slice none 0 0] T (0, 0)) := hbk
    rw [Lib.cell_of_heap this]; rfl
  have hSD : (Builtin.unsafeSliceData_ #[35] 73 #[.slice none 0 0]).run Try.prog w.drew = .ok (.pointer none) w.drew := rfl
  clear hA
  go_enter Try.func33, Try.ntmps33
  go_wp2
  go_region
  all_goals (go_wp2; go_ret; exact ⟨rfl, rfl⟩)
theorem strings_Builder_String.calls (T : TypeId) (B b : Nat) (l : List UInt8) (w : World) (h : strings_Builder_copyCheck.Wr T B b (Lib.byteCells l) w) :
    Calls Try.prog 33 #[.pointer (some ⟨b, 0, none⟩)] w fun e w' => e = .returned (.string ⟨l.toArray⟩) ∧ strings_Builder_copyCheck.Wr T B b (Lib.byteCells l) w' ∧ Below B w w' := by
  by_cases h0 : l = []
  · subst h0
    have hc := h.2 rfl
    obtain ⟨p, hp, hAt⟩ : ∃ p, (p = .pointer none ∨ p = .pointer (some ⟨b, 0, none⟩)) ∧ Lib.BuilderAtF T 5 B b p [] w := by
      rcases h.1 with h | h
      · exact ⟨_, .inl rfl, h⟩
      · exact ⟨_, .inr rfl, h⟩
    have hAt' := hAt
    obtain ⟨hB, v, hbk, hown, hne⟩ := hAt
    have hv : v = .slice none 0 0 := by
      have : w.cell? ⟨b, 1, none⟩ = some v := by rw [Lib.cell_of_heap hbk]; rfl
      rw [this] at hc
      exact Option.some.inj hc
    subst hv
    refine (strings_Builder_String.none_ T B b p w hbk hAt').mono ?_
    rintro e w' ⟨rfl, rfl⟩
    refine ⟨rfl, ⟨?_, fun _ => hc⟩, Below.drew (Below.refl B w)⟩
    rcases hp with rfl | rfl
    · exact .inl hAt'.drew
    · exact .inr hAt'.drew
  · refine (strings_Builder_String.some_ T B b l w h.1 h0).mono ?_
    rintro e w' ⟨rfl, h1, h2⟩
    exact ⟨rfl, ⟨h1, fun e => absurd (by simpa [Lib.byteCells] using e) h0⟩, h2⟩

/-! ### pack_Writer_Bytes: function 18 (by hand) -/
set_option maxRecDepth 100000 in
theorem pack_Writer_Bytes.calls (B b : Nat) (l : List UInt8) (w : World) (h : strings_Builder_copyCheck.Wr 45 B b (Lib.byteCells l) w) :
    Calls Try.prog 18 #[.pointer (some ⟨b, 0, none⟩)] w fun e w' => e = .returned (.string ⟨l.toArray⟩) ∧ strings_Builder_copyCheck.Wr 45 B b (Lib.byteCells l) w' ∧ Below B w w' := by
  have HN := Aside0.mk (strings_Builder_String.calls 45 B b l w h)
  clear h
  go_enter Try.func18, Try.ntmps18
  go_wp2_with (go_at_call 33; refine HN.out.mono ?_; rintro e w3 ⟨rfl, h3, hb3⟩; have H3 := Aside0.mk h3; have HB3 := Aside0.mk hb3; clear h3 hb3)
  go_ret
  exact ⟨rfl, H3.out, HB3.out⟩

/-! ### sum_Step: function 38 -/
def sum_Step.l0 : Nat → Int → Int → Option (Int)
  | 0, _, _ => none
  | k + 1, x0, x9 => if x9 < 8 then (sum_Step.l0 k (Go.bits .xor .u32 (x0 / 2) (Go.bits .and .u32 ((-(Go.bits .and .u32 x0 1)) % 4294967296) 3988292384)) (wrap64 (x9 + 1))) else (some x0)
def sum_Step.f (k : Nat) (a0 : Int) (a1 : Int) : Option (Int) := sum_Step.l0 k (Go.bits .xor .u32 a0 ((a1) % 4294967296)) 0
theorem sum_Step.mono_l : ∀ k, (∀ y0 y1, LeO (sum_Step.l0 k y0 y1) (sum_Step.l0 (k + 1) y0 y1))
  | 0 => fun _ _ r h => by simp [sum_Step.l0] at h
  | k + 1 => by
    have ih0 := sum_Step.mono_l k
    · intro y0 y1
      unfold sum_Step.l0
      repeat' first
      | (with_reducible exact ih0 _ _)
      | (with_reducible exact LeO.refl _)
      | (with_reducible exact LeO.none _)
      | (with_reducible refine LeO.ite ?_ ?_)
      | (with_reducible refine LeO.bind ?_ (fun _ => ?_))
      | exact ih0 _ _
      | exact LeO.none _
      | refine LeO.ite ?_ ?_
      | refine LeO.bind ?_ (fun _ => ?_)
theorem sum_Step.mono : ∀ a0 a1 k, LeO (sum_Step.f k a0 a1) (sum_Step.f (k + 1) a0 a1) := by
  intro a0 a1 k
  have ih0 := sum_Step.mono_l k
  unfold sum_Step.f
  repeat' first
      | (with_reducible exact ih0 _ _)
      | (with_reducible exact LeO.refl _)
      | (with_reducible exact LeO.none _)
      | (with_reducible refine LeO.ite ?_ ?_)
      | (with_reducible refine LeO.bind ?_ (fun _ => ?_))
      | exact ih0 _ _
      | exact LeO.none _
      | refine LeO.ite ?_ ?_
      | refine LeO.bind ?_ (fun _ => ?_)
set_option maxHeartbeats 8000000 in
set_option maxRecDepth 100000 in
theorem sum_Step.calls (k : Nat) (a0 : Int) (a1 : Int) (r : Int) (w : World) (h : sum_Step.f k a0 a1 = some r) :
    Calls Try.prog 38 #[.int .u32 a0, .int .u8 a1] w fun e w' => e = .returned (.int .u32 r) ∧ Drawn0 w w' := by
  have H : (sum_Step.l0 k (Go.bits .xor .u32 a0 ((a1) % 4294967296)) 0) = some r := h
  clear h
  have H' := Aside0.mk H
  clear H
  go_enter Try.func38, Try.ntmps38
  go_wp2
  go_loopg [0, 9] k (fun kq v0 v9 w' => ∃ (x0_1 : Int) (x9_1 : Int), v0 = .int .u32 x0_1 ∧ v9 = .int .i64 x9_1 ∧ Aside0 (sum_Step.l0 kq x0_1 x9_1 = some r) ∧ Aside0 (kq ≤ k) ∧ Drawn0 w w')
  case atStart => exact ⟨(Go.bits .xor .u32 a0 ((a1) % 4294967296)), (0), (by first | rfl | (simp; done) | (simp [*]; done)), (by first | rfl | (simp; done) | (simp [*]; done)), H', ⟨Nat.le_refl _⟩, by repeat (first | exact Drawn0.refl _ | apply Drawn0.step)⟩
  case round =>
    clear H'
    try clear p2
    obtain ⟨x0_1, x9_1, rfl, rfl, HA, HK1, ⟨m1, rfl⟩⟩ := hrel
    cases gk with
    | zero => exact absurd HA.out (by simp [sum_Step.l0])
    | succ k1 =>
      have H := HA.out
      clear HA
      simp only [sum_Step.l0] at H
      by_cases c3 : x9_1 < 8
      · rw [if_pos c3] at H
        have c3b0 : decide (x9_1 < 8) = true := decide_eq_true c3
        clear c3
        have H' := Aside0.mk H
        clear H
        go_wp2
        go_roundg k1
        case measure => have := HK1.out; omega
        case rel => exact ⟨(Go.bits .xor .u32 (x0_1 / 2) (Go.bits .and .u32 ((-(Go.bits .and .u32 x0_1 1)) % 4294967296) 3988292384)), (wrap64 (x9_1 + 1)), (by first | rfl | (simp; done) | (simp [*]; done)), (by first | rfl | (simp; done) | (simp [*]; done)), H', ⟨by have := HK1.out; omega⟩, by repeat (first | exact Drawn0.refl _ | apply Drawn0.step)⟩
      · rw [if_neg c3] at H
        have c3b0 : decide (x9_1 < 8) = false := decide_eq_false c3
        clear c3
        obtain rfl := Option.some.inj H
        go_wp2
        go_ret
        exact ⟨by first | rfl | (simp; done) | (simp [*]; done), by repeat (first | exact Drawn0.refl _ | apply Drawn0.step)⟩

/-! ### sum_Crc: function 34 -/
def sum_Crc.l0 : Nat → ByteArray → Int → Int → Int → Option (Int)
  | 0, _, _, _, _ => none
  | k + 1, x0, x3, x6, x7 => if x7 < x6 then (if 0 ≤ x7 then (if x7 < (x0.size : Int) then ((sum_Step.f k x3 (bt x0 x7)).bind fun t101 => (sum_Crc.l0 k x0 t101 x6 (wrap64 (x7 + 1)))) else (none)) else (none)) else (some (Go.bits .xor .u32 4294967295 x3))
def sum_Crc.f (k : Nat) (a0 : ByteArray) : Option (Int) := sum_Crc.l0 k a0 4294967295 (a0.size : Int) 0
theorem sum_Crc.mono_l : ∀ k, (∀ y0 y1 y2 y3, LeO (sum_Crc.l0 k y0 y1 y2 y3) (sum_Crc.l0 (k + 1) y0 y1 y2 y3))
  | 0 => fun _ _ _ _ r h => by simp [sum_Crc.l0] at h
  | k + 1 => by
    have ih0 := sum_Crc.mono_l k
    · intro y0 y1 y2 y3
      unfold sum_Crc.l0
      repeat' first
      | (with_reducible exact ih0 _ _ _ _)
      | (with_reducible exact sum_Step.mono _ _ _)
      | (with_reducible exact LeO.refl _)
      | (with_reducible exact LeO.none _)
      | (with_reducible refine LeO.ite ?_ ?_)
      | (with_reducible refine LeO.bind ?_ (fun _ => ?_))
      | exact ih0 _ _ _ _
      | exact sum_Step.mono _ _ _
      | exact LeO.none _
      | refine LeO.ite ?_ ?_
      | refine LeO.bind ?_ (fun _ => ?_)
theorem sum_Crc.mono : ∀ a0 k, LeO (sum_Crc.f k a0) (sum_Crc.f (k + 1) a0) := by
  intro a0 k
  have ih0 := sum_Crc.mono_l k
  unfold sum_Crc.f
  repeat' first
      | (with_reducible exact ih0 _ _ _ _)
      | (with_reducible exact sum_Step.mono _ _ _)
      | (with_reducible exact LeO.refl _)
      | (with_reducible exact LeO.none _)
      | (with_reducible refine LeO.ite ?_ ?_)
      | (with_reducible refine LeO.bind ?_ (fun _ => ?_))
      | exact ih0 _ _ _ _
      | exact sum_Step.mono _ _ _
      | exact LeO.none _
      | refine LeO.ite ?_ ?_
      | refine LeO.bind ?_ (fun _ => ?_)
set_option maxHeartbeats 8000000 in
set_option maxRecDepth 100000 in
theorem sum_Crc.calls (k : Nat) (a0 : ByteArray) (r : Int) (w : World) (h : sum_Crc.f k a0 = some r) :
    Calls Try.prog 34 #[.string a0] w fun e w' => e = .returned (.int .u32 r) ∧ Drawn0 w w' := by
  have H : (sum_Crc.l0 k a0 4294967295 (a0.size : Int) 0) = some r := h
  clear h
  have H' := Aside0.mk H
  clear H
  go_enter Try.func34, Try.ntmps34
  go_wp2
  go_loopg [3, 7] k (fun kq v3 v7 w' => ∃ (x3_1 : Int) (x7_1 : Int), v3 = .int .u32 x3_1 ∧ v7 = .int .i64 x7_1 ∧ Aside0 (sum_Crc.l0 kq a0 x3_1 (a0.size : Int) x7_1 = some r) ∧ Aside0 (kq ≤ k) ∧ Drawn0 w w')
  case atStart => exact ⟨(4294967295), (0), (by first | rfl | (simp; done) | (simp [*]; done)), (by first | rfl | (simp; done) | (simp [*]; done)), H', ⟨Nat.le_refl _⟩, by repeat (first | exact Drawn0.refl _ | apply Drawn0.step)⟩
  case round =>
    clear H'
    obtain ⟨x3_1, x7_1, rfl, rfl, HA, HK1, ⟨m1, rfl⟩⟩ := hrel
    cases gk with
    | zero => exact absurd HA.out (by simp [sum_Crc.l0])
    | succ k1 =>
      have H := HA.out
      clear HA
      simp only [sum_Crc.l0] at H
      by_cases c2 : x7_1 < (a0.size : Int)
      · rw [if_pos c2] at H
        have c2b0 : decide (x7_1 < (a0.size : Int)) = true := decide_eq_true c2
        clear c2
        by_cases c3 : 0 ≤ x7_1
        · rw [if_pos c3] at H
          have c3b0 : decide (0 ≤ x7_1) = true := decide_eq_true c3
          clear c3
          by_cases c4 : x7_1 < (a0.size : Int)
          · rw [if_pos c4] at H
            have c4b0 : decide (x7_1 < (a0.size : Int)) = true := decide_eq_true c4
            clear c4
            replace H := Option.bind_eq_some_iff.mp H
            obtain ⟨t101, A60, H⟩ := H
            replace H : (sum_Crc.l0 k1 a0 t101 (a0.size : Int) (wrap64 (x7_1 + 1))) = some r := H
            have A6 := Aside0.mk A60
            clear A60
            have H' := Aside0.mk H
            clear H
            have p5 : 0 ≤ (x7_1 : Int) := of_decide_eq_true (by first | (with_reducible assumption) | assumption)
            have q5 : x7_1 < (a0.size : Int) := of_decide_eq_true (by first | (with_reducible assumption) | assumption)
            have hx5 := bt_at a0 x7_1
            replace p5 := eq_true p5
            replace q5 := eq_true q5
            go_wp2_with (first | ((with_reducible refine gate_callee (f := 38) rfl ?_); refine goesL_ (some 14) rfl rfl Try.func38 (by kernel_rfl) rfl #[.int .u32 x3_1, .int .u8 (bt a0 x7_1)] rfl (by (try simp only [List.map_toArray, List.map_cons, List.map_nil]); first | done | rfl | (simp only [List.length_drop, List.length_take]; rfl)) ?_; (with_reducible refine (sum_Step.calls k1 x3_1 (bt a0 x7_1) t101 _ A6.out).mono ?_); rintro e w' ⟨rfl, ⟨nd, rfl⟩⟩; refine ⟨_, rfl, ?_⟩))
            go_roundg k1
            case measure => have := HK1.out; omega
            case rel => exact ⟨(t101), (wrap64 (x7_1 + 1)), (by first | rfl | (simp; done) | (simp [*]; done)), (by first | rfl | (simp; done) | (simp [*]; done)), H', ⟨by have := HK1.out; omega⟩, by repeat (first | exact Drawn0.refl _ | apply Drawn0.step)⟩
          · rw [if_neg c4] at H
            exact absurd H (by simp)
        · rw [if_neg c3] at H
          exact absurd H (by simp)
      · rw [if_neg c2] at H
        have c2b0 : decide (x7_1 < (a0.size : Int)) = false := decide_eq_false c2
        clear c2
        obtain rfl := Option.some.inj H
        go_wp2
        go_ret
        exact ⟨by first | rfl | (simp; done) | (simp [*]; done), by repeat (first | exact Drawn0.refl _ | apply Drawn0.step)⟩

/-! ### chunk_tail: function 19 -/
def chunk_tail.f (k : Nat) (a0 : ByteArray) : Option (ByteArray) := (sum_Crc.f k a0).bind fun t102 => (some (strOfNums (([(t102) % 256, (t102 / 256) % 256, (t102 / 65536) % 256, (t102 / 16777216) % 256] : List Int))))
theorem chunk_tail.mono : ∀ a0 k, LeO (chunk_tail.f k a0) (chunk_tail.f (k + 1) a0) := by
  intro a0 k
  unfold chunk_tail.f
  repeat' first
      | (with_reducible exact sum_Crc.mono _ _)
      | (with_reducible exact LeO.refl _)
      | (with_reducible exact LeO.none _)
      | (with_reducible refine LeO.ite ?_ ?_)
      | (with_reducible refine LeO.bind ?_ (fun _ => ?_))
      | exact sum_Crc.mono _ _
      | exact LeO.none _
      | refine LeO.ite ?_ ?_
      | refine LeO.bind ?_ (fun _ => ?_)
set_option maxHeartbeats 8000000 in
set_option maxRecDepth 100000 in
theorem chunk_tail.calls (k : Nat) (a0 : ByteArray) (r : ByteArray) (w : World) (h : chunk_tail.f k a0 = some r) :
    Calls Try.prog 19 #[.string a0] w fun e w' => e = .returned (.string r) ∧ Below w.heap.size w w' := by
  have HB := Aside0.mk (Below.refl w.heap.size w)
  have H : ((sum_Crc.f k a0).bind fun t102 => (some (strOfNums (([(t102) % 256, (t102 / 256) % 256, (t102 / 65536) % 256, (t102 / 16777216) % 256] : List Int))))) = some r := h
  clear h
  replace H := Option.bind_eq_some_iff.mp H
  obtain ⟨t102, A20, H⟩ := H
  replace H : (some (strOfNums (([(t102) % 256, (t102 / 256) % 256, (t102 / 65536) % 256, (t102 / 16777216) % 256] : List Int)))) = some r := H
  have A2 := Aside0.mk A20
  clear A20
  obtain ⟨y103, hy103⟩ : ∃ y_ : List Int, y_ = (([(t102) % 256, (t102 / 256) % 256, (t102 / 65536) % 256, (t102 / 16777216) % 256] : List Int)) := ⟨_, rfl⟩
  replace H : (some (strOfNums y103)) = some r := by first | (rw [hy103]; with_reducible exact H) | (have H2_ := (Option.bind_some _ _).symm.trans H; rw [hy103]; with_reducible exact H2_) | (have H2_ := (Option.bind_some _ _).symm.trans H; with_reducible exact H2_) | with_reducible exact H | (rw [hy103]; exact H) | exact H
  have Ny103 := Aside0.mk hy103
  clear hy103
  obtain rfl := Option.some.inj H
  go_enter Try.func19, Try.ntmps19
  go_wp2_with (first | ((with_reducible refine gate_callee (f := 34) rfl ?_); refine goesL_ (some 5) rfl rfl Try.func34 (by kernel_rfl) rfl #[.string a0] rfl (by (try simp only [List.map_toArray, List.map_cons, List.map_nil]); first | done | rfl | (simp only [List.length_drop, List.length_take]; rfl)) ?_; (with_reducible refine (sum_Crc.calls k a0 t102 _ A2.out).mono ?_); rintro e w' ⟨rfl, ⟨nd, rfl⟩⟩; refine ⟨_, rfl, ?_⟩) | ((with_reducible refine gate_dst (N := 17) rfl ?_); refine Kd.R_lit (Kd.int .u8) _ 5 ?hg (N := 17) ?hd (xs := ([(t102) % 256, (t102 / 256) % 256, (t102 / 65536) % 256, (t102 / 16777216) % 256] : List Int)) (inner := [.int .u8 ((t102) % 256), .int .u8 ((t102 / 256) % 256), .int .u8 ((t102 / 65536) % 256), .int .u8 ((t102 / 16777216) % 256)]) (ok := fun _ => True) (okp := fun _ => True) ?hr ?hp (fun _ hk => hk) trivial (Below.refl _ _) (Nat.le_refl _) (by simp) ?_; (case hd => rfl); (case hg => rfl); (case hr => first | (go_simp; done) | (go_simp; rfl)); (case hp => exact (Reps.one (show Kd.M (Kd.int .u8) _ _ _ ((t102) % 256) [.int .u8 ((t102) % 256)] from rfl) (Reps.one (show Kd.M (Kd.int .u8) _ _ _ ((t102 / 256) % 256) [.int .u8 ((t102 / 256) % 256)] from rfl) (Reps.one (show Kd.M (Kd.int .u8) _ _ _ ((t102 / 65536) % 256) [.int .u8 ((t102 / 65536) % 256)] from rfl) (Reps.one (show Kd.M (Kd.int .u8) _ _ _ ((t102 / 16777216) % 256) [.int .u8 ((t102 / 16777216) % 256)] from rfl) (Reps.none _ _)))))); intro v104 w3 ho4 hb hg_ hnew_; clear hg_ hnew_; (first | rw [← Ny103.out] at ho4 | (simp only [Int.reduceToNat] at ho4; rw [← Ny103.out] at ho4)); have n0_ := Aside0.mk (Kd.R_lower ho4 (below_size (by repeat (first | (with_reducible first | exact HB.out | apply below_alloc | apply pw_below_drewN | apply below_drew1) | exact HB.out)))); have n1_ := Aside0.mk (below_step (by repeat (first | (with_reducible first | exact HB.out | apply below_alloc | apply pw_below_drewN | apply below_drew1) | exact HB.out)) hb); clear HB; have HO105 := n0_; have HB := n1_; clear n0_ n1_; clear hb ho4; have hcv5 := own_string (P := Try.prog) Try.underlying35 Try.underlying5 Try.underlying9 (Kd.own_of_R HO105.out)))
  go_ret
  exact ⟨by first | rfl | (simp [errW_none, errW_some] <;> rfl) | (simp [*, errW_none, errW_some] <;> rfl), by repeat (first | (with_reducible first | exact HB.out | apply below_alloc | apply pw_below_drewN | apply below_drew1) | exact HB.out)⟩

/-! ### chunk_Encode: function 11 (by hand) -/
def chunk_Encode.flags (a b : Bool) : Nat := (if a then 1 else 0) + (if b then 2 else 0)
def chunk_Encode.body (e q : Int) (a b : Bool) (d : ByteArray) : List UInt8 := Hw.code (Hw.clamp e) ++ Hw.code (Hw.clamp q) ++ Hw.code (chunk_Encode.flags a b) ++ (Hw.code d.size ++ d.data.toList)
def chunk_Encode.f (k : Nat) (a0_0 a0_1 : Int) (a0_2 a0_3 : Bool) (a0_4 : ByteArray) : Option (ByteArray × Int) :=
  if a0_0 < 0 ∨ a0_0 > 1099511627776 ∨ a0_1 < 0 ∨ a0_1 > 1099511627776 then some (⟨#[]⟩, 1) else if (a0_4.size : Int) > 96 then some (⟨#[]⟩, 31) else
    (chunk_tail.f k ⟨(chunk_Encode.body a0_0 a0_1 a0_2 a0_3 a0_4).toArray⟩).bind fun t => if t.size ≤ 100 then some ((⟨(chunk_Encode.body a0_0 a0_1 a0_2 a0_3 a0_4).toArray⟩ : ByteArray) ++ t, 0) else none
theorem chunk_Encode.mono : ∀ a0 a1 a2 a3 a4 k, LeO (chunk_Encode.f k a0 a1 a2 a3 a4) (chunk_Encode.f (k + 1) a0 a1 a2 a3 a4) := by
  intro a0 a1 a2 a3 a4 k
  unfold chunk_Encode.f
  exact LeO.ite (LeO.refl _) (LeO.ite (LeO.refl _) (LeO.bind (chunk_tail.mono _ _) fun _ => LeO.refl _))
theorem chunk_Encode.flags_lt (a b : Bool) : chunk_Encode.flags a b < 4 := by cases a <;> cases b <;> decide
theorem chunk_Encode.flags_len (a b : Bool) : (Hw.code (chunk_Encode.flags a b)).length = 1 := by rw [Hw.code_lo _ (by have := chunk_Encode.flags_lt a b; omega)]; rfl
set_option maxHeartbeats 4000000 in
set_option maxRecDepth 100000 in
theorem chunk_Encode.calls (k : Nat) (a0_0 a0_1 : Int) (a0_2 a0_3 : Bool) (a0_4 : ByteArray) (r1 : ByteArray) (r2 : Int) (w : World) (h : chunk_Encode.f k a0_0 a0_1 a0_2 a0_3 a0_4 = some (r1, r2)) :
    Calls Try.prog 11 #[.agg #[.int .i64 a0_0, .int .i64 a0_1, .bool a0_2, .bool a0_3, .string a0_4]] w fun e w' => e = .returned (.tuple #[.string r1, .int .i64 r2]) ∧ Below w.heap.size w w' := by
  unfold chunk_Encode.f at h
  by_cases hb : a0_0 < 0 ∨ a0_0 > 1099511627776 ∨ a0_1 < 0 ∨ a0_1 > 1099511627776
  · rw [if_pos hb] at h
    simp only [Option.some.injEq, Prod.mk.injEq] at h
    obtain ⟨rfl, rfl⟩ := h
    have fin : ∀ b1 b2 b3 b4 : Bool, (b1 || b2 || b3 || b4) = true → decide (a0_0 < 0) = b1 → decide (1099511627776 < a0_0) = b2 → decide (a0_1 < 0) = b3 → decide (1099511627776 < a0_1) = b4 → Calls Try.prog 11 #[.agg #[.int .i64 a0_0, .int .i64 a0_1, .bool a0_2, .bool a0_3, .string a0_4]] w fun e w' => e = .returned (.tuple #[.string ⟨#[]⟩, .int .i64 1]) ∧ Below w.heap.size w w' := by
      intro b1 b2 b3 b4 h0 h1 h2 h3 h4
      clear hb
      cases b1 <;> cases b2 <;> cases b3 <;> cases b4 <;> first | (exfalso; exact absurd h0 (by decide)) | skip
      all_goals
        clear h0
        go_enter Try.func11, Try.ntmps11
        go_wp2
        go_ret2
        exact ⟨rfl, below_alloc (Below.refl _ _) _⟩
    refine fin _ _ _ _ ?_ rfl rfl rfl rfl
    rcases hb with hb | hb | hb | hb <;> simp [hb]
  · rw [if_neg hb] at h
    have hb1 : decide (a0_0 < 0) = false := decide_eq_false (by omega)
    have hb2 : decide (1099511627776 < a0_0) = false := decide_eq_false (by omega)
    have hb3 : decide (a0_1 < 0) = false := decide_eq_false (by omega)
    have hb4 : decide (1099511627776 < a0_1) = false := decide_eq_false (by omega)
    clear hb
    by_cases hs : (a0_4.size : Int) > 96
    · rw [if_pos hs] at h
      simp only [Option.some.injEq, Prod.mk.injEq] at h
      obtain ⟨rfl, rfl⟩ := h
      have hs1 : decide ((96 : Int) < (a0_4.size : Int)) = true := decide_eq_true hs
      have hs2 : decide (96 < a0_4.size) = true := decide_eq_true (by omega)
      clear hs
      go_enter Try.func11, Try.ntmps11
      go_wp2
      go_ret2
      exact ⟨rfl, below_alloc (Below.refl _ _) _⟩
    · rw [if_neg hs] at h
      have hs1 : decide ((96 : Int) < (a0_4.size : Int)) = false := decide_eq_false hs
      have hs2 : decide (96 < a0_4.size) = false := decide_eq_false (by omega)
      have HS : Aside0 (a0_4.size ≤ 96) := ⟨by omega⟩
      clear hs
      obtain ⟨t, ht, h⟩ := Option.bind_eq_some_iff.1 h
      by_cases hts : t.size ≤ 100
      case neg => rw [if_neg hts] at h; cases h
      rw [if_pos hts] at h
      simp only [Option.some.injEq, Prod.mk.injEq] at h
      obtain ⟨rfl, rfl⟩ := h
      have HT := Aside0.mk (fun W => chunk_tail.calls k ⟨(chunk_Encode.body a0_0 a0_1 a0_2 a0_3 a0_4).toArray⟩ t W ht)
      clear ht
      have HL : Aside0 ((Hw.code (Hw.clamp a0_0)).length ≤ 8 ∧ (Hw.code (Hw.clamp a0_1)).length ≤ 8 ∧ (Hw.code a0_4.size).length ≤ 8 ∧ a0_4.data.toList.length = a0_4.size) := ⟨Hw.code_len 7 _ (Hw.clamp_lt _), Hw.code_len 7 _ (Hw.clamp_lt _), Hw.code_len 7 _ (by have := HS.out; omega), data_length _⟩
      have hsz : (w.alloc (.cells #[.int .i64 a0_0, .int .i64 a0_1, .bool a0_2, .bool a0_3, .string a0_4] 29)).heap.size = w.heap.size + 1 := by simp
      have HW0 := strings_Builder_copyCheck.fresh_wr 45 (w.alloc (.cells #[.int .i64 a0_0, .int .i64 a0_1, .bool a0_2, .bool a0_3, .string a0_4] 29))
      rw [hsz] at HW0
      have HW0 := Aside0.mk HW0
      clear hsz
      have HC0 : Aside0 (∀ W, Below (w.heap.size + 1) ((w.alloc (.cells #[.int .i64 a0_0, .int .i64 a0_1, .bool a0_2, .bool a0_3, .string a0_4] 29)).alloc (.cells #[.pointer none, .slice none 0 0] 45)) W → W.cell? ⟨w.heap.size, 0, none⟩ = some (.int .i64 a0_0) ∧ W.cell? ⟨w.heap.size, 1, none⟩ = some (.int .i64 a0_1) ∧ W.cell? ⟨w.heap.size, 4, none⟩ = some (.string a0_4)) := ⟨fun W hb => by
        have hk := blk_cell (Hw.blk_al (Hw.blk_nw w (.cells #[.int .i64 a0_0, .int .i64 a0_1, .bool a0_2, .bool a0_3, .string a0_4] 29)) (.cells #[.pointer none, .slice none 0 0] 45))
        exact ⟨(hb.cell (p := ⟨w.heap.size, 0, none⟩) (by simp)).trans (hk 0), (hb.cell (p := ⟨w.heap.size, 1, none⟩) (by simp)).trans (hk 1), (hb.cell (p := ⟨w.heap.size, 4, none⟩) (by simp)).trans (hk 4)⟩⟩
      have HB0 : Aside0 (Below w.heap.size w ((w.alloc (.cells #[.int .i64 a0_0, .int .i64 a0_1, .bool a0_2, .bool a0_3, .string a0_4] 29)).alloc (.cells #[.pointer none, .slice none 0 0] 45))) := ⟨below_alloc (below_alloc (Below.refl _ _) _) _⟩
      have HNX : Aside0 (∀ (bs : List UInt8) (n : Int) (wq : World), strings_Builder_copyCheck.Wr 45 (w.heap.size + 1) (w.heap.size + 1) (Lib.byteCells bs) wq → bs.length ≤ 1000 →
        Calls Try.prog 16 #[.pointer (some ⟨w.heap.size + 1, 0, none⟩), .int .i64 n] wq fun e w' => e = .returned (.tuple #[]) ∧ strings_Builder_copyCheck.Wr 45 (w.heap.size + 1) (w.heap.size + 1) (Lib.byteCells (bs ++ Hw.code (Hw.clamp n))) w' ∧ Below (w.heap.size + 1) wq w') := ⟨fun bs n wq h1 h3 => pack_Writer_Number.calls _ _ bs n wq h1 (by omega) (Nat.le_of_lt h1.lt)⟩
      have HTX : Aside0 (∀ (bs : List UInt8) (wq : World), strings_Builder_copyCheck.Wr 45 (w.heap.size + 1) (w.heap.size + 1) (Lib.byteCells bs) wq → bs.length ≤ 1000 →
        Calls Try.prog 17 #[.pointer (some ⟨w.heap.size + 1, 0, none⟩), .string a0_4] wq fun e w' => e = .returned (.tuple #[]) ∧ strings_Builder_copyCheck.Wr 45 (w.heap.size + 1) (w.heap.size + 1) (Lib.byteCells (bs ++ (Hw.code a0_4.size ++ a0_4.data.toList))) w' ∧ Below (w.heap.size + 1) wq w') := ⟨fun bs wq h1 h3 => pack_Writer_Text.calls _ _ bs a0_4 wq h1 (by have := HS.out; omega) (by have := HS.out; omega) (Nat.le_of_lt h1.lt)⟩
      have HBX : Aside0 (∀ (bs : List UInt8) (wq : World), strings_Builder_copyCheck.Wr 45 (w.heap.size + 1) (w.heap.size + 1) (Lib.byteCells bs) wq → bs = chunk_Encode.body a0_0 a0_1 a0_2 a0_3 a0_4 →
        Calls Try.prog 18 #[.pointer (some ⟨w.heap.size + 1, 0, none⟩)] wq fun e w' => e = .returned (.string ⟨(chunk_Encode.body a0_0 a0_1 a0_2 a0_3 a0_4).toArray⟩) ∧ Below (w.heap.size + 1) wq w') := ⟨fun bs wq h1 h2 => by subst h2; exact (pack_Writer_Bytes.calls _ _ _ wq h1).mono fun e w' h => ⟨h.1, h.2.2⟩⟩
      have hsum : (⟨(chunk_Encode.body a0_0 a0_1 a0_2 a0_3 a0_4).toArray⟩ : ByteArray).size + t.size ≤ 9223372036854775807 := by
        have e1 : (⟨(chunk_Encode.body a0_0 a0_1 a0_2 a0_3 a0_4).toArray⟩ : ByteArray).size = (chunk_Encode.body a0_0 a0_1 a0_2 a0_3 a0_4).length := List.size_toArray
        have h1 := HL.out
        have h2 := HS.out
        rw [e1]
        unfold chunk_Encode.body
        simp only [List.length_append, chunk_Encode.flags_len]
        omega
      have HF : Aside0 (∀ n : Nat, chunk_Encode.flags a0_2 a0_3 = n → chunk_Encode.body a0_0 a0_1 a0_2 a0_3 a0_4 = ((Hw.code (Hw.clamp a0_0) ++ Hw.code (Hw.clamp a0_1)) ++ Hw.code (Hw.clamp (n : Int))) ++ (Hw.code a0_4.size ++ a0_4.data.toList) ∧ (Hw.code (Hw.clamp (n : Int))).length ≤ 8) := ⟨fun n hn => by
        subst hn
        rw [Hw.clamp_nat _ (by have := chunk_Encode.flags_lt a0_2 a0_3; omega)]
        exact ⟨rfl, by rw [chunk_Encode.flags_len]; omega⟩⟩
      obtain ⟨hc0, hc1, hc4⟩ := HC0.out _ (Below.refl _ _)
      generalize hBD : chunk_Encode.body a0_0 a0_1 a0_2 a0_3 a0_4 = BD at *
      clear hBD hts
      cases a0_2 <;> cases a0_3
      all_goals
        first | have HFN := Aside0.mk (HF.out 0 rfl) | have HFN := Aside0.mk (HF.out 1 rfl) | have HFN := Aside0.mk (HF.out 2 rfl) | have HFN := Aside0.mk (HF.out 3 rfl)
        clear HF
        have hbit1 : Go.bits .or .i64 0 1 = 1 := by decide
        have hbit2 : Go.bits .or .i64 0 2 = 2 := by decide
        have hbit3 : Go.bits .or .i64 1 2 = 3 := by decide
        go_enter Try.func11, Try.ntmps11
        go_wp2_with (first | (go_at_call 17; (with_reducible refine (HTX.out _ _ HW3.out (by have := HL.out; have q0 := Hw.code_len 7 _ (Hw.clamp_lt 0); have q1 := Hw.code_len 7 _ (Hw.clamp_lt 1); have q2 := Hw.code_len 7 _ (Hw.clamp_lt 2); have q3 := Hw.code_len 7 _ (Hw.clamp_lt 3); simp only [List.nil_append, List.length_append]; omega)).mono ?_); rintro e w4 ⟨rfl, h4, hb4⟩; have HW4 := Aside0.mk h4; have B4 := Aside0.mk (B3.out.trans hb4); clear h4 hb4) | (go_at_call 16; (with_reducible refine (HNX.out _ _ _ HW2.out (by have := HL.out; simp only [List.nil_append, List.length_append]; omega)).mono ?_); rintro e w3 ⟨rfl, h3, hb3⟩; have HW3 := Aside0.mk h3; have B3 := Aside0.mk (B2.out.trans hb3); obtain ⟨hc0, hc1, hc4⟩ := HC0.out _ B3.out; clear h3 hb3) | (go_at_call 16; (with_reducible refine (HNX.out _ _ _ HW1.out (by have := HL.out; simp only [List.nil_append, List.length_append]; omega)).mono ?_); rintro e w2 ⟨rfl, h2, hb2⟩; have HW2 := Aside0.mk h2; have B2 := Aside0.mk (B1.out.trans hb2); obtain ⟨hc0, hc1, hc4⟩ := HC0.out _ B2.out; clear h2 hb2) | (go_at_call 16; (with_reducible refine (HNX.out _ _ _ HW0.out (by simp)).mono ?_); rintro e w1 ⟨rfl, h1, hb1⟩; have HW1 := Aside0.mk h1; have B1 := Aside0.mk hb1; obtain ⟨hc0, hc1, hc4⟩ := HC0.out _ B1.out; clear h1 hb1) | (go_at_call 18; (with_reducible refine (HBX.out _ _ HW4.out ?_).mono ?_); (next => exact HFN.out.1.symm); rintro e w5 ⟨rfl, hb5⟩; have B5 := Aside0.mk (B4.out.trans hb5); clear hb5) | (go_at_call 19; (with_reducible refine (HT.out _).mono ?_); rintro e w6 ⟨rfl, hb6⟩; have B6 := Aside0.mk hb6; clear hb6))
        go_ret2
        exact ⟨rfl, (HB0.out.trans (B5.out.mono (by omega))).trans (B6.out.mono (HB0.out.trans (B5.out.mono (by omega))).size)⟩

/-! ### cubbyref02_Code: function 20 -/
def cubbyref02_Code.l0 : Nat → Int → List Int → Option (ByteArray)
  | 0, _, _ => none
  | k + 1, x0, x3 => if x0 ≥ 128 then (if x3.length < 140737488355328 then (cubbyref02_Code.l0 k (wrap64 (Int.tdiv x0 128)) (x3 ++ [(wrap64 ((Int.tmod x0 128) + 128)) % 256])) else (none)) else (if x3.length < 140737488355328 then (some (strOfNums (x3 ++ [(x0) % 256]))) else (none))
def cubbyref02_Code.f (k : Nat) (a0 : Int) : Option (ByteArray) := cubbyref02_Code.l0 k (mx 0 (mn a0 72057594037927935)) (([] : List Int))
theorem cubbyref02_Code.mono_l : ∀ k, (∀ y0 y1, LeO (cubbyref02_Code.l0 k y0 y1) (cubbyref02_Code.l0 (k + 1) y0 y1))
  | 0 => fun _ _ r h => by simp [cubbyref02_Code.l0] at h
  | k + 1 => by
    have ih0 := cubbyref02_Code.mono_l k
    · intro y0 y1
      unfold cubbyref02_Code.l0
      repeat' first
      | (with_reducible exact ih0 _ _)
      | (with_reducible exact LeO.refl _)
      | (with_reducible exact LeO.none _)
      | (with_reducible refine LeO.ite ?_ ?_)
      | (with_reducible refine LeO.bind ?_ (fun _ => ?_))
      | exact ih0 _ _
      | exact LeO.none _
      | refine LeO.ite ?_ ?_
      | refine LeO.bind ?_ (fun _ => ?_)
theorem cubbyref02_Code.mono : ∀ a0 k, LeO (cubbyref02_Code.f k a0) (cubbyref02_Code.f (k + 1) a0) := by
  intro a0 k
  have ih0 := cubbyref02_Code.mono_l k
  unfold cubbyref02_Code.f
  repeat' first
      | (with_reducible exact ih0 _ _)
      | (with_reducible exact LeO.refl _)
      | (with_reducible exact LeO.none _)
      | (with_reducible refine LeO.ite ?_ ?_)
      | (with_reducible refine LeO.bind ?_ (fun _ => ?_))
      | exact ih0 _ _
      | exact LeO.none _
      | refine LeO.ite ?_ ?_
      | refine LeO.bind ?_ (fun _ => ?_)
set_option maxHeartbeats 8000000 in
set_option maxRecDepth 100000 in
theorem cubbyref02_Code.calls (k : Nat) (a0 : Int) (r : ByteArray) (w : World) (h : cubbyref02_Code.f k a0 = some r) :
    Calls Try.prog 20 #[.int .i64 a0] w fun e w' => e = .returned (.string r) ∧ Below w.heap.size w w' := by
  have HB := Aside0.mk (Below.refl w.heap.size w)
  have H : (cubbyref02_Code.l0 k (mx 0 (mn a0 72057594037927935)) (([] : List Int))) = some r := h
  clear h
  obtain ⟨ji2, hji2⟩ : ∃ j_ : Int, (mn a0 72057594037927935) = j_ := ⟨_, rfl⟩
  replace H : (cubbyref02_Code.l0 k (mx 0 (ji2)) (([] : List Int))) = some r := by first | (rw [hji2] at H; exact H) | (simp only [hji2] at H ⊢; exact H)
  (try (have hji2h : ji2 ≤ 72057594037927935 := by (rw [← hji2]; unfold mn; (repeat' split) <;> omega)))
  (try (have hji2g : ji2 ≤ 64 := by omega))
  have hji2_ : (if 72057594037927935 < a0 then 72057594037927935 else a0) = ji2 := hji2
  obtain ⟨ji3, hji3⟩ : ∃ j_ : Int, (mx 0 (ji2)) = j_ := ⟨_, rfl⟩
  replace H : (cubbyref02_Code.l0 k ji3 (([] : List Int))) = some r := by first | (rw [hji3] at H; exact H) | (simp only [hji3] at H ⊢; exact H)
  have hji3_ : (if 0 < (ji2) then (ji2) else 0) = ji3 := hji3
  obtain ⟨y106, hy106⟩ : ∃ y_ : List Int, y_ = (([] : List Int)) := ⟨_, rfl⟩
  replace H : (cubbyref02_Code.l0 k ji3 y106) = some r := by first | (rw [hy106]; with_reducible exact H) | (have H2_ := (Option.bind_some _ _).symm.trans H; rw [hy106]; with_reducible exact H2_) | (have H2_ := (Option.bind_some _ _).symm.trans H; with_reducible exact H2_) | with_reducible exact H | (rw [hy106]; exact H) | exact H
  have Ny106 := Aside0.mk hy106
  clear hy106
  have H' := Aside0.mk H
  clear H
  go_enter Try.func20, Try.ntmps20
  go_wp2_with (first | ((with_reducible refine gate_dst (N := 7) rfl ?_); refine Kd.R_lit (Kd.int .u8) _ 5 ?hg (N := 7) ?hd (xs := ([] : List Int)) (inner := []) (ok := fun _ => True) (okp := fun _ => True) ?hr ?hp (fun _ hk => hk) trivial (Below.refl _ _) (Nat.le_refl _) (by simp) ?_; (case hd => rfl); (case hg => rfl); (case hr => first | (go_simp; done) | (go_simp; rfl)); (case hp => exact (Reps.none _ _)); intro v107 w4 ho5 hb hg_ hnew_; clear hg_ hnew_; (first | rw [← Ny106.out] at ho5 | (simp only [Int.reduceToNat] at ho5; rw [← Ny106.out] at ho5)); have n0_ := Aside0.mk (Kd.R_lower ho5 (below_size (by repeat (first | (with_reducible first | exact HB.out | apply below_alloc | apply pw_below_drewN | apply below_drew1) | exact HB.out)))); have n1_ := Aside0.mk (below_step (by repeat (first | (with_reducible first | exact HB.out | apply below_alloc | apply pw_below_drewN | apply below_drew1) | exact HB.out)) hb); clear HB; have HO108 := n0_; have HB := n1_; clear n0_ n1_; clear hb ho5))
  go_loopg [0, 3] k (fun kq v0 v3 w' => ∃ (x0_1 : Int) (x3_1 : List Int), v0 = .int .i64 x0_1 ∧ Aside0 (cubbyref02_Code.l0 kq x0_1 x3_1 = some r) ∧ Aside0 (kq ≤ k) ∧ Aside0 (Kd.R (Kd.int .u8) 5 w' w.heap.size (fun _ => True) v3 x3_1) ∧ Aside0 (Below w.heap.size w w'))
  case atStart => exact ⟨(ji3), (y106), (by first | rfl | (simp; done) | (simp only [← hji3] <;> (first | rfl | simp)) | (simp [*]; done)), H', ⟨Nat.le_refl _⟩, ⟨by (with_reducible repeat (first | apply Kd.R_alloc | apply Kd.R_drewN | apply Kd.R_drew)); exact HO108.out⟩, ⟨by repeat (first | (with_reducible first | exact HB.out | apply below_alloc | apply pw_below_drewN | apply below_drew1) | exact HB.out)⟩⟩
  case round =>
    clear H'
    try clear c2
    try clear p2
    obtain ⟨x0_1, x3_1, rfl, HA, HK1, HO_3, HB⟩ := hrel
    cases gk with
    | zero => exact absurd HA.out (by simp [cubbyref02_Code.l0])
    | succ k1 =>
      have H := HA.out
      clear HA
      simp only [cubbyref02_Code.l0] at H
      by_cases c6 : x0_1 ≥ 128
      · rw [if_pos c6] at H
        have c6b0 : decide (128 ≤ x0_1) = true := decide_eq_true c6
        clear c6
        by_cases c7 : x3_1.length < 140737488355328
        · rw [if_pos c7] at H
          have LMc7 := Aside0.mk c7
          clear c7
          obtain ⟨y109, hy109⟩ : ∃ y_ : List Int, y_ = (x3_1 ++ [(wrap64 ((Int.tmod x0_1 128) + 128)) % 256]) := ⟨_, rfl⟩
          replace H : (cubbyref02_Code.l0 k1 (wrap64 (Int.tdiv x0_1 128)) y109) = some r := by first | (rw [hy109]; with_reducible exact H) | (have H2_ := (Option.bind_some _ _).symm.trans H; rw [hy109]; with_reducible exact H2_) | (have H2_ := (Option.bind_some _ _).symm.trans H; with_reducible exact H2_) | with_reducible exact H | (rw [hy109]; exact H) | exact H
          have Ny109 := Aside0.mk hy109
          clear hy109
          have H' := Aside0.mk H
          clear H
          go_wp2_with (first | ((with_reducible refine gate_builtin (b := .append) (xs := #[.tmp 10, .tmp 15]) rfl ?_); at_builtin; refine Kd.R_append (Kd.int .u8) (w0 := w) w.heap.size rfl (.tmp 10) (.tmp 15) 35 5 (.int .u8 0) 1 rfl Try.underlying35 info5 rfl (by decide) (by omega) u3 x3_1 ((wrap64 ((Int.tmod x0_1 128) + 128)) % 256) [.int .u8 ((wrap64 ((Int.tmod x0_1 128) + 128)) % 256)] (fun _ => True) (fun _ => False) rfl rfl ?aP (fun _ hk => hk.elim) ?aF ?aO ?aB ?aS ?aL ?_; (case aP => exact rfl); (case aB => exact (by repeat (first | (with_reducible first | exact HB.out | apply below_alloc | apply pw_below_drewN | apply below_drew1) | exact HB.out))); (case aF => exact (fun _ _ => trivial)); (case aO => exact (by (with_reducible repeat (first | apply Kd.R_alloc | apply Kd.R_drewN | apply Kd.R_drew)); exact HO_3.out)); (case aS => exact (below_size (by repeat (first | (with_reducible first | exact HB.out | apply below_alloc | apply pw_below_drewN | apply below_drew1) | exact HB.out)))); (case aL => have := LMc7.out; omega); intro v110 w8 ho hb hg hat; rw [← Ny109.out] at ho; have n0_ := Aside0.mk (hb); have n1_ := Aside0.mk (ho); clear HB; clear HO_3; have HB := n0_; have HO111 := n1_; clear n0_ n1_; clear ho hb hg hat))
          go_roundg k1
          case measure => have := HK1.out; omega
          case rel => exact ⟨(wrap64 (Int.tdiv x0_1 128)), (y109), (by first | rfl | (simp; done) | (simp [*]; done)), H', ⟨by have := HK1.out; omega⟩, ⟨by (with_reducible repeat (first | apply Kd.R_alloc | apply Kd.R_drewN | apply Kd.R_drew)); exact HO111.out⟩, ⟨by repeat (first | (with_reducible first | exact HB.out | apply below_alloc | apply pw_below_drewN | apply below_drew1) | exact HB.out)⟩⟩
        · rw [if_neg c7] at H
          exact absurd H (by simp)
      · rw [if_neg c6] at H
        have c6b0 : decide (128 ≤ x0_1) = false := decide_eq_false c6
        clear c6
        by_cases c9 : x3_1.length < 140737488355328
        · rw [if_pos c9] at H
          have LMc9 := Aside0.mk c9
          clear c9
          obtain ⟨y112, hy112⟩ : ∃ y_ : List Int, y_ = (x3_1 ++ [(x0_1) % 256]) := ⟨_, rfl⟩
          replace H : (some (strOfNums y112)) = some r := by first | (rw [hy112]; with_reducible exact H) | (have H2_ := (Option.bind_some _ _).symm.trans H; rw [hy112]; with_reducible exact H2_) | (have H2_ := (Option.bind_some _ _).symm.trans H; with_reducible exact H2_) | with_reducible exact H | (rw [hy112]; exact H) | exact H
          have Ny112 := Aside0.mk hy112
          clear hy112
          obtain rfl := Option.some.inj H
          go_wp2_with (first | ((with_reducible refine gate_builtin (b := .append) (xs := #[.tmp 19, .tmp 22]) rfl ?_); at_builtin; refine Kd.R_append (Kd.int .u8) (w0 := w) w.heap.size rfl (.tmp 19) (.tmp 22) 35 5 (.int .u8 0) 1 rfl Try.underlying35 info5 rfl (by decide) (by omega) u3 x3_1 ((x0_1) % 256) [.int .u8 ((x0_1) % 256)] (fun _ => True) (fun _ => False) rfl rfl ?aP (fun _ hk => hk.elim) ?aF ?aO ?aB ?aS ?aL ?_; (case aP => exact rfl); (case aB => exact (by repeat (first | (with_reducible first | exact HB.out | apply below_alloc | apply pw_below_drewN | apply below_drew1) | exact HB.out))); (case aF => exact (fun _ _ => trivial)); (case aO => exact (by (with_reducible repeat (first | apply Kd.R_alloc | apply Kd.R_drewN | apply Kd.R_drew)); exact HO_3.out)); (case aS => exact (below_size (by repeat (first | (with_reducible first | exact HB.out | apply below_alloc | apply pw_below_drewN | apply below_drew1) | exact HB.out)))); (case aL => have := LMc9.out; omega); intro v113 w10 ho hb hg hat; rw [← Ny112.out] at ho; have n0_ := Aside0.mk (hb); have n1_ := Aside0.mk (ho); clear HB; clear HO_3; have HB := n0_; have HO114 := n1_; clear n0_ n1_; clear ho hb hg hat; have hcv11 := own_string (P := Try.prog) Try.underlying35 Try.underlying5 Try.underlying9 (Kd.own_of_R HO114.out)))
          go_ret
          exact ⟨by first | rfl | (simp [errW_none, errW_some] <;> rfl) | (simp only [← hji2, ← hji3]; first | rfl | (simp [errW_none, errW_some] <;> rfl)) | (simp [*, errW_none, errW_some] <;> rfl), by repeat (first | (with_reducible first | exact HB.out | apply below_alloc | apply pw_below_drewN | apply below_drew1) | exact HB.out)⟩
        · rw [if_neg c9] at H
          exact absurd H (by simp)

/-! ### cubbyref02_Texted: function 21 -/
def cubbyref02_Texted.f (k : Nat) (a0 : ByteArray) : Option (ByteArray) := (cubbyref02_Code.f k (a0.size : Int)).bind fun t115 => (if t115.size + a0.size ≤ 9223372036854775807 then (some (t115 ++ a0)) else (none))
theorem cubbyref02_Texted.mono : ∀ a0 k, LeO (cubbyref02_Texted.f k a0) (cubbyref02_Texted.f (k + 1) a0) := by
  intro a0 k
  unfold cubbyref02_Texted.f
  repeat' first
      | (with_reducible exact cubbyref02_Code.mono _ _)
      | (with_reducible exact LeO.refl _)
      | (with_reducible exact LeO.none _)
      | (with_reducible refine LeO.ite ?_ ?_)
      | (with_reducible refine LeO.bind ?_ (fun _ => ?_))
      | exact cubbyref02_Code.mono _ _
      | exact LeO.none _
      | refine LeO.ite ?_ ?_
      | refine LeO.bind ?_ (fun _ => ?_)
set_option maxHeartbeats 8000000 in
set_option maxRecDepth 100000 in
theorem cubbyref02_Texted.calls (k : Nat) (a0 : ByteArray) (r : ByteArray) (w : World) (h : cubbyref02_Texted.f k a0 = some r) :
    Calls Try.prog 21 #[.string a0] w fun e w' => e = .returned (.string r) ∧ Below w.heap.size w w' := by
  have HB := Aside0.mk (Below.refl w.heap.size w)
  have H : ((cubbyref02_Code.f k (a0.size : Int)).bind fun t115 => (if t115.size + a0.size ≤ 9223372036854775807 then (some (t115 ++ a0)) else (none))) = some r := h
  clear h
  replace H := Option.bind_eq_some_iff.mp H
  obtain ⟨t115, A20, H⟩ := H
  replace H : (if t115.size + a0.size ≤ 9223372036854775807 then (some (t115 ++ a0)) else (none)) = some r := H
  have A2 := Aside0.mk A20
  clear A20
  by_cases c3 : t115.size + a0.size ≤ 9223372036854775807
  · rw [if_pos c3] at H
    have c3b0 := eq_true c3
    have c3b1 : decide (t115.size + a0.size ≤ 9223372036854775807) = true := decide_eq_true c3
    try have c3b2 : (9223372036854775807 < t115.size + a0.size) = False := eq_false (Nat.not_lt.2 c3)
    try (have c3b3 := c3; simp only [ByteArray.size_append] at c3b3; have c3b4 := eq_false (Nat.not_lt.2 c3b3))
    obtain rfl := Option.some.inj H
    go_enter Try.func21, Try.ntmps21
    go_wp2_with (first | ((with_reducible refine gate_callee (f := 20) rfl ?_); refine goesL_ (some 5) rfl rfl Try.func20 (by kernel_rfl) rfl #[.int .i64 (a0.size : Int)] rfl (by (try simp only [List.map_toArray, List.map_cons, List.map_nil]); first | done | rfl | (simp only [List.length_drop, List.length_take]; rfl)) ?_; (with_reducible refine (cubbyref02_Code.calls k (a0.size : Int) t115 _ A2.out).mono ?_); rintro e w4 ⟨rfl, hb⟩; refine ⟨_, rfl, ?_⟩; have n0_ := Aside0.mk (below_step (by repeat (first | (with_reducible first | exact HB.out | apply below_alloc | apply pw_below_drewN | apply below_drew1) | exact HB.out)) hb); clear HB; have HB := n0_; clear n0_; (try clear hb); (try clear hb2); (try clear hk); (try clear hi)))
    go_ret
    exact ⟨by first | rfl | (simp [errW_none, errW_some] <;> rfl) | (simp [*, errW_none, errW_some] <;> rfl), by repeat (first | (with_reducible first | exact HB.out | apply below_alloc | apply pw_below_drewN | apply below_drew1) | exact HB.out)⟩
  · rw [if_neg c3] at H
    exact absurd H (by simp)

/-! ### cubbyref01_Step: function 35 -/
def cubbyref01_Step.l0 : Nat → Int → Int → Option (Int)
  | 0, _, _ => none
  | k + 1, x0, x5 => if x5 < 8 then (if (Int.tmod x0 2) = 1 then (cubbyref01_Step.l0 k (Go.bits .xor .u32 ((Int.tdiv x0 2) % 4294967296) 3988292384) (wrap64 (x5 + 1))) else (cubbyref01_Step.l0 k ((Int.tdiv x0 2) % 4294967296) (wrap64 (x5 + 1)))) else (some x0)
def cubbyref01_Step.f (k : Nat) (a0 : Int) (a1 : Int) : Option (Int) := cubbyref01_Step.l0 k (Go.bits .xor .u32 a0 ((a1) % 4294967296)) 0
theorem cubbyref01_Step.mono_l : ∀ k, (∀ y0 y1, LeO (cubbyref01_Step.l0 k y0 y1) (cubbyref01_Step.l0 (k + 1) y0 y1))
  | 0 => fun _ _ r h => by simp [cubbyref01_Step.l0] at h
  | k + 1 => by
    have ih0 := cubbyref01_Step.mono_l k
    · intro y0 y1
      unfold cubbyref01_Step.l0
      repeat' first
      | (with_reducible exact ih0 _ _)
      | (with_reducible exact LeO.refl _)
      | (with_reducible exact LeO.none _)
      | (with_reducible refine LeO.ite ?_ ?_)
      | (with_reducible refine LeO.bind ?_ (fun _ => ?_))
      | exact ih0 _ _
      | exact LeO.none _
      | refine LeO.ite ?_ ?_
      | refine LeO.bind ?_ (fun _ => ?_)
theorem cubbyref01_Step.mono : ∀ a0 a1 k, LeO (cubbyref01_Step.f k a0 a1) (cubbyref01_Step.f (k + 1) a0 a1) := by
  intro a0 a1 k
  have ih0 := cubbyref01_Step.mono_l k
  unfold cubbyref01_Step.f
  repeat' first
      | (with_reducible exact ih0 _ _)
      | (with_reducible exact LeO.refl _)
      | (with_reducible exact LeO.none _)
      | (with_reducible refine LeO.ite ?_ ?_)
      | (with_reducible refine LeO.bind ?_ (fun _ => ?_))
      | exact ih0 _ _
      | exact LeO.none _
      | refine LeO.ite ?_ ?_
      | refine LeO.bind ?_ (fun _ => ?_)
set_option maxHeartbeats 8000000 in
set_option maxRecDepth 100000 in
theorem cubbyref01_Step.calls (k : Nat) (a0 : Int) (a1 : Int) (r : Int) (w : World) (h : cubbyref01_Step.f k a0 a1 = some r) :
    Calls Try.prog 35 #[.int .u32 a0, .int .u8 a1] w fun e w' => e = .returned (.int .u32 r) ∧ Drawn0 w w' := by
  have H : (cubbyref01_Step.l0 k (Go.bits .xor .u32 a0 ((a1) % 4294967296)) 0) = some r := h
  clear h
  have H' := Aside0.mk H
  clear H
  go_enter Try.func35, Try.ntmps35
  go_wp2
  go_loopg [0, 5] k (fun kq v0 v5 w' => ∃ (x0_1 : Int) (x5_1 : Int), v0 = .int .u32 x0_1 ∧ v5 = .int .i64 x5_1 ∧ Aside0 (cubbyref01_Step.l0 kq x0_1 x5_1 = some r) ∧ Aside0 (kq ≤ k) ∧ Drawn0 w w')
  case atStart => exact ⟨(Go.bits .xor .u32 a0 ((a1) % 4294967296)), (0), (by first | rfl | (simp; done) | (simp [*]; done)), (by first | rfl | (simp; done) | (simp [*]; done)), H', ⟨Nat.le_refl _⟩, by repeat (first | exact Drawn0.refl _ | apply Drawn0.step)⟩
  case round =>
    clear H'
    try clear p2
    obtain ⟨x0_1, x5_1, rfl, rfl, HA, HK1, ⟨m1, rfl⟩⟩ := hrel
    cases gk with
    | zero => exact absurd HA.out (by simp [cubbyref01_Step.l0])
    | succ k1 =>
      have H := HA.out
      clear HA
      simp only [cubbyref01_Step.l0] at H
      by_cases c3 : x5_1 < 8
      · rw [if_pos c3] at H
        have c3b0 : decide (x5_1 < 8) = true := decide_eq_true c3
        clear c3
        by_cases c4 : (Int.tmod x0_1 2) = 1
        · rw [if_pos c4] at H
          have c4b0 : ((Int.tmod x0_1 2) == 1) = true := beq_iff_eq.mpr c4
          have c4b1 : ((Int.tmod x0_1 2) != 1) = false := bne_eq_false_iff_eq.mpr c4
          clear c4
          have H' := Aside0.mk H
          clear H
          go_wp2
          go_roundg k1
          case measure => have := HK1.out; omega
          case rel => exact ⟨(Go.bits .xor .u32 ((Int.tdiv x0_1 2) % 4294967296) 3988292384), (wrap64 (x5_1 + 1)), (by first | rfl | (simp; done) | (simp [*]; done)), (by first | rfl | (simp; done) | (simp [*]; done)), H', ⟨by have := HK1.out; omega⟩, by repeat (first | exact Drawn0.refl _ | apply Drawn0.step)⟩
        · rw [if_neg c4] at H
          have c4b0 : ((Int.tmod x0_1 2) == 1) = false := beq_eq_false_iff_ne.mpr c4
          have c4b1 : ((Int.tmod x0_1 2) != 1) = true := bne_iff_ne.mpr c4
          have H' := Aside0.mk H
          clear H
          go_wp2
          go_roundg k1
          case measure => have := HK1.out; omega
          case rel => exact ⟨((Int.tdiv x0_1 2) % 4294967296), (wrap64 (x5_1 + 1)), (by first | rfl | (simp; done) | (simp [*]; done)), (by first | rfl | (simp; done) | (simp [*]; done)), H', ⟨by have := HK1.out; omega⟩, by repeat (first | exact Drawn0.refl _ | apply Drawn0.step)⟩
      · rw [if_neg c3] at H
        have c3b0 : decide (x5_1 < 8) = false := decide_eq_false c3
        clear c3
        obtain rfl := Option.some.inj H
        go_wp2
        go_ret
        exact ⟨by first | rfl | (simp; done) | (simp [*]; done), by repeat (first | exact Drawn0.refl _ | apply Drawn0.step)⟩

end Go.Proofs.Ytndmfbaffkekgaa.PChunkSpoilt
