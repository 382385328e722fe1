-- By a program of this session (wip/tools/mkprint.py), for this claim.
import Derived.Test.YtmecbfadhacajaaPPackWritesx0
namespace Go.Proofs.Ytmecbfadhacajaa.PPackWrites
open Go.RowKit Go.Proofs.YtmecbfadhacajaaW.PrintWords Go.Proofs.YtmecbfadhacajaaW.PrintLast Go.Proofs.YtmecbfadhacajaaW.PrintMore
attribute [local go_sem] max2_int min2_int max_two min_two max_three min_three max_four min_four   -- for this text's walks alone
set_option linter.unusedVariables false
set_option linter.unusedSimpArgs false

-- NOT PRINTED: function 27 (abi_NoEscape)

/-! ### strings_Builder_copyCheck: function 26 (by hand) -/
/-- A strings.Builder that holds the bytes bs: alone, or as the one field of a struct of type T. One that holds none has no row of bytes. -/
def strings_Builder_copyCheck.Wr (T : TypeId) (B b : Nat) (bs : List Value) (w : World) : Prop := Lib.IsBuilderF T 5 B b bs w ∧ (bs = [] → w.cell? ⟨b, 1, none⟩ = some (.slice none 0 0))
def strings_Builder_copyCheck.Ok (T : TypeId) : Prop := liesAt Try.prog Try.prog.depth T (2 / Try.prog.cellsOf T) 0 30 1 = true ∧ T ≠ 5
set_option maxRecDepth 100000 in
theorem strings_Builder_copyCheck.used (b : Nat) (w : World) (h0 : w.cell? ⟨b, 0, none⟩ = some (.pointer (some ⟨b, 0, none⟩))) :
    Calls Try.prog 26 #[.pointer (some ⟨b, 0, none⟩)] w fun e w' => e = .returned (.tuple #[]) ∧ w' = w := by
  obtain ⟨j, hj, _⟩ := Option.map_eq_some_iff.1 (show (Try.prog.info? 30).map (·.size) = some 2 from by kernel_rfl)
  go_enter Try.func26, Try.ntmps26
  go_wp2
  rw [Lib.run_neq_ptr_same w _ Try.underlying27 hj]
  go_wp2
  go_end0
  exact ⟨rfl, rfl⟩
set_option maxRecDepth 100000 in
theorem strings_Builder_copyCheck.fresh (T : TypeId) (hT : liesAt Try.prog Try.prog.depth T (2 / Try.prog.cellsOf T) 0 30 1 = true) (b : Nat) (w : World) (h0 : w.cell? ⟨b, 0, none⟩ = some (.pointer none)) (hsh : w.shape? b = some (T, 2)) (hfz : w.frozen? ⟨b, 0, none⟩ = false) :
    Calls Try.prog 26 #[.pointer (some ⟨b, 0, none⟩)] w fun e w' => e = .returned (.tuple #[]) ∧ w' = w.setCell ⟨b, 0, none⟩ (.pointer (some ⟨b, 0, none⟩)) := by
  obtain ⟨j, hj, hjs⟩ := Option.map_eq_some_iff.1 (show (Try.prog.info? 30).map (·.size) = some 2 from by kernel_rfl)
  have HT := Lib.hid hT
  clear hT
  go_enter Try.func26, Try.ntmps26
  go_wp2
  rw [Lib.run_to_unsafe w ⟨b, 0, none⟩ Try.underlying27 Try.underlying64 hj (by rw [hjs]; decide) hsh (Nat.zero_lt_succ 1)]
  simp only [Result.andThen]
  rw [Oper.upon_value]
  go_wp2
  rw [run_callFunc_extern Try.func27 (by kernel_rfl) (by kernel_rfl) (by kernel_rfl) (e := Extern.AbiNoEscape.same) (by kernel_rfl)]
  rw [Lib.run_noEscape]
  simp only [Result.andThen]
  rw [Oper.upon_value]
  go_wp2
  rw [Lib.run_from_unsafe w ⟨b, 0, none⟩ Try.underlying64 Try.underlying27 hj hsh HT.out]
  simp only [Result.andThen]
  rw [Oper.upon_value]
  go_wp2
  go_end0
  exact ⟨rfl, rfl⟩
theorem strings_Builder_copyCheck.calls (T : TypeId) (hT : strings_Builder_copyCheck.Ok T) (B b : Nat) (bs : List Value) (w : World) (h : Lib.IsBuilderF T 5 B b bs w) :
    Calls Try.prog 26 #[.pointer (some ⟨b, 0, none⟩)] w fun e w' => e = .returned (.tuple #[]) ∧ Lib.BuilderAtF T 5 B b (.pointer (some ⟨b, 0, none⟩)) bs w' ∧ Below B w w' := by
  rcases h with h | h
  · refine (strings_Builder_copyCheck.fresh T hT.1 b w h.cell0 h.shape h.frozen0).mono ?_
    rintro e w' ⟨rfl, rfl⟩
    exact ⟨rfl, h.used _, (Below.refl B w).setCell (p := ⟨b, 0, none⟩) h.1 _⟩
  · refine (strings_Builder_copyCheck.used b w h.cell0).mono ?_
    rintro e w' ⟨rfl, rfl⟩
    exact ⟨rfl, h, Below.refl B _⟩
theorem strings_Builder_copyCheck.fresh_wr (T : TypeId) (w : World) : strings_Builder_copyCheck.Wr T w.heap.size w.heap.size (Lib.byteCells []) (w.alloc (.cells #[.pointer none, .slice none 0 0] T)) := by
  refine ⟨Lib.IsBuilderF.of (Lib.fresh_isBuilder T 5 w), fun _ => ?_⟩
  have h : (w.alloc (.cells #[.pointer none, .slice none 0 0] T)).heap[w.heap.size]? = some (.cells #[.pointer none, .slice none 0 0] T (0, 0)) := heap_alloc_new w _
  rw [Lib.cell_of_heap h]
  rfl
theorem strings_Builder_copyCheck.Wr.below {T : TypeId} {B b : Nat} {bs : List Value} {w w' : World} (h : strings_Builder_copyCheck.Wr T B b bs w) (hb : Below w.heap.size w w') : strings_Builder_copyCheck.Wr T B b bs w' := by
  have hat : ∀ p, Lib.BuilderAtF T 5 B b p bs w → Lib.BuilderAtF T 5 B b p bs w' := by
    intro p hp
    have hlt := hp.lt
    obtain ⟨hB, v, hbk, hown, hne⟩ := hp
    exact ⟨hB, v, (hb.block b hlt).trans hbk, hown.kept (grown_of_below hb none) (by cases v.ownBlock <;> simp), hne⟩
  have hlt : b < w.heap.size := by rcases h.1 with h | h <;> exact h.lt
  exact ⟨h.1.imp (hat _) (hat _), fun e => (hb.cell (p := ⟨b, 1, none⟩) hlt).trans (h.2 e)⟩
theorem strings_Builder_copyCheck.Wr.lt {T : TypeId} {B b : Nat} {bs : List Value} {w : World} (h : strings_Builder_copyCheck.Wr T B b bs w) : b < w.heap.size := by rcases h.1 with h | h <;> exact h.lt

/-! ### strings_Builder_WriteByte: function 22 (by hand) -/
set_option maxHeartbeats 2000000 in
set_option maxRecDepth 100000 in
theorem strings_Builder_WriteByte.calls (T : TypeId) (hT : strings_Builder_copyCheck.Ok T) (B b : Nat) (bs : List Value) (c : Int) (w : World) (h : Lib.IsBuilderF T 5 B b bs w) (hlen : bs.length + 1 ≤ 140737488355328) (hBw : B ≤ w.heap.size) :
    Calls Try.prog 22 #[.pointer (some ⟨b, 0, none⟩), .int .u8 c] w fun e w' => e = .returned .nilIface ∧ Lib.BuilderAtF T 5 B b (.pointer (some ⟨b, 0, none⟩)) (bs ++ [.int .u8 c]) w' ∧ Below B w w' := by
  obtain ⟨i0, hi, hz0, hz1, hz2⟩ := info_parts (show (Try.prog.info? 5).map (fun i => (i.zero, i.size, i.bytes)) = some (some (.int .u8 0), 1, 1) from by kernel_rfl)
  have HT := Aside0.mk (strings_Builder_copyCheck.calls T hT B b bs)
  have HTE := Lib.hid hT.2
  clear hT
  have H := Aside0.mk h
  clear h
  go_enter Try.func22, Try.ntmps22
  go_wp2_with (go_at_call 26; refine (HT.out _ H.out).mono ?_)
  rintro e w1 ⟨rfl, h1, hb1⟩
  obtain ⟨hB, v, hbk, hown, hne⟩ := h1
  have c0 : w1.cell? ⟨b, 0, none⟩ = some (.pointer (some ⟨b, 0, none⟩)) := by rw [Lib.cell_of_heap hbk]; rfl
  have c1 : w1.cell? ⟨b, 1, none⟩ = some v := by rw [Lib.cell_of_heap hbk]; rfl
  go_wp2_with (at_builtin; refine wpList_append_ownF _ rfl _ _ 28 rfl B 5 i0 (.int .u8 0) 1 1 Try.underlying28 hi hz0 hz1 hz2 rfl (by decide) _ _ _ rfl (hown.alloc _) ⟨w1.heap.size, 0, none⟩ 1 1 [.int .u8 c] rfl rfl ?c1 ?c2 ?c3 ?c4 ?c5 ?_)
  case c1 =>
    intro j u hj
    match j, hj with
    | 0, hj => simp at hj; subst hj; simp [Addr.add]
  case c2 => intro u hu; simp at hu; subst hu; rfl
  case c3 => unfold maxLen; omega
  case c4 => omega
  case c5 => have := hb1.size; simp; omega
  intro v' w2 hown' hgrow _
  have hlt : b < w1.heap.size := by
    rcases Nat.lt_or_ge b w1.heap.size with h' | h'
    · exact h'
    · simp [Array.getElem?_eq_none h'] at hbk
  have hb2 : w2.heap[b]? = some (.cells #[.pointer (some ⟨b, 0, none⟩), v] T (0, 0)) := by
    rw [hgrow.block b (by simp; omega) (fun e => hne e.symm), Lib.alloc_old w1 _ b hlt]
    exact hbk
  have d0 : w2.cell? ⟨b, 0, none⟩ = some (.pointer (some ⟨b, 0, none⟩)) := by rw [Lib.cell_of_heap hb2]; rfl
  have d1 : w2.cell? ⟨b, 1, none⟩ = some v := by rw [Lib.cell_of_heap hb2]; rfl
  have f1 : w2.frozen? ⟨b, 1, none⟩ = false := Lib.frozen_of_heap hb2 1
  obtain ⟨g, cap, rfl⟩ : ∃ g cap, v' = .slice (some ⟨g, 0, none⟩) (bs.length + 1) cap := by
    rcases hown'.2 with ⟨_, h0⟩ | ⟨g, cap, cur, fz, hv, _⟩
    · omega
    · exact ⟨g, cap, hv⟩
  go_wp2
  go_ret
  refine ⟨rfl, ?_, ?_⟩
  · exact Lib.BuilderAtF.put (T := T) (e := 5) hB hb2 (bs' := bs ++ [.int .u8 c]) (by simpa using hown') HTE.out
  · exact ((hb1.alloc (by have := hb1.size; omega) _).grown hgrow (by have := hb1.size; simp; omega) (fun k hk => (hown.lt k hk).1)).setCell (p := ⟨b, 1, none⟩) hB _

/-! ### pack_Writer_Number: function 12 (by hand) -/
/-- A number's digits to the base 128, the least first; each but the last with 128. -/
def pack_Writer_Number.code (n : Nat) : List UInt8 := if n < 128 then [UInt8.ofNat n] else UInt8.ofNat (n % 128 + 128) :: pack_Writer_Number.code (n / 128)
termination_by n
decreasing_by omega
theorem pack_Writer_Number.code_lo (n : Nat) (h : n < 128) : pack_Writer_Number.code n = [UInt8.ofNat n] := by rw [pack_Writer_Number.code]; exact if_pos h
theorem pack_Writer_Number.code_hi (n : Nat) (h : ¬ n < 128) : pack_Writer_Number.code n = UInt8.ofNat (n % 128 + 128) :: pack_Writer_Number.code (n / 128) := by rw [pack_Writer_Number.code]; exact if_neg h
theorem pack_Writer_Number.code_len (k : Nat) : ∀ n, n < 128 ^ (k + 1) → (pack_Writer_Number.code n).length ≤ k + 1 := by
  induction k with
  | zero => intro n h; rw [pack_Writer_Number.code_lo n (by simpa using h)]; simp
  | succ k ih =>
    intro n h
    by_cases hn : n < 128
    · rw [pack_Writer_Number.code_lo n hn]; simp
    · rw [pack_Writer_Number.code_hi n hn, List.length_cons]
      have := ih (n / 128) (Nat.div_lt_of_lt_mul (by rw [Nat.pow_succ] at h; omega))
      omega
theorem pack_Writer_Number.code_ne (n : Nat) : pack_Writer_Number.code n ≠ [] := by
  by_cases hn : n < 128
  · rw [pack_Writer_Number.code_lo n hn]; simp
  · rw [pack_Writer_Number.code_hi n hn]; simp
/-- A number within what is written. -/
def pack_Writer_Number.clamp (n : Int) : Nat := (if n < 0 then 0 else if n > 72057594037927935 then 72057594037927935 else n).toNat
theorem pack_Writer_Number.clamp_lt (n : Int) : pack_Writer_Number.clamp n < 72057594037927936 := by unfold pack_Writer_Number.clamp; split <;> (try split) <;> omega
theorem pack_Writer_Number.cells_snoc (l : List UInt8) (c : UInt8) : Lib.byteCells l ++ [.int .u8 (c.toNat : Int)] = Lib.byteCells (l ++ [c]) := by simp [Lib.byteCells]
set_option maxRecDepth 100000 in
theorem pack_Writer_Number.or_bits : ∀ x : Fin 256, Go.bits .or .u8 (x.val : Int) 128 = ((x.val % 128 + 128 : Nat) : Int) := by decide
theorem pack_Writer_Number.hi_byte (m : Nat) : Go.bits .or .u8 ((m : Int) % 256) 128 = ((UInt8.ofNat (m % 128 + 128)).toNat : Int) := by
  have h := pack_Writer_Number.or_bits ⟨m % 256, Nat.mod_lt _ (by decide)⟩
  rw [show ((m : Int) % 256) = ((m % 256 : Nat) : Int) by omega]
  refine h.trans ?_
  show ((m % 256 % 128 + 128 : Nat) : Int) = _
  rw [UInt8.toNat_ofNat']
  omega
theorem pack_Writer_Number.lo_byte (m : Nat) (h : m < 128) : (m : Int) = ((UInt8.ofNat m).toNat : Int) := by
  rw [UInt8.toNat_ofNat']
  omega
set_option maxHeartbeats 2000000 in
set_option maxRecDepth 100000 in
theorem pack_Writer_Number.calls (B b : Nat) (bs : List UInt8) (n : Int) (w : World) (h : strings_Builder_copyCheck.Wr 32 B b (Lib.byteCells bs) w) (hlen : bs.length + 16 ≤ 140737488355328) (hBw : B ≤ w.heap.size) :
    Calls Try.prog 12 #[.pointer (some ⟨b, 0, none⟩), .int .i64 n] w fun e w' => e = .returned (.tuple #[]) ∧ strings_Builder_copyCheck.Wr 32 B b (Lib.byteCells (bs ++ pack_Writer_Number.code (pack_Writer_Number.clamp n))) w' ∧ Below B w w' := by
  have HW := Aside0.mk h
  clear h
  have hT : strings_Builder_copyCheck.Ok 32 := ⟨by kernel_rfl, by decide⟩
  have HWB := Aside0.mk (fun bs c w => strings_Builder_WriteByte.calls 32 hT B b bs c w)
  clear hT
  obtain ⟨p, hp⟩ : ∃ p, (if (72057594037927935 : Int) < n then 72057594037927935 else n) = p := ⟨_, rfl⟩
  have hcl : (if (0 : Int) < p then p else 0) = ((pack_Writer_Number.clamp n : Nat) : Int) := by
    rw [← hp]
    unfold pack_Writer_Number.clamp
    split <;> split <;> (try split) <;> omega
  have HM := Lib.hid (pack_Writer_Number.clamp_lt n)
  generalize pack_Writer_Number.clamp n = m0 at hcl HM ⊢
  go_enter Try.func12, Try.ntmps12
  go_wp2_with (fail)
  clear hp hcl
  go_loopg [1] 10 (fun gg v1 wq => ∃ (m : Nat) (pre : List UInt8), v1 = .int .i64 (m : Int) ∧ m < 128 ^ gg ∧ m < 72057594037927936 ∧ pre ++ pack_Writer_Number.code m = pack_Writer_Number.code m0 ∧ Aside0 (strings_Builder_copyCheck.Wr 32 B b (Lib.byteCells (bs ++ pre)) wq) ∧ Aside0 (Below B w wq))
  case atStart => exact ⟨m0, [], rfl, Nat.lt_of_lt_of_le HM.out (by decide), HM.out, rfl, ⟨by rw [List.append_nil]; exact HW.out⟩, ⟨Below.refl _ _⟩⟩
  case round =>
    obtain ⟨m, pre, rfl, hm, hm2, hpre, HWr, HB⟩ := hrel
    have hpl : pre.length ≤ 8 := by
      have h1 := pack_Writer_Number.code_len 7 m0 HM.out
      rw [← hpre, List.length_append] at h1
      omega
    have HP := Aside0.mk hpre
    clear hpre
    have hcl : (Lib.byteCells (bs ++ pre)).length + 1 ≤ 140737488355328 := by rw [Lib.byteCells_length, List.length_append]; omega
    have hbw : B ≤ wr.heap.size := Nat.le_trans hBw HB.out.size
    by_cases hlt : (127 : Int) < (m : Int)
    · have hhb := pack_Writer_Number.hi_byte m
      have HSH := Lib.hid (show (m : Int) / 128 = ((m / 128 : Nat) : Int) by omega)
      obtain ⟨gk, rfl⟩ : ∃ q, gk = q + 1 := by
        cases gk with
        | zero => rw [Nat.pow_zero] at hm; omega
        | succ q => exact ⟨q, rfl⟩
      have HMK := Aside0.mk hm
      have HM2 := Aside0.mk hm2
      clear hm hm2
      go_wp2_with (go_at_call 22; refine (HWB.out _ _ _ HWr.out.1 hcl hbw).mono ?_; rintro e w3 ⟨rfl, h3, hb3⟩; have H3 := Aside0.mk h3; have HB3 := Aside0.mk hb3; clear h3 hb3)
      go_roundg gk
      case measure => omega
      case rel =>
        refine ⟨m / 128, pre ++ [UInt8.ofNat (m % 128 + 128)], by first | go_num | rw [HSH.out], Nat.div_lt_of_lt_mul (by have hm := HMK.out; rw [Nat.pow_succ] at hm; omega), by have := HM2.out; omega, ?_, ⟨?_⟩, ⟨?_⟩⟩
        · rw [List.append_assoc, List.singleton_append, ← pack_Writer_Number.code_hi m (by omega)]
          exact HP.out
        · have h9 := H3.out
          have hv : (((m : Int) % 128 + 128) % 256) = ((UInt8.ofNat (m % 128 + 128)).toNat : Int) := by rw [UInt8.toNat_ofNat']; omega
          rw [hv, pack_Writer_Number.cells_snoc, List.append_assoc] at h9
          exact ⟨.inr h9, fun e => absurd (congrArg List.length e) (by simp [Lib.byteCells])⟩
        · exact HB.out.trans HB3.out
    · have HLB := Lib.hid (pack_Writer_Number.lo_byte m (by omega))
      go_wp2_with (go_at_call 22; refine (HWB.out _ _ _ HWr.out.1 hcl hbw).mono ?_; rintro e w3 ⟨rfl, h3, hb3⟩; have H3 := Aside0.mk h3; have HB3 := Aside0.mk hb3; clear h3 hb3)
      go_end0
      refine ⟨rfl, ?_, HB.out.trans HB3.out⟩
      have h9 := H3.out
      have hb : (Lib.byteCells (bs ++ pre) ++ [Value.int .u8 (m : Int)]) = Lib.byteCells (bs ++ pack_Writer_Number.code m0) := by
        rw [HLB.out, pack_Writer_Number.cells_snoc, List.append_assoc, ← pack_Writer_Number.code_lo m (by omega), HP.out]
      rw [hb] at h9
      exact ⟨.inr h9, fun e => absurd (congrArg List.length e) (by have h8 := List.length_pos_iff.2 (pack_Writer_Number.code_ne m0); rw [Lib.byteCells_length, List.length_append, List.length_nil]; omega)⟩

/-! ### strings_Builder_String: function 23 (by hand) -/
set_option maxHeartbeats 2000000 in
set_option maxRecDepth 100000 in
theorem strings_Builder_String.some_ (T : TypeId) (B b : Nat) (l : List UInt8) (w : World) (h : Lib.IsBuilderF T 5 B b (Lib.byteCells l) w) (h0 : l ≠ []) :
    Calls Try.prog 23 #[.pointer (some ⟨b, 0, none⟩)] w fun e w' => e = .returned (.string ⟨l.toArray⟩) ∧ Lib.IsBuilderF T 5 B b (Lib.byteCells l) w' ∧ Below B w w' := by
  obtain ⟨p, hp, hAt⟩ : ∃ p, (p = .pointer none ∨ p = .pointer (some ⟨b, 0, none⟩)) ∧ Lib.BuilderAtF T 5 B b p (Lib.byteCells l) w := by
    rcases h with h | h
    · exact ⟨_, .inl rfl, h⟩
    · exact ⟨_, .inr rfl, h⟩
  obtain ⟨hB, v, hbk, hown, hne⟩ := hAt
  have hl0 : l.length ≠ 0 := by simpa using h0
  rw [Lib.byteCells_length] at hown
  obtain ⟨g, cap, cur, fz, rfl, hbg, hg, hfz, hnc, hcm, hcs, htake⟩ : ∃ g cap cur fz, v = .slice (some ⟨g, 0, none⟩) l.length cap ∧ B ≤ g ∧ w.heap[g]? = some (.cells cur 5 fz) ∧ fz.2 ≤ l.length * 1 ∧ l.length ≤ cap ∧ cap ≤ maxLen ∧ cur.size = cap * 1 ∧ cur.toList.take (l.length * 1) = Lib.byteCells l := by
    rcases hown.2 with ⟨_, hz⟩ | ⟨g, cap, cur, fz, hv, r⟩
    · exact absurd hz hl0
    · exact ⟨g, cap, cur, fz, hv, r⟩
  have c1 : w.drew.cell? ⟨b, 1, none⟩ = some (.slice (some ⟨g, 0, none⟩) l.length cap) := by
    have : w.drew.heap[b]? = some (.cells #[p, .slice (some ⟨g, 0, none⟩) l.length cap] T (0, 0)) := hbk
    rw [Lib.cell_of_heap this]; rfl
  have hSD : (Builtin.unsafeSliceData_ #[28] 63 #[.slice (some ⟨g, 0, none⟩) l.length cap]).run Try.prog w.drew = .ok (.pointer (some ⟨g, 0, none⟩)) w.drew :=
    Lib.run_unsafeSliceData_row _ _ _ _ _ _ (by omega)
  have hUS : (Builtin.unsafeString_ #[63, 3] 9 #[.pointer (some ⟨g, 0, none⟩), .int .i64 l.length]).run Try.prog w.drew = .ok (.string ⟨l.toArray⟩) (w.drew.freeze ⟨g, 0, none⟩ l.length) := by
    refine Lib.run_unsafeString_row w.drew 63 3 9 5 Try.underlying63 (by kernel_rfl) g cur.size (by have hg' : w.drew.heap[g]? = some (.cells cur 5 fz) := hg; simp [World.shape?, hg']) l h0 (by omega) (by unfold maxLen at hcm; omega) ?_
    intro j x hx
    have := hown.cells (g := g) rfl j (.int .u8 x.toNat) (by simp [Lib.byteCells, hx])
    exact this
  have hkeep : Lib.IsBuilderF T 5 B b (Lib.byteCells l) (w.drew.freeze ⟨g, 0, none⟩ l.length) := by
    have hA : Lib.BuilderAtF T 5 B b p (Lib.byteCells l) w.drew := ⟨hB, _, hbk, by rw [Lib.byteCells_length]; exact hown, hne⟩
    have hF := hA.froze (g := g) (cap := cap) (by rw [Lib.byteCells_length]; exact c1)
    rw [Lib.byteCells_length] at hF
    rcases hp with rfl | rfl
    · exact .inl hF
    · exact .inr hF
  have HK := Aside0.mk hkeep
  have HG := Aside0.mk hbg
  clear hkeep hbg
  go_enter Try.func23, Try.ntmps23
  go_wp2
  go_region
  all_goals (go_wp2; go_ret; exact ⟨rfl, HK.out, Lib.below_freeze (Below.drew (Below.refl B w)) (p := ⟨g, 0, none⟩) HG.out _⟩)
set_option maxHeartbeats 2000000 in
set_option maxRecDepth 100000 in
theorem strings_Builder_String.none_ (T : TypeId) (B b : Nat) (p : Value) (w : World) (hbk : w.heap[b]? = some (.cells #[p, .slice none 0 0] T (0, 0))) (hA : Lib.BuilderAtF T 5 B b p [] w) :
    Calls Try.prog 23 #[.pointer (some ⟨b, 0, none⟩)] w fun e w' => e = .returned (.string ⟨#[]⟩) ∧ w' = w.drew := by
  have hUS : ∀ (W : World) (q : Option Addr), (Builtin.unsafeString_ #[63, 3] 9 #[.pointer q, .int .i64 0]).run Try.prog W = .ok (.string .empty) W := fun W q => Lib.run_unsafeString_none W _ _ _ q
  have c1 : w.drew.cell? ⟨b, 1, none⟩ = some (.slice none 0 0) := by
    have : w.drew.heap[b]? = some (.cells #[p, .slice none 0 0] T (0, 0)) := hbk
    rw [Lib.cell_of_heap this]; rfl
  have hSD : (Builtin.unsafeSliceData_ #[28] 63 #[.slice none 0 0]).run Try.prog w.drew = .ok (.pointer none) w.drew := rfl
  clear hA
  go_enter Try.func23, Try.ntmps23
  go_wp2
  go_region
  all_goals (go_wp2; go_ret; exact ⟨rfl, rfl⟩)
theorem strings_Builder_String.calls (T : TypeId) (B b : Nat) (l : List UInt8) (w : World) (h : strings_Builder_copyCheck.Wr T B b (Lib.byteCells l) w) :
    Calls Try.prog 23 #[.pointer (some ⟨b, 0, none⟩)] w fun e w' => e = .returned (.string ⟨l.toArray⟩) ∧ strings_Builder_copyCheck.Wr T B b (Lib.byteCells l) w' ∧ Below B w w' := by
  by_cases h0 : l = []
  · subst h0
    have hc := h.2 rfl
    obtain ⟨p, hp, hAt⟩ : ∃ p, (p = .pointer none ∨ p = .pointer (some ⟨b, 0, none⟩)) ∧ Lib.BuilderAtF T 5 B b p [] w := by
      rcases h.1 with h | h
      · exact ⟨_, .inl rfl, h⟩
      · exact ⟨_, .inr rfl, h⟩
    have hAt' := hAt
    obtain ⟨hB, v, hbk, hown, hne⟩ := hAt
    have hv : v = .slice none 0 0 := by
      have : w.cell? ⟨b, 1, none⟩ = some v := by rw [Lib.cell_of_heap hbk]; rfl
      rw [this] at hc
      exact Option.some.inj hc
    subst hv
    refine (strings_Builder_String.none_ T B b p w hbk hAt').mono ?_
    rintro e w' ⟨rfl, rfl⟩
    refine ⟨rfl, ⟨?_, fun _ => hc⟩, Below.drew (Below.refl B w)⟩
    rcases hp with rfl | rfl
    · exact .inl hAt'.drew
    · exact .inr hAt'.drew
  · refine (strings_Builder_String.some_ T B b l w h.1 h0).mono ?_
    rintro e w' ⟨rfl, h1, h2⟩
    exact ⟨rfl, ⟨h1, fun e => absurd (by simpa [Lib.byteCells] using e) h0⟩, h2⟩

/-! ### pack_Writer_Bytes: function 13 (by hand) -/
set_option maxRecDepth 100000 in
theorem pack_Writer_Bytes.calls (B b : Nat) (l : List UInt8) (w : World) (h : strings_Builder_copyCheck.Wr 32 B b (Lib.byteCells l) w) :
    Calls Try.prog 13 #[.pointer (some ⟨b, 0, none⟩)] w fun e w' => e = .returned (.string ⟨l.toArray⟩) ∧ strings_Builder_copyCheck.Wr 32 B b (Lib.byteCells l) w' ∧ Below B w w' := by
  have HN := Aside0.mk (strings_Builder_String.calls 32 B b l w h)
  clear h
  go_enter Try.func13, Try.ntmps13
  go_wp2_with (go_at_call 23; refine HN.out.mono ?_; rintro e w3 ⟨rfl, h3, hb3⟩; have H3 := Aside0.mk h3; have HB3 := Aside0.mk hb3; clear h3 hb3)
  go_ret
  exact ⟨rfl, H3.out, HB3.out⟩

/-! ### cubbylaw02_code: function 7 (by hand) -/
def cubbylaw02_code.f (a0 : Int) : Option ByteArray := some ⟨(pack_Writer_Number.code (pack_Writer_Number.clamp a0)).toArray⟩
set_option maxHeartbeats 2000000 in
set_option maxRecDepth 100000 in
theorem cubbylaw02_code.calls (a0 : Int) (r : ByteArray) (w : World) (h : cubbylaw02_code.f a0 = some r) : Calls Try.prog 7 #[.int .i64 a0] w fun e w' => e = .returned (.string r) ∧ Below w.heap.size w w' := by
  unfold cubbylaw02_code.f at h
  obtain rfl := Option.some.inj h
  clear h
  have HN := Aside0.mk (pack_Writer_Number.calls w.heap.size w.heap.size [] a0 _ (strings_Builder_copyCheck.fresh_wr 32 w) (by simp) (by simp))
  go_enter Try.func7, Try.ntmps7
  go_wp2_with (first | (go_at_call 12; refine HN.out.mono ?_; rintro e w3 ⟨rfl, h3, hb3⟩; have H3 := Aside0.mk h3; have HB3 := Aside0.mk hb3; clear h3 hb3) | (go_at_call 13; refine (pack_Writer_Bytes.calls w.heap.size w.heap.size _ _ H3.out).mono ?_; rintro e w4 ⟨rfl, h4, hb4⟩; have HB4 := Aside0.mk hb4; clear h4 hb4))
  go_ret
  refine ⟨rfl, ?_⟩
  exact ((below_alloc (Below.refl _ _) _).trans HB3.out).trans HB4.out

/-! ### cubbyref02_Code: function 8 -/
def cubbyref02_Code.l0 : Nat → Int → List Int → Option (ByteArray)
  | 0, _, _ => none
  | k + 1, x0, x3 => if x0 ≥ 128 then (if x3.length < 140737488355328 then (cubbyref02_Code.l0 k (wrap64 (Int.tdiv x0 128)) (x3 ++ [(wrap64 ((Int.tmod x0 128) + 128)) % 256])) else (none)) else (if x3.length < 140737488355328 then (some (strOfNums (x3 ++ [(x0) % 256]))) else (none))
def cubbyref02_Code.f (k : Nat) (a0 : Int) : Option (ByteArray) := cubbyref02_Code.l0 k (mx 0 (mn a0 72057594037927935)) (([] : List Int))
theorem cubbyref02_Code.mono_l : ∀ k, (∀ y0 y1, LeO (cubbyref02_Code.l0 k y0 y1) (cubbyref02_Code.l0 (k + 1) y0 y1))
  | 0 => fun _ _ r h => by simp [cubbyref02_Code.l0] at h
  | k + 1 => by
    have ih0 := cubbyref02_Code.mono_l k
    · intro y0 y1
      unfold cubbyref02_Code.l0
      repeat' first
      | (with_reducible exact ih0 _ _)
      | (with_reducible exact LeO.refl _)
      | (with_reducible exact LeO.none _)
      | (with_reducible refine LeO.ite ?_ ?_)
      | (with_reducible refine LeO.bind ?_ (fun _ => ?_))
      | exact ih0 _ _
      | exact LeO.none _
      | refine LeO.ite ?_ ?_
      | refine LeO.bind ?_ (fun _ => ?_)
theorem cubbyref02_Code.mono : ∀ a0 k, LeO (cubbyref02_Code.f k a0) (cubbyref02_Code.f (k + 1) a0) := by
  intro a0 k
  have ih0 := cubbyref02_Code.mono_l k
  unfold cubbyref02_Code.f
  repeat' first
      | (with_reducible exact ih0 _ _)
      | (with_reducible exact LeO.refl _)
      | (with_reducible exact LeO.none _)
      | (with_reducible refine LeO.ite ?_ ?_)
      | (with_reducible refine LeO.bind ?_ (fun _ => ?_))
      | exact ih0 _ _
      | exact LeO.none _
      | refine LeO.ite ?_ ?_
      | refine LeO.bind ?_ (fun _ => ?_)
set_option maxHeartbeats 8000000 in
set_option maxRecDepth 100000 in
theorem cubbyref02_Code.calls (k : Nat) (a0 : Int) (r : ByteArray) (w : World) (h : cubbyref02_Code.f k a0 = some r) :
    Calls Try.prog 8 #[.int .i64 a0] w fun e w' => e = .returned (.string r) ∧ Below w.heap.size w w' := by
  have HB := Aside0.mk (Below.refl w.heap.size w)
  have H : (cubbyref02_Code.l0 k (mx 0 (mn a0 72057594037927935)) (([] : List Int))) = some r := h
  clear h
  obtain ⟨ji2, hji2⟩ : ∃ j_ : Int, (mn a0 72057594037927935) = j_ := ⟨_, rfl⟩
  replace H : (cubbyref02_Code.l0 k (mx 0 (ji2)) (([] : List Int))) = some r := by first | (rw [hji2] at H; exact H) | (simp only [hji2] at H ⊢; exact H)
  (try (have hji2h : ji2 ≤ 72057594037927935 := by (rw [← hji2]; unfold mn; (repeat' split) <;> omega)))
  (try (have hji2g : ji2 ≤ 64 := by omega))
  have hji2_ : (if 72057594037927935 < a0 then 72057594037927935 else a0) = ji2 := hji2
  obtain ⟨ji3, hji3⟩ : ∃ j_ : Int, (mx 0 (ji2)) = j_ := ⟨_, rfl⟩
  replace H : (cubbyref02_Code.l0 k ji3 (([] : List Int))) = some r := by first | (rw [hji3] at H; exact H) | (simp only [hji3] at H ⊢; exact H)
  have hji3_ : (if 0 < (ji2) then (ji2) else 0) = ji3 := hji3
  obtain ⟨y101, hy101⟩ : ∃ y_ : List Int, y_ = (([] : List Int)) := ⟨_, rfl⟩
  replace H : (cubbyref02_Code.l0 k ji3 y101) = some r := by first | (rw [hy101]; with_reducible exact H) | (have H2_ := (Option.bind_some _ _).symm.trans H; rw [hy101]; with_reducible exact H2_) | (have H2_ := (Option.bind_some _ _).symm.trans H; with_reducible exact H2_) | with_reducible exact H | (rw [hy101]; exact H) | exact H
  have Ny101 := Aside0.mk hy101
  clear hy101
  have H' := Aside0.mk H
  clear H
  go_enter Try.func8, Try.ntmps8
  go_wp2_with (first | ((with_reducible refine gate_dst (N := 7) rfl ?_); refine Kd.R_lit (Kd.int .u8) _ 5 ?hg (N := 7) ?hd (xs := ([] : List Int)) (inner := []) (ok := fun _ => True) (okp := fun _ => True) ?hr ?hp (fun _ hk => hk) trivial (Below.refl _ _) (Nat.le_refl _) (by simp) ?_; (case hd => rfl); (case hg => rfl); (case hr => first | (go_simp; done) | (go_simp; rfl)); (case hp => exact (Reps.none _ _)); intro v102 w4 ho5 hb hg_ hnew_; clear hg_ hnew_; (first | rw [← Ny101.out] at ho5 | (simp only [Int.reduceToNat] at ho5; rw [← Ny101.out] at ho5)); have n0_ := Aside0.mk (Kd.R_lower ho5 (below_size (by repeat (first | (with_reducible first | exact HB.out | apply below_alloc | apply pw_below_drewN | apply below_drew1) | exact HB.out)))); have n1_ := Aside0.mk (below_step (by repeat (first | (with_reducible first | exact HB.out | apply below_alloc | apply pw_below_drewN | apply below_drew1) | exact HB.out)) hb); clear HB; have HO103 := n0_; have HB := n1_; clear n0_ n1_; clear hb ho5))
  go_loopg [0, 3] k (fun kq v0 v3 w' => ∃ (x0_1 : Int) (x3_1 : List Int), v0 = .int .i64 x0_1 ∧ Aside0 (cubbyref02_Code.l0 kq x0_1 x3_1 = some r) ∧ Aside0 (kq ≤ k) ∧ Aside0 (Kd.R (Kd.int .u8) 5 w' w.heap.size (fun _ => True) v3 x3_1) ∧ Aside0 (Below w.heap.size w w'))
  case atStart => exact ⟨(ji3), (y101), (by first | rfl | (simp; done) | (simp only [← hji3] <;> (first | rfl | simp)) | (simp [*]; done)), H', ⟨Nat.le_refl _⟩, ⟨by (with_reducible repeat (first | apply Kd.R_alloc | apply Kd.R_drewN | apply Kd.R_drew)); exact HO103.out⟩, ⟨by repeat (first | (with_reducible first | exact HB.out | apply below_alloc | apply pw_below_drewN | apply below_drew1) | exact HB.out)⟩⟩
  case round =>
    clear H'
    try clear p2
    obtain ⟨x0_1, x3_1, rfl, HA, HK1, HO_3, HB⟩ := hrel
    cases gk with
    | zero => exact absurd HA.out (by simp [cubbyref02_Code.l0])
    | succ k1 =>
      have H := HA.out
      clear HA
      simp only [cubbyref02_Code.l0] at H
      by_cases c6 : x0_1 ≥ 128
      · rw [if_pos c6] at H
        have c6b0 : decide (128 ≤ x0_1) = true := decide_eq_true c6
        clear c6
        by_cases c7 : x3_1.length < 140737488355328
        · rw [if_pos c7] at H
          have LMc7 := Aside0.mk c7
          clear c7
          obtain ⟨y104, hy104⟩ : ∃ y_ : List Int, y_ = (x3_1 ++ [(wrap64 ((Int.tmod x0_1 128) + 128)) % 256]) := ⟨_, rfl⟩
          replace H : (cubbyref02_Code.l0 k1 (wrap64 (Int.tdiv x0_1 128)) y104) = some r := by first | (rw [hy104]; with_reducible exact H) | (have H2_ := (Option.bind_some _ _).symm.trans H; rw [hy104]; with_reducible exact H2_) | (have H2_ := (Option.bind_some _ _).symm.trans H; with_reducible exact H2_) | with_reducible exact H | (rw [hy104]; exact H) | exact H
          have Ny104 := Aside0.mk hy104
          clear hy104
          have H' := Aside0.mk H
          clear H
          go_wp2_with (first | ((with_reducible refine gate_builtin (b := .append) (xs := #[.tmp 10, .tmp 15]) rfl ?_); at_builtin; refine Kd.R_append (Kd.int .u8) (w0 := w) w.heap.size rfl (.tmp 10) (.tmp 15) 28 5 (.int .u8 0) 1 rfl Try.underlying28 info5 rfl (by decide) (by omega) u3 x3_1 ((wrap64 ((Int.tmod x0_1 128) + 128)) % 256) [.int .u8 ((wrap64 ((Int.tmod x0_1 128) + 128)) % 256)] (fun _ => True) (fun _ => False) rfl rfl ?aP (fun _ hk => hk.elim) ?aF ?aO ?aB ?aS ?aL ?_; (case aP => exact rfl); (case aB => exact (by repeat (first | (with_reducible first | exact HB.out | apply below_alloc | apply pw_below_drewN | apply below_drew1) | exact HB.out))); (case aF => exact (fun _ _ => trivial)); (case aO => exact (by (with_reducible repeat (first | apply Kd.R_alloc | apply Kd.R_drewN | apply Kd.R_drew)); exact HO_3.out)); (case aS => exact (below_size (by repeat (first | (with_reducible first | exact HB.out | apply below_alloc | apply pw_below_drewN | apply below_drew1) | exact HB.out)))); (case aL => have := LMc7.out; omega); intro v105 w8 ho hb hg hat; rw [← Ny104.out] at ho; have n0_ := Aside0.mk (hb); have n1_ := Aside0.mk (ho); clear HB; clear HO_3; have HB := n0_; have HO106 := n1_; clear n0_ n1_; clear ho hb hg hat))
          go_roundg k1
          case measure => have := HK1.out; omega
          case rel => exact ⟨(wrap64 (Int.tdiv x0_1 128)), (y104), (by first | rfl | (simp; done) | (simp [*]; done)), H', ⟨by have := HK1.out; omega⟩, ⟨by (with_reducible repeat (first | apply Kd.R_alloc | apply Kd.R_drewN | apply Kd.R_drew)); exact HO106.out⟩, ⟨by repeat (first | (with_reducible first | exact HB.out | apply below_alloc | apply pw_below_drewN | apply below_drew1) | exact HB.out)⟩⟩
        · rw [if_neg c7] at H
          exact absurd H (by simp)
      · rw [if_neg c6] at H
        have c6b0 : decide (128 ≤ x0_1) = false := decide_eq_false c6
        clear c6
        by_cases c9 : x3_1.length < 140737488355328
        · rw [if_pos c9] at H
          have LMc9 := Aside0.mk c9
          clear c9
          obtain ⟨y107, hy107⟩ : ∃ y_ : List Int, y_ = (x3_1 ++ [(x0_1) % 256]) := ⟨_, rfl⟩
          replace H : (some (strOfNums y107)) = some r := by first | (rw [hy107]; with_reducible exact H) | (have H2_ := (Option.bind_some _ _).symm.trans H; rw [hy107]; with_reducible exact H2_) | (have H2_ := (Option.bind_some _ _).symm.trans H; with_reducible exact H2_) | with_reducible exact H | (rw [hy107]; exact H) | exact H
          have Ny107 := Aside0.mk hy107
          clear hy107
          obtain rfl := Option.some.inj H
          go_wp2_with (first | ((with_reducible refine gate_builtin (b := .append) (xs := #[.tmp 19, .tmp 22]) rfl ?_); at_builtin; refine Kd.R_append (Kd.int .u8) (w0 := w) w.heap.size rfl (.tmp 19) (.tmp 22) 28 5 (.int .u8 0) 1 rfl Try.underlying28 info5 rfl (by decide) (by omega) u3 x3_1 ((x0_1) % 256) [.int .u8 ((x0_1) % 256)] (fun _ => True) (fun _ => False) rfl rfl ?aP (fun _ hk => hk.elim) ?aF ?aO ?aB ?aS ?aL ?_; (case aP => exact rfl); (case aB => exact (by repeat (first | (with_reducible first | exact HB.out | apply below_alloc | apply pw_below_drewN | apply below_drew1) | exact HB.out))); (case aF => exact (fun _ _ => trivial)); (case aO => exact (by (with_reducible repeat (first | apply Kd.R_alloc | apply Kd.R_drewN | apply Kd.R_drew)); exact HO_3.out)); (case aS => exact (below_size (by repeat (first | (with_reducible first | exact HB.out | apply below_alloc | apply pw_below_drewN | apply below_drew1) | exact HB.out)))); (case aL => have := LMc9.out; omega); intro v108 w10 ho hb hg hat; rw [← Ny107.out] at ho; have n0_ := Aside0.mk (hb); have n1_ := Aside0.mk (ho); clear HB; clear HO_3; have HB := n0_; have HO109 := n1_; clear n0_ n1_; clear ho hb hg hat; have hcv11 := own_string (P := Try.prog) Try.underlying28 Try.underlying5 Try.underlying9 (Kd.own_of_R HO109.out)))
          go_ret
          exact ⟨by first | rfl | (simp [errW_none, errW_some] <;> rfl) | (simp only [← hji2, ← hji3]; first | rfl | (simp [errW_none, errW_some] <;> rfl)) | (simp [*, errW_none, errW_some] <;> rfl), by repeat (first | (with_reducible first | exact HB.out | apply below_alloc | apply pw_below_drewN | apply below_drew1) | exact HB.out)⟩
        · rw [if_neg c9] at H
          exact absurd H (by simp)

/-! ### cubbylaw02_heavy: function 9 -/
def cubbylaw02_heavy.l0 : Nat → List (S34) → Int → Int → Option (Bool)
  | 0, _, _, _ => none
  | k + 1, x0, x3, x4 => if x4 < (x0.length : Int) then (if x3 ≤ 2048 then (if 0 ≤ x4 then (cubbylaw02_heavy.l0 k x0 (wrap64 (x3 + (mn (((rd_T34 x0 x4).f2).size : Int) 1048576))) (wrap64 (x4 + 1))) else (none)) else (some (decide (x3 > 2048)))) else (some (decide (x3 > 2048)))
def cubbylaw02_heavy.f (k : Nat) (l0 : List (S34)) : Option (Bool) := cubbylaw02_heavy.l0 k l0 (l0.length : Int) 0
theorem cubbylaw02_heavy.mono_l : ∀ k, (∀ y0 y1 y2, LeO (cubbylaw02_heavy.l0 k y0 y1 y2) (cubbylaw02_heavy.l0 (k + 1) y0 y1 y2))
  | 0 => fun _ _ _ r h => by simp [cubbylaw02_heavy.l0] at h
  | k + 1 => by
    have ih0 := cubbylaw02_heavy.mono_l k
    · intro y0 y1 y2
      unfold cubbylaw02_heavy.l0
      repeat' first
      | (with_reducible exact ih0 _ _ _)
      | (with_reducible exact LeO.refl _)
      | (with_reducible exact LeO.none _)
      | (with_reducible refine LeO.ite ?_ ?_)
      | (with_reducible refine LeO.bind ?_ (fun _ => ?_))
      | exact ih0 _ _ _
      | exact LeO.none _
      | refine LeO.ite ?_ ?_
      | refine LeO.bind ?_ (fun _ => ?_)
theorem cubbylaw02_heavy.mono : ∀ a0 k, LeO (cubbylaw02_heavy.f k a0) (cubbylaw02_heavy.f (k + 1) a0) := by
  intro a0 k
  have ih0 := cubbylaw02_heavy.mono_l k
  unfold cubbylaw02_heavy.f
  repeat' first
      | (with_reducible exact ih0 _ _ _)
      | (with_reducible exact LeO.refl _)
      | (with_reducible exact LeO.none _)
      | (with_reducible refine LeO.ite ?_ ?_)
      | (with_reducible refine LeO.bind ?_ (fun _ => ?_))
      | exact ih0 _ _ _
      | exact LeO.none _
      | refine LeO.ite ?_ ?_
      | refine LeO.bind ?_ (fun _ => ?_)
set_option maxHeartbeats 8000000 in
set_option maxRecDepth 100000 in
theorem cubbylaw02_heavy.calls (k : Nat) (A0 : Option Addr) (c0 : Nat) (l0 : List (S34)) (r : Bool) (w : World) (hr0 : Kd.C k34 w A0 l0.length l0) (hc0 : l0.length ≤ c0) (h : cubbylaw02_heavy.f k l0 = some r) :
    Calls Try.prog 9 #[.slice A0 l0.length c0] w fun e w' => e = .returned (.bool r) ∧ Below w.heap.size w w' := by
  have HR0 := Aside0.mk hr0
  have HC0 := Aside0.mk hc0
  clear hr0 hc0
  have HB := Aside0.mk (Below.refl w.heap.size w)
  have H : (cubbylaw02_heavy.l0 k l0 (l0.length : Int) 0) = some r := h
  clear h
  have H' := Aside0.mk H
  clear H
  go_enter Try.func9, Try.ntmps9
  go_wp2
  go_loopg [3, 4] k (fun kq v3 v4 w' => ∃ (x3_1 : Int) (x4_1 : Int), v3 = .int .i64 x3_1 ∧ v4 = .int .i64 x4_1 ∧ Aside0 (cubbylaw02_heavy.l0 kq l0 x3_1 x4_1 = some r) ∧ Aside0 (kq ≤ k) ∧ Aside0 (Below w.heap.size w w'))
  case atStart => exact ⟨((l0.length : Int)), (0), (by first | rfl | (simp; done) | (simp [*]; done)), (by first | rfl | (simp; done) | (simp [*]; done)), H', ⟨Nat.le_refl _⟩, ⟨by repeat (first | (with_reducible first | exact HB.out | apply below_alloc | apply pw_below_drewN | apply below_drew1) | exact HB.out)⟩⟩
  case round =>
    clear H'
    obtain ⟨x3_1, x4_1, rfl, rfl, HA, HK1, HB⟩ := hrel
    cases gk with
    | zero => exact absurd HA.out (by simp [cubbylaw02_heavy.l0])
    | succ k1 =>
      have H := HA.out
      clear HA
      simp only [cubbylaw02_heavy.l0] at H
      by_cases c2 : x4_1 < (l0.length : Int)
      · rw [if_pos c2] at H
        have c2b0 : decide (x4_1 < (l0.length : Int)) = true := decide_eq_true c2
        clear c2
        by_cases c3 : x3_1 ≤ 2048
        · rw [if_pos c3] at H
          have c3b0 : decide (x3_1 ≤ 2048) = true := decide_eq_true c3
          clear c3
          by_cases c4 : 0 ≤ x4_1
          · rw [if_pos c4] at H
            have c4b0 : decide (0 ≤ x4_1) = true := decide_eq_true c4
            clear c4
            obtain ⟨ji5, hji5⟩ : ∃ j_ : Int, (mn (((rd_T34 l0 x4_1).f2).size : Int) 1048576) = j_ := ⟨_, rfl⟩
            replace H : (cubbylaw02_heavy.l0 k1 l0 (wrap64 (x3_1 + (ji5))) (wrap64 (x4_1 + 1))) = some r := by first | (rw [hji5] at H; exact H) | (simp only [hji5] at H ⊢; exact H)
            have hji5_ : (if 1048576 < (((rd_T34 l0 x4_1).f2).size : Int) then 1048576 else (((rd_T34 l0 x4_1).f2).size : Int)) = ji5 := hji5
            have H' := Aside0.mk H
            clear H
            have p110 : 0 ≤ (x4_1 : Int) := of_decide_eq_true (by first | (with_reducible assumption) | assumption)
            have q110 : x4_1 < (l0.length : Int) := of_decide_eq_true (by first | (with_reducible assumption) | assumption)
            obtain ⟨ad110, e110, hx110_0, hx110_1, hx110_2⟩ := at_T34 HR0.out x4_1 p110 q110
            cases e110
            replace hx110_0 := (HB.out.cell (World.block_lt_of_cell? w _ hx110_0)).trans hx110_0
            replace hx110_1 := (HB.out.cell (World.block_lt_of_cell? w _ hx110_1)).trans hx110_1
            replace hx110_2 := (HB.out.cell (World.block_lt_of_cell? w _ hx110_2)).trans hx110_2
            replace p110 := eq_true p110
            replace q110 := eq_true q110
            go_wp2
            go_roundg k1
            case measure => have := HK1.out; omega
            case rel => exact ⟨(wrap64 (x3_1 + (ji5))), (wrap64 (x4_1 + 1)), (by first | rfl | (simp; done) | (simp only [← hji5] <;> (first | rfl | simp)) | (simp [*]; done)), (by first | rfl | (simp; done) | (simp [*]; done)), H', ⟨by have := HK1.out; omega⟩, ⟨by repeat (first | (with_reducible first | exact HB.out | apply below_alloc | apply pw_below_drewN | apply below_drew1) | exact HB.out)⟩⟩
          · rw [if_neg c4] at H
            exact absurd H (by simp)
        · rw [if_neg c3] at H
          have c3b0 : decide (x3_1 ≤ 2048) = false := decide_eq_false c3
          clear c3
          obtain rfl := Option.some.inj H
          go_wp2
          go_ret
          exact ⟨by first | rfl | (simp [errW_none, errW_some] <;> rfl) | (simp [*, errW_none, errW_some] <;> rfl), by repeat (first | (with_reducible first | exact HB.out | apply below_alloc | apply pw_below_drewN | apply below_drew1) | exact HB.out)⟩
      · rw [if_neg c2] at H
        have c2b0 : decide (x4_1 < (l0.length : Int)) = false := decide_eq_false c2
        clear c2
        obtain rfl := Option.some.inj H
        go_wp2
        go_ret
        exact ⟨by first | rfl | (simp [errW_none, errW_some] <;> rfl) | (simp [*, errW_none, errW_some] <;> rfl), by repeat (first | (with_reducible first | exact HB.out | apply below_alloc | apply pw_below_drewN | apply below_drew1) | exact HB.out)⟩

/-! ### strings_Builder_WriteString: function 21 (by hand) -/
set_option maxHeartbeats 2000000 in
set_option maxRecDepth 100000 in
theorem strings_Builder_WriteString.calls (T : TypeId) (hT : strings_Builder_copyCheck.Ok T) (B b : Nat) (bs : List Value) (s : ByteArray) (w : World) (h : Lib.IsBuilderF T 5 B b bs w) (hlen : bs.length + s.size ≤ 140737488355328) (hBw : B ≤ w.heap.size) :
    Calls Try.prog 21 #[.pointer (some ⟨b, 0, none⟩), .string s] w fun e w' => e = .returned (.tuple #[.int .i64 s.size, .nilIface]) ∧ Lib.BuilderAtF T 5 B b (.pointer (some ⟨b, 0, none⟩)) (bs ++ Lib.strCells s) w' ∧ Below B w w' := by
  obtain ⟨i0, hi, hz0, hz1, hz2⟩ := info_parts (show (Try.prog.info? 5).map (fun i => (i.zero, i.size, i.bytes)) = some (some (.int .u8 0), 1, 1) from by kernel_rfl)
  have HT := Aside0.mk (strings_Builder_copyCheck.calls T hT B b bs)
  have HTE := Lib.hid hT.2
  clear hT
  have H := Aside0.mk h
  clear h
  go_enter Try.func21, Try.ntmps21
  go_wp2_with (go_at_call 26; refine (HT.out _ H.out).mono ?_)
  rintro e w1 ⟨rfl, h1, hb1⟩
  obtain ⟨hB, v, hbk, hown, hne⟩ := h1
  have c0 : w1.cell? ⟨b, 0, none⟩ = some (.pointer (some ⟨b, 0, none⟩)) := by rw [Lib.cell_of_heap hbk]; rfl
  have c1 : w1.cell? ⟨b, 1, none⟩ = some v := by rw [Lib.cell_of_heap hbk]; rfl
  go_wp2_with (at_builtin; refine Lib.wpList_append_own_stringF _ rfl _ _ 28 9 rfl B 5 i0 Try.underlying28 Try.underlying9 hi hz0 hz1 hz2 _ _ _ rfl hown s rfl ?c3 ?c4 ?c5 ?_)
  case c3 => unfold maxLen; omega
  case c4 => omega
  case c5 => have := hb1.size; omega
  intro v' w2 hown' hgrow _
  have hlt : b < w1.heap.size := by
    rcases Nat.lt_or_ge b w1.heap.size with h' | h'
    · exact h'
    · simp [Array.getElem?_eq_none h'] at hbk
  have hb2 : w2.heap[b]? = some (.cells #[.pointer (some ⟨b, 0, none⟩), v] T (0, 0)) := by
    rw [hgrow.block b hlt (fun e => hne e.symm)]
    exact hbk
  have d0 : w2.cell? ⟨b, 0, none⟩ = some (.pointer (some ⟨b, 0, none⟩)) := by rw [Lib.cell_of_heap hb2]; rfl
  have d1 : w2.cell? ⟨b, 1, none⟩ = some v := by rw [Lib.cell_of_heap hb2]; rfl
  have f1 : w2.frozen? ⟨b, 1, none⟩ = false := Lib.frozen_of_heap hb2 1
  obtain ⟨ao, n', cap, rfl⟩ : ∃ ao n' cap, v' = .slice ao n' cap := by
    rcases hown'.2 with ⟨hv, _⟩ | ⟨g, cap, cur, fz, hv, _⟩
    · exact ⟨_, _, _, hv⟩
    · exact ⟨_, _, _, hv⟩
  go_wp2
  go_ret2
  refine ⟨rfl, ?_, ?_⟩
  · exact Lib.BuilderAtF.put (T := T) (e := 5) hB hb2 (bs' := bs ++ Lib.strCells s) (by simpa [Lib.strCells_length] using hown') HTE.out
  · exact (hb1.grown hgrow (by have := hb1.size; omega) (fun k hk => (hown.lt k hk).1)).setCell (p := ⟨b, 1, none⟩) hB _

/-! ### pack_Writer_Text: function 10 (by hand) -/
theorem pack_Writer_Text.str_cells (s : ByteArray) : Lib.strCells s = Lib.byteCells s.data.toList := rfl
theorem pack_Writer_Text.cells_app (l l' : List UInt8) : Lib.byteCells l ++ Lib.byteCells l' = Lib.byteCells (l ++ l') := by simp [Lib.byteCells]
set_option maxHeartbeats 2000000 in
set_option maxRecDepth 100000 in
theorem pack_Writer_Text.calls (B b : Nat) (bs : List UInt8) (s : ByteArray) (w : World) (h : strings_Builder_copyCheck.Wr 32 B b (Lib.byteCells bs) w) (hs : s.size < 72057594037927936) (hlen : bs.length + s.size + 32 ≤ 140737488355328) (hBw : B ≤ w.heap.size) :
    Calls Try.prog 10 #[.pointer (some ⟨b, 0, none⟩), .string s] w fun e w' => e = .returned (.tuple #[]) ∧ strings_Builder_copyCheck.Wr 32 B b (Lib.byteCells (bs ++ (pack_Writer_Number.code s.size ++ s.data.toList))) w' ∧ Below B w w' := by
  have hT : strings_Builder_copyCheck.Ok 32 := ⟨by kernel_rfl, by decide⟩
  have HN := Aside0.mk (pack_Writer_Number.calls B b bs (s.size : Int) w h (by omega) hBw)
  have HWS := Aside0.mk (fun bs w => strings_Builder_WriteString.calls 32 hT B b bs s w)
  clear hT h
  have HC : Hid (pack_Writer_Number.clamp (s.size : Int) = s.size) := Lib.hid (by unfold pack_Writer_Number.clamp; rw [if_neg (by omega), if_neg (by omega)]; omega)
  have HL := Lib.hid (show (pack_Writer_Number.code s.size).length ≤ 8 from pack_Writer_Number.code_len 7 s.size hs)
  clear hs
  go_enter Try.func10, Try.ntmps10
  go_wp2_with (first | (go_at_call 12; refine HN.out.mono ?_; rintro e w3 ⟨rfl, h3, hb3⟩; have H3 := Aside0.mk h3; have HB3 := Aside0.mk hb3; clear h3 hb3) | (go_at_call 21; refine (HWS.out _ _ H3.out.1 (by have := HL.out; have := HC.out; rw [Lib.byteCells_length, List.length_append, HC.out]; omega) (Nat.le_trans hBw HB3.out.size)).mono ?_; rintro e w4 ⟨rfl, h4, hb4⟩; have H4 := Aside0.mk h4; have HB4 := Aside0.mk hb4; clear h4 hb4))
  go_end0
  refine ⟨rfl, ?_, HB3.out.trans HB4.out⟩
  have h9 := H4.out
  have hl := List.length_pos_iff.2 (pack_Writer_Number.code_ne s.size)
  rw [pack_Writer_Text.str_cells, pack_Writer_Text.cells_app, List.append_assoc, HC.out] at h9
  exact ⟨.inr h9, fun e => absurd (congrArg List.length e) (by rw [Lib.byteCells_length, List.length_append, List.length_append, List.length_nil]; omega)⟩

/-! ### cubbyref02_Texted: function 11 -/
def cubbyref02_Texted.f (k : Nat) (a0 : ByteArray) : Option (ByteArray) := (cubbyref02_Code.f k (a0.size : Int)).bind fun t111 => (if t111.size + a0.size ≤ 9223372036854775807 then (some (t111 ++ a0)) else (none))
theorem cubbyref02_Texted.mono : ∀ a0 k, LeO (cubbyref02_Texted.f k a0) (cubbyref02_Texted.f (k + 1) a0) := by
  intro a0 k
  unfold cubbyref02_Texted.f
  repeat' first
      | (with_reducible exact cubbyref02_Code.mono _ _)
      | (with_reducible exact LeO.refl _)
      | (with_reducible exact LeO.none _)
      | (with_reducible refine LeO.ite ?_ ?_)
      | (with_reducible refine LeO.bind ?_ (fun _ => ?_))
      | exact cubbyref02_Code.mono _ _
      | exact LeO.none _
      | refine LeO.ite ?_ ?_
      | refine LeO.bind ?_ (fun _ => ?_)
set_option maxHeartbeats 8000000 in
set_option maxRecDepth 100000 in
theorem cubbyref02_Texted.calls (k : Nat) (a0 : ByteArray) (r : ByteArray) (w : World) (h : cubbyref02_Texted.f k a0 = some r) :
    Calls Try.prog 11 #[.string a0] w fun e w' => e = .returned (.string r) ∧ Below w.heap.size w w' := by
  have HB := Aside0.mk (Below.refl w.heap.size w)
  have H : ((cubbyref02_Code.f k (a0.size : Int)).bind fun t111 => (if t111.size + a0.size ≤ 9223372036854775807 then (some (t111 ++ a0)) else (none))) = some r := h
  clear h
  replace H := Option.bind_eq_some_iff.mp H
  obtain ⟨t111, A20, H⟩ := H
  replace H : (if t111.size + a0.size ≤ 9223372036854775807 then (some (t111 ++ a0)) else (none)) = some r := H
  have A2 := Aside0.mk A20
  clear A20
  by_cases c3 : t111.size + a0.size ≤ 9223372036854775807
  · rw [if_pos c3] at H
    have c3b0 := eq_true c3
    have c3b1 : decide (t111.size + a0.size ≤ 9223372036854775807) = true := decide_eq_true c3
    try have c3b2 : (9223372036854775807 < t111.size + a0.size) = False := eq_false (Nat.not_lt.2 c3)
    obtain rfl := Option.some.inj H
    go_enter Try.func11, Try.ntmps11
    go_wp2_with (first | ((with_reducible refine gate_callee (f := 8) rfl ?_); refine goesL_ (some 5) rfl rfl Try.func8 (by kernel_rfl) rfl #[.int .i64 (a0.size : Int)] rfl (by (try simp only [List.map_toArray, List.map_cons, List.map_nil]); first | done | rfl | (simp only [List.length_drop, List.length_take]; rfl)) ?_; (with_reducible refine (cubbyref02_Code.calls k (a0.size : Int) t111 _ A2.out).mono ?_); rintro e w4 ⟨rfl, hb⟩; refine ⟨_, rfl, ?_⟩; have n0_ := Aside0.mk (below_step (by repeat (first | (with_reducible first | exact HB.out | apply below_alloc | apply pw_below_drewN | apply below_drew1) | exact HB.out)) hb); clear HB; have HB := n0_; clear n0_; (try clear hb); (try clear hb2); (try clear hk); (try clear hi)))
    go_ret
    exact ⟨by first | rfl | (simp [errW_none, errW_some] <;> rfl) | (simp [*, errW_none, errW_some] <;> rfl), by repeat (first | (with_reducible first | exact HB.out | apply below_alloc | apply pw_below_drewN | apply below_drew1) | exact HB.out)⟩
  · rw [if_neg c3] at H
    exact absurd H (by simp)

end Go.Proofs.Ytmecbfadhacajaa.PPackWrites
