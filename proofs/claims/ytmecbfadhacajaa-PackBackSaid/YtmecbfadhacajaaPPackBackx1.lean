-- By a program of this session (wip/tools/mkprint.py), for this claim.
import Derived.Test.YtmecbfadhacajaaPPackBackx0
namespace Go.Proofs.Ytmecbfadhacajaa.PPackBack
open Go.RowKit Go.Proofs.YtmecbfadhacajaaW.PrintWords Go.Proofs.YtmecbfadhacajaaW.PrintLast Go.Proofs.YtmecbfadhacajaaW.PrintMore
attribute [local go_sem] max2_int min2_int max_two min_two max_three min_three max_four min_four   -- for this text's walks alone
set_option linter.unusedVariables false
set_option linter.unusedSimpArgs false

/-! ### cubbylaw02_heavy: function 9 -/
def cubbylaw02_heavy.l0 : Nat → List (S34) → Int → Int → Option (Bool)
  | 0, _, _, _ => none
  | k + 1, x0, x3, x4 => if x4 < (x0.length : Int) then (if x3 ≤ 2048 then (if 0 ≤ x4 then (cubbylaw02_heavy.l0 k x0 (wrap64 (x3 + (mn (((rd_T34 x0 x4).f2).size : Int) 1048576))) (wrap64 (x4 + 1))) else (none)) else (some (decide (x3 > 2048)))) else (some (decide (x3 > 2048)))
def cubbylaw02_heavy.f (k : Nat) (l0 : List (S34)) : Option (Bool) := cubbylaw02_heavy.l0 k l0 (l0.length : Int) 0
theorem cubbylaw02_heavy.mono_l : ∀ k, (∀ y0 y1 y2, LeO (cubbylaw02_heavy.l0 k y0 y1 y2) (cubbylaw02_heavy.l0 (k + 1) y0 y1 y2))
  | 0 => fun _ _ _ r h => by simp [cubbylaw02_heavy.l0] at h
  | k + 1 => by
    have ih0 := cubbylaw02_heavy.mono_l k
    · intro y0 y1 y2
      unfold cubbylaw02_heavy.l0
      repeat' first
      | (with_reducible exact ih0 _ _ _)
      | (with_reducible exact LeO.refl _)
      | (with_reducible exact LeO.none _)
      | (with_reducible refine LeO.ite ?_ ?_)
      | (with_reducible refine LeO.bind ?_ (fun _ => ?_))
      | exact ih0 _ _ _
      | exact LeO.none _
      | refine LeO.ite ?_ ?_
      | refine LeO.bind ?_ (fun _ => ?_)
theorem cubbylaw02_heavy.mono : ∀ a0 k, LeO (cubbylaw02_heavy.f k a0) (cubbylaw02_heavy.f (k + 1) a0) := by
  intro a0 k
  have ih0 := cubbylaw02_heavy.mono_l k
  unfold cubbylaw02_heavy.f
  repeat' first
      | (with_reducible exact ih0 _ _ _)
      | (with_reducible exact LeO.refl _)
      | (with_reducible exact LeO.none _)
      | (with_reducible refine LeO.ite ?_ ?_)
      | (with_reducible refine LeO.bind ?_ (fun _ => ?_))
      | exact ih0 _ _ _
      | exact LeO.none _
      | refine LeO.ite ?_ ?_
      | refine LeO.bind ?_ (fun _ => ?_)
set_option maxHeartbeats 8000000 in
set_option maxRecDepth 100000 in
theorem cubbylaw02_heavy.calls (k : Nat) (A0 : Option Addr) (c0 : Nat) (l0 : List (S34)) (r : Bool) (w : World) (hr0 : Kd.C k34 w A0 l0.length l0) (hc0 : l0.length ≤ c0) (h : cubbylaw02_heavy.f k l0 = some r) :
    Calls Try.prog 9 #[.slice A0 l0.length c0] w fun e w' => e = .returned (.bool r) ∧ Below w.heap.size w w' := by
  have HR0 := Aside0.mk hr0
  have HC0 := Aside0.mk hc0
  clear hr0 hc0
  have HB := Aside0.mk (Below.refl w.heap.size w)
  have H : (cubbylaw02_heavy.l0 k l0 (l0.length : Int) 0) = some r := h
  clear h
  have H' := Aside0.mk H
  clear H
  go_enter Try.func9, Try.ntmps9
  go_wp2
  go_loopg [3, 4] k (fun kq v3 v4 w' => ∃ (x3_1 : Int) (x4_1 : Int), v3 = .int .i64 x3_1 ∧ v4 = .int .i64 x4_1 ∧ Aside0 (cubbylaw02_heavy.l0 kq l0 x3_1 x4_1 = some r) ∧ Aside0 (kq ≤ k) ∧ Aside0 (Below w.heap.size w w'))
  case atStart => exact ⟨((l0.length : Int)), (0), (by first | rfl | (simp; done) | (simp [*]; done)), (by first | rfl | (simp; done) | (simp [*]; done)), H', ⟨Nat.le_refl _⟩, ⟨by repeat (first | (with_reducible first | exact HB.out | apply below_alloc | apply pw_below_drewN | apply below_drew1) | exact HB.out)⟩⟩
  case round =>
    clear H'
    obtain ⟨x3_1, x4_1, rfl, rfl, HA, HK1, HB⟩ := hrel
    cases gk with
    | zero => exact absurd HA.out (by simp [cubbylaw02_heavy.l0])
    | succ k1 =>
      have H := HA.out
      clear HA
      simp only [cubbylaw02_heavy.l0] at H
      by_cases c2 : x4_1 < (l0.length : Int)
      · rw [if_pos c2] at H
        have c2b0 : decide (x4_1 < (l0.length : Int)) = true := decide_eq_true c2
        clear c2
        by_cases c3 : x3_1 ≤ 2048
        · rw [if_pos c3] at H
          have c3b0 : decide (x3_1 ≤ 2048) = true := decide_eq_true c3
          clear c3
          by_cases c4 : 0 ≤ x4_1
          · rw [if_pos c4] at H
            have c4b0 : decide (0 ≤ x4_1) = true := decide_eq_true c4
            clear c4
            obtain ⟨ji5, hji5⟩ : ∃ j_ : Int, (mn (((rd_T34 l0 x4_1).f2).size : Int) 1048576) = j_ := ⟨_, rfl⟩
            replace H : (cubbylaw02_heavy.l0 k1 l0 (wrap64 (x3_1 + (ji5))) (wrap64 (x4_1 + 1))) = some r := by first | (rw [hji5] at H; exact H) | (simp only [hji5] at H ⊢; exact H)
            have hji5_ : (if 1048576 < (((rd_T34 l0 x4_1).f2).size : Int) then 1048576 else (((rd_T34 l0 x4_1).f2).size : Int)) = ji5 := hji5
            have H' := Aside0.mk H
            clear H
            have p101 : 0 ≤ (x4_1 : Int) := of_decide_eq_true (by first | (with_reducible assumption) | assumption)
            have q101 : x4_1 < (l0.length : Int) := of_decide_eq_true (by first | (with_reducible assumption) | assumption)
            obtain ⟨ad101, e101, hx101_0, hx101_1, hx101_2⟩ := at_T34 HR0.out x4_1 p101 q101
            cases e101
            replace hx101_0 := (HB.out.cell (World.block_lt_of_cell? w _ hx101_0)).trans hx101_0
            replace hx101_1 := (HB.out.cell (World.block_lt_of_cell? w _ hx101_1)).trans hx101_1
            replace hx101_2 := (HB.out.cell (World.block_lt_of_cell? w _ hx101_2)).trans hx101_2
            replace p101 := eq_true p101
            replace q101 := eq_true q101
            go_wp2
            go_roundg k1
            case measure => have := HK1.out; omega
            case rel => exact ⟨(wrap64 (x3_1 + (ji5))), (wrap64 (x4_1 + 1)), (by first | rfl | (simp; done) | (simp only [← hji5] <;> (first | rfl | simp)) | (simp [*]; done)), (by first | rfl | (simp; done) | (simp [*]; done)), H', ⟨by have := HK1.out; omega⟩, ⟨by repeat (first | (with_reducible first | exact HB.out | apply below_alloc | apply pw_below_drewN | apply below_drew1) | exact HB.out)⟩⟩
          · rw [if_neg c4] at H
            exact absurd H (by simp)
        · rw [if_neg c3] at H
          have c3b0 : decide (x3_1 ≤ 2048) = false := decide_eq_false c3
          clear c3
          obtain rfl := Option.some.inj H
          go_wp2
          go_ret
          exact ⟨by first | rfl | (simp [errW_none, errW_some] <;> rfl) | (simp [*, errW_none, errW_some] <;> rfl), by repeat (first | (with_reducible first | exact HB.out | apply below_alloc | apply pw_below_drewN | apply below_drew1) | exact HB.out)⟩
      · rw [if_neg c2] at H
        have c2b0 : decide (x4_1 < (l0.length : Int)) = false := decide_eq_false c2
        clear c2
        obtain rfl := Option.some.inj H
        go_wp2
        go_ret
        exact ⟨by first | rfl | (simp [errW_none, errW_some] <;> rfl) | (simp [*, errW_none, errW_some] <;> rfl), by repeat (first | (with_reducible first | exact HB.out | apply below_alloc | apply pw_below_drewN | apply below_drew1) | exact HB.out)⟩

-- NOT PRINTED: function 27 (abi_NoEscape)

/-! ### strings_Builder_copyCheck: function 26 (by hand) -/
/-- A strings.Builder that holds the bytes bs: alone, or as the one field of a struct of type T. One that holds none has no row of bytes. -/
def strings_Builder_copyCheck.Wr (T : TypeId) (B b : Nat) (bs : List Value) (w : World) : Prop := Lib.IsBuilderF T 5 B b bs w ∧ (bs = [] → w.cell? ⟨b, 1, none⟩ = some (.slice none 0 0))
def strings_Builder_copyCheck.Ok (T : TypeId) : Prop := liesAt Try.prog Try.prog.depth T (2 / Try.prog.cellsOf T) 0 30 1 = true ∧ T ≠ 5
set_option maxRecDepth 100000 in
theorem strings_Builder_copyCheck.used (b : Nat) (w : World) (h0 : w.cell? ⟨b, 0, none⟩ = some (.pointer (some ⟨b, 0, none⟩))) :
    Calls Try.prog 26 #[.pointer (some ⟨b, 0, none⟩)] w fun e w' => e = .returned (.tuple #[]) ∧ w' = w := by
  obtain ⟨j, hj, _⟩ := Option.map_eq_some_iff.1 (show (Try.prog.info? 30).map (·.size) = some 2 from by kernel_rfl)
  go_enter Try.func26, Try.ntmps26
  go_wp2
  rw [Lib.run_neq_ptr_same w _ Try.underlying27 hj]
  go_wp2
  go_end0
  exact ⟨rfl, rfl⟩
set_option maxRecDepth 100000 in
theorem strings_Builder_copyCheck.fresh (T : TypeId) (hT : liesAt Try.prog Try.prog.depth T (2 / Try.prog.cellsOf T) 0 30 1 = true) (b : Nat) (w : World) (h0 : w.cell? ⟨b, 0, none⟩ = some (.pointer none)) (hsh : w.shape? b = some (T, 2)) (hfz : w.frozen? ⟨b, 0, none⟩ = false) :
    Calls Try.prog 26 #[.pointer (some ⟨b, 0, none⟩)] w fun e w' => e = .returned (.tuple #[]) ∧ w' = w.setCell ⟨b, 0, none⟩ (.pointer (some ⟨b, 0, none⟩)) := by
  obtain ⟨j, hj, hjs⟩ := Option.map_eq_some_iff.1 (show (Try.prog.info? 30).map (·.size) = some 2 from by kernel_rfl)
  have HT := Lib.hid hT
  clear hT
  go_enter Try.func26, Try.ntmps26
  go_wp2
  rw [Lib.run_to_unsafe w ⟨b, 0, none⟩ Try.underlying27 Try.underlying64 hj (by rw [hjs]; decide) hsh (Nat.zero_lt_succ 1)]
  simp only [Result.andThen]
  rw [Oper.upon_value]
  go_wp2
  rw [run_callFunc_extern Try.func27 (by kernel_rfl) (by kernel_rfl) (by kernel_rfl) (e := Extern.AbiNoEscape.same) (by kernel_rfl)]
  rw [Lib.run_noEscape]
  simp only [Result.andThen]
  rw [Oper.upon_value]
  go_wp2
  rw [Lib.run_from_unsafe w ⟨b, 0, none⟩ Try.underlying64 Try.underlying27 hj hsh HT.out]
  simp only [Result.andThen]
  rw [Oper.upon_value]
  go_wp2
  go_end0
  exact ⟨rfl, rfl⟩
theorem strings_Builder_copyCheck.calls (T : TypeId) (hT : strings_Builder_copyCheck.Ok T) (B b : Nat) (bs : List Value) (w : World) (h : Lib.IsBuilderF T 5 B b bs w) :
    Calls Try.prog 26 #[.pointer (some ⟨b, 0, none⟩)] w fun e w' => e = .returned (.tuple #[]) ∧ Lib.BuilderAtF T 5 B b (.pointer (some ⟨b, 0, none⟩)) bs w' ∧ Below B w w' := by
  rcases h with h | h
  · refine (strings_Builder_copyCheck.fresh T hT.1 b w h.cell0 h.shape h.frozen0).mono ?_
    rintro e w' ⟨rfl, rfl⟩
    exact ⟨rfl, h.used _, (Below.refl B w).setCell (p := ⟨b, 0, none⟩) h.1 _⟩
  · refine (strings_Builder_copyCheck.used b w h.cell0).mono ?_
    rintro e w' ⟨rfl, rfl⟩
    exact ⟨rfl, h, Below.refl B _⟩
theorem strings_Builder_copyCheck.fresh_wr (T : TypeId) (w : World) : strings_Builder_copyCheck.Wr T w.heap.size w.heap.size (Lib.byteCells []) (w.alloc (.cells #[.pointer none, .slice none 0 0] T)) := by
  refine ⟨Lib.IsBuilderF.of (Lib.fresh_isBuilder T 5 w), fun _ => ?_⟩
  have h : (w.alloc (.cells #[.pointer none, .slice none 0 0] T)).heap[w.heap.size]? = some (.cells #[.pointer none, .slice none 0 0] T (0, 0)) := heap_alloc_new w _
  rw [Lib.cell_of_heap h]
  rfl
theorem strings_Builder_copyCheck.Wr.below {T : TypeId} {B b : Nat} {bs : List Value} {w w' : World} (h : strings_Builder_copyCheck.Wr T B b bs w) (hb : Below w.heap.size w w') : strings_Builder_copyCheck.Wr T B b bs w' := by
  have hat : ∀ p, Lib.BuilderAtF T 5 B b p bs w → Lib.BuilderAtF T 5 B b p bs w' := by
    intro p hp
    have hlt := hp.lt
    obtain ⟨hB, v, hbk, hown, hne⟩ := hp
    exact ⟨hB, v, (hb.block b hlt).trans hbk, hown.kept (grown_of_below hb none) (by cases v.ownBlock <;> simp), hne⟩
  have hlt : b < w.heap.size := by rcases h.1 with h | h <;> exact h.lt
  exact ⟨h.1.imp (hat _) (hat _), fun e => (hb.cell (p := ⟨b, 1, none⟩) hlt).trans (h.2 e)⟩
theorem strings_Builder_copyCheck.Wr.lt {T : TypeId} {B b : Nat} {bs : List Value} {w : World} (h : strings_Builder_copyCheck.Wr T B b bs w) : b < w.heap.size := by rcases h.1 with h | h <;> exact h.lt

/-! ### strings_Builder_WriteByte: function 22 (by hand) -/
set_option maxHeartbeats 2000000 in
set_option maxRecDepth 100000 in
theorem strings_Builder_WriteByte.calls (T : TypeId) (hT : strings_Builder_copyCheck.Ok T) (B b : Nat) (bs : List Value) (c : Int) (w : World) (h : Lib.IsBuilderF T 5 B b bs w) (hlen : bs.length + 1 ≤ 140737488355328) (hBw : B ≤ w.heap.size) :
    Calls Try.prog 22 #[.pointer (some ⟨b, 0, none⟩), .int .u8 c] w fun e w' => e = .returned .nilIface ∧ Lib.BuilderAtF T 5 B b (.pointer (some ⟨b, 0, none⟩)) (bs ++ [.int .u8 c]) w' ∧ Below B w w' := by
  obtain ⟨i0, hi, hz0, hz1, hz2⟩ := info_parts (show (Try.prog.info? 5).map (fun i => (i.zero, i.size, i.bytes)) = some (some (.int .u8 0), 1, 1) from by kernel_rfl)
  have HT := Aside0.mk (strings_Builder_copyCheck.calls T hT B b bs)
  have HTE := Lib.hid hT.2
  clear hT
  have H := Aside0.mk h
  clear h
  go_enter Try.func22, Try.ntmps22
  go_wp2_with (go_at_call 26; refine (HT.out _ H.out).mono ?_)
  rintro e w1 ⟨rfl, h1, hb1⟩
  obtain ⟨hB, v, hbk, hown, hne⟩ := h1
  have c0 : w1.cell? ⟨b, 0, none⟩ = some (.pointer (some ⟨b, 0, none⟩)) := by rw [Lib.cell_of_heap hbk]; rfl
  have c1 : w1.cell? ⟨b, 1, none⟩ = some v := by rw [Lib.cell_of_heap hbk]; rfl
  go_wp2_with (at_builtin; refine wpList_append_ownF _ rfl _ _ 28 rfl B 5 i0 (.int .u8 0) 1 1 Try.underlying28 hi hz0 hz1 hz2 rfl (by decide) _ _ _ rfl (hown.alloc _) ⟨w1.heap.size, 0, none⟩ 1 1 [.int .u8 c] rfl rfl ?c1 ?c2 ?c3 ?c4 ?c5 ?_)
  case c1 =>
    intro j u hj
    match j, hj with
    | 0, hj => simp at hj; subst hj; simp [Addr.add]
  case c2 => intro u hu; simp at hu; subst hu; rfl
  case c3 => unfold maxLen; omega
  case c4 => omega
  case c5 => have := hb1.size; simp; omega
  intro v' w2 hown' hgrow _
  have hlt : b < w1.heap.size := by
    rcases Nat.lt_or_ge b w1.heap.size with h' | h'
    · exact h'
    · simp [Array.getElem?_eq_none h'] at hbk
  have hb2 : w2.heap[b]? = some (.cells #[.pointer (some ⟨b, 0, none⟩), v] T (0, 0)) := by
    rw [hgrow.block b (by simp; omega) (fun e => hne e.symm), Lib.alloc_old w1 _ b hlt]
    exact hbk
  have d0 : w2.cell? ⟨b, 0, none⟩ = some (.pointer (some ⟨b, 0, none⟩)) := by rw [Lib.cell_of_heap hb2]; rfl
  have d1 : w2.cell? ⟨b, 1, none⟩ = some v := by rw [Lib.cell_of_heap hb2]; rfl
  have f1 : w2.frozen? ⟨b, 1, none⟩ = false := Lib.frozen_of_heap hb2 1
  obtain ⟨g, cap, rfl⟩ : ∃ g cap, v' = .slice (some ⟨g, 0, none⟩) (bs.length + 1) cap := by
    rcases hown'.2 with ⟨_, h0⟩ | ⟨g, cap, cur, fz, hv, _⟩
    · omega
    · exact ⟨g, cap, hv⟩
  go_wp2
  go_ret
  refine ⟨rfl, ?_, ?_⟩
  · exact Lib.BuilderAtF.put (T := T) (e := 5) hB hb2 (bs' := bs ++ [.int .u8 c]) (by simpa using hown') HTE.out
  · exact ((hb1.alloc (by have := hb1.size; omega) _).grown hgrow (by have := hb1.size; simp; omega) (fun k hk => (hown.lt k hk).1)).setCell (p := ⟨b, 1, none⟩) hB _

/-! ### pack_Writer_Number: function 12 (by hand) -/
theorem pack_Writer_Number.cells_snoc (l : List UInt8) (c : UInt8) : Lib.byteCells l ++ [.int .u8 (c.toNat : Int)] = Lib.byteCells (l ++ [c]) := by simp [Lib.byteCells]
set_option maxRecDepth 100000 in
theorem pack_Writer_Number.or_bits : ∀ x : Fin 256, Go.bits .or .u8 (x.val : Int) 128 = ((x.val % 128 + 128 : Nat) : Int) := by decide
theorem pack_Writer_Number.hi_byte (m : Nat) : Go.bits .or .u8 ((m : Int) % 256) 128 = ((UInt8.ofNat (m % 128 + 128)).toNat : Int) := by
  have h := pack_Writer_Number.or_bits ⟨m % 256, Nat.mod_lt _ (by decide)⟩
  rw [show ((m : Int) % 256) = ((m % 256 : Nat) : Int) by omega]
  refine h.trans ?_
  show ((m % 256 % 128 + 128 : Nat) : Int) = _
  rw [UInt8.toNat_ofNat']
  omega
theorem pack_Writer_Number.lo_byte (m : Nat) (h : m < 128) : (m : Int) = ((UInt8.ofNat m).toNat : Int) := by
  rw [UInt8.toNat_ofNat']
  omega
set_option maxHeartbeats 2000000 in
set_option maxRecDepth 100000 in
theorem pack_Writer_Number.calls (B b : Nat) (bs : List UInt8) (n : Int) (w : World) (h : strings_Builder_copyCheck.Wr 32 B b (Lib.byteCells bs) w) (hlen : bs.length + 16 ≤ 140737488355328) (hBw : B ≤ w.heap.size) :
    Calls Try.prog 12 #[.pointer (some ⟨b, 0, none⟩), .int .i64 n] w fun e w' => e = .returned (.tuple #[]) ∧ strings_Builder_copyCheck.Wr 32 B b (Lib.byteCells (bs ++ Hw.code (Hw.clamp n))) w' ∧ Below B w w' := by
  have HW := Aside0.mk h
  clear h
  have hT : strings_Builder_copyCheck.Ok 32 := ⟨by kernel_rfl, by decide⟩
  have HWB := Aside0.mk (fun bs c w => strings_Builder_WriteByte.calls 32 hT B b bs c w)
  clear hT
  obtain ⟨p, hp⟩ : ∃ p, (if (72057594037927935 : Int) < n then 72057594037927935 else n) = p := ⟨_, rfl⟩
  have hcl : (if (0 : Int) < p then p else 0) = ((Hw.clamp n : Nat) : Int) := by
    rw [← hp]
    unfold Hw.clamp
    split <;> split <;> (try split) <;> omega
  have HM := Lib.hid (Hw.clamp_lt n)
  generalize Hw.clamp n = m0 at hcl HM ⊢
  go_enter Try.func12, Try.ntmps12
  go_wp2_with (fail)
  clear hp hcl
  go_loopg [1] 10 (fun gg v1 wq => ∃ (m : Nat) (pre : List UInt8), v1 = .int .i64 (m : Int) ∧ m < 128 ^ gg ∧ m < 72057594037927936 ∧ pre ++ Hw.code m = Hw.code m0 ∧ Aside0 (strings_Builder_copyCheck.Wr 32 B b (Lib.byteCells (bs ++ pre)) wq) ∧ Aside0 (Below B w wq))
  case atStart => exact ⟨m0, [], rfl, Nat.lt_of_lt_of_le HM.out (by decide), HM.out, rfl, ⟨by rw [List.append_nil]; exact HW.out⟩, ⟨Below.refl _ _⟩⟩
  case round =>
    obtain ⟨m, pre, rfl, hm, hm2, hpre, HWr, HB⟩ := hrel
    have hpl : pre.length ≤ 8 := by
      have h1 := Hw.code_len 7 m0 HM.out
      rw [← hpre, List.length_append] at h1
      omega
    have HP := Aside0.mk hpre
    clear hpre
    have hcl : (Lib.byteCells (bs ++ pre)).length + 1 ≤ 140737488355328 := by rw [Lib.byteCells_length, List.length_append]; omega
    have hbw : B ≤ wr.heap.size := Nat.le_trans hBw HB.out.size
    by_cases hlt : (127 : Int) < (m : Int)
    · have hhb := pack_Writer_Number.hi_byte m
      have HSH := Lib.hid (show (m : Int) / 128 = ((m / 128 : Nat) : Int) by omega)
      obtain ⟨gk, rfl⟩ : ∃ q, gk = q + 1 := by
        cases gk with
        | zero => rw [Nat.pow_zero] at hm; omega
        | succ q => exact ⟨q, rfl⟩
      have HMK := Aside0.mk hm
      have HM2 := Aside0.mk hm2
      clear hm hm2
      go_wp2_with (go_at_call 22; refine (HWB.out _ _ _ HWr.out.1 hcl hbw).mono ?_; rintro e w3 ⟨rfl, h3, hb3⟩; have H3 := Aside0.mk h3; have HB3 := Aside0.mk hb3; clear h3 hb3)
      go_roundg gk
      case measure => omega
      case rel =>
        refine ⟨m / 128, pre ++ [UInt8.ofNat (m % 128 + 128)], by first | go_num | rw [HSH.out], Nat.div_lt_of_lt_mul (by have hm := HMK.out; rw [Nat.pow_succ] at hm; omega), by have := HM2.out; omega, ?_, ⟨?_⟩, ⟨?_⟩⟩
        · rw [List.append_assoc, List.singleton_append, ← Hw.code_hi m (by omega)]
          exact HP.out
        · have h9 := H3.out
          have hv : (((m : Int) % 128 + 128) % 256) = ((UInt8.ofNat (m % 128 + 128)).toNat : Int) := by rw [UInt8.toNat_ofNat']; omega
          rw [hv, pack_Writer_Number.cells_snoc, List.append_assoc] at h9
          exact ⟨.inr h9, fun e => absurd (congrArg List.length e) (by simp [Lib.byteCells])⟩
        · exact HB.out.trans HB3.out
    · have HLB := Lib.hid (pack_Writer_Number.lo_byte m (by omega))
      go_wp2_with (go_at_call 22; refine (HWB.out _ _ _ HWr.out.1 hcl hbw).mono ?_; rintro e w3 ⟨rfl, h3, hb3⟩; have H3 := Aside0.mk h3; have HB3 := Aside0.mk hb3; clear h3 hb3)
      go_end0
      refine ⟨rfl, ?_, HB.out.trans HB3.out⟩
      have h9 := H3.out
      have hb : (Lib.byteCells (bs ++ pre) ++ [Value.int .u8 (m : Int)]) = Lib.byteCells (bs ++ Hw.code m0) := by
        rw [HLB.out, pack_Writer_Number.cells_snoc, List.append_assoc, ← Hw.code_lo m (by omega), HP.out]
      rw [hb] at h9
      exact ⟨.inr h9, fun e => absurd (congrArg List.length e) (by have h8 := List.length_pos_iff.2 (Hw.code_ne m0); rw [Lib.byteCells_length, List.length_append, List.length_nil]; omega)⟩

/-! ### strings_Builder_WriteString: function 21 (by hand) -/
set_option maxHeartbeats 2000000 in
set_option maxRecDepth 100000 in
theorem strings_Builder_WriteString.calls (T : TypeId) (hT : strings_Builder_copyCheck.Ok T) (B b : Nat) (bs : List Value) (s : ByteArray) (w : World) (h : Lib.IsBuilderF T 5 B b bs w) (hlen : bs.length + s.size ≤ 140737488355328) (hBw : B ≤ w.heap.size) :
    Calls Try.prog 21 #[.pointer (some ⟨b, 0, none⟩), .string s] w fun e w' => e = .returned (.tuple #[.int .i64 s.size, .nilIface]) ∧ Lib.BuilderAtF T 5 B b (.pointer (some ⟨b, 0, none⟩)) (bs ++ Lib.strCells s) w' ∧ Below B w w' := by
  obtain ⟨i0, hi, hz0, hz1, hz2⟩ := info_parts (show (Try.prog.info? 5).map (fun i => (i.zero, i.size, i.bytes)) = some (some (.int .u8 0), 1, 1) from by kernel_rfl)
  have HT := Aside0.mk (strings_Builder_copyCheck.calls T hT B b bs)
  have HTE := Lib.hid hT.2
  clear hT
  have H := Aside0.mk h
  clear h
  go_enter Try.func21, Try.ntmps21
  go_wp2_with (go_at_call 26; refine (HT.out _ H.out).mono ?_)
  rintro e w1 ⟨rfl, h1, hb1⟩
  obtain ⟨hB, v, hbk, hown, hne⟩ := h1
  have c0 : w1.cell? ⟨b, 0, none⟩ = some (.pointer (some ⟨b, 0, none⟩)) := by rw [Lib.cell_of_heap hbk]; rfl
  have c1 : w1.cell? ⟨b, 1, none⟩ = some v := by rw [Lib.cell_of_heap hbk]; rfl
  go_wp2_with (at_builtin; refine Lib.wpList_append_own_stringF _ rfl _ _ 28 9 rfl B 5 i0 Try.underlying28 Try.underlying9 hi hz0 hz1 hz2 _ _ _ rfl hown s rfl ?c3 ?c4 ?c5 ?_)
  case c3 => unfold maxLen; omega
  case c4 => omega
  case c5 => have := hb1.size; omega
  intro v' w2 hown' hgrow _
  have hlt : b < w1.heap.size := by
    rcases Nat.lt_or_ge b w1.heap.size with h' | h'
    · exact h'
    · simp [Array.getElem?_eq_none h'] at hbk
  have hb2 : w2.heap[b]? = some (.cells #[.pointer (some ⟨b, 0, none⟩), v] T (0, 0)) := by
    rw [hgrow.block b hlt (fun e => hne e.symm)]
    exact hbk
  have d0 : w2.cell? ⟨b, 0, none⟩ = some (.pointer (some ⟨b, 0, none⟩)) := by rw [Lib.cell_of_heap hb2]; rfl
  have d1 : w2.cell? ⟨b, 1, none⟩ = some v := by rw [Lib.cell_of_heap hb2]; rfl
  have f1 : w2.frozen? ⟨b, 1, none⟩ = false := Lib.frozen_of_heap hb2 1
  obtain ⟨ao, n', cap, rfl⟩ : ∃ ao n' cap, v' = .slice ao n' cap := by
    rcases hown'.2 with ⟨hv, _⟩ | ⟨g, cap, cur, fz, hv, _⟩
    · exact ⟨_, _, _, hv⟩
    · exact ⟨_, _, _, hv⟩
  go_wp2
  go_ret2
  refine ⟨rfl, ?_, ?_⟩
  · exact Lib.BuilderAtF.put (T := T) (e := 5) hB hb2 (bs' := bs ++ Lib.strCells s) (by simpa [Lib.strCells_length] using hown') HTE.out
  · exact (hb1.grown hgrow (by have := hb1.size; omega) (fun k hk => (hown.lt k hk).1)).setCell (p := ⟨b, 1, none⟩) hB _

/-! ### pack_Writer_Text: function 10 (by hand) -/
theorem pack_Writer_Text.str_cells (s : ByteArray) : Lib.strCells s = Lib.byteCells s.data.toList := rfl
theorem pack_Writer_Text.cells_app (l l' : List UInt8) : Lib.byteCells l ++ Lib.byteCells l' = Lib.byteCells (l ++ l') := by simp [Lib.byteCells]
set_option maxHeartbeats 2000000 in
set_option maxRecDepth 100000 in
theorem pack_Writer_Text.calls (B b : Nat) (bs : List UInt8) (s : ByteArray) (w : World) (h : strings_Builder_copyCheck.Wr 32 B b (Lib.byteCells bs) w) (hs : s.size < 72057594037927936) (hlen : bs.length + s.size + 32 ≤ 140737488355328) (hBw : B ≤ w.heap.size) :
    Calls Try.prog 10 #[.pointer (some ⟨b, 0, none⟩), .string s] w fun e w' => e = .returned (.tuple #[]) ∧ strings_Builder_copyCheck.Wr 32 B b (Lib.byteCells (bs ++ (Hw.code s.size ++ s.data.toList))) w' ∧ Below B w w' := by
  have hT : strings_Builder_copyCheck.Ok 32 := ⟨by kernel_rfl, by decide⟩
  have HN := Aside0.mk (pack_Writer_Number.calls B b bs (s.size : Int) w h (by omega) hBw)
  have HWS := Aside0.mk (fun bs w => strings_Builder_WriteString.calls 32 hT B b bs s w)
  clear hT h
  have HC : Hid (Hw.clamp (s.size : Int) = s.size) := Lib.hid (by unfold Hw.clamp; rw [if_neg (by omega), if_neg (by omega)]; omega)
  have HL := Lib.hid (show (Hw.code s.size).length ≤ 8 from Hw.code_len 7 s.size hs)
  clear hs
  go_enter Try.func10, Try.ntmps10
  go_wp2_with (first | (go_at_call 12; refine HN.out.mono ?_; rintro e w3 ⟨rfl, h3, hb3⟩; have H3 := Aside0.mk h3; have HB3 := Aside0.mk hb3; clear h3 hb3) | (go_at_call 21; refine (HWS.out _ _ H3.out.1 (by have := HL.out; have := HC.out; rw [Lib.byteCells_length, List.length_append, HC.out]; omega) (Nat.le_trans hBw HB3.out.size)).mono ?_; rintro e w4 ⟨rfl, h4, hb4⟩; have H4 := Aside0.mk h4; have HB4 := Aside0.mk hb4; clear h4 hb4))
  go_end0
  refine ⟨rfl, ?_, HB3.out.trans HB4.out⟩
  have h9 := H4.out
  have hl := List.length_pos_iff.2 (Hw.code_ne s.size)
  rw [pack_Writer_Text.str_cells, pack_Writer_Text.cells_app, List.append_assoc, HC.out] at h9
  exact ⟨.inr h9, fun e => absurd (congrArg List.length e) (by rw [Lib.byteCells_length, List.length_append, List.length_append, List.length_nil]; omega)⟩

/-! ### strings_Builder_String: function 23 (by hand) -/
set_option maxHeartbeats 2000000 in
set_option maxRecDepth 100000 in
theorem strings_Builder_String.some_ (T : TypeId) (B b : Nat) (l : List UInt8) (w : World) (h : Lib.IsBuilderF T 5 B b (Lib.byteCells l) w) (h0 : l ≠ []) :
    Calls Try.prog 23 #[.pointer (some ⟨b, 0, none⟩)] w fun e w' => e = .returned (.string ⟨l.toArray⟩) ∧ Lib.IsBuilderF T 5 B b (Lib.byteCells l) w' ∧ Below B w w' := by
  obtain ⟨p, hp, hAt⟩ : ∃ p, (p = .pointer none ∨ p = .pointer (some ⟨b, 0, none⟩)) ∧ Lib.BuilderAtF T 5 B b p (Lib.byteCells l) w := by
    rcases h with h | h
    · exact ⟨_, .inl rfl, h⟩
    · exact ⟨_, .inr rfl, h⟩
  obtain ⟨hB, v, hbk, hown, hne⟩ := hAt
  have hl0 : l.length ≠ 0 := by simpa using h0
  rw [Lib.byteCells_length] at hown
  obtain ⟨g, cap, cur, fz, rfl, hbg, hg, hfz, hnc, hcm, hcs, htake⟩ : ∃ g cap cur fz, v = .slice (some ⟨g, 0, none⟩) l.length cap ∧ B ≤ g ∧ w.heap[g]? = some (.cells cur 5 fz) ∧ fz.2 ≤ l.length * 1 ∧ l.length ≤ cap ∧ cap ≤ maxLen ∧ cur.size = cap * 1 ∧ cur.toList.take (l.length * 1) = Lib.byteCells l := by
    rcases hown.2 with ⟨_, hz⟩ | ⟨g, cap, cur, fz, hv, r⟩
    · exact absurd hz hl0
    · exact ⟨g, cap, cur, fz, hv, r⟩
  have c1 : w.drew.cell? ⟨b, 1, none⟩ = some (.slice (some ⟨g, 0, none⟩) l.length cap) := by
    have : w.drew.heap[b]? = some (.cells #[p, .slice (some ⟨g, 0, none⟩) l.length cap] T (0, 0)) := hbk
    rw [Lib.cell_of_heap this]; rfl
  have hSD : (Builtin.unsafeSliceData_ #[28] 63 #[.slice (some ⟨g, 0, none⟩) l.length cap]).run Try.prog w.drew = .ok (.pointer (some ⟨g, 0, none⟩)) w.drew :=
    Lib.run_unsafeSliceData_row _ _ _ _ _ _ (by omega)
  have hUS : (Builtin.unsafeString_ #[63, 3] 9 #[.pointer (some ⟨g, 0, none⟩), .int .i64 l.length]).run Try.prog w.drew = .ok (.string ⟨l.toArray⟩) (w.drew.freeze ⟨g, 0, none⟩ l.length) := by
    refine Lib.run_unsafeString_row w.drew 63 3 9 5 Try.underlying63 (by kernel_rfl) g cur.size (by have hg' : w.drew.heap[g]? = some (.cells cur 5 fz) := hg; simp [World.shape?, hg']) l h0 (by omega) (by unfold maxLen at hcm; omega) ?_
    intro j x hx
    have := hown.cells (g := g) rfl j (.int .u8 x.toNat) (by simp [Lib.byteCells, hx])
    exact this
  have hkeep : Lib.IsBuilderF T 5 B b (Lib.byteCells l) (w.drew.freeze ⟨g, 0, none⟩ l.length) := by
    have hA : Lib.BuilderAtF T 5 B b p (Lib.byteCells l) w.drew := ⟨hB, _, hbk, by rw [Lib.byteCells_length]; exact hown, hne⟩
    have hF := hA.froze (g := g) (cap := cap) (by rw [Lib.byteCells_length]; exact c1)
    rw [Lib.byteCells_length] at hF
    rcases hp with rfl | rfl
    · exact .inl hF
    · exact .inr hF
  have HK := Aside0.mk hkeep
  have HG := Aside0.mk hbg
  clear hkeep hbg
  go_enter Try.func23, Try.ntmps23
  go_wp2
  go_region
  all_goals (go_wp2; go_ret; exact ⟨rfl, HK.out, Lib.below_freeze (Below.drew (Below.refl B w)) (p := ⟨g, 0, none⟩) HG.out _⟩)
set_option maxHeartbeats 2000000 in
set_option maxRecDepth 100000 in
theorem strings_Builder_String.none_ (T : TypeId) (B b : Nat) (p : Value) (w : World) (hbk : w.heap[b]? = some (.cells #[p, .slice none 0 0] T (0, 0))) (hA : Lib.BuilderAtF T 5 B b p [] w) :
    Calls Try.prog 23 #[.pointer (some ⟨b, 0, none⟩)] w fun e w' => e = .returned (.string ⟨#[]⟩) ∧ w' = w.drew := by
  have hUS : ∀ (W : World) (q : Option Addr), (Builtin.unsafeString_ #[63, 3] 9 #[.pointer q, .int .i64 0]).run Try.prog W = .ok (.string .empty) W := fun W q => Lib.run_unsafeString_none W _ _ _ q
  have c1 : w.drew.cell? ⟨b, 1, none⟩ = some (.slice none 0 0) := by
    have : w.drew.heap[b]? = some (.cells #[p, .slice none 0 0] T (0, 0)) := hbk
    rw [Lib.cell_of_heap this]; rfl
  have hSD : (Builtin.unsafeSliceData_ #[28] 63 #[.slice none 0 0]).run Try.prog w.drew = .ok (.pointer none) w.drew := rfl
  clear hA
  go_enter Try.func23, Try.ntmps23
  go_wp2
  go_region
  all_goals (go_wp2; go_ret; exact ⟨rfl, rfl⟩)
theorem strings_Builder_String.calls (T : TypeId) (B b : Nat) (l : List UInt8) (w : World) (h : strings_Builder_copyCheck.Wr T B b (Lib.byteCells l) w) :
    Calls Try.prog 23 #[.pointer (some ⟨b, 0, none⟩)] w fun e w' => e = .returned (.string ⟨l.toArray⟩) ∧ strings_Builder_copyCheck.Wr T B b (Lib.byteCells l) w' ∧ Below B w w' := by
  by_cases h0 : l = []
  · subst h0
    have hc := h.2 rfl
    obtain ⟨p, hp, hAt⟩ : ∃ p, (p = .pointer none ∨ p = .pointer (some ⟨b, 0, none⟩)) ∧ Lib.BuilderAtF T 5 B b p [] w := by
      rcases h.1 with h | h
      · exact ⟨_, .inl rfl, h⟩
      · exact ⟨_, .inr rfl, h⟩
    have hAt' := hAt
    obtain ⟨hB, v, hbk, hown, hne⟩ := hAt
    have hv : v = .slice none 0 0 := by
      have : w.cell? ⟨b, 1, none⟩ = some v := by rw [Lib.cell_of_heap hbk]; rfl
      rw [this] at hc
      exact Option.some.inj hc
    subst hv
    refine (strings_Builder_String.none_ T B b p w hbk hAt').mono ?_
    rintro e w' ⟨rfl, rfl⟩
    refine ⟨rfl, ⟨?_, fun _ => hc⟩, Below.drew (Below.refl B w)⟩
    rcases hp with rfl | rfl
    · exact .inl hAt'.drew
    · exact .inr hAt'.drew
  · refine (strings_Builder_String.some_ T B b l w h.1 h0).mono ?_
    rintro e w' ⟨rfl, h1, h2⟩
    exact ⟨rfl, ⟨h1, fun e => absurd (by simpa [Lib.byteCells] using e) h0⟩, h2⟩

/-! ### pack_Writer_Bytes: function 13 (by hand) -/
set_option maxRecDepth 100000 in
theorem pack_Writer_Bytes.calls (B b : Nat) (l : List UInt8) (w : World) (h : strings_Builder_copyCheck.Wr 32 B b (Lib.byteCells l) w) :
    Calls Try.prog 13 #[.pointer (some ⟨b, 0, none⟩)] w fun e w' => e = .returned (.string ⟨l.toArray⟩) ∧ strings_Builder_copyCheck.Wr 32 B b (Lib.byteCells l) w' ∧ Below B w w' := by
  have HN := Aside0.mk (strings_Builder_String.calls 32 B b l w h)
  clear h
  go_enter Try.func13, Try.ntmps13
  go_wp2_with (go_at_call 23; refine HN.out.mono ?_; rintro e w3 ⟨rfl, h3, hb3⟩; have H3 := Aside0.mk h3; have HB3 := Aside0.mk hb3; clear h3 hb3)
  go_ret
  exact ⟨rfl, H3.out, HB3.out⟩

/-- A state of type 60 at block g of W; what its slices lead to came in by w0. -/
def IsS60 (w0 W : World) (g : Nat) (f0 : ByteArray) (f1 : Int) : Prop := W.heap[g]? = some (.cells #[.string f0, .int .i64 f1] 60 (0, 0)) ∧ w0.heap.size ≤ g
theorem IsS60.grown {w0 W : World} {g : Nat} {f0 : ByteArray} {f1 : Int} {W1 : World} {row : Option Nat} (h : IsS60 w0 W g f0 f1) (hw : W.grownBy W1 row) (hne : some g ≠ row) : IsS60 w0 W1 g f0 f1 := by
  obtain ⟨hb, hg⟩ := h
  exact ⟨blk_grown hb hw hne, hg⟩
theorem IsS60.own_neN {w0 W : World} {g : Nat} {f0 : ByteArray} {f1 : Int} {α : Type} {d : Kd α} {e : Nat} {base : Nat} {ok : Nat → Prop} {v : Value} {xs : List α} (h : IsS60 w0 W g f0 f1) (ho : Kd.N d e W base ok v xs) (ht : e ≠ 60) : some g ≠ v.ownBlock := by
  obtain ⟨hb, hg⟩ := h
  exact Kd.N_ne ho hb ht
theorem IsS60.fresh {w0 W : World} {g : Nat} {f0 : ByteArray} {f1 : Int} (h : IsS60 w0 W g f0 f1) : ∀ k, W.heap.size ≤ k → k ≠ g := by
  obtain ⟨hb, hg⟩ := h
  exact Kd.freshB hb
theorem IsS60.kept {w0 W : World} {g : Nat} {f0 : ByteArray} {f1 : Int} {W1 : World} {S : Nat → Prop} (h : IsS60 w0 W g f0 f1) (hk : Kept W W1 S) (hne : ¬ S g) : IsS60 w0 W1 g f0 f1 := by
  obtain ⟨hb, hg⟩ := h
  exact ⟨blk_kept hb hk hne, hg⟩
theorem IsS60.below {w0 W : World} {g : Nat} {f0 : ByteArray} {f1 : Int} {W1 : World} (h : IsS60 w0 W g f0 f1) (hw : Below W.heap.size W W1) : IsS60 w0 W1 g f0 f1 := h.grown (grown_of_below hw none) (by simp)
theorem IsS60.alloc {w0 W : World} {g : Nat} {f0 : ByteArray} {f1 : Int} (h : IsS60 w0 W g f0 f1) (o : Obj) : IsS60 w0 (W.alloc o) g f0 f1 := h.below (below_alloc (Below.refl _ _) o)
theorem IsS60.drewN {w0 W : World} {g : Nat} {f0 : ByteArray} {f1 : Int} (h : IsS60 w0 W g f0 f1) (m : Nat) : IsS60 w0 (W.drewN m) g f0 f1 := h
theorem IsS60.drew {w0 W : World} {g : Nat} {f0 : ByteArray} {f1 : Int} (h : IsS60 w0 W g f0 f1) : IsS60 w0 W.drew g f0 f1 := h
theorem IsS60.at_ {w0 W : World} {g : Nat} {f0 : ByteArray} {f1 : Int} {w' : World} {m : Nat} (hq : W.drewN m = w') (h : IsS60 w0 W g f0 f1) : IsS60 w0 w' g f0 f1 := by subst hq; exact IsS60.drewN h m
theorem IsS60.apart {w0 W : World} {g : Nat} {f0 : ByteArray} {f1 : Int} {α : Type} {d : Kd α} {e : Nat} {base : Nat} {ok : Nat → Prop} {v : Value} {xs : List α} (h : IsS60 w0 W g f0 f1) (ho : d.R e W base ok v xs) (ht : ∀ q, q ∈ e :: d.E → q ≠ 60) : d.R e W base (fun k => ok k ∧ k ≠ g) v xs := by
  obtain ⟨hb, hg⟩ := h
  exact Kd.R_types ho hb ht
theorem IsS60.own_ne {w0 W : World} {g : Nat} {f0 : ByteArray} {f1 : Int} {α : Type} {d : Kd α} {e : Nat} {base : Nat} {ok : Nat → Prop} {v : Value} {xs : List α} (h : IsS60 w0 W g f0 f1) (ho : d.R e W base ok v xs) (ht : e ≠ 60) : some g ≠ v.ownBlock := by
  obtain ⟨hb, hg⟩ := h
  exact Kd.R_ne ho hb ht
theorem IsS60.apartQ {w0 W : World} {g : Nat} {f0 : ByteArray} {f1 : Int} {α : Type} {d : Kd α} {e : Nat} {base : Nat} {ok : Nat → Prop} {v : Value} {xs : List α} (h : IsS60 w0 W g f0 f1) (ho : d.Q e W base ok v xs) (ht : ∀ q, q ∈ e :: d.E → q ≠ 60) : d.Q e W base (fun k => ok k ∧ k ≠ g) v xs := by
  obtain ⟨hb, hg⟩ := h
  exact Kd.Q_types ho hb ht
theorem IsS60.own_neQ {w0 W : World} {g : Nat} {f0 : ByteArray} {f1 : Int} {α : Type} {d : Kd α} {e : Nat} {base : Nat} {ok : Nat → Prop} {v : Value} {xs : List α} (h : IsS60 w0 W g f0 f1) (ho : d.Q e W base ok v xs) (ht : e ≠ 60) : some g ≠ v.ownBlock := by
  obtain ⟨hb, hg⟩ := h
  exact Kd.Q_ne ho hb ht
theorem IsS60.apartS {w0 W : World} {g : Nat} {f0 : ByteArray} {f1 : Int} {α : Type} {d : Kd α} {e : Nat} {base : Nat} {ok : Nat → Prop} {v : Value} {xs : List α} (h : IsS60 w0 W g f0 f1) (ho : d.S e W base ok v xs) (ht : ∀ q, q ∈ e :: d.E → q ≠ 60) : d.S e W base (fun k => ok k ∧ k ≠ g) v xs := by
  obtain ⟨hb, hg⟩ := h
  exact Kd.S_types ho hb ht
theorem IsS60.own_neS {w0 W : World} {g : Nat} {f0 : ByteArray} {f1 : Int} {α : Type} {d : Kd α} {e : Nat} {base : Nat} {ok : Nat → Prop} {v : Value} {xs : List α} (h : IsS60 w0 W g f0 f1) (ho : d.S e W base ok v xs) (ht : e ≠ 60) : some g ≠ v.ownBlock := by
  obtain ⟨hb, hg⟩ := h
  exact Kd.S_ne ho hb ht
theorem IsS60.lt {w0 W : World} {g : Nat} {f0 : ByteArray} {f1 : Int} (h : IsS60 w0 W g f0 f1) : g < W.heap.size := by
  obtain ⟨hb, hg⟩ := h
  exact blk_lt hb
theorem IsS60.ge {w0 W : World} {g : Nat} {f0 : ByteArray} {f1 : Int} (h : IsS60 w0 W g f0 f1) : w0.heap.size ≤ g := by
  obtain ⟨hb, hg⟩ := h
  exact hg
theorem IsS60.ne_blk {w0 W : World} {g : Nat} {f0 : ByteArray} {f1 : Int} {a : Nat} {cs : Array Value} {t : TypeId} {fr : Nat × Nat} (h : IsS60 w0 W g f0 f1) (hb2 : W.heap[a]? = some (.cells cs t fr)) (ht : t ≠ 60) : g ≠ a := by
  obtain ⟨hb, hg⟩ := h
  rintro rfl
  rw [hb] at hb2
  injection hb2 with hb2
  injection hb2 with _ ht2
  exact ht ht2.symm
theorem IsS60.far {w0 W : World} {g : Nat} {f0 : ByteArray} {f1 : Int} {p : Addr} (h : IsS60 w0 W g f0 f1) (hne : g ≠ p.block) (u : Value) : IsS60 w0 (W.setCell p u) g f0 f1 := by
  obtain ⟨hb, hg⟩ := h
  exact ⟨blk_far hb hne u, hg⟩
theorem cellS60_0 {W : World} {g : Nat} {f0 : ByteArray} {f1 : Int} (h : W.heap[g]? = some (.cells #[.string f0, .int .i64 f1] 60 (0, 0))) : W.cell? ⟨g, 0, none⟩ = some (.string f0) := (blk_cell h 0).trans rfl
theorem IsS60.set_0 {w0 W : World} {g : Nat} {f0 : ByteArray} {f1 : Int} (h : IsS60 w0 W g f0 f1) (x : ByteArray) : IsS60 w0 (W.setCell ⟨g, 0, none⟩ (.string x)) g x f1 := by
  obtain ⟨hb, hg⟩ := h
  exact ⟨by simpa using blk_set hb 0 (.string x), hg⟩
theorem cellS60_1 {W : World} {g : Nat} {f0 : ByteArray} {f1 : Int} (h : W.heap[g]? = some (.cells #[.string f0, .int .i64 f1] 60 (0, 0))) : W.cell? ⟨g, 1, none⟩ = some (.int .i64 f1) := (blk_cell h 1).trans rfl
theorem IsS60.set_1 {w0 W : World} {g : Nat} {f0 : ByteArray} {f1 : Int} (h : IsS60 w0 W g f0 f1) (x : Int) : IsS60 w0 (W.setCell ⟨g, 1, none⟩ (.int .i64 x)) g f0 x := by
  obtain ⟨hb, hg⟩ := h
  exact ⟨by simpa using blk_set hb 1 (.int .i64 x), hg⟩
theorem IsS60.new (w0 W : World) (f0 : ByteArray) (f1 : Int) (hB : Below w0.heap.size w0 W) : IsS60 w0 (W.alloc (.cells #[.string f0, .int .i64 f1] 60)) W.heap.size f0 f1 := ⟨by simpa using heap_alloc_new W _, hB.size⟩

/-! ### pack_Read: function 14 -/
def pack_Read.f (a0 : ByteArray) : Option (ByteArray × Int) := some (a0, 0)
set_option maxHeartbeats 8000000 in
set_option maxRecDepth 100000 in
theorem pack_Read.calls (a0 : ByteArray) (r1 : ByteArray) (r2 : Int) (w0 w : World) (hB : Below w0.heap.size w0 w) (h : pack_Read.f a0 = some (r1, r2)) :
    Calls Try.prog 14 #[.string a0] w fun e w' => ∃ g_ : Nat, e = .returned (.pointer (some ⟨g_, 0, none⟩)) ∧ IsS60 w0 w' g_ r1 r2 ∧ Below w0.heap.size w0 w' ∧ Below w.heap.size w w' := by
  have hu60 := Try.underlying60
  have HBW := Aside0.mk (Below.refl w.heap.size w)
  have HW0 := Aside0.mk hB.size
  have HB := Aside0.mk hB
  clear hB
  have H : (some (a0, 0)) = some (r1, r2) := h
  clear h
  simp only [Option.some.injEq, Prod.mk.injEq] at H
  obtain ⟨rfl, rfl⟩ := H
  go_enter Try.func14, Try.ntmps14
  go_wp2_with (first | ((with_reducible refine gate_dst (N := 5) rfl ?_); refine box_event ?hg (N := 5) ?hd (cs := #[.string a0, .int .i64 0]) (t := 60) ?hr ?_; (case hd => rfl); (case hg => rfl); (case hr => first | (go_simp; done) | (go_simp; rfl)); intro gb102 hg w2 hbox hb; have n0_ := Aside0.mk (below_step HBW.out hb); have n1_ := Aside0.mk (below_step (by repeat (first | (with_reducible first | exact HB.out | apply below_alloc | apply pw_below_drewN | apply below_drew1) | exact HB.out)) hb); have n2_ := Aside0.mk (hbox); have n3_ := Aside0.mk ((by rw [hg]; exact (below_size (by repeat (first | (with_reducible first | exact HBW.out | apply below_alloc | apply pw_below_drewN | apply below_drew1) | exact HBW.out))) : w.heap.size ≤ gb102)); have n4_ := Aside0.mk ((Nat.le_trans HW0.out (by rw [hg]; exact (below_size (by repeat (first | (with_reducible first | exact HBW.out | apply below_alloc | apply pw_below_drewN | apply below_drew1) | exact HBW.out))) : w.heap.size ≤ gb102) : w0.heap.size ≤ gb102)); clear HBW; clear HB; have HBW := n0_; have HB := n1_; have BK102 := n2_; have GW102 := n3_; have GE102 := n4_; clear n0_ n1_ n2_ n3_ n4_; clear hb hbox hg))
  go_ret
  exact ⟨_, rfl, (show IsS60 w0 _ gb102 a0 0 from ⟨by (with_reducible repeat (first | refine blk_drewN ?_ _ | refine blk_drew ?_ | refine blk_alloc ?_ _)); exact BK102.out, GE102.out⟩), by repeat (first | (with_reducible first | exact HB.out | apply below_alloc | apply pw_below_drewN | apply below_drew1 | refine below_set ?_ GE102.out) | exact HB.out), by repeat (first | (with_reducible first | exact HBW.out | apply below_alloc | apply pw_below_drewN | apply below_drew1 | refine below_set ?_ GW102.out) | exact HBW.out)⟩

/-! ### pack_Reader_Number: function 16 -/
def pack_Reader_Number.l0 : Nat → Int → Int → ByteArray → Int → Option (Int × Int × ByteArray × Int)
  | 0, _, _, _, _ => none
  | k + 1, x4, x5, x1000, x1001 => if x5 < (x1000.size : Int) then (if (wrap64 (7 * (wrap64 (x5 - x1001)))) > 49 then (some (0, 21, x1000, x1001)) else (if 0 ≤ x5 then (if 0 ≤ (IntKind.u64.wrap (wrap64 (7 * (wrap64 (x5 - x1001))))) then (if (bt x1000 x5) > 127 then (pack_Reader_Number.l0 k (Go.bits .or .i64 x4 (shl .i64 (wrap64 (Go.bits .and .u8 (bt x1000 x5) 127)) (IntKind.u64.wrap (wrap64 (7 * (wrap64 (x5 - x1001))))))) (wrap64 (x5 + 1)) x1000 x1001) else (if (bt x1000 x5) = 0 then (if (wrap64 (7 * (wrap64 (x5 - x1001)))) > 0 then (some (0, 21, x1000, x1001)) else (some (Go.bits .or .i64 x4 (shl .i64 (wrap64 (Go.bits .and .u8 (bt x1000 x5) 127)) (IntKind.u64.wrap (wrap64 (7 * (wrap64 (x5 - x1001)))))), 0, x1000, wrap64 (x5 + 1)))) else (some (Go.bits .or .i64 x4 (shl .i64 (wrap64 (Go.bits .and .u8 (bt x1000 x5) 127)) (IntKind.u64.wrap (wrap64 (7 * (wrap64 (x5 - x1001)))))), 0, x1000, wrap64 (x5 + 1))))) else (none)) else (none))) else (some (0, 20, x1000, x1001))
def pack_Reader_Number.f (k : Nat) (s0_0 : ByteArray) (s0_1 : Int) : Option (Int × Int × ByteArray × Int) := pack_Reader_Number.l0 k 0 s0_1 s0_0 s0_1
theorem pack_Reader_Number.mono_l : ∀ k, (∀ y0 y1 y2 y3, LeO (pack_Reader_Number.l0 k y0 y1 y2 y3) (pack_Reader_Number.l0 (k + 1) y0 y1 y2 y3))
  | 0 => fun _ _ _ _ r h => by simp [pack_Reader_Number.l0] at h
  | k + 1 => by
    have ih0 := pack_Reader_Number.mono_l k
    · intro y0 y1 y2 y3
      unfold pack_Reader_Number.l0
      repeat' first
      | (with_reducible exact ih0 _ _ _ _)
      | (with_reducible exact LeO.refl _)
      | (with_reducible exact LeO.none _)
      | (with_reducible refine LeO.ite ?_ ?_)
      | (with_reducible refine LeO.bind ?_ (fun _ => ?_))
      | exact ih0 _ _ _ _
      | exact LeO.none _
      | refine LeO.ite ?_ ?_
      | refine LeO.bind ?_ (fun _ => ?_)
theorem pack_Reader_Number.mono : ∀ a0 a1 k, LeO (pack_Reader_Number.f k a0 a1) (pack_Reader_Number.f (k + 1) a0 a1) := by
  intro a0 a1 k
  have ih0 := pack_Reader_Number.mono_l k
  unfold pack_Reader_Number.f
  repeat' first
      | (with_reducible exact ih0 _ _ _ _)
      | (with_reducible exact LeO.refl _)
      | (with_reducible exact LeO.none _)
      | (with_reducible refine LeO.ite ?_ ?_)
      | (with_reducible refine LeO.bind ?_ (fun _ => ?_))
      | exact ih0 _ _ _ _
      | exact LeO.none _
      | refine LeO.ite ?_ ?_
      | refine LeO.bind ?_ (fun _ => ?_)
set_option maxHeartbeats 8000000 in
set_option maxRecDepth 100000 in
theorem pack_Reader_Number.calls (k : Nat) (g : Nat) (s0_0 : ByteArray) (s0_1 : Int) (r1 : Int) (r2 : Int) (r3 : ByteArray) (r4 : Int) (w0 w : World) (hI : IsS60 w0 w g s0_0 s0_1) (hB : Below w0.heap.size w0 w) (h : pack_Reader_Number.f k s0_0 s0_1 = some (r1, r2, r3, r4)) :
    Calls Try.prog 16 #[.pointer (some ⟨g, 0, none⟩)] w fun e w' => e = .returned (.tuple #[.int .i64 r1, .int .i64 r2]) ∧ IsS60 w0 w' g r3 r4 ∧ Below w0.heap.size w0 w' ∧ KeepBut w w' g none := by
  have HI0 := Aside0.mk hI
  have HK := Aside0.mk (KeepBut.refl w g none)
  have HL := Aside0.mk hB.size
  clear hI
  have HW0 := Aside0.mk hB.size
  have HB := Aside0.mk hB
  clear hB
  have H : (pack_Reader_Number.l0 k 0 s0_1 s0_0 s0_1) = some (r1, r2, r3, r4) := h
  clear h
  have H' := Aside0.mk H
  clear H
  obtain ⟨HGz2, hgz2⟩ := HI0.out
  have hcz2_0 := cellS60_0 HGz2
  have hcz2_1 := cellS60_1 HGz2
  have hfz2_0 := blk_frozen HGz2 0
  have hfz2_1 := blk_frozen HGz2 1
  clear HGz2 hgz2
  go_enter Try.func16, Try.ntmps16
  go_wp2
  go_loopg [4, 5] k (fun kq v4 v5 w' => ∃ (x4_1 : Int) (x5_1 : Int) (x1001_1 : Int), v4 = .int .i64 x4_1 ∧ v5 = .int .i64 x5_1 ∧ Aside0 (pack_Reader_Number.l0 kq x4_1 x5_1 s0_0 x1001_1 = some (r1, r2, r3, r4)) ∧ Aside0 (kq ≤ k) ∧ Aside0 (IsS60 w0 w' g s0_0 x1001_1) ∧ Aside0 (KeepBut w w' g none) ∧ Aside0 (Below w0.heap.size w0 w'))
  case atStart => exact ⟨(0), (s0_1), (s0_1), (by first | rfl | (simp; done) | (simp [*]; done)), (by first | rfl | (simp; done) | (simp [*]; done)), H', ⟨Nat.le_refl _⟩, ⟨by repeat (first | (with_reducible first | exact HI0.out | apply IsS60.alloc | apply IsS60.drewN | apply IsS60.drew | apply IsS60.set_0 | apply IsS60.set_1) | exact HI0.out)⟩, ⟨by repeat (first | (with_reducible first | exact HK.out | apply KeepBut.set_ | apply keep_drewN | apply keep_drew | apply keep_alloc) | exact HK.out)⟩, ⟨by repeat (first | (with_reducible first | exact HB.out | apply below_alloc | apply pw_below_drewN | apply below_drew1 | refine below_set ?_ (IsS60.ge HI0.out)) | exact HB.out)⟩⟩
  case round =>
    clear H'
    try clear c1
    try clear p2
    try clear hcz2_0
    try clear hcz2_1
    try clear hfz2_0
    try clear hfz2_1
    obtain ⟨x4_1, x5_1, x1001_1, rfl, rfl, HA, HK1, HI0, HK, HB⟩ := hrel
    cases gk with
    | zero => exact absurd HA.out (by simp [pack_Reader_Number.l0])
    | succ k1 =>
      have H := HA.out
      clear HA
      simp only [pack_Reader_Number.l0] at H
      by_cases c3 : x5_1 < (s0_0.size : Int)
      · rw [if_pos c3] at H
        have c3b0 : decide (x5_1 < (s0_0.size : Int)) = true := decide_eq_true c3
        clear c3
        by_cases c4 : (wrap64 (7 * (wrap64 (x5_1 - x1001_1)))) > 49
        · rw [if_pos c4] at H
          have c4b0 : decide (49 < (wrap64 (7 * (wrap64 (x5_1 - x1001_1))))) = true := decide_eq_true c4
          clear c4
          simp only [Option.some.injEq, Prod.mk.injEq] at H
          obtain ⟨rfl, rfl, rfl, rfl⟩ := H
          obtain ⟨HGz5, hgz5⟩ := HI0.out
          have hcz5_0 := cellS60_0 HGz5
          have hcz5_1 := cellS60_1 HGz5
          have hfz5_0 := blk_frozen HGz5 0
          have hfz5_1 := blk_frozen HGz5 1
          clear HGz5 hgz5
          go_wp2
          go_ret2
          exact ⟨by first | rfl | (simp [errW_none, errW_some] <;> rfl) | (simp [*, errW_none, errW_some] <;> rfl), by repeat (first | (with_reducible first | exact HI0.out | apply IsS60.alloc | apply IsS60.drewN | apply IsS60.drew | apply IsS60.set_0 | apply IsS60.set_1) | exact HI0.out), by repeat (first | (with_reducible first | exact HB.out | apply below_alloc | apply pw_below_drewN | apply below_drew1 | refine below_set ?_ (IsS60.ge HI0.out)) | exact HB.out), by repeat (first | (with_reducible first | exact HK.out | apply KeepBut.set_ | apply keep_drewN | apply keep_drew | apply keep_alloc) | exact HK.out)⟩
        · rw [if_neg c4] at H
          have c4b0 : decide (49 < (wrap64 (7 * (wrap64 (x5_1 - x1001_1))))) = false := decide_eq_false c4
          clear c4
          by_cases c6 : 0 ≤ x5_1
          · rw [if_pos c6] at H
            have c6b0 : decide (0 ≤ x5_1) = true := decide_eq_true c6
            clear c6
            obtain ⟨ji8, hji8⟩ : ∃ j_ : Int, (IntKind.u64.wrap (wrap64 (7 * (wrap64 (x5_1 - x1001_1))))) = j_ := ⟨_, rfl⟩
            replace H : (if 0 ≤ (ji8) then (if (bt s0_0 x5_1) > 127 then (pack_Reader_Number.l0 k1 (Go.bits .or .i64 x4_1 (shl .i64 (wrap64 (Go.bits .and .u8 (bt s0_0 x5_1) 127)) (ji8))) (wrap64 (x5_1 + 1)) s0_0 x1001_1) else (if (bt s0_0 x5_1) = 0 then (if (wrap64 (7 * (wrap64 (x5_1 - x1001_1)))) > 0 then (some (0, 21, s0_0, x1001_1)) else (some (Go.bits .or .i64 x4_1 (shl .i64 (wrap64 (Go.bits .and .u8 (bt s0_0 x5_1) 127)) (ji8)), 0, s0_0, wrap64 (x5_1 + 1)))) else (some (Go.bits .or .i64 x4_1 (shl .i64 (wrap64 (Go.bits .and .u8 (bt s0_0 x5_1) 127)) (ji8)), 0, s0_0, wrap64 (x5_1 + 1))))) else (none)) = some (r1, r2, r3, r4) := by first | (rw [hji8] at H; exact H) | (simp only [hji8] at H ⊢; exact H)
            by_cases c9 : 0 ≤ (ji8)
            · rw [if_pos c9] at H
              have c9b0 := eq_true c9
              have c9b1 : decide (0 ≤ (ji8)) = true := decide_eq_true c9
              clear c9
              obtain ⟨ji10, hji10⟩ : ∃ j_ : Int, (shl .i64 (wrap64 (Go.bits .and .u8 (bt s0_0 x5_1) 127)) (ji8)) = j_ := ⟨_, rfl⟩
              replace H : (if (bt s0_0 x5_1) > 127 then (pack_Reader_Number.l0 k1 (Go.bits .or .i64 x4_1 (ji10)) (wrap64 (x5_1 + 1)) s0_0 x1001_1) else (if (bt s0_0 x5_1) = 0 then (if (wrap64 (7 * (wrap64 (x5_1 - x1001_1)))) > 0 then (some (0, 21, s0_0, x1001_1)) else (some (Go.bits .or .i64 x4_1 (ji10), 0, s0_0, wrap64 (x5_1 + 1)))) else (some (Go.bits .or .i64 x4_1 (ji10), 0, s0_0, wrap64 (x5_1 + 1))))) = some (r1, r2, r3, r4) := by first | (rw [hji10] at H; exact H) | (simp only [hji10] at H ⊢; exact H)
              have hji10_ : (IntKind.i64.wrap ((wrap64 (Go.bits .and .u8 (bt s0_0 x5_1) 127)) * 2 ^ min (ji8).toNat 64)) = ji10 := hji10
              have hji10z : (ji8) ≤ 64 → (IntKind.i64.wrap ((wrap64 (Go.bits .and .u8 (bt s0_0 x5_1) 127)) * 2 ^ (ji8).toNat)) = ji10 := shl_small hji10
              have hji10y : (wrap64 ((wrap64 (Go.bits .and .u8 (bt s0_0 x5_1) 127)) * 2 ^ min (ji8).toNat 64)) = ji10 := (i64_w _).symm.trans hji10_
              have hji10x : (ji8) ≤ 64 → (wrap64 ((wrap64 (Go.bits .and .u8 (bt s0_0 x5_1) 127)) * 2 ^ (ji8).toNat)) = ji10 := fun h_ => (i64_w _).symm.trans (hji10z h_)
              by_cases c11 : (bt s0_0 x5_1) > 127
              · rw [if_pos c11] at H
                have c11b0 : decide (127 < (bt s0_0 x5_1)) = true := decide_eq_true c11
                clear c11
                have H' := Aside0.mk H
                clear H
                obtain ⟨HGz12, hgz12⟩ := HI0.out
                have hcz12_0 := cellS60_0 HGz12
                have hcz12_1 := cellS60_1 HGz12
                have hfz12_0 := blk_frozen HGz12 0
                have hfz12_1 := blk_frozen HGz12 1
                clear HGz12 hgz12
                have p7 : 0 ≤ (x5_1 : Int) := of_decide_eq_true (by first | (with_reducible assumption) | assumption)
                have q7 : x5_1 < (s0_0.size : Int) := of_decide_eq_true (by first | (with_reducible assumption) | assumption)
                have hx7 := bt_at s0_0 x5_1
                replace p7 := eq_true p7
                replace q7 := eq_true q7
                go_wp2
                go_roundg k1
                case measure => have := HK1.out; omega
                case rel => exact ⟨(Go.bits .or .i64 x4_1 (ji10)), (wrap64 (x5_1 + 1)), (x1001_1), (by first | rfl | (simp; done) | (simp only [← hji10] <;> (first | rfl | simp)) | (simp [*]; done)), (by first | rfl | (simp; done) | (simp [*]; done)), H', ⟨by have := HK1.out; omega⟩, ⟨by repeat (first | (with_reducible first | exact HI0.out | apply IsS60.alloc | apply IsS60.drewN | apply IsS60.drew | apply IsS60.set_0 | apply IsS60.set_1) | exact HI0.out)⟩, ⟨by repeat (first | (with_reducible first | exact HK.out | apply KeepBut.set_ | apply keep_drewN | apply keep_drew | apply keep_alloc) | exact HK.out)⟩, ⟨by repeat (first | (with_reducible first | exact HB.out | apply below_alloc | apply pw_below_drewN | apply below_drew1 | refine below_set ?_ (IsS60.ge HI0.out)) | exact HB.out)⟩⟩
              · rw [if_neg c11] at H
                have c11b0 : decide (127 < (bt s0_0 x5_1)) = false := decide_eq_false c11
                clear c11
                by_cases c13 : (bt s0_0 x5_1) = 0
                · rw [if_pos c13] at H
                  have c13b0 : ((bt s0_0 x5_1) == 0) = true := beq_iff_eq.mpr c13
                  have c13b1 : ((bt s0_0 x5_1) != 0) = false := bne_eq_false_iff_eq.mpr c13
                  clear c13
                  by_cases c14 : (wrap64 (7 * (wrap64 (x5_1 - x1001_1)))) > 0
                  · rw [if_pos c14] at H
                    have c14b0 : decide (0 < (wrap64 (7 * (wrap64 (x5_1 - x1001_1))))) = true := decide_eq_true c14
                    clear c14
                    simp only [Option.some.injEq, Prod.mk.injEq] at H
                    obtain ⟨rfl, rfl, rfl, rfl⟩ := H
                    obtain ⟨HGz15, hgz15⟩ := HI0.out
                    have hcz15_0 := cellS60_0 HGz15
                    have hcz15_1 := cellS60_1 HGz15
                    have hfz15_0 := blk_frozen HGz15 0
                    have hfz15_1 := blk_frozen HGz15 1
                    clear HGz15 hgz15
                    have p7 : 0 ≤ (x5_1 : Int) := of_decide_eq_true (by first | (with_reducible assumption) | assumption)
                    have q7 : x5_1 < (s0_0.size : Int) := of_decide_eq_true (by first | (with_reducible assumption) | assumption)
                    have hx7 := bt_at s0_0 x5_1
                    replace p7 := eq_true p7
                    replace q7 := eq_true q7
                    go_wp2
                    go_ret2
                    exact ⟨by first | rfl | (simp [errW_none, errW_some] <;> rfl) | (simp only [← hji8, ← hji10]; first | rfl | (simp [errW_none, errW_some] <;> rfl)) | (simp [*, errW_none, errW_some] <;> rfl), by repeat (first | (with_reducible first | exact HI0.out | apply IsS60.alloc | apply IsS60.drewN | apply IsS60.drew | apply IsS60.set_0 | apply IsS60.set_1) | exact HI0.out), by repeat (first | (with_reducible first | exact HB.out | apply below_alloc | apply pw_below_drewN | apply below_drew1 | refine below_set ?_ (IsS60.ge HI0.out)) | exact HB.out), by repeat (first | (with_reducible first | exact HK.out | apply KeepBut.set_ | apply keep_drewN | apply keep_drew | apply keep_alloc) | exact HK.out)⟩
                  · rw [if_neg c14] at H
                    have c14b0 : decide (0 < (wrap64 (7 * (wrap64 (x5_1 - x1001_1))))) = false := decide_eq_false c14
                    clear c14
                    simp only [Option.some.injEq, Prod.mk.injEq] at H
                    obtain ⟨rfl, rfl, rfl, rfl⟩ := H
                    obtain ⟨HGz16, hgz16⟩ := HI0.out
                    have hcz16_0 := cellS60_0 HGz16
                    have hcz16_1 := cellS60_1 HGz16
                    have hfz16_0 := blk_frozen HGz16 0
                    have hfz16_1 := blk_frozen HGz16 1
                    clear HGz16 hgz16
                    have p7 : 0 ≤ (x5_1 : Int) := of_decide_eq_true (by first | (with_reducible assumption) | assumption)
                    have q7 : x5_1 < (s0_0.size : Int) := of_decide_eq_true (by first | (with_reducible assumption) | assumption)
                    have hx7 := bt_at s0_0 x5_1
                    replace p7 := eq_true p7
                    replace q7 := eq_true q7
                    go_wp2
                    go_ret2
                    exact ⟨by first | rfl | (simp [errW_none, errW_some] <;> rfl) | (simp only [← hji8, ← hji10]; first | rfl | (simp [errW_none, errW_some] <;> rfl)) | (simp [*, errW_none, errW_some] <;> rfl), by repeat (first | (with_reducible first | exact HI0.out | apply IsS60.alloc | apply IsS60.drewN | apply IsS60.drew | apply IsS60.set_0 | apply IsS60.set_1) | exact HI0.out), by repeat (first | (with_reducible first | exact HB.out | apply below_alloc | apply pw_below_drewN | apply below_drew1 | refine below_set ?_ (IsS60.ge HI0.out)) | exact HB.out), by repeat (first | (with_reducible first | exact HK.out | apply KeepBut.set_ | apply keep_drewN | apply keep_drew | apply keep_alloc) | exact HK.out)⟩
                · rw [if_neg c13] at H
                  have c13b0 : ((bt s0_0 x5_1) == 0) = false := beq_eq_false_iff_ne.mpr c13
                  have c13b1 : ((bt s0_0 x5_1) != 0) = true := bne_iff_ne.mpr c13
                  simp only [Option.some.injEq, Prod.mk.injEq] at H
                  obtain ⟨rfl, rfl, rfl, rfl⟩ := H
                  obtain ⟨HGz17, hgz17⟩ := HI0.out
                  have hcz17_0 := cellS60_0 HGz17
                  have hcz17_1 := cellS60_1 HGz17
                  have hfz17_0 := blk_frozen HGz17 0
                  have hfz17_1 := blk_frozen HGz17 1
                  clear HGz17 hgz17
                  have p7 : 0 ≤ (x5_1 : Int) := of_decide_eq_true (by first | (with_reducible assumption) | assumption)
                  have q7 : x5_1 < (s0_0.size : Int) := of_decide_eq_true (by first | (with_reducible assumption) | assumption)
                  have hx7 := bt_at s0_0 x5_1
                  replace p7 := eq_true p7
                  replace q7 := eq_true q7
                  go_wp2
                  go_ret2
                  exact ⟨by first | rfl | (simp [errW_none, errW_some] <;> rfl) | (simp only [← hji8, ← hji10]; first | rfl | (simp [errW_none, errW_some] <;> rfl)) | (simp [*, errW_none, errW_some] <;> rfl), by repeat (first | (with_reducible first | exact HI0.out | apply IsS60.alloc | apply IsS60.drewN | apply IsS60.drew | apply IsS60.set_0 | apply IsS60.set_1) | exact HI0.out), by repeat (first | (with_reducible first | exact HB.out | apply below_alloc | apply pw_below_drewN | apply below_drew1 | refine below_set ?_ (IsS60.ge HI0.out)) | exact HB.out), by repeat (first | (with_reducible first | exact HK.out | apply KeepBut.set_ | apply keep_drewN | apply keep_drew | apply keep_alloc) | exact HK.out)⟩
            · rw [if_neg c9] at H
              exact absurd H (by simp)
          · rw [if_neg c6] at H
            exact absurd H (by simp)
      · rw [if_neg c3] at H
        have c3b0 : decide (x5_1 < (s0_0.size : Int)) = false := decide_eq_false c3
        clear c3
        simp only [Option.some.injEq, Prod.mk.injEq] at H
        obtain ⟨rfl, rfl, rfl, rfl⟩ := H
        obtain ⟨HGz18, hgz18⟩ := HI0.out
        have hcz18_0 := cellS60_0 HGz18
        have hcz18_1 := cellS60_1 HGz18
        have hfz18_0 := blk_frozen HGz18 0
        have hfz18_1 := blk_frozen HGz18 1
        clear HGz18 hgz18
        go_wp2
        go_ret2
        exact ⟨by first | rfl | (simp [errW_none, errW_some] <;> rfl) | (simp [*, errW_none, errW_some] <;> rfl), by repeat (first | (with_reducible first | exact HI0.out | apply IsS60.alloc | apply IsS60.drewN | apply IsS60.drew | apply IsS60.set_0 | apply IsS60.set_1) | exact HI0.out), by repeat (first | (with_reducible first | exact HB.out | apply below_alloc | apply pw_below_drewN | apply below_drew1 | refine below_set ?_ (IsS60.ge HI0.out)) | exact HB.out), by repeat (first | (with_reducible first | exact HK.out | apply KeepBut.set_ | apply keep_drewN | apply keep_drew | apply keep_alloc) | exact HK.out)⟩

end Go.Proofs.Ytmecbfadhacajaa.PPackBack
