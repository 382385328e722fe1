-- By a program of this session (wip/tools/mkprint.py), for this claim.
import Derived.Test.YtfdccgpbdcdgmaaPLogRoomx0
import Derived.Test.YtfdccgpbdcdgmaaPLogRoomx1
import Derived.Test.YtfdccgpbdcdgmaaPLogRoomx4
import Derived.Test.YtfdccgpbdcdgmaaPLogRoomx5
import Derived.Test.YtfdccgpbdcdgmaaPLogRoomx7
import Derived.Test.YtfdccgpbdcdgmaaPLogRoomx8
namespace Go.Proofs.Ytfdccgpbdcdgmaa.PLogRoom
open Go.RowKit Go.Proofs.YtfdccgpbdcdgmaaW.PrintWords Go.Proofs.YtfdccgpbdcdgmaaW.PrintLast Go.Proofs.YtfdccgpbdcdgmaaW.PrintMore
attribute [local go_sem] max2_int min2_int max_two min_two max_three min_three max_four min_four   -- for this text's walks alone
set_option linter.unusedVariables false
set_option linter.unusedSimpArgs false

/-! ### disk_Disk_Barrier: function 26 (by hand) -/
set_option maxHeartbeats 4000000 in
set_option maxRecDepth 100000 in
theorem disk_Disk_Barrier.calls (s : Dk.S) (base g mb n : Nat) (ov : Value) (w : World) (h : Dk.D w base g s mb n ov) (hin : Dk.In s) :
    Calls Try.prog 26 #[.pointer (some ⟨g, 0, none⟩)] w fun e w' => e = .returned (.int .i64 (Dk.barr s).2) ∧ (∃ ov', Dk.D w' base g (Dk.barr s).1 mb n ov') ∧ Dk.B base w w' := by
  have m2 : w.cell? ⟨g, 258, none⟩ = some (.bool s.off) := h.at 2
  have m6 : w.cell? ⟨g, 262, none⟩ = some (.int .i64 s.many) := h.at 6
  have f6 := h.fz 262
  have HH := Aside0.mk h
  have HIN := Aside0.mk hin
  have HDIE := Aside0.mk (fun s base g mb n ov w => disk_Disk_die.calls s base g mb n ov w)
  have HSET := Aside0.mk (fun s base g mb n ov w => disk_Disk_settle.calls s base g mb n ov w)
  have HDUE := Aside0.mk (fun b k cs t n w => disk_due.calls b k cs t n w)
  have n1 : 0 ≤ s.many := hin.2.2.2.1.1
  have n2 : s.many ≤ 90000 := hin.2.2.2.1.2
  have u1 := hin.1
  have u2 := hin.2.1
  have HL : Aside0 (s.l.length ≤ 100000) := ⟨by have := hin.2.2.2.2; omega⟩
  have HKP := Aside0.mk hin.2.2.1
  clear h hin
  have HLT : Aside0 ((Dk.tick s).l.length ≤ 100000) := ⟨HL.out⟩
  have HKT : Aside0 (0 ≤ (Dk.tick s).keep ∧ (Dk.tick s).keep < 18446744073709551616) := ⟨HKP.out⟩
  cases ho : s.off
  · rw [ho] at m2
    by_cases hc : s.cut = 1
    · have hc1 : decide (s.cut = 1) = true := decide_eq_true hc
      have hb : Dk.barr s = (Dk.dieS (Dk.tick s), 33) := by unfold Dk.barr; rw [ho, if_neg (by decide), if_pos hc]
      rw [hb]
      clear hb
      go_enter Try.func26, Try.ntmps26
      go_wp2_with (fail)
      obtain ⟨hp1, hp2⟩ := Dk.D.put (s' := { s with many := s.many + 1 }) HH.out 262 (.int .i64 (s.many + 1)) (by rw [Dk.arr_set s mb _ 6 _ HH.out.hl]; rfl) HH.out.hl rfl
      have HP := Aside0.mk hp1
      have HB := Aside0.mk hp2
      clear hp1 hp2 m6 f6 m2
      generalize w.setCell ⟨g, 262, none⟩ (.int .i64 (s.many + 1)) = W5 at HP HB ⊢
      have HP := Aside0.mk HP.out.drew
      have HO := Aside0.mk HP.out.ob
      have HK1 := Aside0.mk (Dk.arr259 { s with many := s.many + 1 } mb ov HH.out.hl)
      have HK2 := Aside0.mk (Dk.arr260 { s with many := s.many + 1 } mb ov (.int .i64 (Dk.dn s.cut)) HH.out.hl)
      have hn1 : -9223372036854775808 ≤ s.cut ∧ s.cut < 9223372036854775808 := by omega
      have hn2 : -9223372036854775808 ≤ s.fail ∧ s.fail < 9223372036854775808 := by omega
      go_region_held3 (fun _ => True) (trivial) ((first | (go_at_call 30; (with_reducible refine (HDUE.out g 259 _ _ _ _ HO.out HK1.out hn1).mono ?_); rintro e w3 ⟨rfl, ho3, hg3⟩; have HO3 := Aside0.mk ho3; have HG3 := Aside0.mk hg3; clear ho3 hg3) | (go_at_call 30; (with_reducible refine (HDUE.out g 260 _ _ _ _ HO3.out HK2.out hn2).mono ?_); rintro e w4 ⟨rfl, ho4, hg4⟩; have HO4 := Aside0.mk ho4; have HG4 := Aside0.mk hg4; clear ho4 hg4)))
      have HT := Aside0.mk (Dk.D.ticked HP.out HO3.out HG3.out HO4.out HG4.out)
      clear HO HK1 HK2 HP HO3 HO4 HG3 HG4
      go_wp2_with (go_at_call 32; (with_reducible refine (HDIE.out _ base g mb n _ _ HT.out.1 HLT.out HKT.out).mono ?_); rintro e w5 ⟨rfl, hd5, hb5⟩; have HD5 := Aside0.mk hd5; have HB5 := Aside0.mk hb5; clear hd5 hb5)
      go_ret
      exact ⟨rfl, ⟨_, HD5.out⟩, (HB.out.trans (Dk.B.drew (Dk.B.refl _ _))).trans (HT.out.2.trans HB5.out)⟩
    · have hc1 : decide (s.cut = 1) = false := decide_eq_false hc
      by_cases hf : s.fail = 1
      · have hf1 : decide (s.fail = 1) = true := decide_eq_true hf
        have hb : Dk.barr s = (Dk.tick s, 32) := by unfold Dk.barr; rw [ho, if_neg (by decide), if_neg hc, if_pos hf]
        rw [hb]
        clear hb
        go_enter Try.func26, Try.ntmps26
        go_wp2_with (fail)
        obtain ⟨hp1, hp2⟩ := Dk.D.put (s' := { s with many := s.many + 1 }) HH.out 262 (.int .i64 (s.many + 1)) (by rw [Dk.arr_set s mb _ 6 _ HH.out.hl]; rfl) HH.out.hl rfl
        have HP := Aside0.mk hp1
        have HB := Aside0.mk hp2
        clear hp1 hp2 m6 f6 m2
        generalize w.setCell ⟨g, 262, none⟩ (.int .i64 (s.many + 1)) = W5 at HP HB ⊢
        have HP := Aside0.mk HP.out.drew
        have HO := Aside0.mk HP.out.ob
        have HK1 := Aside0.mk (Dk.arr259 { s with many := s.many + 1 } mb ov HH.out.hl)
        have HK2 := Aside0.mk (Dk.arr260 { s with many := s.many + 1 } mb ov (.int .i64 (Dk.dn s.cut)) HH.out.hl)
        have hn1 : -9223372036854775808 ≤ s.cut ∧ s.cut < 9223372036854775808 := by omega
        have hn2 : -9223372036854775808 ≤ s.fail ∧ s.fail < 9223372036854775808 := by omega
        go_region_held3 (fun _ => True) (trivial) ((first | (go_at_call 30; (with_reducible refine (HDUE.out g 259 _ _ _ _ HO.out HK1.out hn1).mono ?_); rintro e w3 ⟨rfl, ho3, hg3⟩; have HO3 := Aside0.mk ho3; have HG3 := Aside0.mk hg3; clear ho3 hg3) | (go_at_call 30; (with_reducible refine (HDUE.out g 260 _ _ _ _ HO3.out HK2.out hn2).mono ?_); rintro e w4 ⟨rfl, ho4, hg4⟩; have HO4 := Aside0.mk ho4; have HG4 := Aside0.mk hg4; clear ho4 hg4)))
        have HT := Aside0.mk (Dk.D.ticked HP.out HO3.out HG3.out HO4.out HG4.out)
        clear HO HK1 HK2 HP HO3 HO4 HG3 HG4
        go_wp2_with (fail)
        go_ret
        exact ⟨rfl, ⟨_, HT.out.1⟩, (HB.out.trans (Dk.B.drew (Dk.B.refl _ _))).trans HT.out.2⟩
      · have hf1 : decide (s.fail = 1) = false := decide_eq_false hf
        have hb : Dk.barr s = ({ Dk.tick s with l := [] }, 0) := by unfold Dk.barr; rw [ho, if_neg (by decide), if_neg hc, if_neg hf]
        rw [hb]
        clear hb
        go_enter Try.func26, Try.ntmps26
        go_wp2_with (fail)
        obtain ⟨hp1, hp2⟩ := Dk.D.put (s' := { s with many := s.many + 1 }) HH.out 262 (.int .i64 (s.many + 1)) (by rw [Dk.arr_set s mb _ 6 _ HH.out.hl]; rfl) HH.out.hl rfl
        have HP := Aside0.mk hp1
        have HB := Aside0.mk hp2
        clear hp1 hp2 m6 f6 m2
        generalize w.setCell ⟨g, 262, none⟩ (.int .i64 (s.many + 1)) = W5 at HP HB ⊢
        have HP := Aside0.mk HP.out.drew
        have HO := Aside0.mk HP.out.ob
        have HK1 := Aside0.mk (Dk.arr259 { s with many := s.many + 1 } mb ov HH.out.hl)
        have HK2 := Aside0.mk (Dk.arr260 { s with many := s.many + 1 } mb ov (.int .i64 (Dk.dn s.cut)) HH.out.hl)
        have hn1 : -9223372036854775808 ≤ s.cut ∧ s.cut < 9223372036854775808 := by omega
        have hn2 : -9223372036854775808 ≤ s.fail ∧ s.fail < 9223372036854775808 := by omega
        go_region_held3 (fun _ => True) (trivial) ((first | (go_at_call 30; (with_reducible refine (HDUE.out g 259 _ _ _ _ HO.out HK1.out hn1).mono ?_); rintro e w3 ⟨rfl, ho3, hg3⟩; have HO3 := Aside0.mk ho3; have HG3 := Aside0.mk hg3; clear ho3 hg3) | (go_at_call 30; (with_reducible refine (HDUE.out g 260 _ _ _ _ HO3.out HK2.out hn2).mono ?_); rintro e w4 ⟨rfl, ho4, hg4⟩; have HO4 := Aside0.mk ho4; have HG4 := Aside0.mk hg4; clear ho4 hg4)))
        have HT := Aside0.mk (Dk.D.ticked HP.out HO3.out HG3.out HO4.out HG4.out)
        clear HO HK1 HK2 HP HO3 HO4 HG3 HG4
        go_wp2_with (go_at_call 51; (with_reducible refine (HSET.out _ base g mb n _ _ HT.out.1 HLT.out).mono ?_); rintro e w5 ⟨rfl, hd5, hb5⟩; have HD5 := Aside0.mk hd5; have HB5 := Aside0.mk hb5; clear hd5 hb5)
        go_ret
        exact ⟨rfl, ⟨_, HD5.out⟩, (HB.out.trans (Dk.B.drew (Dk.B.refl _ _))).trans (HT.out.2.trans HB5.out)⟩
  · rw [ho] at m2
    have hb : Dk.barr s = (s, 33) := by unfold Dk.barr; rw [ho, if_pos rfl]
    rw [hb]
    clear hb
    go_enter Try.func26, Try.ntmps26
    go_wp2_with (fail)
    go_ret
    exact ⟨rfl, ⟨_, HH.out⟩, Dk.B.refl _ _⟩

/-! ### strings_Builder_WriteByte: function 87 (by hand) -/
set_option maxHeartbeats 2000000 in
set_option maxRecDepth 100000 in
theorem strings_Builder_WriteByte.calls (T : TypeId) (hT : strings_Builder_copyCheck.Ok T) (B b : Nat) (bs : List Value) (c : Int) (w : World) (h : Lib.IsBuilderF T 5 B b bs w) (hlen : bs.length + 1 ≤ 140737488355328) (hBw : B ≤ w.heap.size) :
    Calls Try.prog 87 #[.pointer (some ⟨b, 0, none⟩), .int .u8 c] w fun e w' => e = .returned .nilIface ∧ Lib.BuilderAtF T 5 B b (.pointer (some ⟨b, 0, none⟩)) (bs ++ [.int .u8 c]) w' ∧ Below B w w' := by
  obtain ⟨i0, hi, hz0, hz1, hz2⟩ := info_parts (show (Try.prog.info? 5).map (fun i => (i.zero, i.size, i.bytes)) = some (some (.int .u8 0), 1, 1) from by kernel_rfl)
  have HT := Aside0.mk (strings_Builder_copyCheck.calls T hT B b bs)
  have HTE := Lib.hid hT.2
  clear hT
  have H := Aside0.mk h
  clear h
  go_enter Try.func87, Try.ntmps87
  go_wp2_with (go_at_call 75; refine (HT.out _ H.out).mono ?_)
  rintro e w1 ⟨rfl, h1, hb1⟩
  obtain ⟨hB, v, hbk, hown, hne⟩ := h1
  have c0 : w1.cell? ⟨b, 0, none⟩ = some (.pointer (some ⟨b, 0, none⟩)) := by rw [Lib.cell_of_heap hbk]; rfl
  have c1 : w1.cell? ⟨b, 1, none⟩ = some v := by rw [Lib.cell_of_heap hbk]; rfl
  go_wp2_with (at_builtin; refine wpList_append_ownF _ rfl _ _ 23 rfl B 5 i0 (.int .u8 0) 1 1 Try.underlying23 hi hz0 hz1 hz2 rfl (by decide) _ _ _ rfl (hown.alloc _) ⟨w1.heap.size, 0, none⟩ 1 1 [.int .u8 c] rfl rfl ?c1 ?c2 ?c3 ?c4 ?c5 ?_)
  case c1 =>
    intro j u hj
    match j, hj with
    | 0, hj => simp at hj; subst hj; simp [Addr.add]
  case c2 => intro u hu; simp at hu; subst hu; rfl
  case c3 => unfold maxLen; omega
  case c4 => omega
  case c5 => have := hb1.size; simp; omega
  intro v' w2 hown' hgrow _
  have hlt : b < w1.heap.size := by
    rcases Nat.lt_or_ge b w1.heap.size with h' | h'
    · exact h'
    · simp [Array.getElem?_eq_none h'] at hbk
  have hb2 : w2.heap[b]? = some (.cells #[.pointer (some ⟨b, 0, none⟩), v] T (0, 0)) := by
    rw [hgrow.block b (by simp; omega) (fun e => hne e.symm), Lib.alloc_old w1 _ b hlt]
    exact hbk
  have d0 : w2.cell? ⟨b, 0, none⟩ = some (.pointer (some ⟨b, 0, none⟩)) := by rw [Lib.cell_of_heap hb2]; rfl
  have d1 : w2.cell? ⟨b, 1, none⟩ = some v := by rw [Lib.cell_of_heap hb2]; rfl
  have f1 : w2.frozen? ⟨b, 1, none⟩ = false := Lib.frozen_of_heap hb2 1
  obtain ⟨g, cap, rfl⟩ : ∃ g cap, v' = .slice (some ⟨g, 0, none⟩) (bs.length + 1) cap := by
    rcases hown'.2 with ⟨_, h0⟩ | ⟨g, cap, cur, fz, hv, _⟩
    · omega
    · exact ⟨g, cap, hv⟩
  go_wp2
  go_ret
  refine ⟨rfl, ?_, ?_⟩
  · exact Lib.BuilderAtF.put (T := T) (e := 5) hB hb2 (bs' := bs ++ [.int .u8 c]) (by simpa using hown') HTE.out
  · exact ((hb1.alloc (by have := hb1.size; omega) _).grown hgrow (by have := hb1.size; simp; omega) (fun k hk => (hown.lt k hk).1)).setCell (p := ⟨b, 1, none⟩) hB _

/-! ### pack_Writer_Number: function 76 (by hand) -/
theorem pack_Writer_Number.cells_snoc (l : List UInt8) (c : UInt8) : Lib.byteCells l ++ [.int .u8 (c.toNat : Int)] = Lib.byteCells (l ++ [c]) := by simp [Lib.byteCells]
set_option maxRecDepth 100000 in
theorem pack_Writer_Number.or_bits : ∀ x : Fin 256, Go.bits .or .u8 (x.val : Int) 128 = ((x.val % 128 + 128 : Nat) : Int) := by decide
theorem pack_Writer_Number.hi_byte (m : Nat) : Go.bits .or .u8 ((m : Int) % 256) 128 = ((UInt8.ofNat (m % 128 + 128)).toNat : Int) := by
  have h := pack_Writer_Number.or_bits ⟨m % 256, Nat.mod_lt _ (by decide)⟩
  rw [show ((m : Int) % 256) = ((m % 256 : Nat) : Int) by omega]
  refine h.trans ?_
  show ((m % 256 % 128 + 128 : Nat) : Int) = _
  rw [UInt8.toNat_ofNat']
  omega
theorem pack_Writer_Number.lo_byte (m : Nat) (h : m < 128) : (m : Int) = ((UInt8.ofNat m).toNat : Int) := by
  rw [UInt8.toNat_ofNat']
  omega
set_option maxHeartbeats 2000000 in
set_option maxRecDepth 100000 in
theorem pack_Writer_Number.calls (B b : Nat) (bs : List UInt8) (n : Int) (w : World) (h : strings_Builder_copyCheck.Wr 117 B b (Lib.byteCells bs) w) (hlen : bs.length + 16 ≤ 140737488355328) (hBw : B ≤ w.heap.size) :
    Calls Try.prog 76 #[.pointer (some ⟨b, 0, none⟩), .int .i64 n] w fun e w' => e = .returned (.tuple #[]) ∧ strings_Builder_copyCheck.Wr 117 B b (Lib.byteCells (bs ++ Hw.code (Hw.clamp n))) w' ∧ Below B w w' := by
  have HW := Aside0.mk h
  clear h
  have hT : strings_Builder_copyCheck.Ok 117 := ⟨by kernel_rfl, by decide⟩
  have HWB := Aside0.mk (fun bs c w => strings_Builder_WriteByte.calls 117 hT B b bs c w)
  clear hT
  obtain ⟨p, hp⟩ : ∃ p, (if (72057594037927935 : Int) < n then 72057594037927935 else n) = p := ⟨_, rfl⟩
  have hcl : (if (0 : Int) < p then p else 0) = ((Hw.clamp n : Nat) : Int) := by
    rw [← hp]
    unfold Hw.clamp
    split <;> split <;> (try split) <;> omega
  have HM := Lib.hid (Hw.clamp_lt n)
  generalize Hw.clamp n = m0 at hcl HM ⊢
  go_enter Try.func76, Try.ntmps76
  go_wp2_with (fail)
  clear hp hcl
  go_loopg [1] 10 (fun gg v1 wq => ∃ (m : Nat) (pre : List UInt8), v1 = .int .i64 (m : Int) ∧ m < 128 ^ gg ∧ m < 72057594037927936 ∧ pre ++ Hw.code m = Hw.code m0 ∧ Aside0 (strings_Builder_copyCheck.Wr 117 B b (Lib.byteCells (bs ++ pre)) wq) ∧ Aside0 (Below B w wq))
  case atStart => exact ⟨m0, [], rfl, Nat.lt_of_lt_of_le HM.out (by decide), HM.out, rfl, ⟨by rw [List.append_nil]; exact HW.out⟩, ⟨Below.refl _ _⟩⟩
  case round =>
    obtain ⟨m, pre, rfl, hm, hm2, hpre, HWr, HB⟩ := hrel
    have hpl : pre.length ≤ 8 := by
      have h1 := Hw.code_len 7 m0 HM.out
      rw [← hpre, List.length_append] at h1
      omega
    have HP := Aside0.mk hpre
    clear hpre
    have hcl : (Lib.byteCells (bs ++ pre)).length + 1 ≤ 140737488355328 := by rw [Lib.byteCells_length, List.length_append]; omega
    have hbw : B ≤ wr.heap.size := Nat.le_trans hBw HB.out.size
    by_cases hlt : (127 : Int) < (m : Int)
    · have hhb := pack_Writer_Number.hi_byte m
      have HSH := Lib.hid (show (m : Int) / 128 = ((m / 128 : Nat) : Int) by omega)
      obtain ⟨gk, rfl⟩ : ∃ q, gk = q + 1 := by
        cases gk with
        | zero => rw [Nat.pow_zero] at hm; omega
        | succ q => exact ⟨q, rfl⟩
      have HMK := Aside0.mk hm
      have HM2 := Aside0.mk hm2
      clear hm hm2
      go_wp2_with (go_at_call 87; refine (HWB.out _ _ _ HWr.out.1 hcl hbw).mono ?_; rintro e w3 ⟨rfl, h3, hb3⟩; have H3 := Aside0.mk h3; have HB3 := Aside0.mk hb3; clear h3 hb3)
      go_roundg gk
      case measure => omega
      case rel =>
        refine ⟨m / 128, pre ++ [UInt8.ofNat (m % 128 + 128)], by first | go_num | rw [HSH.out], Nat.div_lt_of_lt_mul (by have hm := HMK.out; rw [Nat.pow_succ] at hm; omega), by have := HM2.out; omega, ?_, ⟨?_⟩, ⟨?_⟩⟩
        · rw [List.append_assoc, List.singleton_append, ← Hw.code_hi m (by omega)]
          exact HP.out
        · have h9 := H3.out
          have hv : (((m : Int) % 128 + 128) % 256) = ((UInt8.ofNat (m % 128 + 128)).toNat : Int) := by rw [UInt8.toNat_ofNat']; omega
          rw [hv, pack_Writer_Number.cells_snoc, List.append_assoc] at h9
          exact ⟨.inr h9, fun e => absurd (congrArg List.length e) (by simp [Lib.byteCells])⟩
        · exact HB.out.trans HB3.out
    · have HLB := Lib.hid (pack_Writer_Number.lo_byte m (by omega))
      go_wp2_with (go_at_call 87; refine (HWB.out _ _ _ HWr.out.1 hcl hbw).mono ?_; rintro e w3 ⟨rfl, h3, hb3⟩; have H3 := Aside0.mk h3; have HB3 := Aside0.mk hb3; clear h3 hb3)
      go_end0
      refine ⟨rfl, ?_, HB.out.trans HB3.out⟩
      have h9 := H3.out
      have hb : (Lib.byteCells (bs ++ pre) ++ [Value.int .u8 (m : Int)]) = Lib.byteCells (bs ++ Hw.code m0) := by
        rw [HLB.out, pack_Writer_Number.cells_snoc, List.append_assoc, ← Hw.code_lo m (by omega), HP.out]
      rw [hb] at h9
      exact ⟨.inr h9, fun e => absurd (congrArg List.length e) (by have h8 := List.length_pos_iff.2 (Hw.code_ne m0); rw [Lib.byteCells_length, List.length_append, List.length_nil]; omega)⟩

/-! ### pack_Writer_Text: function 77 (by hand) -/
theorem pack_Writer_Text.str_cells (s : ByteArray) : Lib.strCells s = Lib.byteCells s.data.toList := rfl
theorem pack_Writer_Text.cells_app (l l' : List UInt8) : Lib.byteCells l ++ Lib.byteCells l' = Lib.byteCells (l ++ l') := by simp [Lib.byteCells]
set_option maxHeartbeats 2000000 in
set_option maxRecDepth 100000 in
theorem pack_Writer_Text.calls (B b : Nat) (bs : List UInt8) (s : ByteArray) (w : World) (h : strings_Builder_copyCheck.Wr 117 B b (Lib.byteCells bs) w) (hs : s.size < 72057594037927936) (hlen : bs.length + s.size + 32 ≤ 140737488355328) (hBw : B ≤ w.heap.size) :
    Calls Try.prog 77 #[.pointer (some ⟨b, 0, none⟩), .string s] w fun e w' => e = .returned (.tuple #[]) ∧ strings_Builder_copyCheck.Wr 117 B b (Lib.byteCells (bs ++ (Hw.code s.size ++ s.data.toList))) w' ∧ Below B w w' := by
  have hT : strings_Builder_copyCheck.Ok 117 := ⟨by kernel_rfl, by decide⟩
  have HN := Aside0.mk (pack_Writer_Number.calls B b bs (s.size : Int) w h (by omega) hBw)
  have HWS := Aside0.mk (fun bs w => strings_Builder_WriteString.calls 117 hT B b bs s w)
  clear hT h
  have HC : Hid (Hw.clamp (s.size : Int) = s.size) := Lib.hid (by unfold Hw.clamp; rw [if_neg (by omega), if_neg (by omega)]; omega)
  have HL := Lib.hid (show (Hw.code s.size).length ≤ 8 from Hw.code_len 7 s.size hs)
  clear hs
  go_enter Try.func77, Try.ntmps77
  go_wp2_with (first | (go_at_call 76; refine HN.out.mono ?_; rintro e w3 ⟨rfl, h3, hb3⟩; have H3 := Aside0.mk h3; have HB3 := Aside0.mk hb3; clear h3 hb3) | (go_at_call 59; refine (HWS.out _ _ H3.out.1 (by have := HL.out; have := HC.out; rw [Lib.byteCells_length, List.length_append, HC.out]; omega) (Nat.le_trans hBw HB3.out.size)).mono ?_; rintro e w4 ⟨rfl, h4, hb4⟩; have H4 := Aside0.mk h4; have HB4 := Aside0.mk hb4; clear h4 hb4))
  go_end0
  refine ⟨rfl, ?_, HB3.out.trans HB4.out⟩
  have h9 := H4.out
  have hl := List.length_pos_iff.2 (Hw.code_ne s.size)
  rw [pack_Writer_Text.str_cells, pack_Writer_Text.cells_app, List.append_assoc, HC.out] at h9
  exact ⟨.inr h9, fun e => absurd (congrArg List.length e) (by rw [Lib.byteCells_length, List.length_append, List.length_append, List.length_nil]; omega)⟩

/-! ### pack_Writer_Bytes: function 78 (by hand) -/
set_option maxRecDepth 100000 in
theorem pack_Writer_Bytes.calls (B b : Nat) (l : List UInt8) (w : World) (h : strings_Builder_copyCheck.Wr 117 B b (Lib.byteCells l) w) :
    Calls Try.prog 78 #[.pointer (some ⟨b, 0, none⟩)] w fun e w' => e = .returned (.string ⟨l.toArray⟩) ∧ strings_Builder_copyCheck.Wr 117 B b (Lib.byteCells l) w' ∧ Below B w w' := by
  have HN := Aside0.mk (strings_Builder_String.calls 117 B b l w h)
  clear h
  go_enter Try.func78, Try.ntmps78
  go_wp2_with (go_at_call 60; refine HN.out.mono ?_; rintro e w3 ⟨rfl, h3, hb3⟩; have H3 := Aside0.mk h3; have HB3 := Aside0.mk hb3; clear h3 hb3)
  go_ret
  exact ⟨rfl, H3.out, HB3.out⟩

/-! ### chunk_Encode: function 62 (by hand) -/
def chunk_Encode.flags (a b : Bool) : Nat := (if a then 1 else 0) + (if b then 2 else 0)
def chunk_Encode.body (e q : Int) (a b : Bool) (d : ByteArray) : List UInt8 := Hw.code (Hw.clamp e) ++ Hw.code (Hw.clamp q) ++ Hw.code (chunk_Encode.flags a b) ++ (Hw.code d.size ++ d.data.toList)
def chunk_Encode.f (k : Nat) (a0_0 a0_1 : Int) (a0_2 a0_3 : Bool) (a0_4 : ByteArray) : Option (ByteArray × Int) :=
  if a0_0 < 0 ∨ a0_0 > 1099511627776 ∨ a0_1 < 0 ∨ a0_1 > 1099511627776 then some (⟨#[]⟩, 1) else if (a0_4.size : Int) > 96 then some (⟨#[]⟩, 31) else
    (chunk_tail.f k ⟨(chunk_Encode.body a0_0 a0_1 a0_2 a0_3 a0_4).toArray⟩).bind fun t => if t.size ≤ 100 then some ((⟨(chunk_Encode.body a0_0 a0_1 a0_2 a0_3 a0_4).toArray⟩ : ByteArray) ++ t, 0) else none
theorem chunk_Encode.mono : ∀ a0 a1 a2 a3 a4 k, LeO (chunk_Encode.f k a0 a1 a2 a3 a4) (chunk_Encode.f (k + 1) a0 a1 a2 a3 a4) := by
  intro a0 a1 a2 a3 a4 k
  unfold chunk_Encode.f
  exact LeO.ite (LeO.refl _) (LeO.ite (LeO.refl _) (LeO.bind (chunk_tail.mono _ _) fun _ => LeO.refl _))
theorem chunk_Encode.flags_lt (a b : Bool) : chunk_Encode.flags a b < 4 := by cases a <;> cases b <;> decide
theorem chunk_Encode.flags_len (a b : Bool) : (Hw.code (chunk_Encode.flags a b)).length = 1 := by rw [Hw.code_lo _ (by have := chunk_Encode.flags_lt a b; omega)]; rfl
set_option maxHeartbeats 4000000 in
set_option maxRecDepth 100000 in
theorem chunk_Encode.calls (k : Nat) (a0_0 a0_1 : Int) (a0_2 a0_3 : Bool) (a0_4 : ByteArray) (r1 : ByteArray) (r2 : Int) (w : World) (h : chunk_Encode.f k a0_0 a0_1 a0_2 a0_3 a0_4 = some (r1, r2)) :
    Calls Try.prog 62 #[.agg #[.int .i64 a0_0, .int .i64 a0_1, .bool a0_2, .bool a0_3, .string a0_4]] w fun e w' => e = .returned (.tuple #[.string r1, .int .i64 r2]) ∧ Below w.heap.size w w' := by
  unfold chunk_Encode.f at h
  by_cases hb : a0_0 < 0 ∨ a0_0 > 1099511627776 ∨ a0_1 < 0 ∨ a0_1 > 1099511627776
  · rw [if_pos hb] at h
    simp only [Option.some.injEq, Prod.mk.injEq] at h
    obtain ⟨rfl, rfl⟩ := h
    have fin : ∀ b1 b2 b3 b4 : Bool, (b1 || b2 || b3 || b4) = true → decide (a0_0 < 0) = b1 → decide (1099511627776 < a0_0) = b2 → decide (a0_1 < 0) = b3 → decide (1099511627776 < a0_1) = b4 → Calls Try.prog 62 #[.agg #[.int .i64 a0_0, .int .i64 a0_1, .bool a0_2, .bool a0_3, .string a0_4]] w fun e w' => e = .returned (.tuple #[.string ⟨#[]⟩, .int .i64 1]) ∧ Below w.heap.size w w' := by
      intro b1 b2 b3 b4 h0 h1 h2 h3 h4
      clear hb
      cases b1 <;> cases b2 <;> cases b3 <;> cases b4 <;> first | (exfalso; exact absurd h0 (by decide)) | skip
      all_goals
        clear h0
        go_enter Try.func62, Try.ntmps62
        go_wp2
        go_ret2
        exact ⟨rfl, below_alloc (Below.refl _ _) _⟩
    refine fin _ _ _ _ ?_ rfl rfl rfl rfl
    rcases hb with hb | hb | hb | hb <;> simp [hb]
  · rw [if_neg hb] at h
    have hb1 : decide (a0_0 < 0) = false := decide_eq_false (by omega)
    have hb2 : decide (1099511627776 < a0_0) = false := decide_eq_false (by omega)
    have hb3 : decide (a0_1 < 0) = false := decide_eq_false (by omega)
    have hb4 : decide (1099511627776 < a0_1) = false := decide_eq_false (by omega)
    clear hb
    by_cases hs : (a0_4.size : Int) > 96
    · rw [if_pos hs] at h
      simp only [Option.some.injEq, Prod.mk.injEq] at h
      obtain ⟨rfl, rfl⟩ := h
      have hs1 : decide ((96 : Int) < (a0_4.size : Int)) = true := decide_eq_true hs
      have hs2 : decide (96 < a0_4.size) = true := decide_eq_true (by omega)
      clear hs
      go_enter Try.func62, Try.ntmps62
      go_wp2
      go_ret2
      exact ⟨rfl, below_alloc (Below.refl _ _) _⟩
    · rw [if_neg hs] at h
      have hs1 : decide ((96 : Int) < (a0_4.size : Int)) = false := decide_eq_false hs
      have hs2 : decide (96 < a0_4.size) = false := decide_eq_false (by omega)
      have HS : Aside0 (a0_4.size ≤ 96) := ⟨by omega⟩
      clear hs
      obtain ⟨t, ht, h⟩ := Option.bind_eq_some_iff.1 h
      by_cases hts : t.size ≤ 100
      case neg => rw [if_neg hts] at h; cases h
      rw [if_pos hts] at h
      simp only [Option.some.injEq, Prod.mk.injEq] at h
      obtain ⟨rfl, rfl⟩ := h
      have HT := Aside0.mk (fun W => chunk_tail.calls k ⟨(chunk_Encode.body a0_0 a0_1 a0_2 a0_3 a0_4).toArray⟩ t W ht)
      clear ht
      have HL : Aside0 ((Hw.code (Hw.clamp a0_0)).length ≤ 8 ∧ (Hw.code (Hw.clamp a0_1)).length ≤ 8 ∧ (Hw.code a0_4.size).length ≤ 8 ∧ a0_4.data.toList.length = a0_4.size) := ⟨Hw.code_len 7 _ (Hw.clamp_lt _), Hw.code_len 7 _ (Hw.clamp_lt _), Hw.code_len 7 _ (by have := HS.out; omega), data_length _⟩
      have hsz : (w.alloc (.cells #[.int .i64 a0_0, .int .i64 a0_1, .bool a0_2, .bool a0_3, .string a0_4] 25)).heap.size = w.heap.size + 1 := by simp
      have HW0 := strings_Builder_copyCheck.fresh_wr 117 (w.alloc (.cells #[.int .i64 a0_0, .int .i64 a0_1, .bool a0_2, .bool a0_3, .string a0_4] 25))
      rw [hsz] at HW0
      have HW0 := Aside0.mk HW0
      clear hsz
      have HC0 : Aside0 (∀ W, Below (w.heap.size + 1) ((w.alloc (.cells #[.int .i64 a0_0, .int .i64 a0_1, .bool a0_2, .bool a0_3, .string a0_4] 25)).alloc (.cells #[.pointer none, .slice none 0 0] 117)) W → W.cell? ⟨w.heap.size, 0, none⟩ = some (.int .i64 a0_0) ∧ W.cell? ⟨w.heap.size, 1, none⟩ = some (.int .i64 a0_1) ∧ W.cell? ⟨w.heap.size, 4, none⟩ = some (.string a0_4)) := ⟨fun W hb => by
        have hk := blk_cell (Hw.blk_al (Hw.blk_nw w (.cells #[.int .i64 a0_0, .int .i64 a0_1, .bool a0_2, .bool a0_3, .string a0_4] 25)) (.cells #[.pointer none, .slice none 0 0] 117))
        exact ⟨(hb.cell (p := ⟨w.heap.size, 0, none⟩) (by simp)).trans (hk 0), (hb.cell (p := ⟨w.heap.size, 1, none⟩) (by simp)).trans (hk 1), (hb.cell (p := ⟨w.heap.size, 4, none⟩) (by simp)).trans (hk 4)⟩⟩
      have HB0 : Aside0 (Below w.heap.size w ((w.alloc (.cells #[.int .i64 a0_0, .int .i64 a0_1, .bool a0_2, .bool a0_3, .string a0_4] 25)).alloc (.cells #[.pointer none, .slice none 0 0] 117))) := ⟨below_alloc (below_alloc (Below.refl _ _) _) _⟩
      have HNX : Aside0 (∀ (bs : List UInt8) (n : Int) (wq : World), strings_Builder_copyCheck.Wr 117 (w.heap.size + 1) (w.heap.size + 1) (Lib.byteCells bs) wq → bs.length ≤ 1000 →
        Calls Try.prog 76 #[.pointer (some ⟨w.heap.size + 1, 0, none⟩), .int .i64 n] wq fun e w' => e = .returned (.tuple #[]) ∧ strings_Builder_copyCheck.Wr 117 (w.heap.size + 1) (w.heap.size + 1) (Lib.byteCells (bs ++ Hw.code (Hw.clamp n))) w' ∧ Below (w.heap.size + 1) wq w') := ⟨fun bs n wq h1 h3 => pack_Writer_Number.calls _ _ bs n wq h1 (by omega) (Nat.le_of_lt h1.lt)⟩
      have HTX : Aside0 (∀ (bs : List UInt8) (wq : World), strings_Builder_copyCheck.Wr 117 (w.heap.size + 1) (w.heap.size + 1) (Lib.byteCells bs) wq → bs.length ≤ 1000 →
        Calls Try.prog 77 #[.pointer (some ⟨w.heap.size + 1, 0, none⟩), .string a0_4] wq fun e w' => e = .returned (.tuple #[]) ∧ strings_Builder_copyCheck.Wr 117 (w.heap.size + 1) (w.heap.size + 1) (Lib.byteCells (bs ++ (Hw.code a0_4.size ++ a0_4.data.toList))) w' ∧ Below (w.heap.size + 1) wq w') := ⟨fun bs wq h1 h3 => pack_Writer_Text.calls _ _ bs a0_4 wq h1 (by have := HS.out; omega) (by have := HS.out; omega) (Nat.le_of_lt h1.lt)⟩
      have HBX : Aside0 (∀ (bs : List UInt8) (wq : World), strings_Builder_copyCheck.Wr 117 (w.heap.size + 1) (w.heap.size + 1) (Lib.byteCells bs) wq → bs = chunk_Encode.body a0_0 a0_1 a0_2 a0_3 a0_4 →
        Calls Try.prog 78 #[.pointer (some ⟨w.heap.size + 1, 0, none⟩)] wq fun e w' => e = .returned (.string ⟨(chunk_Encode.body a0_0 a0_1 a0_2 a0_3 a0_4).toArray⟩) ∧ Below (w.heap.size + 1) wq w') := ⟨fun bs wq h1 h2 => by subst h2; exact (pack_Writer_Bytes.calls _ _ _ wq h1).mono fun e w' h => ⟨h.1, h.2.2⟩⟩
      have hsum : (⟨(chunk_Encode.body a0_0 a0_1 a0_2 a0_3 a0_4).toArray⟩ : ByteArray).size + t.size ≤ 9223372036854775807 := by
        have e1 : (⟨(chunk_Encode.body a0_0 a0_1 a0_2 a0_3 a0_4).toArray⟩ : ByteArray).size = (chunk_Encode.body a0_0 a0_1 a0_2 a0_3 a0_4).length := List.size_toArray
        have h1 := HL.out
        have h2 := HS.out
        rw [e1]
        unfold chunk_Encode.body
        simp only [List.length_append, chunk_Encode.flags_len]
        omega
      have HF : Aside0 (∀ n : Nat, chunk_Encode.flags a0_2 a0_3 = n → chunk_Encode.body a0_0 a0_1 a0_2 a0_3 a0_4 = ((Hw.code (Hw.clamp a0_0) ++ Hw.code (Hw.clamp a0_1)) ++ Hw.code (Hw.clamp (n : Int))) ++ (Hw.code a0_4.size ++ a0_4.data.toList) ∧ (Hw.code (Hw.clamp (n : Int))).length ≤ 8) := ⟨fun n hn => by
        subst hn
        rw [Hw.clamp_nat _ (by have := chunk_Encode.flags_lt a0_2 a0_3; omega)]
        exact ⟨rfl, by rw [chunk_Encode.flags_len]; omega⟩⟩
      obtain ⟨hc0, hc1, hc4⟩ := HC0.out _ (Below.refl _ _)
      generalize hBD : chunk_Encode.body a0_0 a0_1 a0_2 a0_3 a0_4 = BD at *
      clear hBD hts
      cases a0_2 <;> cases a0_3
      all_goals
        first | have HFN := Aside0.mk (HF.out 0 rfl) | have HFN := Aside0.mk (HF.out 1 rfl) | have HFN := Aside0.mk (HF.out 2 rfl) | have HFN := Aside0.mk (HF.out 3 rfl)
        clear HF
        have hbit1 : Go.bits .or .i64 0 1 = 1 := by decide
        have hbit2 : Go.bits .or .i64 0 2 = 2 := by decide
        have hbit3 : Go.bits .or .i64 1 2 = 3 := by decide
        go_enter Try.func62, Try.ntmps62
        go_wp2_with (first | (go_at_call 77; (with_reducible refine (HTX.out _ _ HW3.out (by have := HL.out; have q0 := Hw.code_len 7 _ (Hw.clamp_lt 0); have q1 := Hw.code_len 7 _ (Hw.clamp_lt 1); have q2 := Hw.code_len 7 _ (Hw.clamp_lt 2); have q3 := Hw.code_len 7 _ (Hw.clamp_lt 3); simp only [List.nil_append, List.length_append]; omega)).mono ?_); rintro e w4 ⟨rfl, h4, hb4⟩; have HW4 := Aside0.mk h4; have B4 := Aside0.mk (B3.out.trans hb4); clear h4 hb4) | (go_at_call 76; (with_reducible refine (HNX.out _ _ _ HW2.out (by have := HL.out; simp only [List.nil_append, List.length_append]; omega)).mono ?_); rintro e w3 ⟨rfl, h3, hb3⟩; have HW3 := Aside0.mk h3; have B3 := Aside0.mk (B2.out.trans hb3); obtain ⟨hc0, hc1, hc4⟩ := HC0.out _ B3.out; clear h3 hb3) | (go_at_call 76; (with_reducible refine (HNX.out _ _ _ HW1.out (by have := HL.out; simp only [List.nil_append, List.length_append]; omega)).mono ?_); rintro e w2 ⟨rfl, h2, hb2⟩; have HW2 := Aside0.mk h2; have B2 := Aside0.mk (B1.out.trans hb2); obtain ⟨hc0, hc1, hc4⟩ := HC0.out _ B2.out; clear h2 hb2) | (go_at_call 76; (with_reducible refine (HNX.out _ _ _ HW0.out (by simp)).mono ?_); rintro e w1 ⟨rfl, h1, hb1⟩; have HW1 := Aside0.mk h1; have B1 := Aside0.mk hb1; obtain ⟨hc0, hc1, hc4⟩ := HC0.out _ B1.out; clear h1 hb1) | (go_at_call 78; (with_reducible refine (HBX.out _ _ HW4.out ?_).mono ?_); (next => exact HFN.out.1.symm); rintro e w5 ⟨rfl, hb5⟩; have B5 := Aside0.mk (B4.out.trans hb5); clear hb5) | (go_at_call 70; (with_reducible refine (HT.out _).mono ?_); rintro e w6 ⟨rfl, hb6⟩; have B6 := Aside0.mk hb6; clear hb6))
        go_ret2
        exact ⟨rfl, (HB0.out.trans (B5.out.mono (by omega))).trans (B6.out.mono (HB0.out.trans (B5.out.mono (by omega))).size)⟩

/-! ### log_Log_write: function 50 (by hand) -/
section
open Lg
theorem log_Log_write.sstep_l0 (j : Nat) : ∀ (k x : Nat) (i : Int), j ≤ 8 → j < k → x < 2 ^ 32 → i = 8 - j → sum_Step.l0 k (x : Int) i = some ((git j x : Nat) : Int) := by
  induction j with
  | zero =>
    intro k x i _ hk _ hi
    obtain ⟨k, rfl⟩ : ∃ m, k = m + 1 := ⟨k - 1, by omega⟩
    simp only [sum_Step.l0]; rw [if_neg (by omega)]; rfl
  | succ j ih =>
    intro k x i hj hk hx hi
    obtain ⟨k, rfl⟩ : ∃ m, k = m + 1 := ⟨k - 1, by omega⟩
    simp only [sum_Step.l0]; rw [if_pos (by omega), wrap64_in _ (by omega) (by omega)]
    have e1 : Go.bits .and .u32 (x : Int) 1 = ((x % 2 : Nat) : Int) := by
      have := and_u32 x 1 hx (by omega)
      rw [Nat.and_one_is_mod] at this
      exact this
    have e2 : Go.bits .xor .u32 ((x : Int) / 2) (Go.bits .and .u32 ((-(Go.bits .and .u32 (x : Int) 1)) % 4294967296) 3988292384) = ((gg x : Nat) : Int) := by
      rw [e1]
      have e3 : Go.bits .and .u32 ((-((x % 2 : Nat) : Int)) % 4294967296) 3988292384 = (((if x % 2 = 1 then 3988292384 else 0 : Nat)) : Int) := by
        rcases Nat.mod_two_eq_zero_or_one x with h | h
        · rw [h]; decide
        · rw [h]; decide
      rw [e3]
      have e4 : ((x : Int) / 2) = ((x / 2 : Nat) : Int) := by omega
      rw [e4, xor_u32 _ _ (by omega) (by split <;> omega)]
      rfl
    rw [e2]
    exact ih k (gg x) (i + 1) (by omega) (by omega) (gg_lt x hx) (by omega)
theorem log_Log_write.sstep_f (k a b : Nat) (hk : 8 < k) (ha : a < 2 ^ 32) (hb : b < 256) : sum_Step.f k (a : Int) (b : Int) = some ((stp a b : Nat) : Int) := by
  unfold sum_Step.f stp
  have e : ((b : Int) % 4294967296) = (b : Int) := by omega
  rw [e, xor_u32 a b ha (by omega)]
  exact log_Log_write.sstep_l0 8 k _ 0 (by omega) hk (Nat.xor_lt_two_pow ha (by omega)) (by omega)
theorem log_Log_write.scrc_l0 (s : ByteArray) (hs : s.size ≤ 9223372036854775807) (d : Nat) : ∀ (k : Nat) (i : Int) (c : Nat), 0 ≤ i → i + d = s.size → d + 9 < k → c < 2 ^ 32 → sum_Crc.l0 k s (c : Int) (s.size : Int) i = some ((4294967295 ^^^ cgo s d i c : Nat) : Int) := by
  induction d with
  | zero =>
    intro k i c h0 h1 hk hc
    obtain ⟨k, rfl⟩ : ∃ m, k = m + 1 := ⟨k - 1, by omega⟩
    simp only [sum_Crc.l0]; rw [if_neg (by omega)]
    exact congrArg some (xor_u32 4294967295 c (by omega) hc)
  | succ d ih =>
    intro k i c h0 h1 hk hc
    obtain ⟨k, rfl⟩ : ∃ m, k = m + 1 := ⟨k - 1, by omega⟩
    simp only [sum_Crc.l0]; rw [if_pos (by omega), if_pos h0, if_pos (by omega), wrap64_in _ (by omega) (by omega), ← bt_cast, log_Log_write.sstep_f k c _ (by omega) hc (bt_lt s i)]
    simp only [Option.bind_some]
    exact ih k (i + 1) _ (by omega) (by omega) (by omega) (stp_lt _ _ hc (bt_lt s i))
theorem log_Log_write.scrc_f (s : ByteArray) (k : Nat) (hs : s.size ≤ 9223372036854775807) (hk : s.size + 9 < k) : sum_Crc.f k s = some ((crcd s : Nat) : Int) :=
  log_Log_write.scrc_l0 s hs s.size k 0 4294967295 (by omega) (by omega) hk (by omega)
theorem log_Log_write.ptail_ev (s : ByteArray) (hs : s.size ≤ 140737488355328) : Lg.Ev (fun k => chunk_tail.f k s) ⟨(tl s).toArray⟩ := by
  refine ⟨s.size + 10, fun k hk => ?_⟩
  show (sum_Crc.f k s).bind _ = _
  rw [log_Log_write.scrc_f s k (by omega) (by omega)]
  show some _ = _
  have h := crcd_lt s
  unfold tl
  generalize crcd s = c at *
  rw [← str_nums, nums_le4]
  have e1 : ((c : Int)) % 256 = ((c % 256 : Nat) : Int) := by omega
  have e2 : ((c : Int) / 256) % 256 = ((c / 256 % 256 : Nat) : Int) := by omega
  have e3 : ((c : Int) / 65536) % 256 = ((c / 65536 % 256 : Nat) : Int) := by omega
  have e4 : ((c : Int) / 16777216) % 256 = ((c / 16777216 % 256 : Nat) : Int) := by omega
  rw [e1, e2, e3, e4]
theorem log_Log_write.body_eq (e q : Int) (a b : Bool) (d : ByteArray) : chunk_Encode.body e q a b d = Lg.body e q a b d := rfl
theorem log_Log_write.penc_ev (e q : Int) (a b : Bool) (d : ByteArray) : Lg.Ev (fun k => chunk_Encode.f k e q a b d) (⟨(encd e q a b d).1.toArray⟩, (encd e q a b d).2) := by
  unfold encd chunk_Encode.f
  simp only [log_Log_write.body_eq]
  by_cases h1 : e < 0 ∨ e > 1099511627776 ∨ q < 0 ∨ q > 1099511627776
  · rw [if_pos h1]; exact (Lg.Ev.const _).of fun k => by rw [if_pos h1]
  · rw [if_neg h1]
    by_cases h2 : (d.size : Int) > 96
    · rw [if_pos h2]; exact (Lg.Ev.const _).of fun k => by rw [if_neg h1, if_pos h2]
    · rw [if_neg h2]
      have hl := body_len e q a b d (by omega)
      have ht := log_Log_write.ptail_ev ⟨(body e q a b d).toArray⟩ (by rw [bs_size]; omega)
      have hb := Lg.Ev.bind (f := fun _ t => if t.size ≤ 100 then some ((⟨(body e q a b d).toArray⟩ : ByteArray) ++ t, (0 : Int)) else none) ht ((Lg.Ev.const _).of fun k => by rw [if_pos (by rw [bs_size, tl, le4_len]; omega), bs_app])
      exact hb.of fun k => by rw [if_neg h1, if_neg h2]
theorem log_Log_write.enc_calls (e q : Int) (a b : Bool) (d : ByteArray) (w : World) : Calls Try.prog 62 #[.agg #[.int .i64 e, .int .i64 q, .bool a, .bool b, .string d]] w fun e' w' => e' = .returned (.tuple #[.string (Lg.encB e q a b d), .int .i64 (Lg.encd e q a b d).2]) ∧ Below w.heap.size w w' := by
  obtain ⟨k, hk⟩ := (log_Log_write.penc_ev e q a b d).get
  exact chunk_Encode.calls k e q a b d _ _ w hk
end
theorem log_Log_write.dWrite (s : Dk.S) (base g n : Nat) (i : Int) (x : ByteArray) (w : World) (h : Tw.D w base g n s) (hin : Dk.In s) (hn : n ≤ 1000000) :
    Calls Try.prog 12 #[.pointer (some ⟨g, 0, none⟩), .int .i64 i, .string x] w fun e w' => e = .returned (.int .i64 (Dk.writ s i x).2) ∧ Tw.D w' base g (n + 1) ((Dk.writ s i x).1) ∧ Dk.B base w w' := by
  obtain ⟨mb, n', ov, hn', h⟩ := h
  refine (disk_Disk_Write.calls s base g mb n' ov i x w h hin (by omega)).mono ?_
  rintro e w' ⟨he, ⟨ov', n2, h2, hd⟩, hb⟩
  exact ⟨he, ⟨mb, n2, ov', by omega, hd⟩, hb⟩
theorem log_Log_write.dBarrier (s : Dk.S) (base g n : Nat) (w : World) (h : Tw.D w base g n s) (hin : Dk.In s) :
    Calls Try.prog 26 #[.pointer (some ⟨g, 0, none⟩)] w fun e w' => e = .returned (.int .i64 (Dk.barr s).2) ∧ Tw.D w' base g (n + 0) ((Dk.barr s).1) ∧ Dk.B base w w' := by
  obtain ⟨mb, n', ov, hn', h⟩ := h
  refine (disk_Disk_Barrier.calls s base g mb n' ov w h hin).mono ?_
  rintro e w' ⟨he, ⟨ov', hd⟩, hb⟩
  exact ⟨he, ⟨mb, n', ov', by omega, hd⟩, hb⟩
def log_Log_write.NQ (Q : Exit → Act → World → Prop) (e : Exit) (a : Act) (w : World) : Prop := match e with
  | .normal => Q .normal a w
  | _ => False
theorem log_Log_write.wp_normal {P : Program} {c : Code} {Q : Exit → Act → World → Prop} {a : Act} {w : World} (h : c.wp P (log_Log_write.NQ Q) a w) : c.wp P Q a w := wp_mono h (fun e a w q => by
  cases e <;> first | exact q | exact q.elim)
def log_Log_write.toK (x : S25) : Lg.K5 := (x.f0, x.f1, x.f2, x.f3, x.f4)
theorem log_Log_write.row_dk {b2 : Nat} {W W' : World} {base : Nat} {v : Value} {xs : List S25} (h : Kd.R k25 25 W base (fun _ => True) v xs) (hb : Dk.B b2 W W') : Kd.R k25 25 W' base (fun _ => True) v xs := by
  refine Kd.R_mono (Kd.R_move (Kd.R_bound h) (fun k hk2 => ?_)) (fun _ _ => trivial)
  obtain ⟨_, _, h3, q, hq, cells, hc⟩ := hk2
  have e9 : q = 25 := by
    simp [k25, Kd.iso, Kd.pair, Kd.int, Kd.bool, Kd.string, Kd.scalar] at hq
    exact hq
  subst e9
  exact hb.f k _ _ hc (by decide) (by decide)
theorem log_Log_write.puts_cons (half : Int) (s : Dk.S) (c : Lg.K5) (r : List Lg.K5) : Lg.puts half s (c :: r) = if (Dk.writ s (2 + half * 127 + c.2.1) (Lg.encB c.1 c.2.1 c.2.2.1 c.2.2.2.1 c.2.2.2.2)).2 ≠ 0 then Dk.writ s (2 + half * 127 + c.2.1) (Lg.encB c.1 c.2.1 c.2.2.1 c.2.2.2.1 c.2.2.2.2) else Lg.puts half (Dk.writ s (2 + half * 127 + c.2.1) (Lg.encB c.1 c.2.1 c.2.2.1 c.2.2.2.1 c.2.2.2.2)).1 r := rfl
set_option maxHeartbeats 16000000 in
set_option maxRecDepth 100000 in
theorem log_Log_write.calls (base gl g n rb : Nat) (l : Lg.L) (s : Dk.S) (half : Int) (A : Option Addr) (c : Nat) (cks : List S25) (w : World) (h : Lg.At w base gl g l) (hd : Tw.D w base g n s) (hin : Dk.In s) (hm : s.many + (cks.length : Int) + 1 ≤ 80000) (hn : n + cks.length ≤ 1000000) (hh : half = 0 ∨ half = 1)
    (hc : Kd.R k25 25 w rb (fun _ => True) (.slice A cks.length c) cks) (hq : ∀ x ∈ cks, 0 ≤ x.f1 ∧ x.f1 ≤ 127) (hb : base ≤ w.heap.size) :
    Calls Try.prog 50 #[.pointer (some ⟨gl, 0, none⟩), .int .i64 half, .slice A cks.length c] w fun e w' => e = .returned (.int .i64 (Lg.puts half s (cks.map log_Log_write.toK)).2) ∧ Tw.D w' base g (n + cks.length) (Lg.puts half s (cks.map log_Log_write.toK)).1 ∧ Lg.At w' base gl g l ∧ Dk.B base w w' := by
  obtain ⟨R, hR⟩ : ∃ R, Lg.puts half s (cks.map log_Log_write.toK) = R := ⟨_, rfl⟩
  have HR0 : Aside0 (Lg.puts half s ((cks.drop 0).map log_Log_write.toK) = R) := ⟨hR⟩
  rw [hR]
  clear hR
  have hlen : cks.length ≤ 9223372036854775807 := by omega
  have HL0 := Aside0.mk h
  have HR1 := Aside0.mk hc
  have HQ := Aside0.mk hq
  have HD0 := Aside0.mk hd
  have HIN0 := Aside0.mk hin
  have HHH := Aside0.mk hh
  clear h hc hq hd hin hh
  go_enter Try.func50, Try.ntmps50
  go_wp2_with (fail)
  go_loopg [8, 9, 10, 11, 14] cks.length (fun gg v8 v9 v10 v11 v14 wq => ∃ (j : Nat) (sq : Dk.S), v14 = .int .i64 (j : Int) ∧ j ≤ cks.length ∧ cks.length - j ≤ gg ∧ sq.many ≤ s.many + (j : Int) ∧ Aside0 (Lg.puts half sq ((cks.drop j).map log_Log_write.toK) = R) ∧ Aside0 (Dk.In sq) ∧ Aside0 (Tw.D wq base g (n + j) sq) ∧ Aside0 (Dk.B base w wq))
  case atStart => exact ⟨0, s, rfl, Nat.zero_le _, by omega, by omega, HR0, HIN0, HD0, ⟨Dk.B.refl base w⟩⟩
  case round =>
    clear HR0 HIN0 HD0
    obtain ⟨j, sq, rfl, hj, hgg, hmq, HR, HIN, HD, HB⟩ := hrel
    have HL := Aside0.mk (HL0.out.dk HB.out)
    have c0 := HL.out.c0
    have hbq : base ≤ wr.heap.size := Nat.le_trans hb HB.out.size
    by_cases hjl : j < cks.length
    case neg =>
      have hje : j = cks.length := by omega
      subst hje
      rw [List.drop_length] at HR
      have HBR := Aside0.mk (log_Log_write.dBarrier sq base g (n + cks.length) wr HD.out HIN.out)
      have HR2 : Aside0 (Dk.barr sq = R) := ⟨HR.out⟩
      rw [HR2.out] at HBR
      clear HD
      go_wp2_with (go_at_call 26; (with_reducible refine HBR.out.mono ?_); rintro e w9 ⟨rfl, hd9, hb9⟩; have HD := Aside0.mk hd9; have HL := Aside0.mk (HL.out.dk hb9); have HB := Aside0.mk (HB.out.trans hb9); clear hd9 hb9)
      go_ret
      exact ⟨rfl, HD.out, HL.out, HB.out⟩
    obtain ⟨gk, rfl⟩ : ∃ q, gk = q + 1 := by
      cases gk with
      | zero => omega
      | succ q => exact ⟨q, rfl⟩
    obtain ⟨adc, rfl, i0, i1, i2, i3, i4⟩ := at_T25 (Kd.R_reads' (log_Log_write.row_dk HR1.out HB.out)).2.2 (j : Int) (by omega) (by omega)
    rw [Int.toNat_natCast] at i0 i1 i2 i3 i4
    have HX : Aside0 ((cks.drop j).map log_Log_write.toK = log_Log_write.toK (rd_T25 cks (j : Int)) :: (cks.drop (j + 1)).map log_Log_write.toK) := ⟨by
      rw [List.drop_eq_getElem_cons hjl, List.map_cons]
      congr 2
      show _ = cks.getD (Int.toNat (j : Int)) _
      rw [Int.toNat_natCast, List.getD_eq_getElem?_getD, List.getElem?_eq_getElem hjl]
      rfl⟩
    have hq1 : 0 ≤ (rd_T25 cks (j : Int)).f1 ∧ (rd_T25 cks (j : Int)).f1 ≤ 127 := HQ.out _ (by
      have e : rd_T25 cks (j : Int) = cks[j] := by
        show cks.getD (Int.toNat (j : Int)) _ = _
        rw [Int.toNat_natCast, List.getD_eq_getElem?_getD, List.getElem?_eq_getElem hjl]
        rfl
      rw [e]
      exact List.getElem_mem _)
    rw [HX.out, log_Log_write.puts_cons] at HR
    generalize rd_T25 cks (j : Int) = x at i0 i1 i2 i3 i4 HR hq1
    obtain ⟨x0, x1, x2, x3, x4⟩ := x
    dsimp only [log_Log_write.toK] at i0 i1 i2 i3 i4 HR hq1
    obtain ⟨hq1, hq2⟩ := hq1
    have zj : (j : Int) < (cks.length : Int) := by omega
    have HEN := Aside0.mk (fun W => log_Log_write.enc_calls x0 x1 x2 x3 x4 W)
    obtain ⟨bs, hbs⟩ : ∃ bs, Lg.encB x0 x1 x2 x3 x4 = bs := ⟨_, rfl⟩
    simp only [hbs] at HEN HR
    clear hbs
    generalize (Lg.encd x0 x1 x2 x3 x4).2 = er at HEN
    have HSEC := Aside0.mk (fun W => log_Log_sector.calls (.pointer (some ⟨gl, 0, none⟩)) half x1 W HHH.out ⟨hq1, hq2⟩)
    have HWR := Aside0.mk (fun (W : World) (hD : Tw.D W base g (n + j) sq) => log_Log_write.dWrite sq base g (n + j) (2 + half * 127 + x1) bs W hD HIN.out (by omega))
    have HNX := Aside0.mk (Tw.writ_in sq HIN.out (by omega) (2 + half * 127 + x1) bs)
    obtain ⟨⟨s2, er2⟩, hbs⟩ : ∃ q, Dk.writ sq (2 + half * 127 + x1) bs = q := ⟨_, rfl⟩
    simp only [hbs] at HWR HR HNX
    clear hbs
    clear HX
    go_upto_region 4 with fail
    have HCB := Aside0.mk (Hw.blk_nw wr (.cells #[.int .i64 x0, .int .i64 x1, .bool x2, .bool x3, .string x4] 25))
    have hbe := (Below.refl wr.heap.size wr).alloc (Nat.le_refl _) (.cells #[.int .i64 x0, .int .i64 x1, .bool x2, .bool x3, .string x4] 25)
    have HD := Aside0.mk (HD.out.below hbe)
    have HL := Aside0.mk (HL.out.below hbe)
    have HB := Aside0.mk (HB.out.trans (Dk.B.of hbe hbq))
    clear i0 i1 i2 i3 i4 c0 hbe
    generalize wr.heap.size = cb at HCB hbq ⊢
    generalize wr.alloc (.cells #[.int .i64 x0, .int .i64 x1, .bool x2, .bool x3, .string x4] 25) = W4 at HCB HD HL HB ⊢
    have k0 : W4.cell? ⟨cb, 0, none⟩ = some (.int .i64 x0) := cell_of_row W4 cb 0 _ _ _ HCB.out
    have k1 : W4.cell? ⟨cb, 1, none⟩ = some (.int .i64 x1) := cell_of_row W4 cb 1 _ _ _ HCB.out
    have k2 : W4.cell? ⟨cb, 2, none⟩ = some (.bool x2) := cell_of_row W4 cb 2 _ _ _ HCB.out
    have k3 : W4.cell? ⟨cb, 3, none⟩ = some (.bool x3) := cell_of_row W4 cb 3 _ _ _ HCB.out
    have k4 : W4.cell? ⟨cb, 4, none⟩ = some (.string x4) := cell_of_row W4 cb 4 _ _ _ HCB.out
    have hb4 : base ≤ W4.heap.size := Nat.le_trans hb HB.out.size
    go_upto_region 5 with (go_at_call 62; (with_reducible refine (HEN.out _).mono ?_); rintro e w5 ⟨rfl, hbe⟩; have HCB := Aside0.mk ((hbe.block cb (Array.getElem?_eq_some_iff.1 HCB.out).1).trans HCB.out); have HD := Aside0.mk (HD.out.below hbe); have HL := Aside0.mk (HL.out.below hbe); have HB := Aside0.mk (HB.out.trans (Dk.B.of hbe hb4)); clear hbe k0 k1 k2 k3 k4)
    clear HEN hb4
    have c0 := HL.out.c0
    have k1 : w5.cell? ⟨cb, 1, none⟩ = some (.int .i64 x1) := cell_of_row w5 cb 1 _ _ _ HCB.out
    have HWR := Aside0.mk (HWR.out w5.drew HD.out.drew)
    have HL := Aside0.mk HL.out.drew
    have HB := Aside0.mk HB.out.drew
    clear HD
    refine log_Log_write.wp_normal ?_
    refine start_ (n := 12) (S := fun w' => w'.cell? ⟨gl, 0, none⟩ = some (.pointer (some ⟨g, 0, none⟩)) ∧ w'.cell? ⟨cb, 1, none⟩ = some (.int .i64 x1)) (ds := []) #[false, false, false, false, false, false, false, false, false, false, false, false] (by kernel_rfl) rfl rfl ⟨c0, k1⟩ (fun hHeld => ?_)
    refine pure_ (i := 0) (N := some 23) (v := ?_) (a' := ?_) #[true, false, false, false, false, false, false, false, false, false, false, false] rfl rfl (by kernel_rfl) (fun _ _ _ h => h) (Or.inl ⟨by rfl, ?_⟩) ?_ ?_
    rotate_left
    · intro w'
      go_simp
      with_reducible rfl
    rotate_left
    · simp only [Act.put, List.setIfInBounds_toArray, List.set_cons_zero, List.set_cons_succ, i64_w, i32_w]
      rfl
    refine pure_ (i := 1) (N := some 24) (v := ?_) (a' := ?_) #[true, true, false, false, false, false, false, false, false, false, false, false] rfl rfl (by kernel_rfl) (fun _ _ _ h => h) (Or.inl ⟨by rfl, ?_⟩) ?_ ?_
    rotate_left
    · intro w'
      go_simp
      with_reducible rfl
    rotate_left
    · simp only [Act.put, List.setIfInBounds_toArray, List.set_cons_zero, List.set_cons_succ, i64_w, i32_w]
      rfl
    refine pure_ (i := 2) (N := some 25) (v := ?_) (a' := ?_) #[true, true, true, false, false, false, false, false, false, false, false, false] rfl rfl (by kernel_rfl) (fun _ _ _ h => h) (Or.inl ⟨by rfl, ?_⟩) ?_ ?_
    rotate_left
    · intro w'
      go_simp
      with_reducible rfl
    rotate_left
    · simp only [Act.put, List.setIfInBounds_toArray, List.set_cons_zero, List.set_cons_succ, i64_w, i32_w]
      rfl
    refine pure_ (i := 4) (N := some 27) (v := ?_) (a' := ?_) #[true, true, true, false, true, false, false, false, false, false, false, false] rfl rfl (by kernel_rfl) (fun _ _ _ h => h) (Or.inl ⟨by rfl, ?_⟩) ?_ ?_
    rotate_left
    · intro w'
      go_simp
      with_reducible rfl
    rotate_left
    · simp only [Act.put, List.setIfInBounds_toArray, List.set_cons_zero, List.set_cons_succ, i64_w, i32_w]
      rfl
    refine pure_ (i := 5) (N := some 28) (v := ?_) (a' := ?_) #[true, true, true, false, true, true, false, false, false, false, false, false] rfl rfl (by kernel_rfl) (fun _ _ _ h => h) (Or.inl ⟨by rfl, ?_⟩) ?_ ?_
    rotate_left
    · intro w'
      go_simp
      with_reducible rfl
    rotate_left
    · simp only [Act.put, List.setIfInBounds_toArray, List.set_cons_zero, List.set_cons_succ, i64_w, i32_w]
      rfl
    refine pure_ (i := 6) (N := some 29) (v := ?_) (a' := ?_) #[true, true, true, false, true, true, true, false, false, false, false, false] rfl rfl (by kernel_rfl) (fun _ _ _ h => h) (Or.inl ⟨by rfl, ?_⟩) ?_ ?_
    rotate_left
    · intro w'
      go_simp
      with_reducible rfl
    rotate_left
    · simp only [Act.put, List.setIfInBounds_toArray, List.set_cons_zero, List.set_cons_succ, i64_w, i32_w]
      rfl
    refine pure_ (i := 9) (N := some 32) (v := ?_) (a' := ?_) #[true, true, true, false, true, true, true, false, false, true, false, false] rfl rfl (by kernel_rfl) (fun _ _ _ h => h) (Or.inl ⟨by rfl, ?_⟩) ?_ ?_
    rotate_left
    · intro w'
      go_simp
      with_reducible rfl
    rotate_left
    · simp only [Act.put, List.setIfInBounds_toArray, List.set_cons_zero, List.set_cons_succ, i64_w, i32_w]
      rfl
    refine take_ (i := 3) (N := some 26) (v := ?_) (a' := ?_) #[true, true, true, true, true, true, true, false, false, true, false, false] rfl rfl (by kernel_rfl) (fun _ _ _ h => h) (Or.inl ⟨by rfl, ?_⟩) hHeld ?_ ?_
    rotate_left
    · rintro w' ⟨s0, s1⟩
      go_simp
      with_reducible rfl
    rotate_left
    · simp only [Act.put, List.setIfInBounds_toArray, List.set_cons_zero, List.set_cons_succ, i64_w, i32_w]
      rfl
    refine take_ (i := 7) (N := some 30) (v := ?_) (a' := ?_) #[true, true, true, true, true, true, true, true, false, true, false, false] rfl rfl (by kernel_rfl) (fun _ _ _ h => h) (Or.inl ⟨by rfl, ?_⟩) hHeld ?_ ?_
    rotate_left
    · rintro w' ⟨s0, s1⟩
      go_simp
      with_reducible rfl
    rotate_left
    · simp only [Act.put, List.setIfInBounds_toArray, List.set_cons_zero, List.set_cons_succ, i64_w, i32_w]
      rfl
    refine one_ (i := 8) (N := some 31) #[true, true, true, true, true, true, true, true, true, true, false, false] rfl rfl (by kernel_rfl) (by decide) (fun K hK => ?_)
    refine goes_ Try.func58 (by kernel_rfl) rfl #[.pointer (some ⟨gl, 0, none⟩), .int .i64 half, .int .i64 x1] (by rfl) rfl rfl (by simp only [List.map_toArray, List.map_cons, List.map_nil]; rfl) ?_
    with_reducible refine (HSEC.out _).mono ?_
    rintro e w6 ⟨rfl, rfl⟩
    refine ⟨_, rfl, ?_⟩
    refine hK.out _ _ ⟨c0, k1⟩ (fun hHeld => ?_)
    clear hK K
    refine norm_ (a' := ?_) ?_ ?_
    rotate_left
    · show Act.put _ (some 31) _ = _
      simp only [Act.put, List.setIfInBounds_toArray, List.set_cons_zero, List.set_cons_succ, i64_w, i32_w]
      rfl
    refine one_ (i := 10) (N := some 33) #[true, true, true, true, true, true, true, true, true, true, true, false] rfl rfl (by kernel_rfl) (by decide) (fun K hK => ?_)
    refine goes_ Try.func12 (by kernel_rfl) rfl #[.pointer (some ⟨g, 0, none⟩), .int .i64 (2 + half * 127 + x1), .string bs] (by rfl) rfl rfl (by simp only [List.map_toArray, List.map_cons, List.map_nil]; rfl) ?_
    with_reducible refine (HWR.out).mono ?_
    rintro e w7 ⟨rfl, hd7, hb7⟩
    refine ⟨_, rfl, ?_⟩
    have HL := Aside0.mk (HL.out.dk hb7)
    have HCB := Aside0.mk ((hb7.f cb _ _ HCB.out (by decide) (by decide)).trans HCB.out)
    have HB := Aside0.mk (HB.out.trans hb7)
    have HD := Aside0.mk hd7
    clear hb7 hd7
    refine hK.out _ _ ⟨HL.out.c0, (cell_of_row w7 cb 1 _ _ _ HCB.out)⟩ (fun hHeld => ?_)
    clear hK K
    refine norm_ (a' := ?_) ?_ ?_
    rotate_left
    · show Act.put _ (some 33) _ = _
      simp only [Act.put, List.setIfInBounds_toArray, List.set_cons_zero, List.set_cons_succ, i64_w, i32_w]
      rfl
    refine pure_ (i := 11) (N := some 11) (v := ?_) (a' := ?_) #[true, true, true, true, true, true, true, true, true, true, true, true] rfl rfl (by kernel_rfl) (fun _ _ _ h => h) (Or.inl ⟨by rfl, ?_⟩) ?_ ?_
    rotate_left
    · intro w'
      go_simp
      with_reducible rfl
    rotate_left
    · simp only [Act.put, List.setIfInBounds_toArray, List.set_cons_zero, List.set_cons_succ, i64_w, i32_w]
      rfl
    refine done_ (by kernel_rfl) ?_
    dsimp only [log_Log_write.NQ]
    clear hHeld c0 k1 HSEC HWR
    by_cases he : er2 = 0
    · subst he
      have HR2 : Aside0 (Lg.puts half s2 ((cks.drop (j + 1)).map log_Log_write.toK) = R) := ⟨HR.out⟩
      clear HR
      go_wp2_with (fail)
      go_roundg gk
      case measure => omega
      case rel => exact ⟨j + 1, s2, by rw [Int.natCast_add]; rfl, by omega, by omega, by have := HNX.out.2; omega, HR2, ⟨HNX.out.1⟩, HD, HB⟩
    · have d1 : (er2 != 0) = true := bne_iff_ne.2 he
      have HR2 : Aside0 ((s2, er2) = R) := ⟨by rw [← HR.out, if_pos he]⟩
      clear HR
      go_wp2_with (fail)
      go_ret
      rw [← HR2.out]
      obtain ⟨mb, n', ov, hn', hD⟩ := HD.out
      exact ⟨rfl, ⟨mb, n', ov, by omega, hD⟩, HL.out, HB.out⟩

end Go.Proofs.Ytfdccgpbdcdgmaa.PLogRoom
