-- By a program of this session (wip/tools/mkprint.py), for this claim.
import Derived.Test.YtfdccgpbdcdgmaaPLogRoomx0
import Derived.Test.YtfdccgpbdcdgmaaPLogRoomx1
import Derived.Test.YtfdccgpbdcdgmaaPLogRoomx3
namespace Go.Proofs.Ytfdccgpbdcdgmaa.PLogRoom
open Go.RowKit Go.Proofs.YtfdccgpbdcdgmaaW.PrintWords Go.Proofs.YtfdccgpbdcdgmaaW.PrintLast Go.Proofs.YtfdccgpbdcdgmaaW.PrintMore
attribute [local go_sem] max2_int min2_int max_two min_two max_three min_three max_four min_four   -- for this text's walks alone
set_option linter.unusedVariables false
set_option linter.unusedSimpArgs false

/-! ### log_Log_heads: function 36 (by hand) -/
section
open Lg
theorem log_Log_heads.sstep_l0 (j : Nat) : ∀ (k x : Nat) (i : Int), j ≤ 8 → j < k → x < 2 ^ 32 → i = 8 - j → sum_Step.l0 k (x : Int) i = some ((git j x : Nat) : Int) := by
  induction j with
  | zero =>
    intro k x i _ hk _ hi
    obtain ⟨k, rfl⟩ : ∃ m, k = m + 1 := ⟨k - 1, by omega⟩
    simp only [sum_Step.l0]; rw [if_neg (by omega)]; rfl
  | succ j ih =>
    intro k x i hj hk hx hi
    obtain ⟨k, rfl⟩ : ∃ m, k = m + 1 := ⟨k - 1, by omega⟩
    simp only [sum_Step.l0]; rw [if_pos (by omega), wrap64_in _ (by omega) (by omega)]
    have e1 : Go.bits .and .u32 (x : Int) 1 = ((x % 2 : Nat) : Int) := by
      have := and_u32 x 1 hx (by omega)
      rw [Nat.and_one_is_mod] at this
      exact this
    have e2 : Go.bits .xor .u32 ((x : Int) / 2) (Go.bits .and .u32 ((-(Go.bits .and .u32 (x : Int) 1)) % 4294967296) 3988292384) = ((gg x : Nat) : Int) := by
      rw [e1]
      have e3 : Go.bits .and .u32 ((-((x % 2 : Nat) : Int)) % 4294967296) 3988292384 = (((if x % 2 = 1 then 3988292384 else 0 : Nat)) : Int) := by
        rcases Nat.mod_two_eq_zero_or_one x with h | h
        · rw [h]; decide
        · rw [h]; decide
      rw [e3]
      have e4 : ((x : Int) / 2) = ((x / 2 : Nat) : Int) := by omega
      rw [e4, xor_u32 _ _ (by omega) (by split <;> omega)]
      rfl
    rw [e2]
    exact ih k (gg x) (i + 1) (by omega) (by omega) (gg_lt x hx) (by omega)
theorem log_Log_heads.sstep_f (k a b : Nat) (hk : 8 < k) (ha : a < 2 ^ 32) (hb : b < 256) : sum_Step.f k (a : Int) (b : Int) = some ((stp a b : Nat) : Int) := by
  unfold sum_Step.f stp
  have e : ((b : Int) % 4294967296) = (b : Int) := by omega
  rw [e, xor_u32 a b ha (by omega)]
  exact log_Log_heads.sstep_l0 8 k _ 0 (by omega) hk (Nat.xor_lt_two_pow ha (by omega)) (by omega)
theorem log_Log_heads.scrc_l0 (s : ByteArray) (hs : s.size ≤ 9223372036854775807) (d : Nat) : ∀ (k : Nat) (i : Int) (c : Nat), 0 ≤ i → i + d = s.size → d + 9 < k → c < 2 ^ 32 → sum_Crc.l0 k s (c : Int) (s.size : Int) i = some ((4294967295 ^^^ cgo s d i c : Nat) : Int) := by
  induction d with
  | zero =>
    intro k i c h0 h1 hk hc
    obtain ⟨k, rfl⟩ : ∃ m, k = m + 1 := ⟨k - 1, by omega⟩
    simp only [sum_Crc.l0]; rw [if_neg (by omega)]
    exact congrArg some (xor_u32 4294967295 c (by omega) hc)
  | succ d ih =>
    intro k i c h0 h1 hk hc
    obtain ⟨k, rfl⟩ : ∃ m, k = m + 1 := ⟨k - 1, by omega⟩
    simp only [sum_Crc.l0]; rw [if_pos (by omega), if_pos h0, if_pos (by omega), wrap64_in _ (by omega) (by omega), ← bt_cast, log_Log_heads.sstep_f k c _ (by omega) hc (bt_lt s i)]
    simp only [Option.bind_some]
    exact ih k (i + 1) _ (by omega) (by omega) (by omega) (stp_lt _ _ hc (bt_lt s i))
theorem log_Log_heads.scrc_f (s : ByteArray) (k : Nat) (hs : s.size ≤ 9223372036854775807) (hk : s.size + 9 < k) : sum_Crc.f k s = some ((crcd s : Nat) : Int) :=
  log_Log_heads.scrc_l0 s hs s.size k 0 4294967295 (by omega) (by omega) hk (by omega)
theorem log_Log_heads.ptail_ev (s : ByteArray) (hs : s.size ≤ 140737488355328) : Lg.Ev (fun k => chunk_tail.f k s) ⟨(tl s).toArray⟩ := by
  refine ⟨s.size + 10, fun k hk => ?_⟩
  show (sum_Crc.f k s).bind _ = _
  rw [log_Log_heads.scrc_f s k (by omega) (by omega)]
  show some _ = _
  have h := crcd_lt s
  unfold tl
  generalize crcd s = c at *
  rw [← str_nums, nums_le4]
  have e1 : ((c : Int)) % 256 = ((c % 256 : Nat) : Int) := by omega
  have e2 : ((c : Int) / 256) % 256 = ((c / 256 % 256 : Nat) : Int) := by omega
  have e3 : ((c : Int) / 65536) % 256 = ((c / 65536 % 256 : Nat) : Int) := by omega
  have e4 : ((c : Int) / 16777216) % 256 = ((c / 16777216 % 256 : Nat) : Int) := by omega
  rw [e1, e2, e3, e4]
theorem log_Log_heads.dec_eq (l : List UInt8) : chunk_Decode.dec l = Lg.dec l := rfl
theorem log_Log_heads.bad_eq : chunk_Decode.bad = Lg.bad := rfl
theorem log_Log_heads.pdec_ev (s : ByteArray) (hs : s.size ≤ 1000000) : Lg.Ev (fun k => chunk_Decode.f k s) (cdec s) := by
  unfold chunk_Decode.f cdec
  simp only [log_Log_heads.dec_eq, log_Log_heads.bad_eq]
  by_cases h : s.size < 4
  · rw [if_pos h]
    exact (Lg.Ev.const _).of fun k => by rw [if_pos (by omega), if_pos (by omega)]
  · rw [if_neg h]
    have hl := data_length s
    have ht := log_Log_heads.ptail_ev ⟨(s.data.toList.take (s.size - 4)).toArray⟩ (by rw [bs_size, List.length_take]; omega)
    rw [← ext_take] at ht
    have hb := Lg.Ev.bind (f := fun _ t => if t.toList = (s.extract (s.size - 4) s.size).toList then some (dec (s.data.toList.take (s.size - 4))) else some bad) (v := if tl ⟨(s.data.toList.take (s.size - 4)).toArray⟩ = s.data.toList.drop (s.size - 4) then dec (s.data.toList.take (s.size - 4)) else bad) ht ((Lg.Ev.const _).of fun k => by
      rw [bs_list, ext_drop, bs_list, ext_take]
      split <;> rfl)
    exact hb.of fun k => by rw [if_pos (by omega), if_neg (by omega)]
theorem log_Log_heads.dec_calls (s : ByteArray) (hs : s.size ≤ 1000000) (w : World) : Calls Try.prog 57 #[.string s] w fun e' w' => e' = .returned (.tuple #[.agg #[.int .i64 (cdec s).1, .int .i64 (cdec s).2.1, .bool (cdec s).2.2.1, .bool (cdec s).2.2.2.1, .string (cdec s).2.2.2.2.1], .int .i64 (cdec s).2.2.2.2.2]) ∧ Below w.heap.size w w' := by
  obtain ⟨k, hk⟩ := (log_Log_heads.pdec_ev s hs).get
  exact chunk_Decode.calls k s _ _ _ _ _ _ w hk
end
def log_Log_heads.NQ (Q : Exit → Act → World → Prop) (e : Exit) (a : Act) (w : World) : Prop := match e with
  | .normal => Q .normal a w
  | _ => False
theorem log_Log_heads.wp_normal {P : Program} {c : Code} {Q : Exit → Act → World → Prop} {a : Act} {w : World} (h : c.wp P (log_Log_heads.NQ Q) a w) : c.wp P Q a w := wp_mono h (fun e a w q => by
  cases e <;> first | exact q | exact q.elim)
/-- A disk is read. -/
theorem log_Log_heads.reads (s : Dk.S) (base g n : Nat) (i : Int) (w : World) (h : Tw.D w base g n s) : Calls Try.prog 44 #[.pointer (some ⟨g, 0, none⟩), .int .i64 i] w fun e w' => e = .returned (.tuple #[.string (Dk.read s i).1, .int .i64 (Dk.read s i).2]) ∧ w' = w := by
  obtain ⟨mb, n', ov, hn', h⟩ := h
  exact disk_Disk_Read.calls s base g mb n' ov i w h
theorem log_Log_heads.read_off (s : Dk.S) (i : Int) (h : s.off = true) : Dk.read s i = (⟨#[]⟩, 33) := if_pos h
theorem log_Log_heads.read_on (s : Dk.S) (i : Nat) (h : s.off = false) (hi : i < 256) : Dk.read s (i : Int) = (s.sec.getD i ⟨#[]⟩, 0) := by
  unfold Dk.read
  rw [if_neg (by rw [h]; decide), if_neg (by omega), Int.toNat_natCast]
set_option maxRecDepth 100000 in
theorem log_Log_heads.off_calls (base gl g n : Nat) (l : Lg.L) (s : Dk.S) (w : World) (h : Lg.At w base gl g l) (hd : Tw.D w base g n s) (hoff : s.off = true) :
    Calls Try.prog 36 #[.pointer (some ⟨gl, 0, none⟩)] w fun e w' => e = .returned (.int .i64 33) ∧ w' = w := by
  have HR := Aside0.mk (log_Log_heads.reads s base g n 0 w hd)
  rw [log_Log_heads.read_off s _ hoff] at HR
  have c0 := h.c0
  clear h hd hoff
  go_enter Try.func36, Try.ntmps36
  go_upto_region 3 with fail
  go_loopg [3, 4, 5, 6, 7, 8] 0 (fun gg v3 v4 v5 v6 v7 v8 wq => v8 = .int .i64 0 ∧ wq = w)
  case atStart => exact ⟨rfl, rfl⟩
  case round =>
    obtain ⟨rfl, rfl⟩ := hrel
    go_wp2_with (go_at_call 44; (with_reducible refine HR.out.mono ?_); rintro e w9 ⟨rfl, rfl⟩)
    go_ret
    exact ⟨rfl, rfl⟩
def log_Log_heads.st (s : Dk.S) (l : Lg.L) : Nat → Lg.L × Int
  | 0 => (l, -1)
  | i + 1 => Lg.headStep (Lg.sc s i) (i : Int) (log_Log_heads.st s l i)
theorem log_Log_heads.keep_set {W : World} {gl k cb : Nat} {v : Value} {o : Obj} (h : W.heap[cb]? = some o) (hne : cb ≠ gl) : (W.setCell ⟨gl, k, none⟩ v).heap[cb]? = some o := (Below.heap_setCell _ _ _ cb hne).trans h
set_option maxHeartbeats 16000000 in
set_option maxRecDepth 100000 in
theorem log_Log_heads.on_calls (base gl g n : Nat) (l : Lg.L) (s : Dk.S) (w : World) (h : Lg.At w base gl g l) (hd : Tw.D w base g n s) (hin : Dk.In s) (hoff : s.off = false) (hb : base ≤ w.heap.size) :
    Calls Try.prog 36 #[.pointer (some ⟨gl, 0, none⟩)] w fun e w' => e = .returned (.int .i64 0) ∧ Lg.At w' base gl g (Lg.heads s l) ∧ Lg.K base gl w w' := by
  have HRD : Aside0 (∀ (i : Nat) W, i < 2 → Tw.D W base g n s → Calls Try.prog 44 #[.pointer (some ⟨g, 0, none⟩), .int .i64 (i : Int)] W fun e w' => e = .returned (.tuple #[.string (s.sec.getD i ⟨#[]⟩), .int .i64 0]) ∧ w' = W) := ⟨fun i W hi hD => by
    have e := log_Log_heads.reads s base g n (i : Int) W hD
    rw [log_Log_heads.read_on s i hoff (by omega)] at e
    exact e⟩
  have HDC : Aside0 (∀ (i : Nat) W, Calls Try.prog 57 #[.string (s.sec.getD i ⟨#[]⟩)] W fun e' w' => e' = .returned (.tuple #[.agg #[.int .i64 (Lg.sc s i).1, .int .i64 (Lg.sc s i).2.1, .bool (Lg.sc s i).2.2.1, .bool (Lg.sc s i).2.2.2.1, .string (Lg.sc s i).2.2.2.2.1], .int .i64 (Lg.sc s i).2.2.2.2.2]) ∧ Below W.heap.size W w') := ⟨fun i W => log_Log_heads.dec_calls _ (by have := Tw.getD_le s.sec hin.2.2.2.2.2.1 i; omega) W⟩
  have HL0 := Aside0.mk h
  have HD0 := Aside0.mk hd
  have HK0 := Aside0.mk (Lg.K.refl base gl w)
  have HPOS : Aside0 (∀ i : Nat, 0 ≤ (Lg.sc s i).1) := ⟨fun i => Lg.cdec_nonneg _⟩
  clear h hd hin hoff
  go_enter Try.func36, Try.ntmps36
  go_upto_region 3 with fail
  go_loopg [3, 4, 5, 6, 7, 8] 2 (fun gg v3 v4 v5 v6 v7 v8 wq => ∃ i : Nat, v8 = .int .i64 (i : Int) ∧ v3 = .int .i64 (log_Log_heads.st s l i).2 ∧ i ≤ 2 ∧ 2 - i ≤ gg ∧ Aside0 (Lg.At wq base gl g (log_Log_heads.st s l i).1) ∧ Aside0 (Lg.K base gl w wq))
  case atStart => exact ⟨0, rfl, rfl, by omega, by omega, HL0, HK0⟩
  case round =>
    clear HK0
    obtain ⟨i, rfl, rfl, hi2, hgg, HL, HK⟩ := hrel
    by_cases hi : i < 2
    · obtain ⟨gk, rfl⟩ : ∃ q, gk = q + 1 := by
        cases gk with
        | zero => omega
        | succ q => exact ⟨q, rfl⟩
      have HD := Aside0.mk (HL0.out.disk HK.out.k HD0.out)
      have c0 := HL.out.c0
      have hgl := HL.out.lt
      have HRD1 := Aside0.mk (HRD.out i wr hi HD.out)
      have HDC1 := Aside0.mk (HDC.out i)
      have HST : Aside0 (log_Log_heads.st s l (i + 1) = Lg.headStep (Lg.sc s i) (i : Int) (log_Log_heads.st s l i)) := ⟨rfl⟩
      have hpos := HPOS.out i
      generalize s.sec.getD i ⟨#[]⟩ = tx at HRD1 HDC1
      generalize Lg.sc s i = c at HDC1 HST hpos
      generalize log_Log_heads.st s l i = q at HL HST ⊢
      obtain ⟨lq, best⟩ := q
      obtain ⟨ep, sq, fi, la, da, er⟩ := c
      dsimp only at HDC1 HL hpos ⊢
      have hi256 : (i : Int) < 2 := by omega
      go_upto_region 9 with (first | (go_at_call 44; (with_reducible refine HRD1.out.mono ?_); rintro e w9 ⟨rfl, rfl⟩) | (go_at_call 57; (with_reducible refine (HDC1.out _).mono ?_); rintro e w3 ⟨rfl, hb3⟩))
      have HL := Aside0.mk ((HL.out.below hb3).below ((Below.refl w3.heap.size w3).alloc (Nat.le_refl _) (.cells #[.int .i64 ep, .int .i64 sq, .bool fi, .bool la, .string da] 25)))
      have hcb : gl < w3.heap.size := Nat.lt_of_lt_of_le hgl hb3.size
      have HK := Aside0.mk ((HK.out.trans (Lg.K.of hb3 (Nat.le_trans hb HK.out.size))).trans (Lg.K.of ((Below.refl w3.heap.size w3).alloc (Nat.le_refl _) (.cells #[.int .i64 ep, .int .i64 sq, .bool fi, .bool la, .string da] 25)) (Nat.le_trans hb (Nat.le_trans HK.out.size hb3.size))))
      have HCB := Aside0.mk (Hw.blk_nw w3 (.cells #[.int .i64 ep, .int .i64 sq, .bool fi, .bool la, .string da] 25))
      clear hb3 c0 hgl HRD1 HDC1 HD
      generalize w3.heap.size = cb at HCB hcb ⊢
      generalize w3.alloc (.cells #[.int .i64 ep, .int .i64 sq, .bool fi, .bool la, .string da] 25) = W4 at HL HK HCB ⊢
      have k0 : W4.cell? ⟨cb, 0, none⟩ = some (.int .i64 ep) := cell_of_row W4 cb 0 _ _ _ HCB.out
      have k1 : W4.cell? ⟨cb, 1, none⟩ = some (.int .i64 sq) := cell_of_row W4 cb 1 _ _ _ HCB.out
      have k2 : W4.cell? ⟨cb, 2, none⟩ = some (.bool fi) := cell_of_row W4 cb 2 _ _ _ HCB.out
      have k3 : W4.cell? ⟨cb, 3, none⟩ = some (.bool la) := cell_of_row W4 cb 3 _ _ _ HCB.out
      have k4 : W4.cell? ⟨cb, 4, none⟩ = some (.string da) := cell_of_row W4 cb 4 _ _ _ HCB.out
      by_cases t1 : er = 0
      case neg =>
        have d1 : (er != 0) = true := bne_iff_ne.2 t1
        have hno : Lg.headStep (ep, sq, fi, la, da, er) (i : Int) (lq, best) = (lq, best) := by unfold Lg.headStep Lg.isHead; exact if_neg (by simp [t1])
        rw [hno] at HST
        clear hno
        go_wp2_with (fail)
        go_roundg gk
        case measure => omega
        case rel => exact ⟨i + 1, by rw [Int.natCast_add]; rfl, by rw [HST.out], by omega, by omega, ⟨by rw [HST.out]; exact HL.out⟩, HK⟩
      subst t1
      cases fi
      case false =>
        have hno : Lg.headStep (ep, sq, false, la, da, 0) (i : Int) (lq, best) = (lq, best) := by unfold Lg.headStep Lg.isHead; exact if_neg (by simp)
        rw [hno] at HST
        clear hno
        go_wp2_with (fail)
        go_roundg gk
        case measure => omega
        case rel => exact ⟨i + 1, by rw [Int.natCast_add]; rfl, by rw [HST.out], by omega, by omega, ⟨by rw [HST.out]; exact HL.out⟩, HK⟩
      cases la
      case false =>
        have hno : Lg.headStep (ep, sq, true, false, da, 0) (i : Int) (lq, best) = (lq, best) := by unfold Lg.headStep Lg.isHead; exact if_neg (by simp)
        rw [hno] at HST
        clear hno
        go_wp2_with (fail)
        go_roundg gk
        case measure => omega
        case rel => exact ⟨i + 1, by rw [Int.natCast_add]; rfl, by rw [HST.out], by omega, by omega, ⟨by rw [HST.out]; exact HL.out⟩, HK⟩
      by_cases t4 : da = ⟨#[48]⟩ ∨ da = ⟨#[49]⟩
      case neg =>
        have d4 : ¬ da = ⟨#[48]⟩ := fun q => t4 (.inl q)
        have d5 : ¬ da = ⟨#[49]⟩ := fun q => t4 (.inr q)
        have e4 : (da.toList == [48]) = false := (Lg.str_is da [48]).trans (decide_eq_false d4)
        have e5 : (da.toList == [49]) = false := (Lg.str_is da [49]).trans (decide_eq_false d5)
        have e6 : (da.toList == (⟨#[48]⟩ : ByteArray).toList) = false := (Lg.str_is2 da [48]).trans (decide_eq_false d4)
        have e7 : (da.toList == (⟨#[49]⟩ : ByteArray).toList) = false := (Lg.str_is2 da [49]).trans (decide_eq_false d5)
        have hno : Lg.headStep (ep, sq, true, true, da, 0) (i : Int) (lq, best) = (lq, best) := by unfold Lg.headStep Lg.isHead; exact if_neg (by simp [d4, d5])
        rw [hno] at HST
        clear hno
        go_wp2_with (fail)
        go_roundg gk
        case measure => omega
        case rel => exact ⟨i + 1, by rw [Int.natCast_add]; rfl, by rw [HST.out], by omega, by omega, ⟨by rw [HST.out]; exact HL.out⟩, HK⟩
      rcases t4 with rfl | rfl
      · skip
        have e48 : ((⟨#[48]⟩ : ByteArray).toList == [48]) = true := (Lg.str_is ⟨#[48]⟩ [48]).trans (decide_eq_true rfl)
        have u48 : ((⟨#[48]⟩ : ByteArray).toList == (⟨#[48]⟩ : ByteArray).toList) = true := (Lg.str_is2 ⟨#[48]⟩ [48]).trans (decide_eq_true rfl)
        have e49 : ((⟨#[48]⟩ : ByteArray).toList == [49]) = false := (Lg.str_is ⟨#[48]⟩ [49]).trans (decide_eq_false (by decide))
        have u49 : ((⟨#[48]⟩ : ByteArray).toList == (⟨#[49]⟩ : ByteArray).toList) = false := (Lg.str_is2 ⟨#[48]⟩ [49]).trans (decide_eq_false (by decide))
        by_cases t5 : sq ≤ ep
        case neg =>
          have d5 : decide (ep < sq) = true := decide_eq_true (by omega)
          have hno : Lg.headStep (ep, sq, true, true, ⟨#[48]⟩, 0) (i : Int) (lq, best) = (lq, best) := by unfold Lg.headStep Lg.isHead; exact if_neg (by simp [t5])
          rw [hno] at HST
          clear hno
          go_wp2_with (fail)
          go_roundg gk
          case measure => omega
          case rel => exact ⟨i + 1, by rw [Int.natCast_add]; rfl, by rw [HST.out], by omega, by omega, ⟨by rw [HST.out]; exact HL.out⟩, HK⟩
        have d5 : decide (ep < sq) = false := decide_eq_false (by omega)
        by_cases t6 : ep % 2 = (i : Int)
        case neg =>
          have d6 : (ep % 2 != (i : Int)) = true := bne_iff_ne.2 t6
          have hno : Lg.headStep (ep, sq, true, true, ⟨#[48]⟩, 0) (i : Int) (lq, best) = (lq, best) := by unfold Lg.headStep Lg.isHead; exact if_neg (by simp [t6])
          rw [hno] at HST
          clear hno
          go_wp2_with (fail)
          go_roundg gk
          case measure => omega
          case rel => exact ⟨i + 1, by rw [Int.natCast_add]; rfl, by rw [HST.out], by omega, by omega, ⟨by rw [HST.out]; exact HL.out⟩, HK⟩
        have d6 : (ep % 2 != (i : Int)) = false := by rw [t6]; exact bne_self_eq_false _
        by_cases t7 : best < ep
        case neg =>
          have d7 : decide (ep ≤ best) = true := decide_eq_true (by omega)
          clear d6
          have d6 : (ep % 2 != (i : Int)) = false := by rw [t6]; exact bne_self_eq_false _
          have hno : Lg.headStep (ep, sq, true, true, ⟨#[48]⟩, 0) (i : Int) (lq, best) = (lq, best) := by unfold Lg.headStep Lg.isHead; exact if_neg (by simp [t7])
          rw [hno] at HST
          clear hno
          go_wp2_with (fail)
          go_roundg gk
          case measure => omega
          case rel => exact ⟨i + 1, by rw [Int.natCast_add]; rfl, by rw [HST.out], by omega, by omega, ⟨by rw [HST.out]; exact HL.out⟩, HK⟩
        have d7 : decide (ep ≤ best) = false := decide_eq_false (by omega)
        have hyes : Lg.headStep (ep, sq, true, true, ⟨#[48]⟩, 0) (i : Int) (lq, best) = ({ lq with epoch := ep, base := sq, half := 0 }, ep) := by unfold Lg.headStep Lg.isHead; rw [if_pos (by simp [t5, t6, t7])]; rfl
        rw [hyes] at HST
        clear hyes
        go_upto_region 11 with fail
        have g1 := HL.out.c1
        have f1 := HL.out.fz 1
        have g2 := HL.out.c2
        have f2 := HL.out.fz 2
        have g3 := HL.out.c3
        have f3 := HL.out.fz 3
        have hne : cb ≠ gl := by omega
        have HL := Aside0.mk HL.out.drew
        have HK := Aside0.mk (HK.out.trans (Lg.K.of (Below.refl _ _).drew (Nat.le_trans hb HK.out.size)))
        have HCB := Aside0.mk (show W4.drew.heap[cb]? = _ from HCB.out)
        refine log_Log_heads.wp_normal ?_
        refine start_ (n := 21) (S := fun w' => w'.cell? ⟨cb, 0, none⟩ = some (.int .i64 ep) ∧ w'.cell? ⟨cb, 1, none⟩ = some (.int .i64 sq) ∧ w'.cell? ⟨cb, 4, none⟩ = some (.string ⟨#[48]⟩)) (ds := []) #[false, false, false, false, false, false, false, false, false, false, false, false, false, false, false, false, false, false, false, false, false] (by kernel_rfl) rfl rfl ⟨(cell_of_row _ cb 0 _ _ _ HCB.out), (cell_of_row _ cb 1 _ _ _ HCB.out), (cell_of_row _ cb 4 _ _ _ HCB.out)⟩ (fun hHeld => ?_)
        refine pure_ (i := 0) (N := some 72) (v := ?_) (a' := ?_) #[true, false, false, false, false, false, false, false, false, false, false, false, false, false, false, false, false, false, false, false, false] rfl rfl (by kernel_rfl) (fun _ _ _ h => h) (Or.inl ⟨by rfl, ?_⟩) ?_ ?_
        rotate_left
        · intro w'
          go_simp
          with_reducible rfl
        rotate_left
        · simp only [Act.put, List.setIfInBounds_toArray, List.set_cons_zero, List.set_cons_succ, i64_w, i32_w]
          rfl
        refine pure_ (i := 1) (N := some 73) (v := ?_) (a' := ?_) #[true, true, false, false, false, false, false, false, false, false, false, false, false, false, false, false, false, false, false, false, false] rfl rfl (by kernel_rfl) (fun _ _ _ h => h) (Or.inl ⟨by rfl, ?_⟩) ?_ ?_
        rotate_left
        · intro w'
          go_simp
          with_reducible rfl
        rotate_left
        · simp only [Act.put, List.setIfInBounds_toArray, List.set_cons_zero, List.set_cons_succ, i64_w, i32_w]
          rfl
        refine pure_ (i := 2) (N := some 74) (v := ?_) (a' := ?_) #[true, true, true, false, false, false, false, false, false, false, false, false, false, false, false, false, false, false, false, false, false] rfl rfl (by kernel_rfl) (fun _ _ _ h => h) (Or.inl ⟨by rfl, ?_⟩) ?_ ?_
        rotate_left
        · intro w'
          go_simp
          with_reducible rfl
        rotate_left
        · simp only [Act.put, List.setIfInBounds_toArray, List.set_cons_zero, List.set_cons_succ, i64_w, i32_w]
          rfl
        refine pure_ (i := 3) (N := some 75) (v := ?_) (a' := ?_) #[true, true, true, true, false, false, false, false, false, false, false, false, false, false, false, false, false, false, false, false, false] rfl rfl (by kernel_rfl) (fun _ _ _ h => h) (Or.inl ⟨by rfl, ?_⟩) ?_ ?_
        rotate_left
        · intro w'
          go_simp
          with_reducible rfl
        rotate_left
        · simp only [Act.put, List.setIfInBounds_toArray, List.set_cons_zero, List.set_cons_succ, i64_w, i32_w]
          rfl
        refine pure_ (i := 5) (N := some 77) (v := ?_) (a' := ?_) #[true, true, true, true, false, true, false, false, false, false, false, false, false, false, false, false, false, false, false, false, false] rfl rfl (by kernel_rfl) (fun _ _ _ h => h) (Or.inl ⟨by rfl, ?_⟩) ?_ ?_
        rotate_left
        · intro w'
          go_simp
          with_reducible rfl
        rotate_left
        · simp only [Act.put, List.setIfInBounds_toArray, List.set_cons_zero, List.set_cons_succ, i64_w, i32_w]
          rfl
        refine pure_ (i := 7) (N := some 79) (v := ?_) (a' := ?_) #[true, true, true, true, false, true, false, true, false, false, false, false, false, false, false, false, false, false, false, false, false] rfl rfl (by kernel_rfl) (fun _ _ _ h => h) (Or.inl ⟨by rfl, ?_⟩) ?_ ?_
        rotate_left
        · intro w'
          go_simp
          with_reducible rfl
        rotate_left
        · simp only [Act.put, List.setIfInBounds_toArray, List.set_cons_zero, List.set_cons_succ, i64_w, i32_w]
          rfl
        refine take_ (i := 4) (N := some 76) (v := ?_) (a' := ?_) #[true, true, true, true, true, true, false, true, false, false, false, false, false, false, false, false, false, false, false, false, false] rfl rfl (by kernel_rfl) (fun _ _ _ h => h) (Or.inl ⟨by rfl, ?_⟩) hHeld ?_ ?_
        rotate_left
        · rintro w' ⟨s0, s1, s2⟩
          go_simp
          with_reducible rfl
        rotate_left
        · simp only [Act.put, List.setIfInBounds_toArray, List.set_cons_zero, List.set_cons_succ, i64_w, i32_w]
          rfl
        refine pure_ (i := 12) (N := some 84) (v := ?_) (a' := ?_) #[true, true, true, true, true, true, false, true, false, false, false, false, true, false, false, false, false, false, false, false, false] rfl rfl (by kernel_rfl) (fun _ _ _ h => h) (Or.inl ⟨by rfl, ?_⟩) ?_ ?_
        rotate_left
        · intro w'
          go_simp
          with_reducible rfl
        rotate_left
        · simp only [Act.put, List.setIfInBounds_toArray, List.set_cons_zero, List.set_cons_succ, i64_w, i32_w]
          rfl
        refine pure_ (i := 13) (N := some 85) (v := ?_) (a' := ?_) #[true, true, true, true, true, true, false, true, false, false, false, false, true, true, false, false, false, false, false, false, false] rfl rfl (by kernel_rfl) (fun _ _ _ h => h) (Or.inl ⟨by rfl, ?_⟩) ?_ ?_
        rotate_left
        · intro w'
          go_simp
          with_reducible rfl
        rotate_left
        · simp only [Act.put, List.setIfInBounds_toArray, List.set_cons_zero, List.set_cons_succ, i64_w, i32_w]
          rfl
        refine take_ (i := 6) (N := some 78) (v := ?_) (a' := ?_) #[true, true, true, true, true, true, true, true, false, false, false, false, true, true, false, false, false, false, false, false, false] rfl rfl (by kernel_rfl) (fun _ _ _ h => h) (Or.inl ⟨by rfl, ?_⟩) hHeld ?_ ?_
        rotate_left
        · rintro w' ⟨s0, s1, s2⟩
          go_simp
          with_reducible rfl
        rotate_left
        · simp only [Act.put, List.setIfInBounds_toArray, List.set_cons_zero, List.set_cons_succ, i64_w, i32_w]
          rfl
        refine take_ (i := 8) (N := some 80) (v := ?_) (a' := ?_) #[true, true, true, true, true, true, true, true, true, false, false, false, true, true, false, false, false, false, false, false, false] rfl rfl (by kernel_rfl) (fun _ _ _ h => h) (Or.inl ⟨by rfl, ?_⟩) hHeld ?_ ?_
        rotate_left
        · rintro w' ⟨s0, s1, s2⟩
          go_simp
          with_reducible rfl
        rotate_left
        · simp only [Act.put, List.setIfInBounds_toArray, List.set_cons_zero, List.set_cons_succ, i64_w, i32_w]
          rfl
        refine take_ (i := 9) (N := some 81) (v := ?_) (a' := ?_) #[true, true, true, true, true, true, true, true, true, true, false, false, true, true, false, false, false, false, false, false, false] rfl rfl (by kernel_rfl) (fun _ _ _ h => h) (Or.inl ⟨by rfl, ?_⟩) hHeld ?_ ?_
        rotate_left
        · rintro w' ⟨s0, s1, s2⟩
          go_simp
          with_reducible rfl
        rotate_left
        · simp only [Act.put, List.setIfInBounds_toArray, List.set_cons_zero, List.set_cons_succ, i64_w, i32_w]
          rfl
        refine pure_ (i := 10) (N := some 82) (v := ?_) (a' := ?_) #[true, true, true, true, true, true, true, true, true, true, true, false, true, true, false, false, false, false, false, false, false] rfl rfl (by kernel_rfl) (fun _ _ _ h => h) (Or.inl ⟨by rfl, ?_⟩) ?_ ?_
        rotate_left
        · intro w'
          go_simp
          with_reducible rfl
        rotate_left
        · simp only [Act.put, List.setIfInBounds_toArray, List.set_cons_zero, List.set_cons_succ, i64_w, i32_w]
          rfl
        refine pure_ (i := 11) (N := some 83) (v := ?_) (a' := ?_) #[true, true, true, true, true, true, true, true, true, true, true, true, true, true, false, false, false, false, false, false, false] rfl rfl (by kernel_rfl) (fun _ _ _ h => h) (Or.inl ⟨by rfl, ?_⟩) ?_ ?_
        rotate_left
        · intro w'
          go_simp
          with_reducible rfl
        rotate_left
        · simp only [Act.put, List.setIfInBounds_toArray, List.set_cons_zero, List.set_cons_succ, i64_w, i32_w]
          rfl
        refine one_ (i := 14) (N := none) #[true, true, true, true, true, true, true, true, true, true, true, true, true, true, true, false, false, false, false, false, false] rfl rfl (by kernel_rfl) (by decide) (fun K hK => ?_)
        refine skip_ (w1 := ?_) (by rfl) rfl ?_ ?_
        rotate_left
        · go_simp
          rfl
        have HL := Aside0.mk (HL.out.set1 ep)
        have HK := Aside0.mk (HK.out.trans (Lg.set_keep _ base gl 1 (.int .i64 ep) HL.out.hg))
        have HCB := Aside0.mk (log_Log_heads.keep_set (gl := gl) (k := 1) (v := .int .i64 ep) HCB.out hne)
        refine hK.out _ _ ⟨(cell_of_row _ cb 0 _ _ _ HCB.out), (cell_of_row _ cb 1 _ _ _ HCB.out), (cell_of_row _ cb 4 _ _ _ HCB.out)⟩ (fun hHeld => ?_)
        clear hK K
        refine pure_ (i := 15) (N := some 86) (v := ?_) (a' := ?_) #[true, true, true, true, true, true, true, true, true, true, true, true, true, true, true, true, false, false, false, false, false] rfl rfl (by kernel_rfl) (fun _ _ _ h => h) (Or.inl ⟨by rfl, ?_⟩) ?_ ?_
        rotate_left
        · intro w'
          go_simp
          with_reducible rfl
        rotate_left
        · simp only [Act.put, List.setIfInBounds_toArray, List.set_cons_zero, List.set_cons_succ, i64_w, i32_w]
          rfl
        refine pure_ (i := 16) (N := some 87) (v := ?_) (a' := ?_) #[true, true, true, true, true, true, true, true, true, true, true, true, true, true, true, true, true, false, false, false, false] rfl rfl (by kernel_rfl) (fun _ _ _ h => h) (Or.inl ⟨by rfl, ?_⟩) ?_ ?_
        rotate_left
        · intro w'
          go_simp
          with_reducible rfl
        rotate_left
        · simp only [Act.put, List.setIfInBounds_toArray, List.set_cons_zero, List.set_cons_succ, i64_w, i32_w]
          rfl
        refine one_ (i := 17) (N := none) #[true, true, true, true, true, true, true, true, true, true, true, true, true, true, true, true, true, true, false, false, false] rfl rfl (by kernel_rfl) (by decide) (fun K hK => ?_)
        refine skip_ (w1 := ?_) (by rfl) rfl ?_ ?_
        rotate_left
        · go_simp
          rfl
        have HL := Aside0.mk (HL.out.set2 sq)
        have HK := Aside0.mk (HK.out.trans (Lg.set_keep _ base gl 2 (.int .i64 sq) HL.out.hg))
        have HCB := Aside0.mk (log_Log_heads.keep_set (gl := gl) (k := 2) (v := .int .i64 sq) HCB.out hne)
        refine hK.out _ _ ⟨(cell_of_row _ cb 0 _ _ _ HCB.out), (cell_of_row _ cb 1 _ _ _ HCB.out), (cell_of_row _ cb 4 _ _ _ HCB.out)⟩ (fun hHeld => ?_)
        clear hK K
        refine pure_ (i := 18) (N := some 88) (v := ?_) (a' := ?_) #[true, true, true, true, true, true, true, true, true, true, true, true, true, true, true, true, true, true, true, false, false] rfl rfl (by kernel_rfl) (fun _ _ _ h => h) (Or.inl ⟨by rfl, ?_⟩) ?_ ?_
        rotate_left
        · intro w'
          go_simp
          with_reducible rfl
        rotate_left
        · simp only [Act.put, List.setIfInBounds_toArray, List.set_cons_zero, List.set_cons_succ, i64_w, i32_w]
          rfl
        refine pure_ (i := 19) (N := some 89) (v := ?_) (a' := ?_) #[true, true, true, true, true, true, true, true, true, true, true, true, true, true, true, true, true, true, true, true, false] rfl rfl (by kernel_rfl) (fun _ _ _ h => h) (Or.inl ⟨by rfl, ?_⟩) ?_ ?_
        rotate_left
        · intro w'
          go_simp
          with_reducible rfl
        rotate_left
        · simp only [Act.put, List.setIfInBounds_toArray, List.set_cons_zero, List.set_cons_succ, i64_w, i32_w]
          rfl
        refine one_ (i := 20) (N := none) #[true, true, true, true, true, true, true, true, true, true, true, true, true, true, true, true, true, true, true, true, true] rfl rfl (by kernel_rfl) (by decide) (fun K hK => ?_)
        refine skip_ (w1 := ?_) (by rfl) rfl ?_ ?_
        rotate_left
        · go_simp
          rfl
        have HL := Aside0.mk (HL.out.set3 (wrap64 (IntKind.u8.wrap (((⟨#[48]⟩ : ByteArray)[0].toNat : Int) - 48))))
        have HK := Aside0.mk (HK.out.trans (Lg.set_keep _ base gl 3 (.int .i64 (wrap64 (IntKind.u8.wrap (((⟨#[48]⟩ : ByteArray)[0].toNat : Int) - 48)))) HL.out.hg))
        have HCB := Aside0.mk (log_Log_heads.keep_set (gl := gl) (k := 3) (v := .int .i64 (wrap64 (IntKind.u8.wrap (((⟨#[48]⟩ : ByteArray)[0].toNat : Int) - 48)))) HCB.out hne)
        refine hK.out _ _ ⟨(cell_of_row _ cb 0 _ _ _ HCB.out), (cell_of_row _ cb 1 _ _ _ HCB.out), (cell_of_row _ cb 4 _ _ _ HCB.out)⟩ (fun hHeld => ?_)
        clear hK K
        refine done_ (by kernel_rfl) ?_
        dsimp only [log_Log_heads.NQ]
        have hv : wrap64 (IntKind.u8.wrap (((⟨#[48]⟩ : ByteArray)[0].toNat : Int) - 48)) = 0 := by kernel_rfl
        rw [hv] at HL HK HCB
        clear hHeld k0 k1 k2 k3 k4 g1 g2 g3 f1 f2 f3
        go_wp2_with (fail)
        go_roundg gk
        case measure => omega
        case rel => exact ⟨i + 1, by rw [Int.natCast_add]; rfl, by rw [HST.out], by omega, by omega, ⟨by rw [HST.out]; exact HL.out⟩, HK⟩
      · skip
        have e48 : ((⟨#[49]⟩ : ByteArray).toList == [48]) = false := (Lg.str_is ⟨#[49]⟩ [48]).trans (decide_eq_false (by decide))
        have u48 : ((⟨#[49]⟩ : ByteArray).toList == (⟨#[48]⟩ : ByteArray).toList) = false := (Lg.str_is2 ⟨#[49]⟩ [48]).trans (decide_eq_false (by decide))
        have e49 : ((⟨#[49]⟩ : ByteArray).toList == [49]) = true := (Lg.str_is ⟨#[49]⟩ [49]).trans (decide_eq_true rfl)
        have u49 : ((⟨#[49]⟩ : ByteArray).toList == (⟨#[49]⟩ : ByteArray).toList) = true := (Lg.str_is2 ⟨#[49]⟩ [49]).trans (decide_eq_true rfl)
        by_cases t5 : sq ≤ ep
        case neg =>
          have d5 : decide (ep < sq) = true := decide_eq_true (by omega)
          have hno : Lg.headStep (ep, sq, true, true, ⟨#[49]⟩, 0) (i : Int) (lq, best) = (lq, best) := by unfold Lg.headStep Lg.isHead; exact if_neg (by simp [t5])
          rw [hno] at HST
          clear hno
          go_wp2_with (fail)
          go_roundg gk
          case measure => omega
          case rel => exact ⟨i + 1, by rw [Int.natCast_add]; rfl, by rw [HST.out], by omega, by omega, ⟨by rw [HST.out]; exact HL.out⟩, HK⟩
        have d5 : decide (ep < sq) = false := decide_eq_false (by omega)
        by_cases t6 : ep % 2 = (i : Int)
        case neg =>
          have d6 : (ep % 2 != (i : Int)) = true := bne_iff_ne.2 t6
          have hno : Lg.headStep (ep, sq, true, true, ⟨#[49]⟩, 0) (i : Int) (lq, best) = (lq, best) := by unfold Lg.headStep Lg.isHead; exact if_neg (by simp [t6])
          rw [hno] at HST
          clear hno
          go_wp2_with (fail)
          go_roundg gk
          case measure => omega
          case rel => exact ⟨i + 1, by rw [Int.natCast_add]; rfl, by rw [HST.out], by omega, by omega, ⟨by rw [HST.out]; exact HL.out⟩, HK⟩
        have d6 : (ep % 2 != (i : Int)) = false := by rw [t6]; exact bne_self_eq_false _
        by_cases t7 : best < ep
        case neg =>
          have d7 : decide (ep ≤ best) = true := decide_eq_true (by omega)
          clear d6
          have d6 : (ep % 2 != (i : Int)) = false := by rw [t6]; exact bne_self_eq_false _
          have hno : Lg.headStep (ep, sq, true, true, ⟨#[49]⟩, 0) (i : Int) (lq, best) = (lq, best) := by unfold Lg.headStep Lg.isHead; exact if_neg (by simp [t7])
          rw [hno] at HST
          clear hno
          go_wp2_with (fail)
          go_roundg gk
          case measure => omega
          case rel => exact ⟨i + 1, by rw [Int.natCast_add]; rfl, by rw [HST.out], by omega, by omega, ⟨by rw [HST.out]; exact HL.out⟩, HK⟩
        have d7 : decide (ep ≤ best) = false := decide_eq_false (by omega)
        have hyes : Lg.headStep (ep, sq, true, true, ⟨#[49]⟩, 0) (i : Int) (lq, best) = ({ lq with epoch := ep, base := sq, half := 1 }, ep) := by unfold Lg.headStep Lg.isHead; rw [if_pos (by simp [t5, t6, t7])]; rfl
        rw [hyes] at HST
        clear hyes
        go_upto_region 11 with fail
        have g1 := HL.out.c1
        have f1 := HL.out.fz 1
        have g2 := HL.out.c2
        have f2 := HL.out.fz 2
        have g3 := HL.out.c3
        have f3 := HL.out.fz 3
        have hne : cb ≠ gl := by omega
        have HL := Aside0.mk HL.out.drew
        have HK := Aside0.mk (HK.out.trans (Lg.K.of (Below.refl _ _).drew (Nat.le_trans hb HK.out.size)))
        have HCB := Aside0.mk (show W4.drew.heap[cb]? = _ from HCB.out)
        refine log_Log_heads.wp_normal ?_
        refine start_ (n := 21) (S := fun w' => w'.cell? ⟨cb, 0, none⟩ = some (.int .i64 ep) ∧ w'.cell? ⟨cb, 1, none⟩ = some (.int .i64 sq) ∧ w'.cell? ⟨cb, 4, none⟩ = some (.string ⟨#[49]⟩)) (ds := []) #[false, false, false, false, false, false, false, false, false, false, false, false, false, false, false, false, false, false, false, false, false] (by kernel_rfl) rfl rfl ⟨(cell_of_row _ cb 0 _ _ _ HCB.out), (cell_of_row _ cb 1 _ _ _ HCB.out), (cell_of_row _ cb 4 _ _ _ HCB.out)⟩ (fun hHeld => ?_)
        refine pure_ (i := 0) (N := some 72) (v := ?_) (a' := ?_) #[true, false, false, false, false, false, false, false, false, false, false, false, false, false, false, false, false, false, false, false, false] rfl rfl (by kernel_rfl) (fun _ _ _ h => h) (Or.inl ⟨by rfl, ?_⟩) ?_ ?_
        rotate_left
        · intro w'
          go_simp
          with_reducible rfl
        rotate_left
        · simp only [Act.put, List.setIfInBounds_toArray, List.set_cons_zero, List.set_cons_succ, i64_w, i32_w]
          rfl
        refine pure_ (i := 1) (N := some 73) (v := ?_) (a' := ?_) #[true, true, false, false, false, false, false, false, false, false, false, false, false, false, false, false, false, false, false, false, false] rfl rfl (by kernel_rfl) (fun _ _ _ h => h) (Or.inl ⟨by rfl, ?_⟩) ?_ ?_
        rotate_left
        · intro w'
          go_simp
          with_reducible rfl
        rotate_left
        · simp only [Act.put, List.setIfInBounds_toArray, List.set_cons_zero, List.set_cons_succ, i64_w, i32_w]
          rfl
        refine pure_ (i := 2) (N := some 74) (v := ?_) (a' := ?_) #[true, true, true, false, false, false, false, false, false, false, false, false, false, false, false, false, false, false, false, false, false] rfl rfl (by kernel_rfl) (fun _ _ _ h => h) (Or.inl ⟨by rfl, ?_⟩) ?_ ?_
        rotate_left
        · intro w'
          go_simp
          with_reducible rfl
        rotate_left
        · simp only [Act.put, List.setIfInBounds_toArray, List.set_cons_zero, List.set_cons_succ, i64_w, i32_w]
          rfl
        refine pure_ (i := 3) (N := some 75) (v := ?_) (a' := ?_) #[true, true, true, true, false, false, false, false, false, false, false, false, false, false, false, false, false, false, false, false, false] rfl rfl (by kernel_rfl) (fun _ _ _ h => h) (Or.inl ⟨by rfl, ?_⟩) ?_ ?_
        rotate_left
        · intro w'
          go_simp
          with_reducible rfl
        rotate_left
        · simp only [Act.put, List.setIfInBounds_toArray, List.set_cons_zero, List.set_cons_succ, i64_w, i32_w]
          rfl
        refine pure_ (i := 5) (N := some 77) (v := ?_) (a' := ?_) #[true, true, true, true, false, true, false, false, false, false, false, false, false, false, false, false, false, false, false, false, false] rfl rfl (by kernel_rfl) (fun _ _ _ h => h) (Or.inl ⟨by rfl, ?_⟩) ?_ ?_
        rotate_left
        · intro w'
          go_simp
          with_reducible rfl
        rotate_left
        · simp only [Act.put, List.setIfInBounds_toArray, List.set_cons_zero, List.set_cons_succ, i64_w, i32_w]
          rfl
        refine pure_ (i := 7) (N := some 79) (v := ?_) (a' := ?_) #[true, true, true, true, false, true, false, true, false, false, false, false, false, false, false, false, false, false, false, false, false] rfl rfl (by kernel_rfl) (fun _ _ _ h => h) (Or.inl ⟨by rfl, ?_⟩) ?_ ?_
        rotate_left
        · intro w'
          go_simp
          with_reducible rfl
        rotate_left
        · simp only [Act.put, List.setIfInBounds_toArray, List.set_cons_zero, List.set_cons_succ, i64_w, i32_w]
          rfl
        refine take_ (i := 4) (N := some 76) (v := ?_) (a' := ?_) #[true, true, true, true, true, true, false, true, false, false, false, false, false, false, false, false, false, false, false, false, false] rfl rfl (by kernel_rfl) (fun _ _ _ h => h) (Or.inl ⟨by rfl, ?_⟩) hHeld ?_ ?_
        rotate_left
        · rintro w' ⟨s0, s1, s2⟩
          go_simp
          with_reducible rfl
        rotate_left
        · simp only [Act.put, List.setIfInBounds_toArray, List.set_cons_zero, List.set_cons_succ, i64_w, i32_w]
          rfl
        refine pure_ (i := 12) (N := some 84) (v := ?_) (a' := ?_) #[true, true, true, true, true, true, false, true, false, false, false, false, true, false, false, false, false, false, false, false, false] rfl rfl (by kernel_rfl) (fun _ _ _ h => h) (Or.inl ⟨by rfl, ?_⟩) ?_ ?_
        rotate_left
        · intro w'
          go_simp
          with_reducible rfl
        rotate_left
        · simp only [Act.put, List.setIfInBounds_toArray, List.set_cons_zero, List.set_cons_succ, i64_w, i32_w]
          rfl
        refine pure_ (i := 13) (N := some 85) (v := ?_) (a' := ?_) #[true, true, true, true, true, true, false, true, false, false, false, false, true, true, false, false, false, false, false, false, false] rfl rfl (by kernel_rfl) (fun _ _ _ h => h) (Or.inl ⟨by rfl, ?_⟩) ?_ ?_
        rotate_left
        · intro w'
          go_simp
          with_reducible rfl
        rotate_left
        · simp only [Act.put, List.setIfInBounds_toArray, List.set_cons_zero, List.set_cons_succ, i64_w, i32_w]
          rfl
        refine take_ (i := 6) (N := some 78) (v := ?_) (a' := ?_) #[true, true, true, true, true, true, true, true, false, false, false, false, true, true, false, false, false, false, false, false, false] rfl rfl (by kernel_rfl) (fun _ _ _ h => h) (Or.inl ⟨by rfl, ?_⟩) hHeld ?_ ?_
        rotate_left
        · rintro w' ⟨s0, s1, s2⟩
          go_simp
          with_reducible rfl
        rotate_left
        · simp only [Act.put, List.setIfInBounds_toArray, List.set_cons_zero, List.set_cons_succ, i64_w, i32_w]
          rfl
        refine take_ (i := 8) (N := some 80) (v := ?_) (a' := ?_) #[true, true, true, true, true, true, true, true, true, false, false, false, true, true, false, false, false, false, false, false, false] rfl rfl (by kernel_rfl) (fun _ _ _ h => h) (Or.inl ⟨by rfl, ?_⟩) hHeld ?_ ?_
        rotate_left
        · rintro w' ⟨s0, s1, s2⟩
          go_simp
          with_reducible rfl
        rotate_left
        · simp only [Act.put, List.setIfInBounds_toArray, List.set_cons_zero, List.set_cons_succ, i64_w, i32_w]
          rfl
        refine take_ (i := 9) (N := some 81) (v := ?_) (a' := ?_) #[true, true, true, true, true, true, true, true, true, true, false, false, true, true, false, false, false, false, false, false, false] rfl rfl (by kernel_rfl) (fun _ _ _ h => h) (Or.inl ⟨by rfl, ?_⟩) hHeld ?_ ?_
        rotate_left
        · rintro w' ⟨s0, s1, s2⟩
          go_simp
          with_reducible rfl
        rotate_left
        · simp only [Act.put, List.setIfInBounds_toArray, List.set_cons_zero, List.set_cons_succ, i64_w, i32_w]
          rfl
        refine pure_ (i := 10) (N := some 82) (v := ?_) (a' := ?_) #[true, true, true, true, true, true, true, true, true, true, true, false, true, true, false, false, false, false, false, false, false] rfl rfl (by kernel_rfl) (fun _ _ _ h => h) (Or.inl ⟨by rfl, ?_⟩) ?_ ?_
        rotate_left
        · intro w'
          go_simp
          with_reducible rfl
        rotate_left
        · simp only [Act.put, List.setIfInBounds_toArray, List.set_cons_zero, List.set_cons_succ, i64_w, i32_w]
          rfl
        refine pure_ (i := 11) (N := some 83) (v := ?_) (a' := ?_) #[true, true, true, true, true, true, true, true, true, true, true, true, true, true, false, false, false, false, false, false, false] rfl rfl (by kernel_rfl) (fun _ _ _ h => h) (Or.inl ⟨by rfl, ?_⟩) ?_ ?_
        rotate_left
        · intro w'
          go_simp
          with_reducible rfl
        rotate_left
        · simp only [Act.put, List.setIfInBounds_toArray, List.set_cons_zero, List.set_cons_succ, i64_w, i32_w]
          rfl
        refine one_ (i := 14) (N := none) #[true, true, true, true, true, true, true, true, true, true, true, true, true, true, true, false, false, false, false, false, false] rfl rfl (by kernel_rfl) (by decide) (fun K hK => ?_)
        refine skip_ (w1 := ?_) (by rfl) rfl ?_ ?_
        rotate_left
        · go_simp
          rfl
        have HL := Aside0.mk (HL.out.set1 ep)
        have HK := Aside0.mk (HK.out.trans (Lg.set_keep _ base gl 1 (.int .i64 ep) HL.out.hg))
        have HCB := Aside0.mk (log_Log_heads.keep_set (gl := gl) (k := 1) (v := .int .i64 ep) HCB.out hne)
        refine hK.out _ _ ⟨(cell_of_row _ cb 0 _ _ _ HCB.out), (cell_of_row _ cb 1 _ _ _ HCB.out), (cell_of_row _ cb 4 _ _ _ HCB.out)⟩ (fun hHeld => ?_)
        clear hK K
        refine pure_ (i := 15) (N := some 86) (v := ?_) (a' := ?_) #[true, true, true, true, true, true, true, true, true, true, true, true, true, true, true, true, false, false, false, false, false] rfl rfl (by kernel_rfl) (fun _ _ _ h => h) (Or.inl ⟨by rfl, ?_⟩) ?_ ?_
        rotate_left
        · intro w'
          go_simp
          with_reducible rfl
        rotate_left
        · simp only [Act.put, List.setIfInBounds_toArray, List.set_cons_zero, List.set_cons_succ, i64_w, i32_w]
          rfl
        refine pure_ (i := 16) (N := some 87) (v := ?_) (a' := ?_) #[true, true, true, true, true, true, true, true, true, true, true, true, true, true, true, true, true, false, false, false, false] rfl rfl (by kernel_rfl) (fun _ _ _ h => h) (Or.inl ⟨by rfl, ?_⟩) ?_ ?_
        rotate_left
        · intro w'
          go_simp
          with_reducible rfl
        rotate_left
        · simp only [Act.put, List.setIfInBounds_toArray, List.set_cons_zero, List.set_cons_succ, i64_w, i32_w]
          rfl
        refine one_ (i := 17) (N := none) #[true, true, true, true, true, true, true, true, true, true, true, true, true, true, true, true, true, true, false, false, false] rfl rfl (by kernel_rfl) (by decide) (fun K hK => ?_)
        refine skip_ (w1 := ?_) (by rfl) rfl ?_ ?_
        rotate_left
        · go_simp
          rfl
        have HL := Aside0.mk (HL.out.set2 sq)
        have HK := Aside0.mk (HK.out.trans (Lg.set_keep _ base gl 2 (.int .i64 sq) HL.out.hg))
        have HCB := Aside0.mk (log_Log_heads.keep_set (gl := gl) (k := 2) (v := .int .i64 sq) HCB.out hne)
        refine hK.out _ _ ⟨(cell_of_row _ cb 0 _ _ _ HCB.out), (cell_of_row _ cb 1 _ _ _ HCB.out), (cell_of_row _ cb 4 _ _ _ HCB.out)⟩ (fun hHeld => ?_)
        clear hK K
        refine pure_ (i := 18) (N := some 88) (v := ?_) (a' := ?_) #[true, true, true, true, true, true, true, true, true, true, true, true, true, true, true, true, true, true, true, false, false] rfl rfl (by kernel_rfl) (fun _ _ _ h => h) (Or.inl ⟨by rfl, ?_⟩) ?_ ?_
        rotate_left
        · intro w'
          go_simp
          with_reducible rfl
        rotate_left
        · simp only [Act.put, List.setIfInBounds_toArray, List.set_cons_zero, List.set_cons_succ, i64_w, i32_w]
          rfl
        refine pure_ (i := 19) (N := some 89) (v := ?_) (a' := ?_) #[true, true, true, true, true, true, true, true, true, true, true, true, true, true, true, true, true, true, true, true, false] rfl rfl (by kernel_rfl) (fun _ _ _ h => h) (Or.inl ⟨by rfl, ?_⟩) ?_ ?_
        rotate_left
        · intro w'
          go_simp
          with_reducible rfl
        rotate_left
        · simp only [Act.put, List.setIfInBounds_toArray, List.set_cons_zero, List.set_cons_succ, i64_w, i32_w]
          rfl
        refine one_ (i := 20) (N := none) #[true, true, true, true, true, true, true, true, true, true, true, true, true, true, true, true, true, true, true, true, true] rfl rfl (by kernel_rfl) (by decide) (fun K hK => ?_)
        refine skip_ (w1 := ?_) (by rfl) rfl ?_ ?_
        rotate_left
        · go_simp
          rfl
        have HL := Aside0.mk (HL.out.set3 (wrap64 (IntKind.u8.wrap (((⟨#[49]⟩ : ByteArray)[0].toNat : Int) - 48))))
        have HK := Aside0.mk (HK.out.trans (Lg.set_keep _ base gl 3 (.int .i64 (wrap64 (IntKind.u8.wrap (((⟨#[49]⟩ : ByteArray)[0].toNat : Int) - 48)))) HL.out.hg))
        have HCB := Aside0.mk (log_Log_heads.keep_set (gl := gl) (k := 3) (v := .int .i64 (wrap64 (IntKind.u8.wrap (((⟨#[49]⟩ : ByteArray)[0].toNat : Int) - 48)))) HCB.out hne)
        refine hK.out _ _ ⟨(cell_of_row _ cb 0 _ _ _ HCB.out), (cell_of_row _ cb 1 _ _ _ HCB.out), (cell_of_row _ cb 4 _ _ _ HCB.out)⟩ (fun hHeld => ?_)
        clear hK K
        refine done_ (by kernel_rfl) ?_
        dsimp only [log_Log_heads.NQ]
        have hv : wrap64 (IntKind.u8.wrap (((⟨#[49]⟩ : ByteArray)[0].toNat : Int) - 48)) = 1 := by kernel_rfl
        rw [hv] at HL HK HCB
        clear hHeld k0 k1 k2 k3 k4 g1 g2 g3 f1 f2 f3
        go_wp2_with (fail)
        go_roundg gk
        case measure => omega
        case rel => exact ⟨i + 1, by rw [Int.natCast_add]; rfl, by rw [HST.out], by omega, by omega, ⟨by rw [HST.out]; exact HL.out⟩, HK⟩
    · obtain rfl : i = 2 := by omega
      go_wp2_with (fail)
      go_ret
      exact ⟨rfl, HL.out, HK.out⟩

/-! ### log_Log_sector: function 58 (by hand) -/
theorem log_Log_sector.calls (v : Value) (half p : Int) (w : World) (hh : half = 0 ∨ half = 1) (hp : 0 ≤ p ∧ p ≤ 127) : Calls Try.prog 58 #[v, .int .i64 half, .int .i64 p] w fun e w' => e = .returned (.int .i64 (2 + half * 127 + p)) ∧ w' = w := by
  obtain ⟨hp1, hp2⟩ := hp
  have hh1 : 0 ≤ half := by omega
  have hh2 : half ≤ 1 := by omega
  clear hh
  go_enter Try.func58, Try.ntmps58
  go_wp2
  go_ret
  exact ⟨by first | rfl | (rw [Hw.w64 _ (by omega) (by omega)]; rfl) | simp, rfl⟩

-- NOT PRINTED: function 86 (abi_NoEscape)

/-! ### strings_Builder_copyCheck: function 75 (by hand) -/
/-- A strings.Builder that holds the bytes bs: alone, or as the one field of a struct of type T. One that holds none has no row of bytes. -/
def strings_Builder_copyCheck.Wr (T : TypeId) (B b : Nat) (bs : List Value) (w : World) : Prop := Lib.IsBuilderF T 5 B b bs w ∧ (bs = [] → w.cell? ⟨b, 1, none⟩ = some (.slice none 0 0))
def strings_Builder_copyCheck.Ok (T : TypeId) : Prop := liesAt Try.prog Try.prog.depth T (2 / Try.prog.cellsOf T) 0 95 1 = true ∧ T ≠ 5
set_option maxRecDepth 100000 in
theorem strings_Builder_copyCheck.used (b : Nat) (w : World) (h0 : w.cell? ⟨b, 0, none⟩ = some (.pointer (some ⟨b, 0, none⟩))) :
    Calls Try.prog 75 #[.pointer (some ⟨b, 0, none⟩)] w fun e w' => e = .returned (.tuple #[]) ∧ w' = w := by
  obtain ⟨j, hj, _⟩ := Option.map_eq_some_iff.1 (show (Try.prog.info? 95).map (·.size) = some 2 from by kernel_rfl)
  go_enter Try.func75, Try.ntmps75
  go_wp2
  rw [Lib.run_neq_ptr_same w _ Try.underlying93 hj]
  go_wp2
  go_end0
  exact ⟨rfl, rfl⟩
set_option maxRecDepth 100000 in
theorem strings_Builder_copyCheck.fresh (T : TypeId) (hT : liesAt Try.prog Try.prog.depth T (2 / Try.prog.cellsOf T) 0 95 1 = true) (b : Nat) (w : World) (h0 : w.cell? ⟨b, 0, none⟩ = some (.pointer none)) (hsh : w.shape? b = some (T, 2)) (hfz : w.frozen? ⟨b, 0, none⟩ = false) :
    Calls Try.prog 75 #[.pointer (some ⟨b, 0, none⟩)] w fun e w' => e = .returned (.tuple #[]) ∧ w' = w.setCell ⟨b, 0, none⟩ (.pointer (some ⟨b, 0, none⟩)) := by
  obtain ⟨j, hj, hjs⟩ := Option.map_eq_some_iff.1 (show (Try.prog.info? 95).map (·.size) = some 2 from by kernel_rfl)
  have HT := Lib.hid hT
  clear hT
  go_enter Try.func75, Try.ntmps75
  go_wp2
  rw [Lib.run_to_unsafe w ⟨b, 0, none⟩ Try.underlying93 Try.underlying128 hj (by rw [hjs]; decide) hsh (Nat.zero_lt_succ 1)]
  simp only [Result.andThen]
  rw [Oper.upon_value]
  go_wp2
  rw [run_callFunc_extern Try.func86 (by kernel_rfl) (by kernel_rfl) (by kernel_rfl) (e := Extern.AbiNoEscape.same) (by kernel_rfl)]
  rw [Lib.run_noEscape]
  simp only [Result.andThen]
  rw [Oper.upon_value]
  go_wp2
  rw [Lib.run_from_unsafe w ⟨b, 0, none⟩ Try.underlying128 Try.underlying93 hj hsh HT.out]
  simp only [Result.andThen]
  rw [Oper.upon_value]
  go_wp2
  go_end0
  exact ⟨rfl, rfl⟩
theorem strings_Builder_copyCheck.calls (T : TypeId) (hT : strings_Builder_copyCheck.Ok T) (B b : Nat) (bs : List Value) (w : World) (h : Lib.IsBuilderF T 5 B b bs w) :
    Calls Try.prog 75 #[.pointer (some ⟨b, 0, none⟩)] w fun e w' => e = .returned (.tuple #[]) ∧ Lib.BuilderAtF T 5 B b (.pointer (some ⟨b, 0, none⟩)) bs w' ∧ Below B w w' := by
  rcases h with h | h
  · refine (strings_Builder_copyCheck.fresh T hT.1 b w h.cell0 h.shape h.frozen0).mono ?_
    rintro e w' ⟨rfl, rfl⟩
    exact ⟨rfl, h.used _, (Below.refl B w).setCell (p := ⟨b, 0, none⟩) h.1 _⟩
  · refine (strings_Builder_copyCheck.used b w h.cell0).mono ?_
    rintro e w' ⟨rfl, rfl⟩
    exact ⟨rfl, h, Below.refl B _⟩
theorem strings_Builder_copyCheck.fresh_wr (T : TypeId) (w : World) : strings_Builder_copyCheck.Wr T w.heap.size w.heap.size (Lib.byteCells []) (w.alloc (.cells #[.pointer none, .slice none 0 0] T)) := by
  refine ⟨Lib.IsBuilderF.of (Lib.fresh_isBuilder T 5 w), fun _ => ?_⟩
  have h : (w.alloc (.cells #[.pointer none, .slice none 0 0] T)).heap[w.heap.size]? = some (.cells #[.pointer none, .slice none 0 0] T (0, 0)) := heap_alloc_new w _
  rw [Lib.cell_of_heap h]
  rfl
theorem strings_Builder_copyCheck.Wr.below {T : TypeId} {B b : Nat} {bs : List Value} {w w' : World} (h : strings_Builder_copyCheck.Wr T B b bs w) (hb : Below w.heap.size w w') : strings_Builder_copyCheck.Wr T B b bs w' := by
  have hat : ∀ p, Lib.BuilderAtF T 5 B b p bs w → Lib.BuilderAtF T 5 B b p bs w' := by
    intro p hp
    have hlt := hp.lt
    obtain ⟨hB, v, hbk, hown, hne⟩ := hp
    exact ⟨hB, v, (hb.block b hlt).trans hbk, hown.kept (grown_of_below hb none) (by cases v.ownBlock <;> simp), hne⟩
  have hlt : b < w.heap.size := by rcases h.1 with h | h <;> exact h.lt
  exact ⟨h.1.imp (hat _) (hat _), fun e => (hb.cell (p := ⟨b, 1, none⟩) hlt).trans (h.2 e)⟩
theorem strings_Builder_copyCheck.Wr.lt {T : TypeId} {B b : Nat} {bs : List Value} {w : World} (h : strings_Builder_copyCheck.Wr T B b bs w) : b < w.heap.size := by rcases h.1 with h | h <;> exact h.lt
/-- All blocks but a Builder's and a row of bytes are as they were. -/
def strings_Builder_copyCheck.Fr (T : TypeId) (w w' : World) : Prop := w.heap.size ≤ w'.heap.size ∧ ∀ (k : Nat) (o : Obj), w.heap[k]? = some o → (∀ cs fz, o ≠ .cells cs T fz) → (∀ cs fz, o ≠ .cells cs 5 fz) → w'.heap[k]? = some o
theorem strings_Builder_copyCheck.Fr.refl (T : TypeId) (w : World) : strings_Builder_copyCheck.Fr T w w := ⟨Nat.le_refl _, fun _ _ h _ _ => h⟩
theorem strings_Builder_copyCheck.Fr.trans {T : TypeId} {a w w' : World} (h : strings_Builder_copyCheck.Fr T a w) (h' : strings_Builder_copyCheck.Fr T w w') : strings_Builder_copyCheck.Fr T a w' := ⟨Nat.le_trans h.1 h'.1, fun k o e h1 h2 => h'.2 k o (h.2 k o e h1 h2) h1 h2⟩
theorem strings_Builder_copyCheck.Fr.set {T : TypeId} {w : World} {b k : Nat} {cs : Array Value} {fz : Nat × Nat} (hb : w.heap[b]? = some (.cells cs T fz)) (v : Value) : strings_Builder_copyCheck.Fr T w (w.setCell ⟨b, k, none⟩ v) := ⟨by simp [World.setCell], fun j o e h1 _ => (Below.heap_setCell w ⟨b, k, none⟩ v j (fun q => by
  have q : j = b := q
  subst q
  rw [hb] at e
  exact h1 _ _ (Option.some.inj e).symm)).trans e⟩
theorem strings_Builder_copyCheck.Fr.grown {T : TypeId} {w w' : World} {v : Value} (hg : w.grownBy w' v.ownBlock) (hv : ∀ g, v.ownBlock = some g → ∃ cs fz, w.heap[g]? = some (.cells cs 5 fz)) : strings_Builder_copyCheck.Fr T w w' := ⟨hg.size, fun j o e _ h2 => (hg.block j (Array.getElem?_eq_some_iff.1 e).1 (fun q => by
  obtain ⟨cs, fz, hc⟩ := hv j q.symm
  rw [hc] at e
  exact h2 _ _ (Option.some.inj e).symm)).trans e⟩
theorem strings_Builder_copyCheck.ownF {w : World} {B n : Nat} {v : Value} {bs : List Value} (h : w.ownsRowF B 5 1 v n bs) : ∀ g, v.ownBlock = some g → ∃ cs fz, w.heap[g]? = some (.cells cs 5 fz) := fun g hg => by
  rcases h.2 with ⟨rfl, _⟩ | ⟨g', cap, cur, fz, rfl, _, hc, _⟩
  · cases hg
  · cases hg
    exact ⟨_, _, hc⟩
theorem strings_Builder_copyCheck.calls_wr (T : TypeId) (hT : strings_Builder_copyCheck.Ok T) (B b : Nat) (bs : List Value) (w : World) (h : strings_Builder_copyCheck.Wr T B b bs w) :
    Calls Try.prog 75 #[.pointer (some ⟨b, 0, none⟩)] w fun e w' => e = .returned (.tuple #[]) ∧ Lib.BuilderAtF T 5 B b (.pointer (some ⟨b, 0, none⟩)) bs w' ∧ (bs = [] → w'.cell? ⟨b, 1, none⟩ = some (.slice none 0 0)) ∧ Below B w w' ∧ strings_Builder_copyCheck.Fr T w w' := by
  obtain ⟨h, h2⟩ := h
  rcases h with h | h
  · refine (strings_Builder_copyCheck.fresh T hT.1 b w h.cell0 h.shape h.frozen0).mono ?_
    rintro e w' ⟨rfl, rfl⟩
    refine ⟨rfl, h.used _, fun e => ?_, (Below.refl B w).setCell (p := ⟨b, 0, none⟩) h.1 _, by obtain ⟨_, _, hbk, _⟩ := h; exact strings_Builder_copyCheck.Fr.set hbk _⟩
    obtain ⟨hB, v, hbk, hown, hne⟩ := h
    have c1 : w.cell? ⟨b, 1, none⟩ = some v := by rw [Lib.cell_of_heap hbk]; rfl
    have e1 := c1.symm.trans (h2 e)
    cases e1
    exact cell_of_row _ b 1 _ _ _ (blk_set hbk 0 (.pointer (some ⟨b, 0, none⟩)))
  · refine (strings_Builder_copyCheck.used b w h.cell0).mono ?_
    rintro e w' ⟨rfl, rfl⟩
    exact ⟨rfl, h, h2, Below.refl B _, strings_Builder_copyCheck.Fr.refl T _⟩

end Go.Proofs.Ytfdccgpbdcdgmaa.PLogRoom
