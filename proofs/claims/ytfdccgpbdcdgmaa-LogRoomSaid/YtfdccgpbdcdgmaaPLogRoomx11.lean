-- By a program of this session (wip/tools/mkprint.py), for this claim.
import Derived.Test.YtfdccgpbdcdgmaaPLogRoomx0
import Derived.Test.YtfdccgpbdcdgmaaPLogRoomx1
import Derived.Test.YtfdccgpbdcdgmaaPLogRoomx6
import Derived.Test.YtfdccgpbdcdgmaaPLogRoomx7
import Derived.Test.YtfdccgpbdcdgmaaPLogRoomx8
import Derived.Test.YtfdccgpbdcdgmaaPLogRoomx9
import Derived.Test.YtfdccgpbdcdgmaaPLogRoomx10
namespace Go.Proofs.Ytfdccgpbdcdgmaa.PLogRoom
open Go.RowKit Go.Proofs.YtfdccgpbdcdgmaaW.PrintWords Go.Proofs.YtfdccgpbdcdgmaaW.PrintLast Go.Proofs.YtfdccgpbdcdgmaaW.PrintMore
attribute [local go_sem] max2_int min2_int max_two min_two max_three min_three max_four min_four   -- for this text's walks alone
set_option linter.unusedVariables false
set_option linter.unusedSimpArgs false

/-! ### cubbylaw05_LogRoom: function 4 (by hand) -/
section
open Lg
theorem cubbylaw05_LogRoom.sstep_l0 (j : Nat) : ∀ (k x : Nat) (i : Int), j ≤ 8 → j < k → x < 2 ^ 32 → i = 8 - j → sum_Step.l0 k (x : Int) i = some ((git j x : Nat) : Int) := by
  induction j with
  | zero =>
    intro k x i _ hk _ hi
    obtain ⟨k, rfl⟩ : ∃ m, k = m + 1 := ⟨k - 1, by omega⟩
    simp only [sum_Step.l0]; rw [if_neg (by omega)]; rfl
  | succ j ih =>
    intro k x i hj hk hx hi
    obtain ⟨k, rfl⟩ : ∃ m, k = m + 1 := ⟨k - 1, by omega⟩
    simp only [sum_Step.l0]; rw [if_pos (by omega), wrap64_in _ (by omega) (by omega)]
    have e1 : Go.bits .and .u32 (x : Int) 1 = ((x % 2 : Nat) : Int) := by
      have := and_u32 x 1 hx (by omega)
      rw [Nat.and_one_is_mod] at this
      exact this
    have e2 : Go.bits .xor .u32 ((x : Int) / 2) (Go.bits .and .u32 ((-(Go.bits .and .u32 (x : Int) 1)) % 4294967296) 3988292384) = ((gg x : Nat) : Int) := by
      rw [e1]
      have e3 : Go.bits .and .u32 ((-((x % 2 : Nat) : Int)) % 4294967296) 3988292384 = (((if x % 2 = 1 then 3988292384 else 0 : Nat)) : Int) := by
        rcases Nat.mod_two_eq_zero_or_one x with h | h
        · rw [h]; decide
        · rw [h]; decide
      rw [e3]
      have e4 : ((x : Int) / 2) = ((x / 2 : Nat) : Int) := by omega
      rw [e4, xor_u32 _ _ (by omega) (by split <;> omega)]
      rfl
    rw [e2]
    exact ih k (gg x) (i + 1) (by omega) (by omega) (gg_lt x hx) (by omega)
theorem cubbylaw05_LogRoom.sstep_f (k a b : Nat) (hk : 8 < k) (ha : a < 2 ^ 32) (hb : b < 256) : sum_Step.f k (a : Int) (b : Int) = some ((stp a b : Nat) : Int) := by
  unfold sum_Step.f stp
  have e : ((b : Int) % 4294967296) = (b : Int) := by omega
  rw [e, xor_u32 a b ha (by omega)]
  exact cubbylaw05_LogRoom.sstep_l0 8 k _ 0 (by omega) hk (Nat.xor_lt_two_pow ha (by omega)) (by omega)
theorem cubbylaw05_LogRoom.scrc_l0 (s : ByteArray) (hs : s.size ≤ 9223372036854775807) (d : Nat) : ∀ (k : Nat) (i : Int) (c : Nat), 0 ≤ i → i + d = s.size → d + 9 < k → c < 2 ^ 32 → sum_Crc.l0 k s (c : Int) (s.size : Int) i = some ((4294967295 ^^^ cgo s d i c : Nat) : Int) := by
  induction d with
  | zero =>
    intro k i c h0 h1 hk hc
    obtain ⟨k, rfl⟩ : ∃ m, k = m + 1 := ⟨k - 1, by omega⟩
    simp only [sum_Crc.l0]; rw [if_neg (by omega)]
    exact congrArg some (xor_u32 4294967295 c (by omega) hc)
  | succ d ih =>
    intro k i c h0 h1 hk hc
    obtain ⟨k, rfl⟩ : ∃ m, k = m + 1 := ⟨k - 1, by omega⟩
    simp only [sum_Crc.l0]; rw [if_pos (by omega), if_pos h0, if_pos (by omega), wrap64_in _ (by omega) (by omega), ← bt_cast, cubbylaw05_LogRoom.sstep_f k c _ (by omega) hc (bt_lt s i)]
    simp only [Option.bind_some]
    exact ih k (i + 1) _ (by omega) (by omega) (by omega) (stp_lt _ _ hc (bt_lt s i))
theorem cubbylaw05_LogRoom.scrc_f (s : ByteArray) (k : Nat) (hs : s.size ≤ 9223372036854775807) (hk : s.size + 9 < k) : sum_Crc.f k s = some ((crcd s : Nat) : Int) :=
  cubbylaw05_LogRoom.scrc_l0 s hs s.size k 0 4294967295 (by omega) (by omega) hk (by omega)
theorem cubbylaw05_LogRoom.ptail_ev (s : ByteArray) (hs : s.size ≤ 140737488355328) : Lg.Ev (fun k => chunk_tail.f k s) ⟨(tl s).toArray⟩ := by
  refine ⟨s.size + 10, fun k hk => ?_⟩
  show (sum_Crc.f k s).bind _ = _
  rw [cubbylaw05_LogRoom.scrc_f s k (by omega) (by omega)]
  show some _ = _
  have h := crcd_lt s
  unfold tl
  generalize crcd s = c at *
  rw [← str_nums, nums_le4]
  have e1 : ((c : Int)) % 256 = ((c % 256 : Nat) : Int) := by omega
  have e2 : ((c : Int) / 256) % 256 = ((c / 256 % 256 : Nat) : Int) := by omega
  have e3 : ((c : Int) / 65536) % 256 = ((c / 65536 % 256 : Nat) : Int) := by omega
  have e4 : ((c : Int) / 16777216) % 256 = ((c / 16777216 % 256 : Nat) : Int) := by omega
  rw [e1, e2, e3, e4]
theorem cubbylaw05_LogRoom.body_eq (e q : Int) (a b : Bool) (d : ByteArray) : chunk_Encode.body e q a b d = Lg.body e q a b d := rfl
theorem cubbylaw05_LogRoom.penc_ev (e q : Int) (a b : Bool) (d : ByteArray) : Lg.Ev (fun k => chunk_Encode.f k e q a b d) (⟨(encd e q a b d).1.toArray⟩, (encd e q a b d).2) := by
  unfold encd chunk_Encode.f
  simp only [cubbylaw05_LogRoom.body_eq]
  by_cases h1 : e < 0 ∨ e > 1099511627776 ∨ q < 0 ∨ q > 1099511627776
  · rw [if_pos h1]; exact (Lg.Ev.const _).of fun k => by rw [if_pos h1]
  · rw [if_neg h1]
    by_cases h2 : (d.size : Int) > 96
    · rw [if_pos h2]; exact (Lg.Ev.const _).of fun k => by rw [if_neg h1, if_pos h2]
    · rw [if_neg h2]
      have hl := body_len e q a b d (by omega)
      have ht := cubbylaw05_LogRoom.ptail_ev ⟨(body e q a b d).toArray⟩ (by rw [bs_size]; omega)
      have hb := Lg.Ev.bind (f := fun _ t => if t.size ≤ 100 then some ((⟨(body e q a b d).toArray⟩ : ByteArray) ++ t, (0 : Int)) else none) ht ((Lg.Ev.const _).of fun k => by rw [if_pos (by rw [bs_size, tl, le4_len]; omega), bs_app])
      exact hb.of fun k => by rw [if_neg h1, if_neg h2]
theorem cubbylaw05_LogRoom.enc_calls (e q : Int) (a b : Bool) (d : ByteArray) (w : World) : Calls Try.prog 62 #[.agg #[.int .i64 e, .int .i64 q, .bool a, .bool b, .string d]] w fun e' w' => e' = .returned (.tuple #[.string (Lg.encB e q a b d), .int .i64 (Lg.encd e q a b d).2]) ∧ Below w.heap.size w w' := by
  obtain ⟨k, hk⟩ := (cubbylaw05_LogRoom.penc_ev e q a b d).get
  exact chunk_Encode.calls k e q a b d _ _ w hk
end
theorem cubbylaw05_LogRoom.dWrite (s : Dk.S) (base g n : Nat) (i : Int) (x : ByteArray) (w : World) (h : Tw.D w base g n s) (hin : Dk.In s) (hn : n ≤ 1000000) :
    Calls Try.prog 12 #[.pointer (some ⟨g, 0, none⟩), .int .i64 i, .string x] w fun e w' => e = .returned (.int .i64 (Dk.writ s i x).2) ∧ Tw.D w' base g (n + 1) ((Dk.writ s i x).1) ∧ Dk.B base w w' := by
  obtain ⟨mb, n', ov, hn', h⟩ := h
  refine (disk_Disk_Write.calls s base g mb n' ov i x w h hin (by omega)).mono ?_
  rintro e w' ⟨he, ⟨ov', n2, h2, hd⟩, hb⟩
  exact ⟨he, ⟨mb, n2, ov', by omega, hd⟩, hb⟩
theorem cubbylaw05_LogRoom.dBarrier (s : Dk.S) (base g n : Nat) (w : World) (h : Tw.D w base g n s) (hin : Dk.In s) :
    Calls Try.prog 26 #[.pointer (some ⟨g, 0, none⟩)] w fun e w' => e = .returned (.int .i64 (Dk.barr s).2) ∧ Tw.D w' base g (n + 0) ((Dk.barr s).1) ∧ Dk.B base w w' := by
  obtain ⟨mb, n', ov, hn', h⟩ := h
  refine (disk_Disk_Barrier.calls s base g mb n' ov w h hin).mono ?_
  rintro e w' ⟨he, ⟨ov', hd⟩, hb⟩
  exact ⟨he, ⟨mb, n', ov', by omega, hd⟩, hb⟩
theorem cubbylaw05_LogRoom.dNew (w : World) (base : Nat) (hb : base ≤ w.heap.size) : Calls Try.prog 9 #[] w fun e w' => ∃ g, e = .returned (.pointer (some ⟨g, 0, none⟩)) ∧ Tw.D w' base g 0 Dk.S0 ∧ Below w.heap.size w w' := by
  refine (disk_New.calls w base hb).mono ?_
  rintro e w' ⟨g, mb, he, hd, hb⟩
  exact ⟨g, he, ⟨mb, 0, _, Nat.le_refl _, hd⟩, hb⟩
def cubbylaw05_LogRoom.NQ (Q : Exit → Act → World → Prop) (e : Exit) (a : Act) (w : World) : Prop := match e with
  | .normal => Q .normal a w
  | _ => False
theorem cubbylaw05_LogRoom.wp_normal {P : Program} {c : Code} {Q : Exit → Act → World → Prop} {a : Act} {w : World} (h : c.wp P (cubbylaw05_LogRoom.NQ Q) a w) : c.wp P Q a w := wp_mono h (fun e a w q => by
  cases e <;> first | exact q | exact q.elim)
theorem cubbylaw05_LogRoom.conv (b : UInt8) (x : Int) (hn : x = (b.toNat : Int)) (ab : Nat) (W : World) (hb : W.heap[ab]? = some (.cells #[.int .u8 x] 5 (0, 0))) : (convert 23 9 (.slice (some ⟨ab, 0, none⟩) 1 1)).run Try.prog W = .ok (.string ⟨#[b]⟩) W := by
  have e := run_convert_bytes_back (P := Try.prog) W 23 9 5 ⟨ab, 0, none⟩ 1 [b] Try.underlying23 Try.underlying5 Try.underlying9 (fun j hj => by
    match j with
    | 0 =>
      subst hn
      exact cell_of_row W ab 0 _ _ _ hb
    | j + 1 => simp at hj)
  exact e
set_option maxHeartbeats 16000000 in
set_option maxRecDepth 100000 in
theorem cubbylaw05_LogRoom.head_calls (base gl g n : Nat) (l : Lg.L) (s : Dk.S) (w : World) (h : Lg.At w base gl g l) (hd : Tw.D w base g n s) (hin : Dk.In s) (hn : n ≤ 1000000) (hh : l.half = 0 ∨ l.half = 1) (hep : 0 ≤ l.epoch) (hb : base ≤ w.heap.size) :
    Calls Try.prog 39 #[.pointer (some ⟨gl, 0, none⟩)] w fun e w' => e = .returned (.int .i64 (Lg.head s l).2) ∧ Tw.D w' base g (n + 1) (Lg.head s l).1 ∧ Lg.At w' base gl g l ∧ Dk.B base w w' := by
  have HD := Aside0.mk hd
  have HL := Aside0.mk h
  have HIN := Aside0.mk hin
  have HB := Aside0.mk (Dk.B.refl base w)
  have c0 := h.c0
  have c1 := h.c1
  have c2 := h.c2
  have c3 := h.c3
  have hlt := h.lt
  clear h hd hin
  obtain ⟨ep, ba, hf, nx, er⟩ := l
  dsimp only at hh hep c1 c2 c3 HL
  unfold Lg.head
  dsimp only
  rcases hh with rfl | rfl
  · skip
    have hq : Lg.hb 0 = ⟨#[48]⟩ := rfl
    rw [hq]
    clear hq
    have HEN := Aside0.mk (fun W => cubbylaw05_LogRoom.enc_calls ep ba true true ⟨#[48]⟩ W)
    generalize Lg.encB ep ba true true ⟨#[48]⟩ = bs at HEN ⊢
    have et : ep.tmod 2 = ep % 2 := Int.tmod_eq_emod_of_nonneg hep
    have HW := Aside0.mk (fun (W : World) (hD : Tw.D W base g n s) => cubbylaw05_LogRoom.dWrite s base g n (ep % 2) bs W hD HIN.out hn)
    generalize Dk.writ s (ep % 2) bs = q at HW ⊢
    rw [← et] at HW
    clear et
    go_enter Try.func39, Try.ntmps39
    go_upto_region 1 with fail
    refine cubbylaw05_LogRoom.wp_normal ?_
    have HL := Aside0.mk HL.out.drew
    have HD := Aside0.mk HD.out.drew
    have HB := Aside0.mk HB.out.drew
    refine start_ (n := 23) (S := fun w' => w'.cell? ⟨gl, 0, none⟩ = some (.pointer (some ⟨g, 0, none⟩)) ∧ w'.cell? ⟨gl, 1, none⟩ = some (.int .i64 ep) ∧ w'.cell? ⟨gl, 2, none⟩ = some (.int .i64 ba) ∧ w'.cell? ⟨gl, 3, none⟩ = some (.int .i64 0)) (ds := []) #[false, false, false, false, false, false, false, false, false, false, false, false, false, false, false, false, false, false, false, false, false, false, false] (by kernel_rfl) rfl rfl ⟨HL.out.c0, HL.out.c1, HL.out.c2, HL.out.c3⟩ (fun hHeld => ?_)
    refine pure_ (i := 0) (N := some 6) (v := ?_) (a' := ?_) #[true, false, false, false, false, false, false, false, false, false, false, false, false, false, false, false, false, false, false, false, false, false, false] rfl rfl (by kernel_rfl) (fun _ _ _ h => h) (Or.inl ⟨by rfl, ?_⟩) ?_ ?_
    rotate_left
    · intro w'
      go_simp
      with_reducible rfl
    rotate_left
    · simp only [Act.put, List.setIfInBounds_toArray, List.set_cons_zero, List.set_cons_succ, i64_w, i32_w]
      rfl
    refine pure_ (i := 1) (N := some 7) (v := ?_) (a' := ?_) #[true, true, false, false, false, false, false, false, false, false, false, false, false, false, false, false, false, false, false, false, false, false, false] rfl rfl (by kernel_rfl) (fun _ _ _ h => h) (Or.inl ⟨by rfl, ?_⟩) ?_ ?_
    rotate_left
    · intro w'
      go_simp
      with_reducible rfl
    rotate_left
    · simp only [Act.put, List.setIfInBounds_toArray, List.set_cons_zero, List.set_cons_succ, i64_w, i32_w]
      rfl
    refine pure_ (i := 2) (N := some 8) (v := ?_) (a' := ?_) #[true, true, true, false, false, false, false, false, false, false, false, false, false, false, false, false, false, false, false, false, false, false, false] rfl rfl (by kernel_rfl) (fun _ _ _ h => h) (Or.inl ⟨by rfl, ?_⟩) ?_ ?_
    rotate_left
    · intro w'
      go_simp
      with_reducible rfl
    rotate_left
    · simp only [Act.put, List.setIfInBounds_toArray, List.set_cons_zero, List.set_cons_succ, i64_w, i32_w]
      rfl
    refine pure_ (i := 4) (N := some 10) (v := ?_) (a' := ?_) #[true, true, true, false, true, false, false, false, false, false, false, false, false, false, false, false, false, false, false, false, false, false, false] rfl rfl (by kernel_rfl) (fun _ _ _ h => h) (Or.inl ⟨by rfl, ?_⟩) ?_ ?_
    rotate_left
    · intro w'
      go_simp
      with_reducible rfl
    rotate_left
    · simp only [Act.put, List.setIfInBounds_toArray, List.set_cons_zero, List.set_cons_succ, i64_w, i32_w]
      rfl
    refine pure_ (i := 5) (N := some 11) (v := ?_) (a' := ?_) #[true, true, true, false, true, true, false, false, false, false, false, false, false, false, false, false, false, false, false, false, false, false, false] rfl rfl (by kernel_rfl) (fun _ _ _ h => h) (Or.inl ⟨by rfl, ?_⟩) ?_ ?_
    rotate_left
    · intro w'
      go_simp
      with_reducible rfl
    rotate_left
    · simp only [Act.put, List.setIfInBounds_toArray, List.set_cons_zero, List.set_cons_succ, i64_w, i32_w]
      rfl
    refine pure_ (i := 6) (N := some 12) (v := ?_) (a' := ?_) #[true, true, true, false, true, true, true, false, false, false, false, false, false, false, false, false, false, false, false, false, false, false, false] rfl rfl (by kernel_rfl) (fun _ _ _ h => h) (Or.inl ⟨by rfl, ?_⟩) ?_ ?_
    rotate_left
    · intro w'
      go_simp
      with_reducible rfl
    rotate_left
    · simp only [Act.put, List.setIfInBounds_toArray, List.set_cons_zero, List.set_cons_succ, i64_w, i32_w]
      rfl
    refine pure_ (i := 8) (N := some 14) (v := ?_) (a' := ?_) #[true, true, true, false, true, true, true, false, true, false, false, false, false, false, false, false, false, false, false, false, false, false, false] rfl rfl (by kernel_rfl) (fun _ _ _ h => h) (Or.inl ⟨by rfl, ?_⟩) ?_ ?_
    rotate_left
    · intro w'
      go_simp
      with_reducible rfl
    rotate_left
    · simp only [Act.put, List.setIfInBounds_toArray, List.set_cons_zero, List.set_cons_succ, i64_w, i32_w]
      rfl
    refine pure_ (i := 9) (N := some 15) (v := ?_) (a' := ?_) #[true, true, true, false, true, true, true, false, true, true, false, false, false, false, false, false, false, false, false, false, false, false, false] rfl rfl (by kernel_rfl) (fun _ _ _ h => h) (Or.inl ⟨by rfl, ?_⟩) ?_ ?_
    rotate_left
    · intro w'
      go_simp
      with_reducible rfl
    rotate_left
    · simp only [Act.put, List.setIfInBounds_toArray, List.set_cons_zero, List.set_cons_succ, i64_w, i32_w]
      rfl
    refine pure_ (i := 10) (N := some 16) (v := ?_) (a' := ?_) #[true, true, true, false, true, true, true, false, true, true, true, false, false, false, false, false, false, false, false, false, false, false, false] rfl rfl (by kernel_rfl) (fun _ _ _ h => h) (Or.inl ⟨by rfl, ?_⟩) ?_ ?_
    rotate_left
    · intro w'
      go_simp
      with_reducible rfl
    rotate_left
    · simp only [Act.put, List.setIfInBounds_toArray, List.set_cons_zero, List.set_cons_succ, i64_w, i32_w]
      rfl
    refine take_ (i := 3) (N := some 9) (v := ?_) (a' := ?_) #[true, true, true, true, true, true, true, false, true, true, true, false, false, false, false, false, false, false, false, false, false, false, false] rfl rfl (by kernel_rfl) (fun _ _ _ h => h) (Or.inl ⟨by rfl, ?_⟩) hHeld ?_ ?_
    rotate_left
    · rintro w' ⟨s0, s1, s2, s3⟩
      go_simp
      with_reducible rfl
    rotate_left
    · simp only [Act.put, List.setIfInBounds_toArray, List.set_cons_zero, List.set_cons_succ, i64_w, i32_w]
      rfl
    refine take_ (i := 7) (N := some 13) (v := ?_) (a' := ?_) #[true, true, true, true, true, true, true, true, true, true, true, false, false, false, false, false, false, false, false, false, false, false, false] rfl rfl (by kernel_rfl) (fun _ _ _ h => h) (Or.inl ⟨by rfl, ?_⟩) hHeld ?_ ?_
    rotate_left
    · rintro w' ⟨s0, s1, s2, s3⟩
      go_simp
      with_reducible rfl
    rotate_left
    · simp only [Act.put, List.setIfInBounds_toArray, List.set_cons_zero, List.set_cons_succ, i64_w, i32_w]
      rfl
    refine take_ (i := 11) (N := some 17) (v := ?_) (a' := ?_) #[true, true, true, true, true, true, true, true, true, true, true, true, false, false, false, false, false, false, false, false, false, false, false] rfl rfl (by kernel_rfl) (fun _ _ _ h => h) (Or.inl ⟨by rfl, ?_⟩) hHeld ?_ ?_
    rotate_left
    · rintro w' ⟨s0, s1, s2, s3⟩
      go_simp
      with_reducible rfl
    rotate_left
    · simp only [Act.put, List.setIfInBounds_toArray, List.set_cons_zero, List.set_cons_succ, i64_w, i32_w]
      rfl
    refine pure_ (i := 12) (N := some 18) (v := ?_) (a' := ?_) #[true, true, true, true, true, true, true, true, true, true, true, true, true, false, false, false, false, false, false, false, false, false, false] rfl rfl (by kernel_rfl) (fun _ _ _ h => h) (Or.inl ⟨by rfl, ?_⟩) ?_ ?_
    rotate_left
    · intro w'
      go_simp
      with_reducible rfl
    rotate_left
    · simp only [Act.put, List.setIfInBounds_toArray, List.set_cons_zero, List.set_cons_succ, i64_w, i32_w]
      rfl
    refine pure_ (i := 13) (N := some 19) (v := ?_) (a' := ?_) #[true, true, true, true, true, true, true, true, true, true, true, true, true, true, false, false, false, false, false, false, false, false, false] rfl rfl (by kernel_rfl) (fun _ _ _ h => h) (Or.inl ⟨by rfl, ?_⟩) ?_ ?_
    rotate_left
    · intro w'
      go_simp
      with_reducible rfl
    rotate_left
    · simp only [Act.put, List.setIfInBounds_toArray, List.set_cons_zero, List.set_cons_succ, i64_w, i32_w]
      rfl
    refine one_ (i := 14) (N := some 20) #[true, true, true, true, true, true, true, true, true, true, true, true, true, true, true, false, false, false, false, false, false, false, false] rfl rfl (by kernel_rfl) (by decide) (fun K hK => ?_)
    refine value_ (w1 := ?_) (v := ?_) (by rfl) rfl ?_ ?_
    rotate_left 2
    · go_simp
      constructor
      · rfl
      · rfl
    have HBK := Aside0.mk (Hw.blk_nw w.drew (.cells #[.int .u8 (IntKind.u8.wrap (wrap64 48))] 5))
    have hbe := (Below.refl w.drew.heap.size w.drew).alloc (Nat.le_refl _) (.cells #[.int .u8 (IntKind.u8.wrap (wrap64 48))] 5)
    have HB := Aside0.mk (HB.out.trans (Dk.B.of hbe (Nat.le_trans hb HB.out.size)))
    have HL := Aside0.mk (HL.out.below hbe)
    have HD := Aside0.mk (HD.out.below hbe)
    clear hbe
    refine hK.out _ _ ⟨HL.out.c0, HL.out.c1, HL.out.c2, HL.out.c3⟩ (fun hHeld => ?_)
    clear hK K
    refine norm_ (a' := ?_) ?_ ?_
    rotate_left
    · show Act.put _ (some 20) _ = _
      simp only [Act.put, List.setIfInBounds_toArray, List.set_cons_zero, List.set_cons_succ, i64_w, i32_w]
      rfl
    refine one_ (i := 15) (N := some 21) #[true, true, true, true, true, true, true, true, true, true, true, true, true, true, true, true, false, false, false, false, false, false, false] rfl rfl (by kernel_rfl) (by decide) (fun K hK => ?_)
    refine value_ (w1 := w.drew.alloc (.cells #[.int .u8 (IntKind.u8.wrap (wrap64 48))] 5)) (v := .string ⟨#[48]⟩) (by rfl) rfl ?_ ?_
    · go_simp
      have hcv := cubbylaw05_LogRoom.conv 48 (IntKind.u8.wrap (wrap64 48)) (by kernel_rfl) w.heap.size ((w.alloc (.cells #[.int .u8 (IntKind.u8.wrap (wrap64 48))] 5)).drew) HBK.out
      rw [hcv]
      rfl
    refine hK.out _ _ ⟨HL.out.c0, HL.out.c1, HL.out.c2, HL.out.c3⟩ (fun hHeld => ?_)
    clear hK K
    refine norm_ (a' := ?_) ?_ ?_
    rotate_left
    · show Act.put _ (some 21) _ = _
      simp only [Act.put, List.setIfInBounds_toArray, List.set_cons_zero, List.set_cons_succ, i64_w, i32_w]
      rfl
    refine pure_ (i := 16) (N := some 22) (v := ?_) (a' := ?_) #[true, true, true, true, true, true, true, true, true, true, true, true, true, true, true, true, true, false, false, false, false, false, false] rfl rfl (by kernel_rfl) (fun _ _ _ h => h) (Or.inl ⟨by rfl, ?_⟩) ?_ ?_
    rotate_left
    · intro w'
      go_simp
      with_reducible rfl
    rotate_left
    · simp only [Act.put, List.setIfInBounds_toArray, List.set_cons_zero, List.set_cons_succ, i64_w, i32_w]
      rfl
    refine one_ (i := 17) (N := some 23) #[true, true, true, true, true, true, true, true, true, true, true, true, true, true, true, true, true, true, false, false, false, false, false] rfl rfl (by kernel_rfl) (by decide) (fun K hK => ?_)
    refine goes_ Try.func62 (by kernel_rfl) rfl #[.agg #[.int .i64 ep, .int .i64 ba, .bool true, .bool true, .string ⟨#[48]⟩]] (by rfl) rfl rfl (by simp only [List.map_toArray, List.map_cons, List.map_nil]; rfl) ?_
    with_reducible refine (HEN.out _).mono ?_
    rintro e w3 ⟨rfl, hbe⟩
    refine ⟨_, rfl, ?_⟩
    have HB := Aside0.mk (HB.out.trans (Dk.B.of hbe (Nat.le_trans hb HB.out.size)))
    have HL := Aside0.mk (HL.out.below hbe)
    have HD := Aside0.mk (HD.out.below hbe)
    clear hbe
    refine hK.out _ _ ⟨HL.out.c0, HL.out.c1, HL.out.c2, HL.out.c3⟩ (fun hHeld => ?_)
    clear hK K
    refine norm_ (a' := ?_) ?_ ?_
    rotate_left
    · show Act.put _ (some 23) _ = _
      simp only [Act.put, List.setIfInBounds_toArray, List.set_cons_zero, List.set_cons_succ, i64_w, i32_w]
      rfl
    refine pure_ (i := 18) (N := some 5) (v := ?_) (a' := ?_) #[true, true, true, true, true, true, true, true, true, true, true, true, true, true, true, true, true, true, true, false, false, false, false] rfl rfl (by kernel_rfl) (fun _ _ _ h => h) (Or.inl ⟨by rfl, ?_⟩) ?_ ?_
    rotate_left
    · intro w'
      go_simp
      with_reducible rfl
    rotate_left
    · simp only [Act.put, List.setIfInBounds_toArray, List.set_cons_zero, List.set_cons_succ, i64_w, i32_w]
      rfl
    refine pure_ (i := 19) (N := some 24) (v := ?_) (a' := ?_) #[true, true, true, true, true, true, true, true, true, true, true, true, true, true, true, true, true, true, true, true, false, false, false] rfl rfl (by kernel_rfl) (fun _ _ _ h => h) (Or.inl ⟨by rfl, ?_⟩) ?_ ?_
    rotate_left
    · intro w'
      go_simp
      with_reducible rfl
    rotate_left
    · simp only [Act.put, List.setIfInBounds_toArray, List.set_cons_zero, List.set_cons_succ, i64_w, i32_w]
      rfl
    refine pure_ (i := 20) (N := some 25) (v := ?_) (a' := ?_) #[true, true, true, true, true, true, true, true, true, true, true, true, true, true, true, true, true, true, true, true, true, false, false] rfl rfl (by kernel_rfl) (fun _ _ _ h => h) (Or.inl ⟨by rfl, ?_⟩) ?_ ?_
    rotate_left
    · intro w'
      go_simp
      with_reducible rfl
    rotate_left
    · simp only [Act.put, List.setIfInBounds_toArray, List.set_cons_zero, List.set_cons_succ, i64_w, i32_w]
      rfl
    refine pure_ (i := 21) (N := some 3) (v := ?_) (a' := ?_) #[true, true, true, true, true, true, true, true, true, true, true, true, true, true, true, true, true, true, true, true, true, true, false] rfl rfl (by kernel_rfl) (fun _ _ _ h => h) (Or.inl ⟨by rfl, ?_⟩) ?_ ?_
    rotate_left
    · intro w'
      go_simp
      with_reducible rfl
    rotate_left
    · simp only [Act.put, List.setIfInBounds_toArray, List.set_cons_zero, List.set_cons_succ, i64_w, i32_w]
      rfl
    refine pure_ (i := 22) (N := some 4) (v := ?_) (a' := ?_) #[true, true, true, true, true, true, true, true, true, true, true, true, true, true, true, true, true, true, true, true, true, true, true] rfl rfl (by kernel_rfl) (fun _ _ _ h => h) (Or.inl ⟨by rfl, ?_⟩) ?_ ?_
    rotate_left
    · intro w'
      go_simp
      with_reducible rfl
    rotate_left
    · simp only [Act.put, List.setIfInBounds_toArray, List.set_cons_zero, List.set_cons_succ, i64_w, i32_w]
      rfl
    refine done_ (by kernel_rfl) ?_
    dsimp only [cubbylaw05_LogRoom.NQ]
    clear hHeld HBK HEN c0 c1 c2 c3
    have c0 := HL.out.c0
    have c1 := HL.out.c1
    go_upto_region 2 with fail
    have HW := Aside0.mk (HW.out w3.drew HD.out.drew)
    have HL := Aside0.mk HL.out.drew
    have HB := Aside0.mk HB.out.drew
    refine cubbylaw05_LogRoom.wp_normal ?_
    refine start_ (n := 12) (S := fun w' => w'.cell? ⟨gl, 0, none⟩ = some (.pointer (some ⟨g, 0, none⟩)) ∧ w'.cell? ⟨gl, 1, none⟩ = some (.int .i64 ep)) (ds := []) #[false, false, false, false, false, false, false, false, false, false, false, false] (by kernel_rfl) rfl rfl ⟨c0, c1⟩ (fun hHeld => ?_)
    refine pure_ (i := 0) (N := some 26) (v := ?_) (a' := ?_) #[true, false, false, false, false, false, false, false, false, false, false, false] rfl rfl (by kernel_rfl) (fun _ _ _ h => h) (Or.inl ⟨by rfl, ?_⟩) ?_ ?_
    rotate_left
    · intro w'
      go_simp
      with_reducible rfl
    rotate_left
    · simp only [Act.put, List.setIfInBounds_toArray, List.set_cons_zero, List.set_cons_succ, i64_w, i32_w]
      rfl
    refine pure_ (i := 1) (N := some 27) (v := ?_) (a' := ?_) #[true, true, false, false, false, false, false, false, false, false, false, false] rfl rfl (by kernel_rfl) (fun _ _ _ h => h) (Or.inl ⟨by rfl, ?_⟩) ?_ ?_
    rotate_left
    · intro w'
      go_simp
      with_reducible rfl
    rotate_left
    · simp only [Act.put, List.setIfInBounds_toArray, List.set_cons_zero, List.set_cons_succ, i64_w, i32_w]
      rfl
    refine pure_ (i := 2) (N := some 28) (v := ?_) (a' := ?_) #[true, true, true, false, false, false, false, false, false, false, false, false] rfl rfl (by kernel_rfl) (fun _ _ _ h => h) (Or.inl ⟨by rfl, ?_⟩) ?_ ?_
    rotate_left
    · intro w'
      go_simp
      with_reducible rfl
    rotate_left
    · simp only [Act.put, List.setIfInBounds_toArray, List.set_cons_zero, List.set_cons_succ, i64_w, i32_w]
      rfl
    refine pure_ (i := 4) (N := some 30) (v := ?_) (a' := ?_) #[true, true, true, false, true, false, false, false, false, false, false, false] rfl rfl (by kernel_rfl) (fun _ _ _ h => h) (Or.inl ⟨by rfl, ?_⟩) ?_ ?_
    rotate_left
    · intro w'
      go_simp
      with_reducible rfl
    rotate_left
    · simp only [Act.put, List.setIfInBounds_toArray, List.set_cons_zero, List.set_cons_succ, i64_w, i32_w]
      rfl
    refine pure_ (i := 5) (N := some 31) (v := ?_) (a' := ?_) #[true, true, true, false, true, true, false, false, false, false, false, false] rfl rfl (by kernel_rfl) (fun _ _ _ h => h) (Or.inl ⟨by rfl, ?_⟩) ?_ ?_
    rotate_left
    · intro w'
      go_simp
      with_reducible rfl
    rotate_left
    · simp only [Act.put, List.setIfInBounds_toArray, List.set_cons_zero, List.set_cons_succ, i64_w, i32_w]
      rfl
    refine pure_ (i := 6) (N := some 32) (v := ?_) (a' := ?_) #[true, true, true, false, true, true, true, false, false, false, false, false] rfl rfl (by kernel_rfl) (fun _ _ _ h => h) (Or.inl ⟨by rfl, ?_⟩) ?_ ?_
    rotate_left
    · intro w'
      go_simp
      with_reducible rfl
    rotate_left
    · simp only [Act.put, List.setIfInBounds_toArray, List.set_cons_zero, List.set_cons_succ, i64_w, i32_w]
      rfl
    refine pure_ (i := 9) (N := some 35) (v := ?_) (a' := ?_) #[true, true, true, false, true, true, true, false, false, true, false, false] rfl rfl (by kernel_rfl) (fun _ _ _ h => h) (Or.inl ⟨by rfl, ?_⟩) ?_ ?_
    rotate_left
    · intro w'
      go_simp
      with_reducible rfl
    rotate_left
    · simp only [Act.put, List.setIfInBounds_toArray, List.set_cons_zero, List.set_cons_succ, i64_w, i32_w]
      rfl
    refine take_ (i := 3) (N := some 29) (v := ?_) (a' := ?_) #[true, true, true, true, true, true, true, false, false, true, false, false] rfl rfl (by kernel_rfl) (fun _ _ _ h => h) (Or.inl ⟨by rfl, ?_⟩) hHeld ?_ ?_
    rotate_left
    · rintro w' ⟨s0, s1⟩
      go_simp
      with_reducible rfl
    rotate_left
    · simp only [Act.put, List.setIfInBounds_toArray, List.set_cons_zero, List.set_cons_succ, i64_w, i32_w]
      rfl
    refine take_ (i := 7) (N := some 33) (v := ?_) (a' := ?_) #[true, true, true, true, true, true, true, true, false, true, false, false] rfl rfl (by kernel_rfl) (fun _ _ _ h => h) (Or.inl ⟨by rfl, ?_⟩) hHeld ?_ ?_
    rotate_left
    · rintro w' ⟨s0, s1⟩
      go_simp
      with_reducible rfl
    rotate_left
    · simp only [Act.put, List.setIfInBounds_toArray, List.set_cons_zero, List.set_cons_succ, i64_w, i32_w]
      rfl
    refine pure_ (i := 8) (N := some 34) (v := ?_) (a' := ?_) #[true, true, true, true, true, true, true, true, true, true, false, false] rfl rfl (by kernel_rfl) (fun _ _ _ h => h) (Or.inl ⟨by rfl, ?_⟩) ?_ ?_
    rotate_left
    · intro w'
      go_simp
      with_reducible rfl
    rotate_left
    · simp only [Act.put, List.setIfInBounds_toArray, List.set_cons_zero, List.set_cons_succ, i64_w, i32_w]
      rfl
    refine one_ (i := 10) (N := some 36) #[true, true, true, true, true, true, true, true, true, true, true, false] rfl rfl (by kernel_rfl) (by decide) (fun K hK => ?_)
    refine goes_ Try.func12 (by kernel_rfl) rfl #[.pointer (some ⟨g, 0, none⟩), .int .i64 (ep.tmod 2), .string bs] (by rfl) rfl rfl (by simp only [List.map_toArray, List.map_cons, List.map_nil]; rfl) ?_
    with_reducible refine (HW.out).mono ?_
    rintro e w5 ⟨rfl, hd5, hb5⟩
    refine ⟨_, rfl, ?_⟩
    have HL := Aside0.mk (HL.out.dk hb5)
    have HB := Aside0.mk (HB.out.trans hb5)
    have HD := Aside0.mk hd5
    clear hb5 hd5
    refine hK.out _ _ ⟨HL.out.c0, HL.out.c1⟩ (fun hHeld => ?_)
    clear hK K
    refine norm_ (a' := ?_) ?_ ?_
    rotate_left
    · show Act.put _ (some 36) _ = _
      simp only [Act.put, List.setIfInBounds_toArray, List.set_cons_zero, List.set_cons_succ, i64_w, i32_w]
      rfl
    refine pure_ (i := 11) (N := some 2) (v := ?_) (a' := ?_) #[true, true, true, true, true, true, true, true, true, true, true, true] rfl rfl (by kernel_rfl) (fun _ _ _ h => h) (Or.inl ⟨by rfl, ?_⟩) ?_ ?_
    rotate_left
    · intro w'
      go_simp
      with_reducible rfl
    rotate_left
    · simp only [Act.put, List.setIfInBounds_toArray, List.set_cons_zero, List.set_cons_succ, i64_w, i32_w]
      rfl
    refine done_ (by kernel_rfl) ?_
    dsimp only [cubbylaw05_LogRoom.NQ]
    clear hHeld c0 c1
    go_wp2_with (fail)
    go_ret
    exact ⟨rfl, HD.out, HL.out, HB.out⟩
  · skip
    have hq : Lg.hb 1 = ⟨#[49]⟩ := rfl
    rw [hq]
    clear hq
    have HEN := Aside0.mk (fun W => cubbylaw05_LogRoom.enc_calls ep ba true true ⟨#[49]⟩ W)
    generalize Lg.encB ep ba true true ⟨#[49]⟩ = bs at HEN ⊢
    have et : ep.tmod 2 = ep % 2 := Int.tmod_eq_emod_of_nonneg hep
    have HW := Aside0.mk (fun (W : World) (hD : Tw.D W base g n s) => cubbylaw05_LogRoom.dWrite s base g n (ep % 2) bs W hD HIN.out hn)
    generalize Dk.writ s (ep % 2) bs = q at HW ⊢
    rw [← et] at HW
    clear et
    go_enter Try.func39, Try.ntmps39
    go_upto_region 1 with fail
    refine cubbylaw05_LogRoom.wp_normal ?_
    have HL := Aside0.mk HL.out.drew
    have HD := Aside0.mk HD.out.drew
    have HB := Aside0.mk HB.out.drew
    refine start_ (n := 23) (S := fun w' => w'.cell? ⟨gl, 0, none⟩ = some (.pointer (some ⟨g, 0, none⟩)) ∧ w'.cell? ⟨gl, 1, none⟩ = some (.int .i64 ep) ∧ w'.cell? ⟨gl, 2, none⟩ = some (.int .i64 ba) ∧ w'.cell? ⟨gl, 3, none⟩ = some (.int .i64 1)) (ds := []) #[false, false, false, false, false, false, false, false, false, false, false, false, false, false, false, false, false, false, false, false, false, false, false] (by kernel_rfl) rfl rfl ⟨HL.out.c0, HL.out.c1, HL.out.c2, HL.out.c3⟩ (fun hHeld => ?_)
    refine pure_ (i := 0) (N := some 6) (v := ?_) (a' := ?_) #[true, false, false, false, false, false, false, false, false, false, false, false, false, false, false, false, false, false, false, false, false, false, false] rfl rfl (by kernel_rfl) (fun _ _ _ h => h) (Or.inl ⟨by rfl, ?_⟩) ?_ ?_
    rotate_left
    · intro w'
      go_simp
      with_reducible rfl
    rotate_left
    · simp only [Act.put, List.setIfInBounds_toArray, List.set_cons_zero, List.set_cons_succ, i64_w, i32_w]
      rfl
    refine pure_ (i := 1) (N := some 7) (v := ?_) (a' := ?_) #[true, true, false, false, false, false, false, false, false, false, false, false, false, false, false, false, false, false, false, false, false, false, false] rfl rfl (by kernel_rfl) (fun _ _ _ h => h) (Or.inl ⟨by rfl, ?_⟩) ?_ ?_
    rotate_left
    · intro w'
      go_simp
      with_reducible rfl
    rotate_left
    · simp only [Act.put, List.setIfInBounds_toArray, List.set_cons_zero, List.set_cons_succ, i64_w, i32_w]
      rfl
    refine pure_ (i := 2) (N := some 8) (v := ?_) (a' := ?_) #[true, true, true, false, false, false, false, false, false, false, false, false, false, false, false, false, false, false, false, false, false, false, false] rfl rfl (by kernel_rfl) (fun _ _ _ h => h) (Or.inl ⟨by rfl, ?_⟩) ?_ ?_
    rotate_left
    · intro w'
      go_simp
      with_reducible rfl
    rotate_left
    · simp only [Act.put, List.setIfInBounds_toArray, List.set_cons_zero, List.set_cons_succ, i64_w, i32_w]
      rfl
    refine pure_ (i := 4) (N := some 10) (v := ?_) (a' := ?_) #[true, true, true, false, true, false, false, false, false, false, false, false, false, false, false, false, false, false, false, false, false, false, false] rfl rfl (by kernel_rfl) (fun _ _ _ h => h) (Or.inl ⟨by rfl, ?_⟩) ?_ ?_
    rotate_left
    · intro w'
      go_simp
      with_reducible rfl
    rotate_left
    · simp only [Act.put, List.setIfInBounds_toArray, List.set_cons_zero, List.set_cons_succ, i64_w, i32_w]
      rfl
    refine pure_ (i := 5) (N := some 11) (v := ?_) (a' := ?_) #[true, true, true, false, true, true, false, false, false, false, false, false, false, false, false, false, false, false, false, false, false, false, false] rfl rfl (by kernel_rfl) (fun _ _ _ h => h) (Or.inl ⟨by rfl, ?_⟩) ?_ ?_
    rotate_left
    · intro w'
      go_simp
      with_reducible rfl
    rotate_left
    · simp only [Act.put, List.setIfInBounds_toArray, List.set_cons_zero, List.set_cons_succ, i64_w, i32_w]
      rfl
    refine pure_ (i := 6) (N := some 12) (v := ?_) (a' := ?_) #[true, true, true, false, true, true, true, false, false, false, false, false, false, false, false, false, false, false, false, false, false, false, false] rfl rfl (by kernel_rfl) (fun _ _ _ h => h) (Or.inl ⟨by rfl, ?_⟩) ?_ ?_
    rotate_left
    · intro w'
      go_simp
      with_reducible rfl
    rotate_left
    · simp only [Act.put, List.setIfInBounds_toArray, List.set_cons_zero, List.set_cons_succ, i64_w, i32_w]
      rfl
    refine pure_ (i := 8) (N := some 14) (v := ?_) (a' := ?_) #[true, true, true, false, true, true, true, false, true, false, false, false, false, false, false, false, false, false, false, false, false, false, false] rfl rfl (by kernel_rfl) (fun _ _ _ h => h) (Or.inl ⟨by rfl, ?_⟩) ?_ ?_
    rotate_left
    · intro w'
      go_simp
      with_reducible rfl
    rotate_left
    · simp only [Act.put, List.setIfInBounds_toArray, List.set_cons_zero, List.set_cons_succ, i64_w, i32_w]
      rfl
    refine pure_ (i := 9) (N := some 15) (v := ?_) (a' := ?_) #[true, true, true, false, true, true, true, false, true, true, false, false, false, false, false, false, false, false, false, false, false, false, false] rfl rfl (by kernel_rfl) (fun _ _ _ h => h) (Or.inl ⟨by rfl, ?_⟩) ?_ ?_
    rotate_left
    · intro w'
      go_simp
      with_reducible rfl
    rotate_left
    · simp only [Act.put, List.setIfInBounds_toArray, List.set_cons_zero, List.set_cons_succ, i64_w, i32_w]
      rfl
    refine pure_ (i := 10) (N := some 16) (v := ?_) (a' := ?_) #[true, true, true, false, true, true, true, false, true, true, true, false, false, false, false, false, false, false, false, false, false, false, false] rfl rfl (by kernel_rfl) (fun _ _ _ h => h) (Or.inl ⟨by rfl, ?_⟩) ?_ ?_
    rotate_left
    · intro w'
      go_simp
      with_reducible rfl
    rotate_left
    · simp only [Act.put, List.setIfInBounds_toArray, List.set_cons_zero, List.set_cons_succ, i64_w, i32_w]
      rfl
    refine take_ (i := 3) (N := some 9) (v := ?_) (a' := ?_) #[true, true, true, true, true, true, true, false, true, true, true, false, false, false, false, false, false, false, false, false, false, false, false] rfl rfl (by kernel_rfl) (fun _ _ _ h => h) (Or.inl ⟨by rfl, ?_⟩) hHeld ?_ ?_
    rotate_left
    · rintro w' ⟨s0, s1, s2, s3⟩
      go_simp
      with_reducible rfl
    rotate_left
    · simp only [Act.put, List.setIfInBounds_toArray, List.set_cons_zero, List.set_cons_succ, i64_w, i32_w]
      rfl
    refine take_ (i := 7) (N := some 13) (v := ?_) (a' := ?_) #[true, true, true, true, true, true, true, true, true, true, true, false, false, false, false, false, false, false, false, false, false, false, false] rfl rfl (by kernel_rfl) (fun _ _ _ h => h) (Or.inl ⟨by rfl, ?_⟩) hHeld ?_ ?_
    rotate_left
    · rintro w' ⟨s0, s1, s2, s3⟩
      go_simp
      with_reducible rfl
    rotate_left
    · simp only [Act.put, List.setIfInBounds_toArray, List.set_cons_zero, List.set_cons_succ, i64_w, i32_w]
      rfl
    refine take_ (i := 11) (N := some 17) (v := ?_) (a' := ?_) #[true, true, true, true, true, true, true, true, true, true, true, true, false, false, false, false, false, false, false, false, false, false, false] rfl rfl (by kernel_rfl) (fun _ _ _ h => h) (Or.inl ⟨by rfl, ?_⟩) hHeld ?_ ?_
    rotate_left
    · rintro w' ⟨s0, s1, s2, s3⟩
      go_simp
      with_reducible rfl
    rotate_left
    · simp only [Act.put, List.setIfInBounds_toArray, List.set_cons_zero, List.set_cons_succ, i64_w, i32_w]
      rfl
    refine pure_ (i := 12) (N := some 18) (v := ?_) (a' := ?_) #[true, true, true, true, true, true, true, true, true, true, true, true, true, false, false, false, false, false, false, false, false, false, false] rfl rfl (by kernel_rfl) (fun _ _ _ h => h) (Or.inl ⟨by rfl, ?_⟩) ?_ ?_
    rotate_left
    · intro w'
      go_simp
      with_reducible rfl
    rotate_left
    · simp only [Act.put, List.setIfInBounds_toArray, List.set_cons_zero, List.set_cons_succ, i64_w, i32_w]
      rfl
    refine pure_ (i := 13) (N := some 19) (v := ?_) (a' := ?_) #[true, true, true, true, true, true, true, true, true, true, true, true, true, true, false, false, false, false, false, false, false, false, false] rfl rfl (by kernel_rfl) (fun _ _ _ h => h) (Or.inl ⟨by rfl, ?_⟩) ?_ ?_
    rotate_left
    · intro w'
      go_simp
      with_reducible rfl
    rotate_left
    · simp only [Act.put, List.setIfInBounds_toArray, List.set_cons_zero, List.set_cons_succ, i64_w, i32_w]
      rfl
    refine one_ (i := 14) (N := some 20) #[true, true, true, true, true, true, true, true, true, true, true, true, true, true, true, false, false, false, false, false, false, false, false] rfl rfl (by kernel_rfl) (by decide) (fun K hK => ?_)
    refine value_ (w1 := ?_) (v := ?_) (by rfl) rfl ?_ ?_
    rotate_left 2
    · go_simp
      constructor
      · rfl
      · rfl
    have HBK := Aside0.mk (Hw.blk_nw w.drew (.cells #[.int .u8 (IntKind.u8.wrap (wrap64 49))] 5))
    have hbe := (Below.refl w.drew.heap.size w.drew).alloc (Nat.le_refl _) (.cells #[.int .u8 (IntKind.u8.wrap (wrap64 49))] 5)
    have HB := Aside0.mk (HB.out.trans (Dk.B.of hbe (Nat.le_trans hb HB.out.size)))
    have HL := Aside0.mk (HL.out.below hbe)
    have HD := Aside0.mk (HD.out.below hbe)
    clear hbe
    refine hK.out _ _ ⟨HL.out.c0, HL.out.c1, HL.out.c2, HL.out.c3⟩ (fun hHeld => ?_)
    clear hK K
    refine norm_ (a' := ?_) ?_ ?_
    rotate_left
    · show Act.put _ (some 20) _ = _
      simp only [Act.put, List.setIfInBounds_toArray, List.set_cons_zero, List.set_cons_succ, i64_w, i32_w]
      rfl
    refine one_ (i := 15) (N := some 21) #[true, true, true, true, true, true, true, true, true, true, true, true, true, true, true, true, false, false, false, false, false, false, false] rfl rfl (by kernel_rfl) (by decide) (fun K hK => ?_)
    refine value_ (w1 := w.drew.alloc (.cells #[.int .u8 (IntKind.u8.wrap (wrap64 49))] 5)) (v := .string ⟨#[49]⟩) (by rfl) rfl ?_ ?_
    · go_simp
      have hcv := cubbylaw05_LogRoom.conv 49 (IntKind.u8.wrap (wrap64 49)) (by kernel_rfl) w.heap.size ((w.alloc (.cells #[.int .u8 (IntKind.u8.wrap (wrap64 49))] 5)).drew) HBK.out
      rw [hcv]
      rfl
    refine hK.out _ _ ⟨HL.out.c0, HL.out.c1, HL.out.c2, HL.out.c3⟩ (fun hHeld => ?_)
    clear hK K
    refine norm_ (a' := ?_) ?_ ?_
    rotate_left
    · show Act.put _ (some 21) _ = _
      simp only [Act.put, List.setIfInBounds_toArray, List.set_cons_zero, List.set_cons_succ, i64_w, i32_w]
      rfl
    refine pure_ (i := 16) (N := some 22) (v := ?_) (a' := ?_) #[true, true, true, true, true, true, true, true, true, true, true, true, true, true, true, true, true, false, false, false, false, false, false] rfl rfl (by kernel_rfl) (fun _ _ _ h => h) (Or.inl ⟨by rfl, ?_⟩) ?_ ?_
    rotate_left
    · intro w'
      go_simp
      with_reducible rfl
    rotate_left
    · simp only [Act.put, List.setIfInBounds_toArray, List.set_cons_zero, List.set_cons_succ, i64_w, i32_w]
      rfl
    refine one_ (i := 17) (N := some 23) #[true, true, true, true, true, true, true, true, true, true, true, true, true, true, true, true, true, true, false, false, false, false, false] rfl rfl (by kernel_rfl) (by decide) (fun K hK => ?_)
    refine goes_ Try.func62 (by kernel_rfl) rfl #[.agg #[.int .i64 ep, .int .i64 ba, .bool true, .bool true, .string ⟨#[49]⟩]] (by rfl) rfl rfl (by simp only [List.map_toArray, List.map_cons, List.map_nil]; rfl) ?_
    with_reducible refine (HEN.out _).mono ?_
    rintro e w3 ⟨rfl, hbe⟩
    refine ⟨_, rfl, ?_⟩
    have HB := Aside0.mk (HB.out.trans (Dk.B.of hbe (Nat.le_trans hb HB.out.size)))
    have HL := Aside0.mk (HL.out.below hbe)
    have HD := Aside0.mk (HD.out.below hbe)
    clear hbe
    refine hK.out _ _ ⟨HL.out.c0, HL.out.c1, HL.out.c2, HL.out.c3⟩ (fun hHeld => ?_)
    clear hK K
    refine norm_ (a' := ?_) ?_ ?_
    rotate_left
    · show Act.put _ (some 23) _ = _
      simp only [Act.put, List.setIfInBounds_toArray, List.set_cons_zero, List.set_cons_succ, i64_w, i32_w]
      rfl
    refine pure_ (i := 18) (N := some 5) (v := ?_) (a' := ?_) #[true, true, true, true, true, true, true, true, true, true, true, true, true, true, true, true, true, true, true, false, false, false, false] rfl rfl (by kernel_rfl) (fun _ _ _ h => h) (Or.inl ⟨by rfl, ?_⟩) ?_ ?_
    rotate_left
    · intro w'
      go_simp
      with_reducible rfl
    rotate_left
    · simp only [Act.put, List.setIfInBounds_toArray, List.set_cons_zero, List.set_cons_succ, i64_w, i32_w]
      rfl
    refine pure_ (i := 19) (N := some 24) (v := ?_) (a' := ?_) #[true, true, true, true, true, true, true, true, true, true, true, true, true, true, true, true, true, true, true, true, false, false, false] rfl rfl (by kernel_rfl) (fun _ _ _ h => h) (Or.inl ⟨by rfl, ?_⟩) ?_ ?_
    rotate_left
    · intro w'
      go_simp
      with_reducible rfl
    rotate_left
    · simp only [Act.put, List.setIfInBounds_toArray, List.set_cons_zero, List.set_cons_succ, i64_w, i32_w]
      rfl
    refine pure_ (i := 20) (N := some 25) (v := ?_) (a' := ?_) #[true, true, true, true, true, true, true, true, true, true, true, true, true, true, true, true, true, true, true, true, true, false, false] rfl rfl (by kernel_rfl) (fun _ _ _ h => h) (Or.inl ⟨by rfl, ?_⟩) ?_ ?_
    rotate_left
    · intro w'
      go_simp
      with_reducible rfl
    rotate_left
    · simp only [Act.put, List.setIfInBounds_toArray, List.set_cons_zero, List.set_cons_succ, i64_w, i32_w]
      rfl
    refine pure_ (i := 21) (N := some 3) (v := ?_) (a' := ?_) #[true, true, true, true, true, true, true, true, true, true, true, true, true, true, true, true, true, true, true, true, true, true, false] rfl rfl (by kernel_rfl) (fun _ _ _ h => h) (Or.inl ⟨by rfl, ?_⟩) ?_ ?_
    rotate_left
    · intro w'
      go_simp
      with_reducible rfl
    rotate_left
    · simp only [Act.put, List.setIfInBounds_toArray, List.set_cons_zero, List.set_cons_succ, i64_w, i32_w]
      rfl
    refine pure_ (i := 22) (N := some 4) (v := ?_) (a' := ?_) #[true, true, true, true, true, true, true, true, true, true, true, true, true, true, true, true, true, true, true, true, true, true, true] rfl rfl (by kernel_rfl) (fun _ _ _ h => h) (Or.inl ⟨by rfl, ?_⟩) ?_ ?_
    rotate_left
    · intro w'
      go_simp
      with_reducible rfl
    rotate_left
    · simp only [Act.put, List.setIfInBounds_toArray, List.set_cons_zero, List.set_cons_succ, i64_w, i32_w]
      rfl
    refine done_ (by kernel_rfl) ?_
    dsimp only [cubbylaw05_LogRoom.NQ]
    clear hHeld HBK HEN c0 c1 c2 c3
    have c0 := HL.out.c0
    have c1 := HL.out.c1
    go_upto_region 2 with fail
    have HW := Aside0.mk (HW.out w3.drew HD.out.drew)
    have HL := Aside0.mk HL.out.drew
    have HB := Aside0.mk HB.out.drew
    refine cubbylaw05_LogRoom.wp_normal ?_
    refine start_ (n := 12) (S := fun w' => w'.cell? ⟨gl, 0, none⟩ = some (.pointer (some ⟨g, 0, none⟩)) ∧ w'.cell? ⟨gl, 1, none⟩ = some (.int .i64 ep)) (ds := []) #[false, false, false, false, false, false, false, false, false, false, false, false] (by kernel_rfl) rfl rfl ⟨c0, c1⟩ (fun hHeld => ?_)
    refine pure_ (i := 0) (N := some 26) (v := ?_) (a' := ?_) #[true, false, false, false, false, false, false, false, false, false, false, false] rfl rfl (by kernel_rfl) (fun _ _ _ h => h) (Or.inl ⟨by rfl, ?_⟩) ?_ ?_
    rotate_left
    · intro w'
      go_simp
      with_reducible rfl
    rotate_left
    · simp only [Act.put, List.setIfInBounds_toArray, List.set_cons_zero, List.set_cons_succ, i64_w, i32_w]
      rfl
    refine pure_ (i := 1) (N := some 27) (v := ?_) (a' := ?_) #[true, true, false, false, false, false, false, false, false, false, false, false] rfl rfl (by kernel_rfl) (fun _ _ _ h => h) (Or.inl ⟨by rfl, ?_⟩) ?_ ?_
    rotate_left
    · intro w'
      go_simp
      with_reducible rfl
    rotate_left
    · simp only [Act.put, List.setIfInBounds_toArray, List.set_cons_zero, List.set_cons_succ, i64_w, i32_w]
      rfl
    refine pure_ (i := 2) (N := some 28) (v := ?_) (a' := ?_) #[true, true, true, false, false, false, false, false, false, false, false, false] rfl rfl (by kernel_rfl) (fun _ _ _ h => h) (Or.inl ⟨by rfl, ?_⟩) ?_ ?_
    rotate_left
    · intro w'
      go_simp
      with_reducible rfl
    rotate_left
    · simp only [Act.put, List.setIfInBounds_toArray, List.set_cons_zero, List.set_cons_succ, i64_w, i32_w]
      rfl
    refine pure_ (i := 4) (N := some 30) (v := ?_) (a' := ?_) #[true, true, true, false, true, false, false, false, false, false, false, false] rfl rfl (by kernel_rfl) (fun _ _ _ h => h) (Or.inl ⟨by rfl, ?_⟩) ?_ ?_
    rotate_left
    · intro w'
      go_simp
      with_reducible rfl
    rotate_left
    · simp only [Act.put, List.setIfInBounds_toArray, List.set_cons_zero, List.set_cons_succ, i64_w, i32_w]
      rfl
    refine pure_ (i := 5) (N := some 31) (v := ?_) (a' := ?_) #[true, true, true, false, true, true, false, false, false, false, false, false] rfl rfl (by kernel_rfl) (fun _ _ _ h => h) (Or.inl ⟨by rfl, ?_⟩) ?_ ?_
    rotate_left
    · intro w'
      go_simp
      with_reducible rfl
    rotate_left
    · simp only [Act.put, List.setIfInBounds_toArray, List.set_cons_zero, List.set_cons_succ, i64_w, i32_w]
      rfl
    refine pure_ (i := 6) (N := some 32) (v := ?_) (a' := ?_) #[true, true, true, false, true, true, true, false, false, false, false, false] rfl rfl (by kernel_rfl) (fun _ _ _ h => h) (Or.inl ⟨by rfl, ?_⟩) ?_ ?_
    rotate_left
    · intro w'
      go_simp
      with_reducible rfl
    rotate_left
    · simp only [Act.put, List.setIfInBounds_toArray, List.set_cons_zero, List.set_cons_succ, i64_w, i32_w]
      rfl
    refine pure_ (i := 9) (N := some 35) (v := ?_) (a' := ?_) #[true, true, true, false, true, true, true, false, false, true, false, false] rfl rfl (by kernel_rfl) (fun _ _ _ h => h) (Or.inl ⟨by rfl, ?_⟩) ?_ ?_
    rotate_left
    · intro w'
      go_simp
      with_reducible rfl
    rotate_left
    · simp only [Act.put, List.setIfInBounds_toArray, List.set_cons_zero, List.set_cons_succ, i64_w, i32_w]
      rfl
    refine take_ (i := 3) (N := some 29) (v := ?_) (a' := ?_) #[true, true, true, true, true, true, true, false, false, true, false, false] rfl rfl (by kernel_rfl) (fun _ _ _ h => h) (Or.inl ⟨by rfl, ?_⟩) hHeld ?_ ?_
    rotate_left
    · rintro w' ⟨s0, s1⟩
      go_simp
      with_reducible rfl
    rotate_left
    · simp only [Act.put, List.setIfInBounds_toArray, List.set_cons_zero, List.set_cons_succ, i64_w, i32_w]
      rfl
    refine take_ (i := 7) (N := some 33) (v := ?_) (a' := ?_) #[true, true, true, true, true, true, true, true, false, true, false, false] rfl rfl (by kernel_rfl) (fun _ _ _ h => h) (Or.inl ⟨by rfl, ?_⟩) hHeld ?_ ?_
    rotate_left
    · rintro w' ⟨s0, s1⟩
      go_simp
      with_reducible rfl
    rotate_left
    · simp only [Act.put, List.setIfInBounds_toArray, List.set_cons_zero, List.set_cons_succ, i64_w, i32_w]
      rfl
    refine pure_ (i := 8) (N := some 34) (v := ?_) (a' := ?_) #[true, true, true, true, true, true, true, true, true, true, false, false] rfl rfl (by kernel_rfl) (fun _ _ _ h => h) (Or.inl ⟨by rfl, ?_⟩) ?_ ?_
    rotate_left
    · intro w'
      go_simp
      with_reducible rfl
    rotate_left
    · simp only [Act.put, List.setIfInBounds_toArray, List.set_cons_zero, List.set_cons_succ, i64_w, i32_w]
      rfl
    refine one_ (i := 10) (N := some 36) #[true, true, true, true, true, true, true, true, true, true, true, false] rfl rfl (by kernel_rfl) (by decide) (fun K hK => ?_)
    refine goes_ Try.func12 (by kernel_rfl) rfl #[.pointer (some ⟨g, 0, none⟩), .int .i64 (ep.tmod 2), .string bs] (by rfl) rfl rfl (by simp only [List.map_toArray, List.map_cons, List.map_nil]; rfl) ?_
    with_reducible refine (HW.out).mono ?_
    rintro e w5 ⟨rfl, hd5, hb5⟩
    refine ⟨_, rfl, ?_⟩
    have HL := Aside0.mk (HL.out.dk hb5)
    have HB := Aside0.mk (HB.out.trans hb5)
    have HD := Aside0.mk hd5
    clear hb5 hd5
    refine hK.out _ _ ⟨HL.out.c0, HL.out.c1⟩ (fun hHeld => ?_)
    clear hK K
    refine norm_ (a' := ?_) ?_ ?_
    rotate_left
    · show Act.put _ (some 36) _ = _
      simp only [Act.put, List.setIfInBounds_toArray, List.set_cons_zero, List.set_cons_succ, i64_w, i32_w]
      rfl
    refine pure_ (i := 11) (N := some 2) (v := ?_) (a' := ?_) #[true, true, true, true, true, true, true, true, true, true, true, true] rfl rfl (by kernel_rfl) (fun _ _ _ h => h) (Or.inl ⟨by rfl, ?_⟩) ?_ ?_
    rotate_left
    · intro w'
      go_simp
      with_reducible rfl
    rotate_left
    · simp only [Act.put, List.setIfInBounds_toArray, List.set_cons_zero, List.set_cons_succ, i64_w, i32_w]
      rfl
    refine done_ (by kernel_rfl) ?_
    dsimp only [cubbylaw05_LogRoom.NQ]
    clear hHeld c0 c1
    go_wp2_with (fail)
    go_ret
    exact ⟨rfl, HD.out, HL.out, HB.out⟩
theorem cubbylaw05_LogRoom.open_calls (base g n : Nat) (s : Dk.S) (w : World) (hd : Tw.D w base g n s) (hin : Dk.In s) (hm : s.many ≤ 80000) (hn : n ≤ 1000000) (hb : base ≤ w.heap.size) :
    Calls Try.prog 14 #[.pointer (some ⟨g, 0, none⟩)] w (log_Open.Post s base g (n + 1) w (Lg.openL s)) :=
  log_Open.walk base g n s w hd hin hb (fun gl l W hL hD hh he hbW => cubbylaw05_LogRoom.head_calls base gl g n l s W hL hD hin hn hh he hbW)
    (fun l W hD => cubbylaw05_LogRoom.dBarrier (Lg.head s l).1 base g (n + 1) W hD (Tw.writ_in s hin hm _ _).1)
/- a disk that works -/
def cubbylaw05_LogRoom.Ok (s : Dk.S) : Prop := s.off = false ∧ s.cut = 0 ∧ s.fail = 0
theorem cubbylaw05_LogRoom.writ_ok (s : Dk.S) (i : Int) (x : ByteArray) (h : cubbylaw05_LogRoom.Ok s) (hi : 0 ≤ i ∧ i < 256) (hx : x.size ≤ 128) : (Dk.writ s i x).2 = 0 ∧ cubbylaw05_LogRoom.Ok (Dk.writ s i x).1 := by
  obtain ⟨h1, h2, h3⟩ := h
  unfold Dk.writ
  rw [if_neg (by rw [h1]; decide), if_neg (by omega), if_neg (by omega), if_neg (by rw [h3]; simp), if_neg (by rw [h2]; decide)]
  refine ⟨rfl, ?_⟩
  have e1 : (Dk.tick s).off = false := h1
  have e2 : (Dk.tick s).cut = 0 := by show Dk.dn s.cut = 0; rw [h2]; rfl
  have e3 : (Dk.tick s).fail = 0 := by show Dk.dn s.fail = 0; rw [h3]; rfl
  unfold Dk.putS
  split
  · exact ⟨e1, e2, e3⟩
  · exact ⟨e1, e2, e3⟩
theorem cubbylaw05_LogRoom.barr_ok (s : Dk.S) (h : cubbylaw05_LogRoom.Ok s) : (Dk.barr s).2 = 0 ∧ cubbylaw05_LogRoom.Ok (Dk.barr s).1 := by
  obtain ⟨h1, h2, h3⟩ := h
  unfold Dk.barr
  rw [if_neg (by rw [h1]; decide), if_neg (by rw [h2]; decide), if_neg (by rw [h3]; decide)]
  refine ⟨rfl, h1, ?_, ?_⟩
  · show Dk.dn s.cut = 0
    rw [h2]
    rfl
  · show Dk.dn s.fail = 0
    rw [h3]
    rfl
theorem cubbylaw05_LogRoom.enc_size (e q : Int) (a b : Bool) (d : ByteArray) (he : 0 ≤ e ∧ e ≤ 1099511627776) (hq : 0 ≤ q ∧ q ≤ 1099511627776) (hd : d.size ≤ 96) : (Lg.encB e q a b d).size ≤ 128 := by
  obtain ⟨n, rfl⟩ : ∃ n : Nat, e = (n : Int) := ⟨e.toNat, by omega⟩
  obtain ⟨m, rfl⟩ : ∃ m : Nat, q = (m : Int) := ⟨q.toNat, by omega⟩
  have h := (Lg.body_len2 n m a b d (by omega) (by omega) hd).1
  unfold Lg.encB Lg.encd
  rw [if_neg (by omega), if_neg (by omega), Lg.bs_size, List.length_append]
  have h4 : (Lg.tl ⟨(Lg.body (n : Int) (m : Int) a b d).toArray⟩).length = 4 := rfl
  omega
theorem cubbylaw05_LogRoom.puts_ok (half : Int) (hh : half = 0 ∨ half = 1) : ∀ (cks : List Lg.K5) (s : Dk.S), cubbylaw05_LogRoom.Ok s → (∀ c ∈ cks, (0 ≤ c.1 ∧ c.1 ≤ 1099511627776) ∧ (0 ≤ c.2.1 ∧ c.2.1 < 127) ∧ c.2.2.2.2.size ≤ 96) → (Lg.puts half s cks).2 = 0 ∧ cubbylaw05_LogRoom.Ok (Lg.puts half s cks).1
  | [], s, h, _ => cubbylaw05_LogRoom.barr_ok s h
  | c :: r, s, h, hc => by
    obtain ⟨h1, h2, h3⟩ := hc c List.mem_cons_self
    have hw := cubbylaw05_LogRoom.writ_ok s (2 + half * 127 + c.2.1) (Lg.encB c.1 c.2.1 c.2.2.1 c.2.2.2.1 c.2.2.2.2) h (by omega) (cubbylaw05_LogRoom.enc_size _ _ _ _ _ h1 (by omega) h3)
    rw [log_Log_write.puts_cons, if_neg (fun q => q hw.1)]
    exact cubbylaw05_LogRoom.puts_ok half hh r _ hw.2 (fun x hx => hc x (List.mem_cons_of_mem _ hx))
theorem cubbylaw05_LogRoom.puts_in (half : Int) : ∀ (cks : List Lg.K5) (s : Dk.S), Dk.In s → s.many + (cks.length : Int) ≤ 79000 → Dk.In (Lg.puts half s cks).1 ∧ (Lg.puts half s cks).1.many ≤ s.many + (cks.length : Int) + 1
  | [], s, h, hm => by
    have e := Tw.barr_in s h (by simp at hm; omega)
    exact ⟨e.1, by rw [List.length_nil]; show (Dk.barr s).1.many ≤ _; have := e.2; omega⟩
  | c :: r, s, h, hm => by
    rw [List.length_cons] at hm ⊢
    have hw := Tw.writ_in s h (by omega) (2 + half * 127 + c.2.1) (Lg.encB c.1 c.2.1 c.2.2.1 c.2.2.2.1 c.2.2.2.2)
    rw [log_Log_write.puts_cons]
    split
    · exact ⟨hw.1, by omega⟩
    · have := cubbylaw05_LogRoom.puts_in half r _ hw.1 (by omega)
      exact ⟨this.1, by omega⟩
/-- A new disk is opened. -/
theorem cubbylaw05_LogRoom.sc0 (i : Nat) : Lg.sc Dk.S0 i = Lg.bad := by
  have e : Dk.S0.sec.getD i ⟨#[]⟩ = ⟨#[]⟩ := by
    show (List.replicate 256 (⟨#[]⟩ : ByteArray)).getD i ⟨#[]⟩ = ⟨#[]⟩
    rw [List.getD_eq_getElem?_getD]
    by_cases h : i < 256
    · rw [List.getElem?_replicate_of_lt h]
      rfl
    · rw [List.getElem?_eq_none (by rw [List.length_replicate]; omega)]
      rfl
  unfold Lg.sc
  rw [e]
  rfl
theorem cubbylaw05_LogRoom.heads0 : Lg.heads Dk.S0 Lg.L0 = Lg.L0 := by
  unfold Lg.heads
  rw [cubbylaw05_LogRoom.sc0, cubbylaw05_LogRoom.sc0]
  rfl
theorem cubbylaw05_LogRoom.scan0 : Lg.scanL Dk.S0 Lg.L0 = ([], 0) := by
  unfold Lg.scanL
  have e : Lg.hs Dk.S0 Lg.L0.half 0 = Lg.bad := cubbylaw05_LogRoom.sc0 _
  show Lg.scan Lg.L0.epoch (Lg.hs Dk.S0 Lg.L0.half) (126 + 1) 0 [] [] Lg.L0.base true Lg.L0.next = _
  rw [log_Log_scan.scan_succ, e]
  rfl
theorem cubbylaw05_LogRoom.open0 : ∃ s1, Lg.openL Dk.S0 = (s1, ⟨1, 0, 0, 0, 0⟩, [], 0) ∧ cubbylaw05_LogRoom.Ok s1 ∧ Dk.In s1 ∧ s1.many ≤ 2 := by
  have h0 : cubbylaw05_LogRoom.Ok Dk.S0 := ⟨rfl, rfl, rfl⟩
  have hw := cubbylaw05_LogRoom.writ_ok Dk.S0 (1 % 2) (Lg.encB 1 0 true true (Lg.hb 0)) h0 (by decide) (cubbylaw05_LogRoom.enc_size _ _ _ _ _ (by decide) (by decide) (by decide))
  have hi := Tw.writ_in Dk.S0 Tw.S0_in (by decide) (1 % 2) (Lg.encB 1 0 true true (Lg.hb 0))
  have hb := cubbylaw05_LogRoom.barr_ok _ hw.2
  have hbi := Tw.barr_in _ hi.1 (by have := hi.2; have e : Dk.S0.many = 0 := rfl; omega)
  have hh : Lg.head Dk.S0 ⟨1, 0, 0, 0, 0⟩ = Dk.writ Dk.S0 (1 % 2) (Lg.encB 1 0 true true (Lg.hb 0)) := rfl
  refine ⟨(Dk.barr (Dk.writ Dk.S0 (1 % 2) (Lg.encB 1 0 true true (Lg.hb 0))).1).1, ?_, hb.2, hbi.1, by have := hbi.2; have := hi.2; have e : Dk.S0.many = 0 := rfl; omega⟩
  unfold Lg.openL
  rw [if_neg (by decide), cubbylaw05_LogRoom.heads0]
  simp only [cubbylaw05_LogRoom.scan0]
  show (if (1099511627776 : Int) ≤ 0 then _ else if (Lg.head Dk.S0 ⟨1, 0, 0, 0, 0⟩).2 ≠ 0 then _ else if (Dk.barr (Lg.head Dk.S0 ⟨1, 0, 0, 0, 0⟩).1).2 ≠ 0 then _ else _) = _
  rw [if_neg (by decide), hh, if_neg (fun q => q hw.1), if_neg (fun q => q hb.1)]
  have eL : ({ epoch := Lg.L0.epoch + 1, base := Lg.L0.base, half := Lg.L0.half, next := 0, err := Lg.L0.err } : Lg.L) = ⟨1, 0, 0, 0, 0⟩ := rfl
  rw [eL, hh]
theorem cubbylaw05_LogRoom.pcs_le (n : Nat) : ∀ s : ByteArray, s.size ≤ n → ∀ x ∈ Ct.pcs s, x.size ≤ 96 := by
  induction n using Nat.strongRecOn with
  | _ n ih =>
    intro s hs x hx
    by_cases h : 96 < s.size
    · rw [Ct.pcs_hi s h] at hx
      rcases List.mem_cons.1 hx with rfl | hx
      · rw [ByteArray.size_extract]
        omega
      · exact ih (n - 96) (by omega) (s.extract 96 s.size) (by rw [ByteArray.size_extract]; omega) x hx
    · rw [Ct.pcs_lo s h] at hx
      rw [List.mem_singleton.1 hx]
      omega
/-- One record's chunks, as chunks prints them. -/
theorem cubbylaw05_LogRoom.ch_l1 (x1 x2 x3 : Int) (ps x16 : List ByteArray) (x17 x18 : Int) (hp : ps.length ≤ 100000) (h2 : 0 ≤ x2 ∧ x2 ≤ 1000) (h3 : x3 ≤ 1000) : ∀ (d j : Nat) (out : List S25) (k : Nat), j + d = ps.length → (out.length : Int) ≤ x3 →
    ((d : Int) ≤ x3 - out.length → ∃ cks : List S25, log_chunks.l1 (k + d + 1) x1 x2 x3 out ps x16 x17 x18 ps (ps.length : Int) (j : Int) = log_chunks.l0 k x1 x2 x3 cks x16 x17 (wrap64 (x18 + 1)) ∧ cks.length = out.length + d ∧ ∀ x ∈ cks, x ∈ out ∨ (x.f0 = x1 ∧ x2 ≤ x.f1 ∧ x.f1 < x2 + (out.length : Int) + d ∧ x.f4 ∈ ps)) ∧
    (x3 - out.length < (d : Int) → log_chunks.l1 (k + d + 1) x1 x2 x3 out ps x16 x17 x18 ps (ps.length : Int) (j : Int) = some ([], false))
  | 0, j, out, k, hj, ho => by
    refine ⟨fun _ => ⟨out, ?_, rfl, fun x hx => .inl hx⟩, fun h => by omega⟩
    show log_chunks.l1 (k + 1) _ _ _ _ _ _ _ _ _ _ _ = _
    rw [log_chunks.l1, if_neg (by omega)]
  | d + 1, j, out, k, hj, ho => by
    have hstep : log_chunks.l1 (k + (d + 1) + 1) x1 x2 x3 out ps x16 x17 x18 ps (ps.length : Int) (j : Int) = if (out.length : Int) = x3 then some ([], false) else log_chunks.l1 (k + d + 1) x1 x2 x3 (out ++ [⟨x1, x2 + (out.length : Int), ((j : Int) == 0), ((j : Int) == (wrap64 ((ps.length : Int) - 1))), rdOf ByteArray.empty ps (j : Int)⟩]) ps x16 x17 x18 ps (ps.length : Int) ((j + 1 : Nat) : Int) := by
      show log_chunks.l1 ((k + d + 1) + 1) _ _ _ _ _ _ _ _ _ _ _ = _
      rw [log_chunks.l1, if_pos (by omega), if_pos (by omega), if_pos (by omega)]
      by_cases hx : (out.length : Int) = x3
      · rw [if_pos hx, if_pos hx]
      · rw [if_neg hx, if_neg hx, if_pos (by omega), Hw.wnat j (by omega), Hw.w64 (x2 + (out.length : Int)) (by omega) (by omega)]
    by_cases hx : (out.length : Int) = x3
    · rw [if_pos hx] at hstep
      exact ⟨fun h => by omega, fun _ => hstep⟩
    · rw [if_neg hx] at hstep
      have hmem : rdOf ByteArray.empty ps (j : Int) ∈ ps := by
        unfold rdOf
        rw [Int.toNat_natCast, List.getD_eq_getElem?_getD, List.getElem?_eq_getElem (by omega)]
        exact List.getElem_mem _
      have ih := cubbylaw05_LogRoom.ch_l1 x1 x2 x3 ps x16 x17 x18 hp h2 h3 d (j + 1) (out ++ [⟨x1, x2 + (out.length : Int), ((j : Int) == 0), ((j : Int) == (wrap64 ((ps.length : Int) - 1))), rdOf ByteArray.empty ps (j : Int)⟩]) k (by omega) (by rw [List.length_append, List.length_singleton]; omega)
      rw [← hstep, List.length_append, List.length_singleton] at ih
      refine ⟨fun h => ?_, fun h => ih.2 (by omega)⟩
      obtain ⟨cks, e1, e2, e3⟩ := ih.1 (by omega)
      refine ⟨cks, e1, by omega, fun x hx2 => ?_⟩
      rcases e3 x hx2 with q | ⟨q1, q2, q3, q4⟩
      · rcases List.mem_append.1 q with q | q
        · exact .inl q
        · rw [List.mem_singleton.1 q]
          exact .inr ⟨rfl, by show x2 ≤ x2 + (out.length : Int); omega, by show x2 + (out.length : Int) < _; omega, hmem⟩
      · exact .inr ⟨q1, q2, by omega, q4⟩
theorem cubbylaw05_LogRoom.chunks1 (s : ByteArray) (e nx room : Int) (hs : s.size ≤ 100000) (hnx : 0 ≤ nx ∧ nx ≤ 1000) (hr : 0 ≤ room ∧ room ≤ 1000) :
    (((Ct.pcs s).length : Int) ≤ room → ∃ k cks, log_chunks.f k [s] e nx room = some (cks, true) ∧ cks.length = (Ct.pcs s).length ∧ ∀ x ∈ cks, x.f0 = e ∧ nx ≤ x.f1 ∧ x.f1 < nx + ((Ct.pcs s).length : Int) ∧ x.f4.size ≤ 96) ∧
    (room < ((Ct.pcs s).length : Int) → ∃ k, log_chunks.f k [s] e nx room = some ([], false)) := by
  have hl := Ct.pcs_len s.size s (Nat.le_refl _)
  have h0 : ∀ k, log_chunks.f (k + 1) [s] e nx room = log_chunks.l1 k e nx room [] (Ct.pcs s) [s] 1 0 (Ct.pcs s) ((Ct.pcs s).length : Int) ((0 : Nat) : Int) := fun k => by
    unfold log_chunks.f
    rw [log_chunks.l0]
    have ec : chunk_Cut.f (rdOf ByteArray.empty [s] 0) = some (Ct.pcs s) := by
      unfold chunk_Cut.f
      show (if s.size ≤ 140737488355328 then some (Ct.pcs s) else none) = _
      rw [if_pos (by omega)]
    rw [if_pos (by simp), if_pos (by decide), if_pos (by simp), ec]
    rfl
  have hc := cubbylaw05_LogRoom.ch_l1 e nx room (Ct.pcs s) [s] 1 0 (by omega) hnx hr.2 (Ct.pcs s).length 0 [] 1 (by omega) (by simp; omega)
  rw [List.length_nil] at hc
  refine ⟨fun h => ?_, fun h => ?_⟩
  · obtain ⟨cks, e1, e2, e3⟩ := hc.1 (by omega)
    refine ⟨1 + (Ct.pcs s).length + 1 + 1, cks, ?_, by omega, fun x hx => ?_⟩
    · rw [h0, e1, log_chunks.l0, Hw.w64 (0 + 1) (by decide) (by decide), if_neg (by decide)]
    · rcases e3 x hx with q | ⟨q1, q2, q3, q4⟩
      · cases q
      · exact ⟨q1, q2, by simpa using q3, cubbylaw05_LogRoom.pcs_le s.size s (Nat.le_refl _) _ q4⟩
  · exact ⟨1 + (Ct.pcs s).length + 1 + 1, by rw [h0]; exact hc.2 (by omega)⟩
theorem cubbylaw05_LogRoom.rcut_l0 (n : Nat) : ∀ (s : ByteArray) (acc : List ByteArray) (k : Nat), s.size ≤ n → n < k → acc.length + n ≤ 1000000 → cubbyref04_Cut.l0 k s acc = some (acc ++ Ct.pcs s) := by
  induction n using Nat.strongRecOn with
  | _ n ih =>
    intro s acc k hs hk ha
    obtain ⟨k, rfl⟩ : ∃ m, k = m + 1 := ⟨k - 1, by omega⟩
    rw [cubbyref04_Cut.l0]
    by_cases h : 96 < s.size
    · rw [if_pos (by omega), if_pos (by omega), if_pos (by omega), if_pos (by omega), ih (n - 96) (by omega) (s.extract 96 s.size) (acc ++ [s.extract 0 96]) k (by rw [ByteArray.size_extract]; omega) (by omega) (by rw [List.length_append, List.length_singleton]; omega), List.append_assoc, List.singleton_append, ← Ct.pcs_hi s h]
    · rw [Ct.pcs_lo s h, if_neg (by omega), if_pos (by omega)]
theorem cubbylaw05_LogRoom.many1 (s : ByteArray) (hs : s.size ≤ 100000) : ∃ k, cubbyref05_Many.f k [s] = some ((Ct.pcs s).length : Int) := by
  have hl := Ct.pcs_len s.size s (Nat.le_refl _)
  refine ⟨s.size + 3, ?_⟩
  unfold cubbyref05_Many.f
  rw [cubbyref05_Many.l0]
  have ec : cubbyref04_Cut.f (s.size + 2) (rdOf ByteArray.empty [s] 0) = some (Ct.pcs s) := by
    unfold cubbyref04_Cut.f
    exact cubbylaw05_LogRoom.rcut_l0 s.size s [] (s.size + 2) (Nat.le_refl _) (by omega) (by simp; omega)
  rw [if_pos (by simp), if_pos (by decide), if_pos (by decide), ec]
  show cubbyref05_Many.l0 (s.size + 1 + 1) [s] (wrap64 (0 + ((Ct.pcs s).length : Int))) (wrap64 (0 + 1)) = _
  rw [cubbyref05_Many.l0, Hw.w64 (0 + 1) (by decide) (by decide), if_neg (by simp), Int.zero_add, Hw.w64 _ (by omega) (by omega)]
def cubbylaw05_LogRoom.Fit (l0 : List Int) : Prop := ∀ x ∈ l0, 0 ≤ x ∧ x < 65536
instance (l0 : List Int) : Decidable (cubbylaw05_LogRoom.Fit l0) := by unfold cubbylaw05_LogRoom.Fit; infer_instance
def cubbylaw05_LogRoom.f (l0 : List Int) : Option Bool := if cubbylaw05_LogRoom.Fit l0 then some true else none
theorem cubbylaw05_LogRoom.in_range (l : List Int) (b : Int) (hb : 0 < b) (h : ∀ x ∈ l, 0 ≤ x ∧ x < b) (k : Nat) : 0 ≤ l.getD k 0 ∧ l.getD k 0 < b := by
  rw [List.getD_eq_getElem?_getD]
  by_cases e : k < l.length
  · rw [List.getElem?_eq_getElem e]
    exact h _ (List.getElem_mem _)
  · rw [List.getElem?_eq_none (by omega)]
    exact ⟨Int.le_refl _, hb⟩
/-- What an Append that fits, or one that does not, comes to here. -/
theorem cubbylaw05_LogRoom.fits (base gl g n : Nat) (nx : Int) (s : Dk.S) (A : Option Addr) (bs : ByteArray) (W : World) (hL : Lg.At W base gl g ⟨1, 0, 0, nx, 0⟩) (hD : Tw.D W base g n s) (hok : cubbylaw05_LogRoom.Ok s) (hin : Dk.In s) (hm : s.many ≤ 70000) (hn : n ≤ 900000) (hnx : 0 ≤ nx ∧ nx ≤ 127) (hr : Kd.C Kd.string W A 1 [bs]) (hs : bs.size ≤ 100000) (hb : base ≤ W.heap.size)
    (hfit : ((Ct.pcs bs).length : Int) ≤ 127 - nx) : Calls Try.prog 20 #[.pointer (some ⟨gl, 0, none⟩), .slice A 1 1] W fun e w' => e = .returned (.int .i64 0) ∧ ∃ s2, cubbylaw05_LogRoom.Ok s2 ∧ Dk.In s2 ∧ s2.many ≤ s.many + ((Ct.pcs bs).length : Int) + 1 ∧ Tw.D w' base g (n + (Ct.pcs bs).length) s2 ∧ Lg.At w' base gl g ⟨1, 0, 0, nx + ((Ct.pcs bs).length : Int), 0⟩ ∧ Below base W w' := by
  obtain ⟨kc, cks, hcf, hcl, hcx⟩ := (cubbylaw05_LogRoom.chunks1 bs 1 nx (127 - nx) hs ⟨hnx.1, by omega⟩ ⟨by omega, by omega⟩).1 hfit
  have hq : ∀ x ∈ cks, 0 ≤ x.f1 ∧ x.f1 ≤ 127 := fun x hx => by
    obtain ⟨_, q2, q3, _⟩ := hcx x hx
    omega
  have hpo := cubbylaw05_LogRoom.puts_ok 0 (.inl rfl) (cks.map log_Log_write.toK) s hok (fun c hc => by
    obtain ⟨x, hx, rfl⟩ := List.mem_map.1 hc
    obtain ⟨q1, q2, q3, q4⟩ := hcx x hx
    exact ⟨by show 0 ≤ x.f0 ∧ x.f0 ≤ _; rw [q1]; decide, by show 0 ≤ x.f1 ∧ x.f1 < 127; omega, q4⟩)
  have hpi := cubbylaw05_LogRoom.puts_in 0 (cks.map log_Log_write.toK) s hin (by rw [List.length_map]; omega)
  have e := log_Log_Append.calls base gl g n kc ⟨1, 0, 0, nx, 0⟩ s A 1 [bs] cks true W hL hD hin hm hn hnx (.inl rfl) hr (Nat.le_refl _) hcf (by omega) hq hb
  have hr : log_Log_Append.r s ⟨1, 0, 0, nx, 0⟩ cks true = ((Lg.puts 0 s (cks.map log_Log_write.toK)).1, ⟨1, 0, 0, nx + ((Ct.pcs bs).length : Int), 0⟩, 0) := by
    unfold log_Log_Append.r
    rw [if_neg (fun q => q rfl), if_neg (by decide), if_pos hpo.1, hcl]
  rw [hr, hcl] at e
  refine e.mono ?_
  rintro e w' ⟨rfl, hd, hl, hb'⟩
  exact ⟨rfl, _, hpo.2, hpi.1, by rw [← hcl]; have := hpi.2; rw [List.length_map] at this; exact this, hd, hl, hb'.b⟩
theorem cubbylaw05_LogRoom.fits_not (base gl g n : Nat) (nx : Int) (s : Dk.S) (A : Option Addr) (bs : ByteArray) (W : World) (hL : Lg.At W base gl g ⟨1, 0, 0, nx, 0⟩) (hD : Tw.D W base g n s) (hin : Dk.In s) (hm : s.many ≤ 70000) (hn : n ≤ 900000) (hnx : 0 ≤ nx ∧ nx ≤ 127) (hr : Kd.C Kd.string W A 1 [bs]) (hs : bs.size ≤ 100000) (hb : base ≤ W.heap.size)
    (hfit : 127 - nx < ((Ct.pcs bs).length : Int)) : Calls Try.prog 20 #[.pointer (some ⟨gl, 0, none⟩), .slice A 1 1] W fun e w' => e = .returned (.int .i64 50) ∧ Tw.D w' base g n s ∧ Lg.At w' base gl g ⟨1, 0, 0, nx, 0⟩ ∧ Below base W w' := by
  obtain ⟨kc, hcf⟩ := (cubbylaw05_LogRoom.chunks1 bs 1 nx (127 - nx) hs ⟨hnx.1, by omega⟩ ⟨by omega, by omega⟩).2 hfit
  have e := log_Log_Append.calls base gl g n kc ⟨1, 0, 0, nx, 0⟩ s A 1 [bs] [] false W hL hD hin hm hn hnx (.inl rfl) hr (Nat.le_refl _) hcf (by decide) (fun x hx => by cases hx) hb
  have hr : log_Log_Append.r s ⟨1, 0, 0, nx, 0⟩ [] false = (s, ⟨1, 0, 0, nx, 0⟩, 50) := by
    unfold log_Log_Append.r
    rw [if_neg (fun q => q rfl), if_pos rfl]
  rw [hr] at e
  refine e.mono ?_
  rintro e w' ⟨rfl, hd, hl, hb'⟩
  exact ⟨rfl, hd, hl, hb'.b⟩
set_option maxHeartbeats 16000000 in
set_option maxRecDepth 100000 in
theorem cubbylaw05_LogRoom.calls (A0 : Option Addr) (c0 : Nat) (l0 : List Int) (r : Bool) (w : World) (hr0 : (Kd.int .u16).C w A0 l0.length l0) (hc0 : l0.length ≤ c0) (h : cubbylaw05_LogRoom.f l0 = some r) :
    Calls Try.prog 4 #[.slice A0 l0.length c0] w fun e w' => e = .returned (.bool r) ∧ Below w.heap.size w w' := by
  unfold cubbylaw05_LogRoom.f at h
  by_cases hl : cubbylaw05_LogRoom.Fit l0
  case neg => rw [if_neg hl] at h; cases h
  rw [if_pos hl] at h
  obtain rfl := Option.some.inj h
  clear h
  have HV := Aside0.mk (cubbylaw05_LogRoom.in_range l0 65536 (by decide) hl)
  have HR0 := Aside0.mk hr0
  have hm0 : l0.length ≤ 9223372036854775807 := hr0.2.1
  clear hr0 hc0 hl
  by_cases g1 : l0.length ≤ 30
  case neg =>
    have d1 : decide (30 < (l0.length : Int)) = true := decide_eq_true (by omega)
    go_enter Try.func4, Try.ntmps4
    go_wp2_with (fail)
    go_ret
    exact ⟨rfl, Below.refl _ _⟩
  have d1 : decide (30 < (l0.length : Int)) = false := decide_eq_false (by omega)
  have HNEW := Aside0.mk (cubbylaw05_LogRoom.dNew w w.heap.size (Nat.le_refl _))
  obtain ⟨s1, ho1, hok1, hin1, hm1⟩ := cubbylaw05_LogRoom.open0
  have HOP : Aside0 (∀ (g : Nat) (W : World), Tw.D W w.heap.size g 0 Dk.S0 → w.heap.size ≤ W.heap.size → Calls Try.prog 14 #[.pointer (some ⟨g, 0, none⟩)] W fun e w' => ∃ gl rv, e = .returned (.tuple #[.pointer (some ⟨gl, 0, none⟩), rv, .int .i64 0]) ∧ Tw.D w' w.heap.size g 1 s1 ∧ Lg.At w' w.heap.size gl g ⟨1, 0, 0, 0, 0⟩ ∧ Below w.heap.size W w') := ⟨fun g W hD hW => by
    have e := cubbylaw05_LogRoom.open_calls w.heap.size g 0 Dk.S0 W hD Tw.S0_in (by decide) (by decide) hW
    rw [ho1] at e
    refine e.mono ?_
    rintro e w' ⟨pv, rv, rfl, hd, hb, hx⟩
    rcases hx with ⟨q, _⟩ | ⟨_, gl, rfl, _, ha, _⟩
    · exact absurd rfl q
    · exact ⟨gl, rv, rfl, hd, ha, hb.b⟩⟩
  have HOK1 := Aside0.mk hok1
  have HIN1 := Aside0.mk hin1
  clear ho1 hok1 hin1
  have HK : Aside0 ((Try.prog.info? 5).map (fun i => (i.zero, i.size, i.bytes)) = some (some (.int .u8 0), (Kd.int .u8).sz, 1)) := ⟨by kernel_rfl⟩
  go_enter Try.func4, Try.ntmps4
  go_wp2_with (first | (go_at_call 9; (with_reducible refine HNEW.out.mono ?_); rintro e w1 ⟨g, rfl, hd1, hb1⟩; have HD := Aside0.mk hd1; have HB := Aside0.mk hb1; clear hd1 hb1 HNEW) | (go_at_call 14; (with_reducible refine (HOP.out g _ HD.out HB.out.size).mono ?_); rintro e w2 ⟨gl, rv, rfl, hd2, hl2, hb2⟩; have HD := Aside0.mk hd2; have HL := Aside0.mk hl2; have HB := Aside0.mk (HB.out.trans hb2); clear hd2 hl2 hb2 HOP) | (go_at_call 18; (with_reducible refine (show Calls Try.prog 18 #[.pointer (some ⟨gl, 0, none⟩)] _ fun e w' => e = .returned (.int .i64 127) ∧ w' = _ from log_Log_Room.calls w.heap.size gl g ⟨1, 0, 0, 0, 0⟩ _ HL.out ⟨Int.le_refl _, by decide⟩).mono ?_); rintro e w9 ⟨rfl, rfl⟩))
  clear d1
  go_loopg [7, 8, 9, 10, 11, 12, 13] l0.length (fun gg v7 v8 v9 v10 v11 v12 v13 wq => ∃ (i : Nat) (s : Dk.S) (nx : Int) (n : Nat), v8 = .int .i64 (i : Int) ∧ v7 = .int .i64 (127 - nx) ∧ i ≤ l0.length ∧ l0.length - i ≤ gg ∧ n ≤ 1 + 127 * i ∧ s.many ≤ 2 + 128 * (i : Int) ∧ 0 ≤ nx ∧ nx ≤ 127 ∧ Aside0 (cubbylaw05_LogRoom.Ok s) ∧ Aside0 (Dk.In s) ∧ Aside0 (Tw.D wq w.heap.size g n s) ∧ Aside0 (Lg.At wq w.heap.size gl g ⟨1, 0, 0, nx, 0⟩) ∧ Aside0 (Below w.heap.size w wq))
  case atStart => exact ⟨0, s1, 0, 1, rfl, rfl, Nat.zero_le _, by omega, by omega, by omega, Int.le_refl _, by decide, HOK1, HIN1, HD, HL, HB⟩
  case round =>
    clear HD HL HB HOK1 HIN1 hm1
    obtain ⟨i, s, nx, n, rfl, rfl, hi, hgg, hn, hms, hnx1, hnx2, HOK, HIN, HD, HL, HB⟩ := hrel
    by_cases hil : i < l0.length
    case neg =>
      go_wp2_with (fail)
      go_ret
      exact ⟨rfl, HB.out⟩
    obtain ⟨gk, rfl⟩ : ∃ q, gk = q + 1 := by
      cases gk with
      | zero => omega
      | succ q => exact ⟨q, rfl⟩
    obtain ⟨adm, rfl, a1⟩ := Kd.at_int (Kd.C_below HR0.out HB.out) (i : Int) (by omega) (by omega)
    rw [Int.toNat_natCast] at a1
    have e1 : rd l0 (i : Int) = l0.getD i 0 := by unfold rd; rw [Int.toNat_natCast]
    rw [e1] at a1
    obtain ⟨hu1, hu2⟩ := HV.out i
    generalize l0.getD i 0 = u at a1 hu1 hu2
    clear e1
    have zi : (i : Int) < (l0.length : Int) := by omega
    obtain ⟨m, hm⟩ : ∃ m : Nat, u % 4000 = (m : Int) := ⟨(u % 4000).toNat, by omega⟩
    have hm4 : m < 4000 := by omega
    have HM := Lib.hid hm
    clear hm
    go_upto_region 12 with fail
    rw [HM.out]
    clear a1 HM
    go_upto_region 13 with ((with_reducible refine gate_dst (N := 48) rfl ?_); refine Kd.R_make (Kd.int .u8) (w0 := w) w.heap.size 5 rfl (N := 48) rfl 23 _ _ rfl (m : Int) rfl rfl Try.underlying23 (.int .u8 0) 1 HK.out rfl (by decide) (by omega) (0 : Int) (okp := fun _ => True) (ok := fun _ => True) rfl (fun _ h => h) trivial (by omega) (by rw [Int.toNat_natCast]; omega) HB.out HB.out.size ?_; intro v48 w4 hr4 hb4 hg4 hat4; rw [Int.toNat_natCast] at hr4; obtain ⟨Am, cm, e48⟩ := Kd.R_slice hr4; rw [List.length_replicate] at e48; subst e48; have HR4 := Aside0.mk hr4; have HG4 := Aside0.mk (show Below wr.heap.size wr w4 from ⟨hg4.os, hg4.tape, hg4.output, hg4.size, fun k hk => hg4.block k hk (by simp)⟩); clear hr4 hat4 hb4 hg4)
    have HL := Aside0.mk (HL.out.below HG4.out)
    have HD := Aside0.mk (HD.out.below HG4.out)
    have HB := Aside0.mk (HB.out.trans (HG4.out.mono HB.out.size))
    obtain ⟨bs, hbs, hcv⟩ : ∃ bs : ByteArray, bs.size ≤ 100000 ∧ (convert 23 9 (.slice Am m cm)).run Try.prog w4 = .ok (.string bs) w4 := ⟨strOfNums (List.replicate m (0 : Int)), by
      have : (strOfNums (List.replicate m (0 : Int))).size = m := by simp [strOfNums, ByteArray.size]
      omega, by
      have q := (Kd.R_reads' HR4.out).2.2
      rw [List.length_replicate] at q
      exact Kd.C_string Try.underlying23 Try.underlying5 Try.underlying9 q⟩
    clear HR4 HG4
    go_upto_region 14 with fail
    have hbe := (Below.refl w4.heap.size w4).alloc (Nat.le_refl _) (.cells #[.string bs] 9)
    have HBK := Aside0.mk (Hw.blk_nw w4 (.cells #[.string bs] 9))
    have HL := Aside0.mk (HL.out.below hbe)
    have HD := Aside0.mk (HD.out.below hbe)
    have HB := Aside0.mk (HB.out.trans (hbe.mono HB.out.size))
    clear hbe hcv
    generalize w4.heap.size = ab at HBK ⊢
    generalize w4.alloc (.cells #[.string bs] 9) = W5 at HBK HL HD HB ⊢
    have HRC : Aside0 (Kd.C Kd.string W5 (some ⟨ab, 0, none⟩) 1 [bs]) := ⟨log_Log_scan.row1 (Kd.string.K W5) HBK.out rfl⟩
    obtain ⟨km, hmany⟩ := cubbylaw05_LogRoom.many1 bs hbs
    have HMA : Aside0 (Calls Try.prog 19 #[.slice (some ⟨ab, 0, none⟩) 1 1] W5 fun e w' => e = .returned (.int .i64 ((Ct.pcs bs).length : Int)) ∧ Below W5.heap.size W5 w') := ⟨cubbyref05_Many.calls km (some ⟨ab, 0, none⟩) 1 [bs] _ W5 HRC.out (Nat.le_refl 1) hmany⟩
    have hmm : n ≤ 900000 := by omega
    clear hmany HBK
    by_cases hfit : ((Ct.pcs bs).length : Int) ≤ 127 - nx
    · have HAP := Aside0.mk (fun (W : World) hL hD hC hbW => cubbylaw05_LogRoom.fits w.heap.size gl g n nx s (some ⟨ab, 0, none⟩) bs W hL hD HOK.out HIN.out (by omega) hmm ⟨hnx1, hnx2⟩ hC hbs hbW hfit)
      generalize (Ct.pcs bs).length = M at HMA HAP hfit
      have d1 : decide ((M : Int) ≤ 127 - nx) = true := decide_eq_true hfit
      have HRM := Aside0.mk (fun (W : World) hL => log_Log_Room.calls w.heap.size gl g ⟨1, 0, 0, nx + (M : Int), 0⟩ W hL ⟨by show 0 ≤ nx + (M : Int); omega, by show nx + (M : Int) ≤ 127; omega⟩)
      have HER := Aside0.mk (fun (W : World) hL => log_Log_Err.calls w.heap.size gl g ⟨1, 0, 0, nx + (M : Int), 0⟩ W hL)
      have hrm : 127 - (nx + (M : Int)) = 127 - nx - (M : Int) := by omega
      dsimp only at HRM HER
      rw [hrm] at HRM
      have d2 : ((127 - nx - (M : Int)) != (127 - nx - (M : Int))) = false := bne_self_eq_false _
      go_wp2_with (first | (go_at_call 19; (with_reducible refine HMA.out.mono ?_); rintro e w6 ⟨rfl, hb6⟩; have HL := Aside0.mk (HL.out.below hb6); have HD := Aside0.mk (HD.out.below hb6); have HRC := Aside0.mk (Kd.C_below HRC.out hb6); have HB := Aside0.mk (HB.out.trans (hb6.mono HB.out.size)); clear hb6) | (go_at_call 20; (with_reducible refine (HAP.out _ HL.out HD.out HRC.out HB.out.size).mono ?_); rintro e w7 ⟨rfl, s2, hok2, hin2, hm2, hd2, hl2, hb2⟩; have HOK2 := Aside0.mk hok2; have HIN2 := Aside0.mk hin2; have HD := Aside0.mk hd2; have HL := Aside0.mk hl2; have HB := Aside0.mk (HB.out.trans hb2); clear hok2 hin2 hd2 hl2 hb2) | (go_at_call 18; (with_reducible refine (HRM.out _ HL.out).mono ?_); rintro e w9 ⟨rfl, rfl⟩) | (go_at_call 21; (with_reducible refine (HER.out _ HL.out).mono ?_); rintro e w9 ⟨rfl, rfl⟩))
      go_roundg gk
      case measure => omega
      case rel => exact ⟨i + 1, s2, nx + (M : Int), n + M, by rw [Int.natCast_add]; rfl, by rw [hrm], by omega, by omega, by omega, by omega, by omega, by omega, HOK2, HIN2, HD, HL, HB⟩
    · have HAP := Aside0.mk (fun (W : World) hL hD hC hbW => cubbylaw05_LogRoom.fits_not w.heap.size gl g n nx s (some ⟨ab, 0, none⟩) bs W hL hD HIN.out (by omega) hmm ⟨hnx1, hnx2⟩ hC hbs hbW (by omega))
      generalize (Ct.pcs bs).length = M at HMA hfit
      have d1 : decide ((M : Int) ≤ 127 - nx) = false := decide_eq_false hfit
      have HRM := Aside0.mk (fun (W : World) hL => log_Log_Room.calls w.heap.size gl g ⟨1, 0, 0, nx, 0⟩ W hL ⟨hnx1, hnx2⟩)
      have HER := Aside0.mk (fun (W : World) hL => log_Log_Err.calls w.heap.size gl g ⟨1, 0, 0, nx, 0⟩ W hL)
      dsimp only at HRM HER
      have d2 : ((127 - nx) != (127 - nx)) = false := bne_self_eq_false _
      go_wp2_with (first | (go_at_call 19; (with_reducible refine HMA.out.mono ?_); rintro e w6 ⟨rfl, hb6⟩; have HL := Aside0.mk (HL.out.below hb6); have HD := Aside0.mk (HD.out.below hb6); have HRC := Aside0.mk (Kd.C_below HRC.out hb6); have HB := Aside0.mk (HB.out.trans (hb6.mono HB.out.size)); clear hb6) | (go_at_call 20; (with_reducible refine (HAP.out _ HL.out HD.out HRC.out HB.out.size).mono ?_); rintro e w7 ⟨rfl, hd2, hl2, hb2⟩; have HD := Aside0.mk hd2; have HL := Aside0.mk hl2; have HB := Aside0.mk (HB.out.trans hb2); clear hd2 hl2 hb2) | (go_at_call 18; (with_reducible refine (HRM.out _ HL.out).mono ?_); rintro e w9 ⟨rfl, rfl⟩) | (go_at_call 21; (with_reducible refine (HER.out _ HL.out).mono ?_); rintro e w9 ⟨rfl, rfl⟩))
      go_roundg gk
      case measure => omega
      case rel => exact ⟨i + 1, s, nx, n, by rw [Int.natCast_add]; rfl, rfl, by omega, by omega, by omega, by omega, hnx1, hnx2, HOK, HIN, HD, HL, HB⟩

/-- THE ONE PURE STATEMENT of cubbylaw05_LogRoom: yours. -/
def cubbylaw05_LogRoom.Pure : Prop := ∀ (l0 : List Int), (l0.length ≤ maxLen ∧ l0.length * 2 ≤ 140737488351232 ∧ ∀ x ∈ l0, (Lit.int .u16 x).wf = true) → cubbylaw05_LogRoom.f l0 = some true
theorem cubbylaw05_LogRoom.walk (P : cubbylaw05_LogRoom.Pure) (A0 : Option Addr) (c0 : Nat) (l0 : List Int) (w : World) (hr0 : Kd.C (Kd.int .u16) w A0 l0.length l0) (hc0 : l0.length ≤ c0) (o0 : (l0.length ≤ maxLen ∧ l0.length * 2 ≤ 140737488351232 ∧ ∀ x ∈ l0, (Lit.int .u16 x).wf = true)) :
    Calls Try.prog 4 #[.slice A0 l0.length c0] w fun e w' => e = .returned (.bool true) ∧ Below w.heap.size w w' := by
  have h := P l0 o0
  refine (cubbylaw05_LogRoom.calls A0 c0 l0 true w hr0 hc0 h).mono ?_
  rintro e w' ⟨rfl, hd⟩
  exact ⟨rfl, hd⟩

end Go.Proofs.Ytfdccgpbdcdgmaa.PLogRoom
