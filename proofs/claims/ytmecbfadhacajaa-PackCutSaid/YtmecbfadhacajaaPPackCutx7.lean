-- By a program of this session (wip/tools/mkprint.py), for this claim.
import Derived.Test.YtmecbfadhacajaaPPackCutx0
import Derived.Test.YtmecbfadhacajaaPPackCutx1
import Derived.Test.YtmecbfadhacajaaPPackCutx2
import Derived.Test.YtmecbfadhacajaaPPackCutx3
import Derived.Test.YtmecbfadhacajaaPPackCutx6
namespace Go.Proofs.Ytmecbfadhacajaa.PPackCut
open Go.RowKit Go.Proofs.YtmecbfadhacajaaW.PrintWords Go.Proofs.YtmecbfadhacajaaW.PrintLast Go.Proofs.YtmecbfadhacajaaW.PrintMore
attribute [local go_sem] max2_int min2_int max_two min_two max_three min_three max_four min_four   -- for this text's walks alone
set_option linter.unusedVariables false
set_option linter.unusedSimpArgs false

/-! ### cubbylaw02_PackCut: function 6 (by hand) -/
theorem cubbylaw02_PackCut.wrap64_in (n : Int) (h : -9223372036854775808 ≤ n) (h2 : n < 9223372036854775808) : wrap64 n = n := by unfold wrap64; omega
/-- With fuel enough it answers v. -/
def cubbylaw02_PackCut.Ev {α : Type} (g : Nat → Option α) (v : α) : Prop := ∃ k0, ∀ k, k0 ≤ k → g k = some v
theorem cubbylaw02_PackCut.Ev.succ {α : Type} {g : Nat → Option α} {v : α} (h : cubbylaw02_PackCut.Ev (fun k => g (k + 1)) v) : cubbylaw02_PackCut.Ev g v := by
  obtain ⟨k0, h⟩ := h
  refine ⟨k0 + 1, fun k hk => ?_⟩
  obtain ⟨k, rfl⟩ : ∃ m, k = m + 1 := ⟨k - 1, by omega⟩
  exact h k (by omega)
theorem cubbylaw02_PackCut.Ev.bind {α β : Type} {g : Nat → Option α} {f : Nat → α → Option β} {a : α} {v : β} (h1 : cubbylaw02_PackCut.Ev g a) (h2 : cubbylaw02_PackCut.Ev (fun k => f k a) v) : cubbylaw02_PackCut.Ev (fun k => (g k).bind (f k)) v := by
  obtain ⟨k1, h1⟩ := h1
  obtain ⟨k2, h2⟩ := h2
  refine ⟨k1 + k2, fun k hk => ?_⟩
  show (g k).bind (f k) = some v
  rw [h1 k (by omega)]
  exact h2 k (by omega)
theorem cubbylaw02_PackCut.Ev.const {α : Type} (v : α) : cubbylaw02_PackCut.Ev (fun _ => some v) v := ⟨0, fun _ _ => rfl⟩
theorem cubbylaw02_PackCut.Ev.get {α : Type} {g : Nat → Option α} {v : α} (h : cubbylaw02_PackCut.Ev g v) : ∃ k, g k = some v := by
  obtain ⟨k0, h⟩ := h
  exact ⟨k0, h k0 (Nat.le_refl _)⟩
theorem cubbylaw02_PackCut.Ev.of {α : Type} {g g' : Nat → Option α} {v : α} (h : cubbylaw02_PackCut.Ev g v) (e : ∀ k, g' k = g k) : cubbylaw02_PackCut.Ev g' v := by
  obtain ⟨k0, h⟩ := h
  exact ⟨k0, fun k hk => (e k).trans (h k hk)⟩
theorem cubbylaw02_PackCut.wnat (i : Nat) (h : i < 9223372036854775807) : wrap64 ((i : Int) + 1) = ((i + 1 : Nat) : Int) := by rw [cubbylaw02_PackCut.wrap64_in _ (by omega) (by omega)]; omega
theorem cubbylaw02_PackCut.mx_clamp (n : Int) : mx 0 (mn n 72057594037927935) = ((Hw.clamp n : Nat) : Int) := by
  unfold mx mn Hw.clamp
  split <;> split <;> (try split) <;> omega
/-- Bytes, as the reference holds them. -/
def cubbylaw02_PackCut.nums8 (l : List UInt8) : List Int := l.map fun x => (x.toNat : Int)
theorem cubbylaw02_PackCut.str_nums (l : List UInt8) : strOfNums (cubbylaw02_PackCut.nums8 l) = ⟨l.toArray⟩ := by
  unfold strOfNums cubbylaw02_PackCut.nums8
  rw [List.map_map]
  congr 2
  have : ∀ x : UInt8, ((fun n : Int => UInt8.ofNat n.toNat) ∘ fun x : UInt8 => (x.toNat : Int)) x = x := by intro x; simp
  rw [show ((fun n : Int => UInt8.ofNat n.toNat) ∘ fun x : UInt8 => (x.toNat : Int)) = id from funext this, List.map_id]
theorem cubbylaw02_PackCut.rcode_l0 (b : Nat) : ∀ (m : Nat) (acc : List UInt8), m < b → m < 72057594037927936 → acc.length + (Hw.code m).length ≤ 1000 → cubbylaw02_PackCut.Ev (fun k => cubbyref02_Code.l0 k (m : Int) (cubbylaw02_PackCut.nums8 acc)) ⟨(acc ++ Hw.code m).toArray⟩ := by
  induction b with
  | zero => intro m acc h; omega
  | succ b ih =>
    intro m acc hm hm2 hl
    have hlen : (cubbylaw02_PackCut.nums8 acc).length = acc.length := by simp [cubbylaw02_PackCut.nums8]
    refine cubbylaw02_PackCut.Ev.succ ?_
    simp only [cubbyref02_Code.l0]
    by_cases h : m < 128
    · rw [Hw.code_lo m h]
      refine (cubbylaw02_PackCut.Ev.const _).of fun k => ?_
      have e : (m : Int) % 256 = ((UInt8.ofNat m).toNat : Int) := by rw [UInt8.toNat_ofNat']; omega
      rw [if_neg (by omega), if_pos (by omega), e, ← cubbylaw02_PackCut.str_nums]
      congr 2
      simp [cubbylaw02_PackCut.nums8]
    · rw [Hw.code_hi m h] at hl ⊢
      rw [List.length_cons] at hl
      have h2 := ih (m / 128) (acc ++ [UInt8.ofNat (m % 128 + 128)]) (by omega) (by omega) (by rw [List.length_append, List.length_singleton]; omega)
      rw [List.append_assoc, List.singleton_append] at h2
      refine h2.of fun k => ?_
      have e1 : Int.tdiv (m : Int) 128 = ((m / 128 : Nat) : Int) := rfl
      have e2 : Int.tmod (m : Int) 128 = ((m % 128 : Nat) : Int) := rfl
      have e3 : (wrap64 (((m % 128 : Nat) : Int) + 128)) % 256 = ((UInt8.ofNat (m % 128 + 128)).toNat : Int) := by rw [cubbylaw02_PackCut.wrap64_in _ (by omega) (by omega), UInt8.toNat_ofNat']; omega
      rw [if_pos (by omega), if_pos (by omega), e1, e2, e3, cubbylaw02_PackCut.wrap64_in _ (by omega) (by omega)]
      congr 1
      simp [cubbylaw02_PackCut.nums8]
theorem cubbylaw02_PackCut.rcode_ev (n : Int) : cubbylaw02_PackCut.Ev (fun k => cubbyref02_Code.f k n) ⟨(Hw.code (Hw.clamp n)).toArray⟩ := by
  have hc := Hw.clamp_lt n
  refine (cubbylaw02_PackCut.rcode_l0 (Hw.clamp n + 1) (Hw.clamp n) [] (by omega) hc (by have := Hw.code_len 7 (Hw.clamp n) hc; simp; omega)).of fun k => ?_
  unfold cubbyref02_Code.f
  rw [cubbylaw02_PackCut.mx_clamp]
  rfl
theorem cubbylaw02_PackCut.bs_app (a b : List UInt8) : (⟨a.toArray⟩ : ByteArray) ++ (⟨b.toArray⟩ : ByteArray) = ⟨(a ++ b).toArray⟩ := by
  apply ByteArray.ext
  rw [ByteArray.data_append]
  simp
def cubbylaw02_PackCut.str (l : List UInt8) : ByteArray := ⟨l.toArray⟩
theorem cubbylaw02_PackCut.str_app (a b : List UInt8) : cubbylaw02_PackCut.str a ++ cubbylaw02_PackCut.str b = cubbylaw02_PackCut.str (a ++ b) := cubbylaw02_PackCut.bs_app a b
theorem cubbylaw02_PackCut.str_size (a : List UInt8) : (cubbylaw02_PackCut.str a).size = a.length := List.size_toArray
theorem cubbylaw02_PackCut.texted_Ev (s : ByteArray) (hs : s.size ≤ 1000000) : cubbylaw02_PackCut.Ev (fun k => cubbyref02_Texted.f k s) ⟨(Hw.code s.size ++ s.data.toList).toArray⟩ := by
  have h := cubbylaw02_PackCut.rcode_ev (s.size : Int)
  rw [Hw.clamp_nat s.size (by omega)] at h
  have hl := Hw.code_len 7 s.size (by omega)
  refine (cubbylaw02_PackCut.Ev.bind (f := fun _ t => if t.size + s.size ≤ 9223372036854775807 then some (t ++ s) else none) h ?_).of fun k => rfl
  have e1 : (⟨(Hw.code s.size).toArray⟩ : ByteArray).size = (Hw.code s.size).length := List.size_toArray
  refine (cubbylaw02_PackCut.Ev.const _).of fun k => ?_
  show (if _ then _ else _) = _
  rw [if_pos (by rw [e1]; omega), ← cubbylaw02_PackCut.bs_app]
theorem cubbylaw02_PackCut.texted_ev (s : ByteArray) (hs : s.size ≤ 1000000) : ∃ k, cubbyref02_Texted.f k s = some ⟨(Hw.code s.size ++ s.data.toList).toArray⟩ := (cubbylaw02_PackCut.texted_Ev s hs).get
theorem cubbylaw02_PackCut.rnum_cut (k : Nat) : ∀ (m j acc i : Nat), m < 128 ^ (k + 1) → j + k < 8 → i < (Hw.code m).length → Hw.rnum ((Hw.code m).take i) j acc = (0, 20, 0) := by
  induction k with
  | zero =>
    intro m j acc i hm hj hi
    rw [Hw.code_lo m (by simpa using hm)] at hi ⊢
    have : i = 0 := by simpa using hi
    subst this
    rfl
  | succ k ih =>
    intro m j acc i hm hj hi
    by_cases h : m < 128
    · rw [Hw.code_lo m h] at hi ⊢
      have : i = 0 := by simpa using hi
      subst this
      rfl
    · rw [Hw.code_hi m h] at hi ⊢
      cases i with
      | zero => rfl
      | succ i =>
        have e : (UInt8.ofNat (m % 128 + 128)).toNat = m % 128 + 128 := by rw [UInt8.toNat_ofNat']; omega
        rw [List.take_succ_cons, Hw.rnum, if_neg (by omega), e, if_pos (by omega)]
        rw [List.length_cons] at hi
        exact ih (m / 128) (j + 1) _ i (Nat.div_lt_of_lt_mul (by rw [Nat.pow_succ] at hm; omega)) (by omega) (by omega)
theorem cubbylaw02_PackCut.rtext_cut (d : List UInt8) (hd : d.length < 72057594037927936) (i : Nat) (hi : i < (Hw.code d.length ++ d).length) : (Hw.rtext ((Hw.code d.length ++ d).take i)).2.1 = 20 := by
  rw [List.length_append] at hi
  by_cases h : i < (Hw.code d.length).length
  · rw [List.take_append_of_le_length (Nat.le_of_lt h)]
    unfold Hw.rtext
    rw [cubbylaw02_PackCut.rnum_cut 7 _ 0 0 i hd (by omega) h]
    rfl
  · obtain ⟨q, rfl⟩ : ∃ q, i = (Hw.code d.length).length + q := ⟨i - (Hw.code d.length).length, by omega⟩
    rw [List.take_length_add_append]
    have hr := Hw.rnum_code 7 d.length 0 0 (d.take q) hd (by omega) (.inl rfl)
    unfold Hw.rtext
    rw [hr]
    simp only [Nat.zero_add, Nat.pow_zero, Nat.mul_one, if_true]
    rw [if_pos (by rw [List.length_append, List.length_take]; omega)]
def cubbylaw02_PackCut.parts (kd : Int) (key value : ByteArray) : List UInt8 := pack_Record.recd kd key value
theorem cubbylaw02_PackCut.recd_eq (n : Nat) (hn : n = 1 ∨ n = 2) (key value : ByteArray) : pack_Record.recd (n : Int) key value = Hw.code n ++ ((Hw.code key.data.toList.length ++ key.data.toList) ++ (if n = 1 then Hw.code value.data.toList.length ++ value.data.toList else [])) := by
  unfold pack_Record.recd
  rw [Hw.clamp_nat n (by omega), data_length, data_length, List.append_assoc]
  rcases hn with rfl | rfl
  · rfl
  · rfl
theorem cubbylaw02_PackCut.len1 (n : Nat) (hn : n = 1 ∨ n = 2) : (Hw.code n).length = 1 := by rw [Hw.code_lo n (by omega)]; rfl
theorem cubbylaw02_PackCut.cut_short (n : Nat) (hn : n = 1 ∨ n = 2) (key value : ByteArray) (hk : key.size ≤ 1024) (hv : value.size ≤ 1024) (i : Nat) (hi : i < (pack_Record.recd (n : Int) key value).length) : (Hw.unrec ((pack_Record.recd (n : Int) key value).take i)).2.2.2 = 20 := by
  rw [cubbylaw02_PackCut.recd_eq n hn] at hi ⊢
  have h1 := cubbylaw02_PackCut.len1 n hn
  have hkl := data_length key
  have hvl := data_length value
  generalize key.data.toList = K at *
  generalize value.data.toList = V at *
  by_cases h0 : i = 0
  · subst h0; rfl
  · obtain ⟨q, rfl⟩ : ∃ q, i = (Hw.code n).length + q := ⟨i - 1, by omega⟩
    rw [List.take_length_add_append]
    have hr := fun r => Hw.rnum_code 7 n 0 0 r (by omega) (by omega) (.inl rfl)
    simp only [Nat.zero_add, Nat.pow_zero, Nat.mul_one] at hr
    unfold Hw.unrec
    rw [hr]
    simp only [if_true]
    rw [if_pos hn, List.drop_left]
    unfold Hw.unrec1
    by_cases hq : q < (Hw.code K.length ++ K).length
    · rw [List.take_append_of_le_length (Nat.le_of_lt hq), cubbylaw02_PackCut.rtext_cut K (by omega) q hq, if_neg (by decide)]
    · obtain ⟨p, rfl⟩ : ∃ p, q = (Hw.code K.length ++ K).length + p := ⟨q - (Hw.code K.length ++ K).length, by omega⟩
      rw [List.take_length_add_append, Hw.rtext_code K _ (by omega)]
      simp only [if_true]
      rcases hn with rfl | rfl
      · rw [if_pos rfl, if_pos rfl] at *
        have e : (Hw.code 1 ++ ((Hw.code K.length ++ K) ++ (Hw.code V.length ++ V).take p)).drop ((Hw.code 1).length + (Hw.code K.length ++ K).length) = (Hw.code V.length ++ V).take p := by
          rw [← List.append_assoc (Hw.code 1), ← List.length_append, List.drop_left]
        rw [e, cubbylaw02_PackCut.rtext_cut V (by omega) p (by simp only [List.length_append] at hi ⊢; omega), if_neg (by decide)]
      · exfalso
        rw [if_neg (by decide), List.append_nil] at hi
        simp only [List.length_append] at hi
        omega
theorem cubbylaw02_PackCut.cut_long (n : Nat) (hn : n = 1 ∨ n = 2) (key value : ByteArray) (hk : key.size ≤ 1024) (hv : value.size ≤ 1024) : (Hw.unrec (pack_Record.recd (n : Int) key value ++ [120])).2.2.2 = 21 := by
  rw [cubbylaw02_PackCut.recd_eq n hn]
  have hkl := data_length key
  have hvl := data_length value
  generalize key.data.toList = K at *
  generalize value.data.toList = V at *
  have hr := fun r => Hw.rnum_code 7 n 0 0 r (by omega) (by omega) (.inl rfl)
  simp only [Nat.zero_add, Nat.pow_zero, Nat.mul_one] at hr
  unfold Hw.unrec
  rw [List.append_assoc, List.append_assoc, hr]
  simp only [if_true]
  rw [if_pos hn, List.drop_left, Hw.rtext_code K _ (by omega)]
  unfold Hw.unrec1
  simp only [if_true]
  rcases hn with rfl | rfl
  · simp only [↓reduceIte]
    have e : (Hw.code 1 ++ ((Hw.code K.length ++ K) ++ ((Hw.code V.length ++ V) ++ [120]))).drop ((Hw.code 1).length + (Hw.code K.length ++ K).length) = (Hw.code V.length ++ V) ++ [120] := by
      rw [← List.append_assoc (Hw.code 1), ← List.length_append, List.drop_left]
    rw [e, Hw.rtext_code V _ (by omega)]
    simp only [if_true]
    rw [if_pos (by simp only [List.length_append, List.length_singleton]; omega)]
  · rw [if_neg (by decide : ¬ (2 : Nat) = 1), if_neg (by decide : ¬ (2 : Nat) = 1), if_pos (by simp only [List.length_append, List.length_singleton]; omega)]
theorem cubbylaw02_PackCut.rrec_ev (n : Nat) (hn : n = 1 ∨ n = 2) (key value : ByteArray) (hk : key.size ≤ 1024) (hv : value.size ≤ 1024) : ∃ k, cubbyref02_Record.f k (n : Int) key value = some ⟨(pack_Record.recd (n : Int) key value).toArray⟩ := by
  have h0 := cubbylaw02_PackCut.rcode_ev (n : Int)
  have h1 := cubbylaw02_PackCut.texted_Ev key (by omega)
  have h2 := cubbylaw02_PackCut.texted_Ev value (by omega)
  have hkl := data_length key
  have hvl := data_length value
  have l0 := Hw.code_len 7 _ (Hw.clamp_lt (n : Int))
  have l1 := Hw.code_len 7 key.size (by omega)
  have l2 := Hw.code_len 7 value.size (by omega)
  have sz : ∀ l : List UInt8, (⟨l.toArray⟩ : ByteArray).size = l.length := fun l => List.size_toArray
  have bnd : ∀ {α β : Type} (a : α) (f : α → Option β), (some a).bind f = f a := fun _ _ => rfl
  obtain ⟨k0, h0⟩ := h0
  obtain ⟨k1, h1⟩ := h1
  obtain ⟨k2, h2⟩ := h2
  have h0 := h0 (k0 + k1 + k2) (by omega)
  have h1 := h1 (k0 + k1 + k2) (by omega)
  have h2 := h2 (k0 + k1 + k2) (by omega)
  simp only at h0 h1 h2
  refine ⟨k0 + k1 + k2, ?_⟩
  unfold cubbyref02_Record.f pack_Record.recd
  generalize Hw.code key.size = CK at *
  generalize Hw.code value.size = CV at *
  generalize key.data.toList = KK at *
  generalize value.data.toList = VV at *
  rw [h0, bnd, h1, bnd, if_pos (by rw [sz, sz, List.length_append]; omega)]
  rcases hn with rfl | rfl
  · rw [if_pos (by decide), h2, bnd, cubbylaw02_PackCut.bs_app, if_pos (by simp only [sz, List.length_append]; omega), cubbylaw02_PackCut.bs_app, if_pos (by decide)]
  · rw [if_neg (by decide), cubbylaw02_PackCut.bs_app, if_neg (by decide), List.append_nil]
def cubbylaw02_PackCut.f (a0_0 : Int) (a0_1 a0_2 : ByteArray) (a1 : Int) : Option Bool := some true
set_option maxHeartbeats 4000000 in
set_option maxRecDepth 100000 in
theorem cubbylaw02_PackCut.calls (a0_0 : Int) (a0_1 a0_2 : ByteArray) (a1 : Int) (r : Bool) (w : World) (h : cubbylaw02_PackCut.f a0_0 a0_1 a0_2 a1 = some r) :
    Calls Try.prog 6 #[.agg #[.int .i64 a0_0, .string a0_1, .string a0_2], .int .i64 a1] w fun e w' => e = .returned (.bool r) ∧ Below w.heap.size w w' := by
  obtain rfl := Option.some.inj h
  clear h
  by_cases h1 : (a0_1.size : Int) > 1024
  · have h1b : decide ((1024 : Int) < (a0_1.size : Int)) = true := decide_eq_true h1
    have h1c : decide (1024 < a0_1.size) = true := decide_eq_true (by omega)
    clear h1
    go_enter Try.func6, Try.ntmps6
    go_wp2
    go_ret
    exact ⟨rfl, below_alloc (Below.refl _ _) _⟩
  · have h1b : decide ((1024 : Int) < (a0_1.size : Int)) = false := decide_eq_false h1
    have h1c : decide (1024 < a0_1.size) = false := decide_eq_false (by omega)
    by_cases h2 : (a0_2.size : Int) > 1024
    · have h2b : decide ((1024 : Int) < (a0_2.size : Int)) = true := decide_eq_true h2
      have h2c : decide (1024 < a0_2.size) = true := decide_eq_true (by omega)
      clear h1 h2
      go_enter Try.func6, Try.ntmps6
      go_wp2
      go_ret
      exact ⟨rfl, below_alloc (Below.refl _ _) _⟩
    · have h2b : decide ((1024 : Int) < (a0_2.size : Int)) = false := decide_eq_false h2
      have h2c : decide (1024 < a0_2.size) = false := decide_eq_false (by omega)
      have HS : Aside0 (a0_1.size ≤ 1024 ∧ a0_2.size ≤ 1024) := ⟨by omega, by omega⟩
      clear h1 h2
      obtain ⟨m, hm, hm3⟩ : ∃ m : Int, a0_0.tmod 2 = m ∧ (m = -1 ∨ m = 0 ∨ m = 1) := ⟨_, rfl, by have h1 := Int.tmod_lt_of_pos a0_0 (show (0 : Int) < 2 by decide); have h2 := Int.lt_tmod_of_pos a0_0 (show (0 : Int) < 2 by decide); omega⟩
      have main : ∀ n : Nat, (n = 1 ∨ n = 2) → 1 + m % 2 = (n : Int) → Calls Try.prog 6 #[.agg #[.int .i64 a0_0, .string a0_1, .string a0_2], .int .i64 a1] w fun e w' => e = .returned (.bool true) ∧ Below w.heap.size w w' := by
        intro n hn hmn
        have hlen : ((pack_Record.recd (n : Int) a0_1 a0_2).length : Int) ≤ 3000 ∧ 1 ≤ ((pack_Record.recd (n : Int) a0_1 a0_2).length : Int) := by
          rw [cubbylaw02_PackCut.recd_eq n hn]
          have h1 := cubbylaw02_PackCut.len1 n hn
          have h2 := data_length a0_1
          have h3 := data_length a0_2
          have h4 := HS.out
          have h5 := Hw.code_len 7 a0_1.data.toList.length (by omega)
          have h6 := Hw.code_len 7 a0_2.data.toList.length (by omega)
          simp only [List.length_append]
          split
          · rw [List.length_append]; omega
          · rw [List.length_nil]; omega
        have HRF : Aside0 (∀ W, Calls Try.prog 19 #[.agg #[.int .i64 (n : Int), .string a0_1, .string a0_2]] W fun e w' => e = .returned (.string (cubbylaw02_PackCut.str (pack_Record.recd (n : Int) a0_1 a0_2))) ∧ Below W.heap.size W w') := ⟨fun W => by
          obtain ⟨k, hk⟩ := cubbylaw02_PackCut.rrec_ev n hn a0_1 a0_2 HS.out.1 HS.out.2
          exact cubbyref02_Record.calls k _ _ _ _ W hk⟩
        have HRC : Aside0 (∀ W, Calls Try.prog 18 #[.agg #[.int .i64 (n : Int), .string a0_1, .string a0_2]] W fun e w' => e = .returned (.string (cubbylaw02_PackCut.str (pack_Record.recd (n : Int) a0_1 a0_2))) ∧ Below W.heap.size W w') := ⟨fun W => pack_Record.calls _ _ _ _ W (by unfold pack_Record.f; exact if_pos ⟨by have := HS.out; omega, by have := HS.out; omega⟩)⟩
        have HU1 : Aside0 (∀ (i : Nat) W, i < (pack_Record.recd (n : Int) a0_1 a0_2).length → Calls Try.prog 20 #[.string ((cubbylaw02_PackCut.str (pack_Record.recd (n : Int) a0_1 a0_2)).extract 0 i)] W fun e w' => (∃ kd ky vl, e = .returned (.tuple #[.agg #[.int .i64 kd, .string ky, .string vl], .int .i64 20])) ∧ Below W.heap.size W w') := ⟨fun i W hi => by
          have e1 : ((cubbylaw02_PackCut.str (pack_Record.recd (n : Int) a0_1 a0_2)).extract 0 i).data.toList = (pack_Record.recd (n : Int) a0_1 a0_2).take i := by
            rw [ByteArray.data_extract]; simp [cubbylaw02_PackCut.str]
          refine (pack_Unrecord.calls _ W (by rw [← data_length, e1, List.length_take]; omega)).mono ?_
          rintro e w' ⟨rfl, hb⟩
          rw [e1, cubbylaw02_PackCut.cut_short n hn a0_1 a0_2 HS.out.1 HS.out.2 i hi]
          exact ⟨⟨_, _, _, rfl⟩, hb⟩⟩
        have HU2 : Aside0 (∀ W, Calls Try.prog 20 #[.string (cubbylaw02_PackCut.str (pack_Record.recd (n : Int) a0_1 a0_2) ++ ⟨#[120]⟩)] W fun e w' => (∃ kd ky vl, e = .returned (.tuple #[.agg #[.int .i64 kd, .string ky, .string vl], .int .i64 21])) ∧ Below W.heap.size W w') := ⟨fun W => by
          have e1 : (cubbylaw02_PackCut.str (pack_Record.recd (n : Int) a0_1 a0_2) ++ (⟨#[120]⟩ : ByteArray)).data.toList = pack_Record.recd (n : Int) a0_1 a0_2 ++ [120] := by
            rw [ByteArray.data_append]; simp [cubbylaw02_PackCut.str]
          refine (pack_Unrecord.calls _ W (by rw [← data_length, e1, List.length_append, List.length_singleton]; omega)).mono ?_
          rintro e w' ⟨rfl, hb⟩
          rw [e1, cubbylaw02_PackCut.cut_long n hn a0_1 a0_2 HS.out.1 HS.out.2]
          exact ⟨⟨_, _, _, rfl⟩, hb⟩⟩
        have hsl := cubbylaw02_PackCut.str_size (pack_Record.recd (n : Int) a0_1 a0_2)
        rw [← hsl] at hlen HU1
        generalize cubbylaw02_PackCut.str (pack_Record.recd (n : Int) a0_1 a0_2) = sv at *
        clear hsl
        obtain ⟨hl1, hl2⟩ := hlen
        obtain ⟨r, hr, hr1, hr2⟩ : ∃ r : Int, a1.tmod (sv.size : Int) = r ∧ -(sv.size : Int) < r ∧ r < (sv.size : Int) := ⟨_, rfl, by have := Int.lt_tmod_of_pos a1 (show (0 : Int) < (sv.size : Int) by omega); omega, Int.tmod_lt_of_pos a1 (by omega)⟩
        obtain ⟨i, hi, hi1⟩ : ∃ i : Nat, (r + (sv.size : Int)) % (sv.size : Int) = (i : Int) ∧ i < sv.size := ⟨((r + (sv.size : Int)) % (sv.size : Int)).toNat, by have := Int.emod_nonneg (r + (sv.size : Int)) (show (sv.size : Int) ≠ 0 by omega); omega, by have h1 := Int.emod_nonneg (r + (sv.size : Int)) (show (sv.size : Int) ≠ 0 by omega); have h2 := Int.emod_lt_of_pos (r + (sv.size : Int)) (show (0 : Int) < (sv.size : Int) by omega); omega⟩
        have hz : ((sv.size : Int) == 0) = false := by rw [beq_eq_false_iff_ne]; omega
        have hl3 : sv.size + (⟨#[120]⟩ : ByteArray).size ≤ 9223372036854775807 := by have : (⟨#[120]⟩ : ByteArray).size = 1 := rfl; omega
        have HN := Aside0.mk hn
        have HC1 : Aside0 (∀ W, Below (w.alloc (.cells #[.int .i64 (n : Int), .string a0_1, .string a0_2] 48)).heap.size (w.alloc (.cells #[.int .i64 (n : Int), .string a0_1, .string a0_2] 48)) W → W.cell? ⟨w.heap.size, 0, none⟩ = some (.int .i64 (n : Int)) ∧ W.cell? ⟨w.heap.size, 1, none⟩ = some (.string a0_1) ∧ W.cell? ⟨w.heap.size, 2, none⟩ = some (.string a0_2)) := ⟨fun W hb => by
          have hk := blk_cell (Hw.blk_nw w (.cells #[.int .i64 (n : Int), .string a0_1, .string a0_2] 48))
          exact ⟨(hb.cell (p := ⟨w.heap.size, 0, none⟩) (by simp)).trans (hk 0), (hb.cell (p := ⟨w.heap.size, 1, none⟩) (by simp)).trans (hk 1), (hb.cell (p := ⟨w.heap.size, 2, none⟩) (by simp)).trans (hk 2)⟩⟩
        have HM := Aside0.mk hmn
        clear hn
        go_enter Try.func6, Try.ntmps6
        go_wp2_with (first | (go_at_call 18; (with_reducible refine (HRC.out _).mono ?_); rintro e w1 ⟨rfl, hb1⟩; have B1 := Aside0.mk hb1; obtain ⟨c0, c1, c2⟩ := HC1.out _ hb1; clear hb1) | (go_at_call 19; (with_reducible refine (HRF.out _).mono ?_); rintro e w2 ⟨rfl, hb2⟩; have B2 := Aside0.mk hb2; clear hb2) | (go_at_call 20; have T0 := B2; (with_reducible refine (HU1.out i _ hi1).mono ?_); rintro e w3 ⟨⟨kd, ky, vl, rfl⟩, hb3⟩; have B3 := Aside0.mk hb3; clear hb3) | (go_at_call 20; have T0 := B3; (with_reducible refine (HU2.out _).mono ?_); rintro e w4 ⟨⟨kd2, ky2, vl2, rfl⟩, hb4⟩; have B4 := Aside0.mk hb4; clear hb4))
        have e1 := (below_alloc (Below.refl w.heap.size w) _).trans (B1.out.mono (by simp))
        have e2 := e1.trans (B2.out.mono e1.size)
        have e3 := e2.trans (B3.out.mono e2.size)
        have e4 := (below_alloc e3 _).trans (B4.out.mono (by have := e3.size; simp; omega))
        go_ret
        exact ⟨rfl, below_alloc e4 _⟩
      rcases hm3 with rfl | rfl | rfl
      · exact main 2 (.inr rfl) (by decide)
      · exact main 1 (.inl rfl) (by decide)
      · exact main 2 (.inr rfl) (by decide)

/-- THE ONE PURE STATEMENT of cubbylaw02_PackCut: yours. -/
def cubbylaw02_PackCut.Pure : Prop := ∀ (a0_0 : Int) (a0_1 : ByteArray) (a0_2 : ByteArray) (a1 : Int), (Lit.int .i64 a0_0).wf = true → a0_1.size ≤ 140737488351232 → a0_2.size ≤ 140737488351232 → (Lit.int .i64 a1).wf = true → cubbylaw02_PackCut.f a0_0 a0_1 a0_2 a1 = some true
theorem cubbylaw02_PackCut.walk (P : cubbylaw02_PackCut.Pure) (a0_0 : Int) (a0_1 : ByteArray) (a0_2 : ByteArray) (a1 : Int) (w : World) (o0_0 : (Lit.int .i64 a0_0).wf = true) (o0_1 : a0_1.size ≤ 140737488351232) (o0_2 : a0_2.size ≤ 140737488351232) (o1 : (Lit.int .i64 a1).wf = true) :
    Calls Try.prog 6 #[.agg #[.int .i64 a0_0, .string a0_1, .string a0_2], .int .i64 a1] w fun e w' => e = .returned (.bool true) ∧ Below w.heap.size w w' := by
  have h := P a0_0 a0_1 a0_2 a1 o0_0 o0_1 o0_2 o1
  refine (cubbylaw02_PackCut.calls a0_0 a0_1 a0_2 a1 true w h).mono ?_
  rintro e w' ⟨rfl, hd⟩
  exact ⟨rfl, hd⟩

end Go.Proofs.Ytmecbfadhacajaa.PPackCut
