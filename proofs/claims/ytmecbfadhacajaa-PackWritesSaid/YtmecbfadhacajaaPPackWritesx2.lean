-- By a program of this session (wip/tools/mkprint.py), for this claim.
import Derived.Test.YtmecbfadhacajaaPPackWritesx0
import Derived.Test.YtmecbfadhacajaaPPackWritesx1
namespace Go.Proofs.Ytmecbfadhacajaa.PPackWrites
open Go.RowKit Go.Proofs.YtmecbfadhacajaaW.PrintWords Go.Proofs.YtmecbfadhacajaaW.PrintLast Go.Proofs.YtmecbfadhacajaaW.PrintMore
attribute [local go_sem] max2_int min2_int max_two min_two max_three min_three max_four min_four   -- for this text's walks alone
set_option linter.unusedVariables false
set_option linter.unusedSimpArgs false

/-! ### cubbylaw02_PackWrites: function 4 (by hand) -/
theorem cubbylaw02_PackWrites.wrap64_in (n : Int) (h : -9223372036854775808 ≤ n) (h2 : n < 9223372036854775808) : wrap64 n = n := by unfold wrap64; omega
/-- With fuel enough it answers v. -/
def cubbylaw02_PackWrites.Ev {α : Type} (g : Nat → Option α) (v : α) : Prop := ∃ k0, ∀ k, k0 ≤ k → g k = some v
theorem cubbylaw02_PackWrites.Ev.succ {α : Type} {g : Nat → Option α} {v : α} (h : cubbylaw02_PackWrites.Ev (fun k => g (k + 1)) v) : cubbylaw02_PackWrites.Ev g v := by
  obtain ⟨k0, h⟩ := h
  refine ⟨k0 + 1, fun k hk => ?_⟩
  obtain ⟨k, rfl⟩ : ∃ m, k = m + 1 := ⟨k - 1, by omega⟩
  exact h k (by omega)
theorem cubbylaw02_PackWrites.Ev.bind {α β : Type} {g : Nat → Option α} {f : Nat → α → Option β} {a : α} {v : β} (h1 : cubbylaw02_PackWrites.Ev g a) (h2 : cubbylaw02_PackWrites.Ev (fun k => f k a) v) : cubbylaw02_PackWrites.Ev (fun k => (g k).bind (f k)) v := by
  obtain ⟨k1, h1⟩ := h1
  obtain ⟨k2, h2⟩ := h2
  refine ⟨k1 + k2, fun k hk => ?_⟩
  show (g k).bind (f k) = some v
  rw [h1 k (by omega)]
  exact h2 k (by omega)
theorem cubbylaw02_PackWrites.Ev.const {α : Type} (v : α) : cubbylaw02_PackWrites.Ev (fun _ => some v) v := ⟨0, fun _ _ => rfl⟩
theorem cubbylaw02_PackWrites.Ev.get {α : Type} {g : Nat → Option α} {v : α} (h : cubbylaw02_PackWrites.Ev g v) : ∃ k, g k = some v := by
  obtain ⟨k0, h⟩ := h
  exact ⟨k0, h k0 (Nat.le_refl _)⟩
theorem cubbylaw02_PackWrites.Ev.of {α : Type} {g g' : Nat → Option α} {v : α} (h : cubbylaw02_PackWrites.Ev g v) (e : ∀ k, g' k = g k) : cubbylaw02_PackWrites.Ev g' v := by
  obtain ⟨k0, h⟩ := h
  exact ⟨k0, fun k hk => (e k).trans (h k hk)⟩
theorem cubbylaw02_PackWrites.wnat (i : Nat) (h : i < 9223372036854775807) : wrap64 ((i : Int) + 1) = ((i + 1 : Nat) : Int) := by rw [cubbylaw02_PackWrites.wrap64_in _ (by omega) (by omega)]; omega



theorem cubbylaw02_PackWrites.mx_clamp (n : Int) : mx 0 (mn n 72057594037927935) = ((pack_Writer_Number.clamp n : Nat) : Int) := by
  unfold mx mn pack_Writer_Number.clamp
  split <;> split <;> (try split) <;> omega
/-- Bytes, as the reference holds them. -/
def cubbylaw02_PackWrites.nums8 (l : List UInt8) : List Int := l.map fun x => (x.toNat : Int)
theorem cubbylaw02_PackWrites.str_nums (l : List UInt8) : strOfNums (cubbylaw02_PackWrites.nums8 l) = ⟨l.toArray⟩ := by
  unfold strOfNums cubbylaw02_PackWrites.nums8
  rw [List.map_map]
  congr 2
  have : ∀ x : UInt8, ((fun n : Int => UInt8.ofNat n.toNat) ∘ fun x : UInt8 => (x.toNat : Int)) x = x := by intro x; simp
  rw [show ((fun n : Int => UInt8.ofNat n.toNat) ∘ fun x : UInt8 => (x.toNat : Int)) = id from funext this, List.map_id]
theorem cubbylaw02_PackWrites.rcode_l0 (b : Nat) : ∀ (m : Nat) (acc : List UInt8), m < b → m < 72057594037927936 → acc.length + (pack_Writer_Number.code m).length ≤ 1000 → cubbylaw02_PackWrites.Ev (fun k => cubbyref02_Code.l0 k (m : Int) (cubbylaw02_PackWrites.nums8 acc)) ⟨(acc ++ pack_Writer_Number.code m).toArray⟩ := by
  induction b with
  | zero => intro m acc h; omega
  | succ b ih =>
    intro m acc hm hm2 hl
    have hlen : (cubbylaw02_PackWrites.nums8 acc).length = acc.length := by simp [cubbylaw02_PackWrites.nums8]
    refine cubbylaw02_PackWrites.Ev.succ ?_
    simp only [cubbyref02_Code.l0]
    by_cases h : m < 128
    · rw [pack_Writer_Number.code_lo m h]
      refine (cubbylaw02_PackWrites.Ev.const _).of fun k => ?_
      have e : (m : Int) % 256 = ((UInt8.ofNat m).toNat : Int) := by rw [UInt8.toNat_ofNat']; omega
      rw [if_neg (by omega), if_pos (by omega), e, ← cubbylaw02_PackWrites.str_nums]
      congr 2
      simp [cubbylaw02_PackWrites.nums8]
    · rw [pack_Writer_Number.code_hi m h] at hl ⊢
      rw [List.length_cons] at hl
      have h2 := ih (m / 128) (acc ++ [UInt8.ofNat (m % 128 + 128)]) (by omega) (by omega) (by rw [List.length_append, List.length_singleton]; omega)
      rw [List.append_assoc, List.singleton_append] at h2
      refine h2.of fun k => ?_
      have e1 : Int.tdiv (m : Int) 128 = ((m / 128 : Nat) : Int) := rfl
      have e2 : Int.tmod (m : Int) 128 = ((m % 128 : Nat) : Int) := rfl
      have e3 : (wrap64 (((m % 128 : Nat) : Int) + 128)) % 256 = ((UInt8.ofNat (m % 128 + 128)).toNat : Int) := by rw [cubbylaw02_PackWrites.wrap64_in _ (by omega) (by omega), UInt8.toNat_ofNat']; omega
      rw [if_pos (by omega), if_pos (by omega), e1, e2, e3, cubbylaw02_PackWrites.wrap64_in _ (by omega) (by omega)]
      congr 1
      simp [cubbylaw02_PackWrites.nums8]
theorem cubbylaw02_PackWrites.rcode_ev (n : Int) : cubbylaw02_PackWrites.Ev (fun k => cubbyref02_Code.f k n) ⟨(pack_Writer_Number.code (pack_Writer_Number.clamp n)).toArray⟩ := by
  have hc := pack_Writer_Number.clamp_lt n
  refine (cubbylaw02_PackWrites.rcode_l0 (pack_Writer_Number.clamp n + 1) (pack_Writer_Number.clamp n) [] (by omega) hc (by have := pack_Writer_Number.code_len 7 (pack_Writer_Number.clamp n) hc; simp; omega)).of fun k => ?_
  unfold cubbyref02_Code.f
  rw [cubbylaw02_PackWrites.mx_clamp]
  rfl
def cubbylaw02_PackWrites.enc1 (x : S34) : List UInt8 := if x.f0 = 1 then pack_Writer_Number.code x.f2.size ++ x.f2.data.toList else pack_Writer_Number.code (pack_Writer_Number.clamp x.f1)
def cubbylaw02_PackWrites.enc (l : List S34) : List UInt8 := l.flatMap cubbylaw02_PackWrites.enc1
def cubbylaw02_PackWrites.tot (l : List S34) : Nat := (l.map fun x => x.f2.size).sum
theorem cubbylaw02_PackWrites.rd34 (l : List S34) (i : Nat) (h : i < l.length) : rd_T34 l (i : Int) = l[i] := by
  unfold rd_T34
  simp [List.getD_eq_getElem?_getD, h]
theorem cubbylaw02_PackWrites.heavy_l0 (l : List S34) (hl : l.length ≤ maxLen) (d : Nat) : ∀ (i n : Nat), i + d = l.length → n ≤ maxLen + 1048576 → ∃ b, cubbylaw02_PackWrites.Ev (fun k => cubbylaw02_heavy.l0 k l (n : Int) (i : Int)) b ∧ (b = false → n + cubbylaw02_PackWrites.tot (l.drop i) ≤ 2048) := by
  unfold maxLen at hl
  unfold maxLen
  induction d with
  | zero =>
    intro i n hi hn
    refine ⟨decide ((n : Int) > 2048), cubbylaw02_PackWrites.Ev.succ ?_, fun h => ?_⟩
    · simp only [cubbylaw02_heavy.l0]
      exact (cubbylaw02_PackWrites.Ev.const _).of fun k => by rw [if_neg (by omega)]
    · have := of_decide_eq_false h
      rw [List.drop_eq_nil_of_le (by omega)]
      show n + 0 ≤ 2048
      omega
  | succ d ih =>
    intro i n hi hn
    have hlt : i < l.length := by omega
    by_cases hn2 : n ≤ 2048
    · have hm : mn (l[i].f2.size : Int) 1048576 = ((min l[i].f2.size 1048576 : Nat) : Int) := by unfold mn; split <;> omega
      obtain ⟨b, h1, h2⟩ := ih (i + 1) (n + min l[i].f2.size 1048576) (by omega) (by omega)
      refine ⟨b, cubbylaw02_PackWrites.Ev.succ ?_, fun h => ?_⟩
      · simp only [cubbylaw02_heavy.l0]
        refine h1.of fun k => ?_
        rw [if_pos (by omega), if_pos (by omega), if_pos (by omega), cubbylaw02_PackWrites.rd34 l i hlt, hm, cubbylaw02_PackWrites.wnat i (by omega), cubbylaw02_PackWrites.wrap64_in _ (by omega) (by omega)]
        congr 1
      · have h3 := h2 h
        rw [List.drop_eq_getElem_cons hlt]
        show n + (l[i].f2.size + cubbylaw02_PackWrites.tot (l.drop (i + 1))) ≤ 2048
        omega
    · refine ⟨true, cubbylaw02_PackWrites.Ev.succ ?_, fun h => by cases h⟩
      simp only [cubbylaw02_heavy.l0]
      exact (cubbylaw02_PackWrites.Ev.const _).of fun k => by rw [if_pos (by omega), if_neg (by omega), decide_eq_true (by omega)]
theorem cubbylaw02_PackWrites.heavy_ev (l : List S34) (hl : l.length ≤ maxLen) : ∃ k b, cubbylaw02_heavy.f k l = some b ∧ (b = false → l.length + cubbylaw02_PackWrites.tot l ≤ 2048) := by
  obtain ⟨b, h1, h2⟩ := cubbylaw02_PackWrites.heavy_l0 l hl l.length 0 l.length (by omega) (by unfold maxLen at hl ⊢; omega)
  obtain ⟨k, h⟩ := h1.get
  exact ⟨k, b, h, h2⟩
theorem cubbylaw02_PackWrites.bs_app (a b : List UInt8) : (⟨a.toArray⟩ : ByteArray) ++ (⟨b.toArray⟩ : ByteArray) = ⟨(a ++ b).toArray⟩ := by
  apply ByteArray.ext
  rw [ByteArray.data_append]
  simp
theorem cubbylaw02_PackWrites.texted_ev (s : ByteArray) (hs : s.size ≤ 1000000) : ∃ k, cubbyref02_Texted.f k s = some ⟨(pack_Writer_Number.code s.size ++ s.data.toList).toArray⟩ := by
  obtain ⟨k, h⟩ := (cubbylaw02_PackWrites.rcode_ev (s.size : Int)).get
  have hc : pack_Writer_Number.clamp (s.size : Int) = s.size := by unfold pack_Writer_Number.clamp; rw [if_neg (by omega), if_neg (by omega)]; omega
  rw [hc] at h
  have hl := pack_Writer_Number.code_len 7 s.size (by omega)
  refine ⟨k, ?_⟩
  unfold cubbyref02_Texted.f
  rw [h]
  show (if _ then _ else _) = _
  have e1 : (⟨(pack_Writer_Number.code s.size).toArray⟩ : ByteArray).size = (pack_Writer_Number.code s.size).length := List.size_toArray
  rw [if_pos (by rw [e1]; omega), ← cubbylaw02_PackWrites.bs_app]
theorem cubbylaw02_PackWrites.enc_len (l : List S34) (h : ∀ x ∈ l, x.f2.size ≤ 1000000) : (cubbylaw02_PackWrites.enc l).length ≤ 8 * l.length + cubbylaw02_PackWrites.tot l := by
  induction l with
  | nil => simp [cubbylaw02_PackWrites.enc]
  | cons x l ih =>
    have h1 := ih (fun y hy => h y (List.mem_cons_of_mem _ hy))
    have hx := h x List.mem_cons_self
    have h2 := pack_Writer_Number.code_len 7 x.f2.size (by omega)
    have h3 := pack_Writer_Number.code_len 7 _ (pack_Writer_Number.clamp_lt x.f1)
    have h4 : (cubbylaw02_PackWrites.enc1 x).length ≤ 8 + x.f2.size := by
      unfold cubbylaw02_PackWrites.enc1
      have : x.f2.data.toList.length = x.f2.size := data_length _
      split
      · rw [List.length_append]; omega
      · omega
    show (cubbylaw02_PackWrites.enc1 x ++ cubbylaw02_PackWrites.enc l).length ≤ _
    rw [List.length_append, List.length_cons]
    show _ ≤ 8 * (l.length + 1) + (x.f2.size + cubbylaw02_PackWrites.tot l)
    omega
theorem cubbylaw02_PackWrites.tot_take (l : List S34) (i : Nat) : cubbylaw02_PackWrites.tot (l.take i) ≤ cubbylaw02_PackWrites.tot l := by
  induction l generalizing i with
  | nil => simp
  | cons x l ih =>
    cases i with
    | zero => simp [cubbylaw02_PackWrites.tot]
    | succ i =>
      show x.f2.size + cubbylaw02_PackWrites.tot (l.take i) ≤ x.f2.size + cubbylaw02_PackWrites.tot l
      have := ih i
      omega
theorem cubbylaw02_PackWrites.mem_tot (l : List S34) (x : S34) (h : x ∈ l) : x.f2.size ≤ cubbylaw02_PackWrites.tot l := by
  induction l with
  | nil => exact absurd h List.not_mem_nil
  | cons y l ih =>
    show _ ≤ y.f2.size + cubbylaw02_PackWrites.tot l
    rcases List.mem_cons.1 h with rfl | h
    · omega
    · have := ih h; omega
theorem cubbylaw02_PackWrites.enc_snoc (l : List S34) (x : Int) (h0 : 0 ≤ x) (h : x < (l.length : Int)) : cubbylaw02_PackWrites.enc (l.take (x + 1).toNat) = cubbylaw02_PackWrites.enc (l.take x.toNat) ++ cubbylaw02_PackWrites.enc1 (rd_T34 l x) := by
  obtain ⟨i, rfl⟩ : ∃ i : Nat, x = (i : Int) := ⟨x.toNat, by omega⟩
  have hi : i < l.length := by omega
  rw [cubbylaw02_PackWrites.rd34 l i hi, show ((i : Int) + 1).toNat = i + 1 by omega, show ((i : Int)).toNat = i by omega, List.take_succ_eq_append_getElem hi]
  show List.flatMap _ _ = _
  rw [List.flatMap_append, List.flatMap_cons, List.flatMap_nil, List.append_nil]
  rfl
theorem cubbylaw02_PackWrites.rd_mem (l : List S34) (x : Int) (h0 : 0 ≤ x) (h : x < (l.length : Int)) : rd_T34 l x ∈ l := by
  obtain ⟨i, rfl⟩ : ∃ i : Nat, x = (i : Int) := ⟨x.toNat, by omega⟩
  rw [cubbylaw02_PackWrites.rd34 l i (by omega)]
  exact List.getElem_mem _
def cubbylaw02_PackWrites.str (l : List UInt8) : ByteArray := ⟨l.toArray⟩
theorem cubbylaw02_PackWrites.str_app (a b : List UInt8) : cubbylaw02_PackWrites.str a ++ cubbylaw02_PackWrites.str b = cubbylaw02_PackWrites.str (a ++ b) := cubbylaw02_PackWrites.bs_app a b
theorem cubbylaw02_PackWrites.str_size (a : List UInt8) : (cubbylaw02_PackWrites.str a).size = a.length := List.size_toArray
def cubbylaw02_PackWrites.f (l0 : List (S34)) : Option Bool := if l0.length ≤ maxLen then some true else none
set_option maxHeartbeats 4000000 in
set_option maxRecDepth 100000 in
theorem cubbylaw02_PackWrites.calls (A0 : Option Addr) (c0 : Nat) (l0 : List (S34)) (r : Bool) (w : World) (hr0 : Kd.C k34 w A0 l0.length l0) (hc0 : l0.length ≤ c0) (h : cubbylaw02_PackWrites.f l0 = some r) :
    Calls Try.prog 4 #[.slice A0 l0.length c0] w fun e w' => e = .returned (.bool r) ∧ Below w.heap.size w w' := by
  unfold cubbylaw02_PackWrites.f at h
  by_cases hl : l0.length ≤ maxLen
  case neg => rw [if_neg hl] at h; cases h
  rw [if_pos hl] at h
  obtain rfl := Option.some.inj h
  clear h
  obtain ⟨kh, b, hh, hb⟩ := cubbylaw02_PackWrites.heavy_ev l0 hl
  have HH := Aside0.mk (cubbylaw02_heavy.calls kh A0 c0 l0 b w hr0 hc0 hh)
  have HR := Aside0.mk hr0
  clear hr0 hh hl
  cases b with
  | true =>
    clear hb
    go_enter Try.func4, Try.ntmps4
    go_wp2_with (go_at_call 9; refine HH.out.mono ?_; rintro e w1 ⟨rfl, hb1⟩; have HB1 := Aside0.mk hb1; clear hb1)
    go_ret
    exact ⟨rfl, HB1.out⟩
  | false =>
    have htot := hb rfl
    clear hb
    have HT : Aside0 (∀ x ∈ l0, x.f2.size ≤ 2048) := ⟨fun x hx => Nat.le_trans (cubbylaw02_PackWrites.mem_tot l0 x hx) (by omega)⟩
    go_enter Try.func4, Try.ntmps4
    go_wp2_with (go_at_call 9; refine HH.out.mono ?_; rintro e w1 ⟨rfl, hb1⟩; have HB1 := Aside0.mk hb1; clear hb1)
    have HB0 := Aside0.mk (below_alloc HB1.out (.cells #[.pointer none, .slice none 0 0] 32))
    have HW0 := Aside0.mk (strings_Builder_copyCheck.fresh_wr 32 w1)
    have HBW := Aside0.mk HB1.out.size
    have HR1 := Aside0.mk (fun wq (hq : Below w.heap.size w wq) => Kd.C_below HR.out hq)
    have HL : Aside0 (∀ i : Nat, (cubbylaw02_PackWrites.enc (l0.take i)).length ≤ 20000 ∧ l0.length ≤ 2048) := ⟨fun i => by
      have h1 := cubbylaw02_PackWrites.enc_len (l0.take i) (fun x hx => Nat.le_trans (HT.out x (List.mem_of_mem_take hx)) (by omega))
      have h2 := cubbylaw02_PackWrites.tot_take l0 i
      have h3 : (l0.take i).length ≤ l0.length := by rw [List.length_take]; omega
      omega⟩
    have HTX : Aside0 (∀ (bs : List UInt8) (s : ByteArray) (wq : World), strings_Builder_copyCheck.Wr 32 w1.heap.size w1.heap.size (Lib.byteCells bs) wq → s.size ≤ 2048 → bs.length ≤ 20000 →
      Calls Try.prog 10 #[.pointer (some ⟨w1.heap.size, 0, none⟩), .string s] wq fun e w' => e = .returned (.tuple #[]) ∧ strings_Builder_copyCheck.Wr 32 w1.heap.size w1.heap.size (Lib.byteCells (bs ++ (pack_Writer_Number.code s.size ++ s.data.toList))) w' ∧ Below w1.heap.size wq w') := ⟨fun bs s wq h1 h2 h3 => pack_Writer_Text.calls w1.heap.size w1.heap.size bs s wq h1 (by omega) (by omega) (Nat.le_of_lt h1.lt)⟩
    have HNX : Aside0 (∀ (bs : List UInt8) (n : Int) (wq : World), strings_Builder_copyCheck.Wr 32 w1.heap.size w1.heap.size (Lib.byteCells bs) wq → bs.length ≤ 20000 →
      Calls Try.prog 12 #[.pointer (some ⟨w1.heap.size, 0, none⟩), .int .i64 n] wq fun e w' => e = .returned (.tuple #[]) ∧ strings_Builder_copyCheck.Wr 32 w1.heap.size w1.heap.size (Lib.byteCells (bs ++ pack_Writer_Number.code (pack_Writer_Number.clamp n))) w' ∧ Below w1.heap.size wq w') := ⟨fun bs n wq h1 h3 => pack_Writer_Number.calls w1.heap.size w1.heap.size bs n wq h1 (by omega) (Nat.le_of_lt h1.lt)⟩
    have HBX : Aside0 (∀ (bs : List UInt8) (wq : World), strings_Builder_copyCheck.Wr 32 w1.heap.size w1.heap.size (Lib.byteCells bs) wq →
      Calls Try.prog 13 #[.pointer (some ⟨w1.heap.size, 0, none⟩)] wq fun e w' => e = .returned (.string (cubbylaw02_PackWrites.str bs)) ∧ strings_Builder_copyCheck.Wr 32 w1.heap.size w1.heap.size (Lib.byteCells bs) w' ∧ Below w1.heap.size wq w') := ⟨fun bs wq h1 => pack_Writer_Bytes.calls w1.heap.size w1.heap.size bs wq h1⟩
    have HCX : Aside0 (∀ (n : Int) (wq : World), Calls Try.prog 8 #[.int .i64 n] wq fun e w' => e = .returned (.string (cubbylaw02_PackWrites.str (pack_Writer_Number.code (pack_Writer_Number.clamp n)))) ∧ Below wq.heap.size wq w') := ⟨fun n wq => by
      obtain ⟨k, hk⟩ := (cubbylaw02_PackWrites.rcode_ev n).get
      exact cubbyref02_Code.calls k n _ wq hk⟩
    have HDX : Aside0 (∀ (s : ByteArray) (wq : World), s.size ≤ 2048 → Calls Try.prog 11 #[.string s] wq fun e w' => e = .returned (.string (cubbylaw02_PackWrites.str (pack_Writer_Number.code s.size ++ s.data.toList))) ∧ Below wq.heap.size wq w') := ⟨fun s wq hs => by
      obtain ⟨k, hk⟩ := cubbylaw02_PackWrites.texted_ev s (by omega)
      exact cubbyref02_Texted.calls k s _ wq hk⟩
    have HEX : Aside0 (∀ (n : Int) (wq : World), Calls Try.prog 7 #[.int .i64 n] wq fun e w' => e = .returned (.string (cubbylaw02_PackWrites.str (pack_Writer_Number.code (pack_Writer_Number.clamp n)))) ∧ Below wq.heap.size wq w') := ⟨fun n wq => cubbylaw02_code.calls n _ wq rfl⟩
    clear HH
    go_loopg [4, 5] (l0.length) (fun gg v4 v5 wq => ∃ (x : Int) (bs : List UInt8), v5 = .int .i64 x ∧ v4 = .string (cubbylaw02_PackWrites.str bs) ∧ Aside0 (0 ≤ x ∧ x ≤ (l0.length : Int) ∧ (gg : Int) = (l0.length : Int) - x ∧ bs = cubbylaw02_PackWrites.enc (l0.take x.toNat)) ∧ Aside0 (strings_Builder_copyCheck.Wr 32 w1.heap.size w1.heap.size (Lib.byteCells bs) wq) ∧ Aside0 (Below w.heap.size w wq))
    case atStart =>
      refine ⟨0, [], by first | rfl | simp, by first | rfl | simp [cubbylaw02_PackWrites.str], ⟨Int.le_refl _, by omega, by omega, rfl⟩, ?_, ?_⟩
      · exact HW0
      · exact HB0
    case round =>
      obtain ⟨x, bs, rfl, rfl, HX, HWr, HB⟩ := hrel
      have HBL : Aside0 (bs.length ≤ 20000 ∧ (cubbylaw02_PackWrites.str bs).size = bs.length) := ⟨by rw [HX.out.2.2.2]; exact (HL.out _).1, cubbylaw02_PackWrites.str_size _⟩
      by_cases hx : x < (l0.length : Int)
      · have hx1 : 0 ≤ x := HX.out.1
        have hmem := Aside0.mk (HT.out _ (cubbylaw02_PackWrites.rd_mem l0 x hx1 hx))
        have HSN := Aside0.mk (cubbylaw02_PackWrites.enc_snoc l0 x hx1 hx)
        obtain ⟨ad, ea, g0, g1, g2⟩ := at_T34 HR.out x hx1 hx
        cases ea
        have HBK := Aside0.mk (World.block_lt_of_cell? w _ g0)
        have HCELL := Aside0.mk (fun wq (hq : Below w.heap.size w wq) => And.intro ((hq.cell (p := ad.add (x.toNat * 3)) HBK.out).trans g0) (And.intro ((hq.cell (p := ⟨(ad.add (x.toNat * 3)).block, (ad.add (x.toNat * 3)).off + 1, none⟩) HBK.out).trans g1) ((hq.cell (p := ⟨(ad.add (x.toNat * 3)).block, (ad.add (x.toNat * 3)).off + 2, none⟩) HBK.out).trans g2)))
        clear g0 g1 g2
        obtain ⟨hc0, hc1, hc2⟩ := HCELL.out _ HB.out
        generalize rd_T34 l0 x = y at *
        have hxb := decide_eq_true hx
        obtain ⟨k1, rfl⟩ : ∃ k, gk = k + 1 := ⟨gk - 1, by have := HX.out; omega⟩
        by_cases hk : y.f0 = 1
        · have hkb : (y.f0 == 1) = true := by rw [hk]; rfl
          have HE := Aside0.mk (show cubbylaw02_PackWrites.enc1 y = pack_Writer_Number.code y.f2.size ++ y.f2.data.toList from if_pos hk)
          clear hk
          have hsz : (cubbylaw02_PackWrites.str bs).size + (cubbylaw02_PackWrites.str (pack_Writer_Number.code y.f2.size ++ y.f2.data.toList)).size ≤ 9223372036854775807 := by
            have h1 := HBL.out
            have h2 := pack_Writer_Number.code_len 7 y.f2.size (by have := hmem.out; omega)
            have h3 := data_length y.f2
            have h4 := hmem.out
            rw [cubbylaw02_PackWrites.str_size (pack_Writer_Number.code y.f2.size ++ y.f2.data.toList), List.length_append]
            omega
          go_wp2_with (first | (go_at_call 10; refine (HTX.out bs y.f2 _ HWr.out hmem.out HBL.out.1).mono ?_; rintro e w3 ⟨rfl, h3, hb3⟩; have H3 := Aside0.mk h3; have HB3 := Aside0.mk (HB.out.trans (Below.mono hb3 HBW.out)); obtain ⟨hd0, hd1, hd2⟩ := HCELL.out _ HB3.out; clear h3 hb3) | (go_at_call 11; refine (HDX.out y.f2 _ hmem.out).mono ?_; rintro e w4 ⟨rfl, hb4⟩; have H4 := Aside0.mk (H3.out.below hb4); have HB4 := Aside0.mk (HB3.out.trans (hb4.mono HB3.out.size)); clear hb4) | (go_at_call 13; refine (HBX.out _ _ H4.out).mono ?_; rintro e w5 ⟨he, h5, hb5⟩; rw [← cubbylaw02_PackWrites.str_app] at he; subst he; have H5 := Aside0.mk h5; have HB5 := Aside0.mk (HB4.out.trans (Below.mono hb5 HBW.out)); clear h5 hb5))
          go_roundg k1
          case measure => omega
          case rel =>
            refine ⟨x + 1, bs ++ (pack_Writer_Number.code y.f2.size ++ y.f2.data.toList), by go_num, congrArg Value.string (cubbylaw02_PackWrites.str_app _ _), ⟨?_, ?_, ?_, ?_⟩, H5, HB5⟩
            · omega
            · omega
            · have := HX.out.2.2.1; omega
            · rw [HSN.out, HE.out, ← HX.out.2.2.2]
        · have hkb : (y.f0 == 1) = false := by simpa using hk
          have HE := Aside0.mk (show cubbylaw02_PackWrites.enc1 y = pack_Writer_Number.code (pack_Writer_Number.clamp y.f1) from if_neg hk)
          clear hk
          have hsz : (cubbylaw02_PackWrites.str bs).size + (cubbylaw02_PackWrites.str (pack_Writer_Number.code (pack_Writer_Number.clamp y.f1))).size ≤ 9223372036854775807 := by
            have h1 := HBL.out
            have h2 := pack_Writer_Number.code_len 7 _ (pack_Writer_Number.clamp_lt y.f1)
            rw [cubbylaw02_PackWrites.str_size (pack_Writer_Number.code (pack_Writer_Number.clamp y.f1))]
            omega
          go_wp2_with (first | (go_at_call 12; refine (HNX.out bs y.f1 _ HWr.out HBL.out.1).mono ?_; rintro e w3 ⟨rfl, h3, hb3⟩; have H3 := Aside0.mk h3; have HB3 := Aside0.mk (HB.out.trans (Below.mono hb3 HBW.out)); obtain ⟨hd0, hd1, hd2⟩ := HCELL.out _ HB3.out; clear h3 hb3) | (go_at_call 8; refine (HCX.out y.f1 _).mono ?_; rintro e w4 ⟨rfl, hb4⟩; have H4 := Aside0.mk (H3.out.below hb4); have HB4 := Aside0.mk (HB3.out.trans (hb4.mono HB3.out.size)); clear hb4) | (go_at_call 13; refine (HBX.out _ _ H4.out).mono ?_; rintro e w5 ⟨he, h5, hb5⟩; rw [← cubbylaw02_PackWrites.str_app] at he; subst he; have H5 := Aside0.mk h5; have HB5 := Aside0.mk (HB4.out.trans (Below.mono hb5 HBW.out)); clear h5 hb5))
          go_roundg k1
          case measure => omega
          case rel =>
            refine ⟨x + 1, bs ++ pack_Writer_Number.code (pack_Writer_Number.clamp y.f1), by go_num, congrArg Value.string (cubbylaw02_PackWrites.str_app _ _), ⟨?_, ?_, ?_, ?_⟩, H5, HB5⟩
            · omega
            · omega
            · have := HX.out.2.2.1; omega
            · rw [HSN.out, HE.out, ← HX.out.2.2.2]
      · have hxb := decide_eq_false hx
        clear hx
        go_wp2_with (first | (go_at_call 13; refine (HBX.out _ _ HWr.out).mono ?_; rintro e w5 ⟨rfl, h5, hb5⟩; have H5 := Aside0.mk h5; have HB5 := Aside0.mk (HB.out.trans (Below.mono hb5 HBW.out)); clear h5 hb5) | (go_at_call 8; refine (HCX.out 0 _).mono ?_; rintro e w6 ⟨rfl, hb6⟩; have HB6 := Aside0.mk (HB5.out.trans (hb6.mono HB5.out.size)); clear hb6) | (go_at_call 7; refine (HEX.out 0 _).mono ?_; rintro e w7 ⟨rfl, hb7⟩; have HB7 := Aside0.mk (HB6.out.trans (hb7.mono HB6.out.size)); clear hb7))
        go_ret
        exact ⟨rfl, HB7.out⟩

/-- THE ONE PURE STATEMENT of cubbylaw02_PackWrites: yours. -/
def cubbylaw02_PackWrites.Pure : Prop := ∀ (l0 : List (S34)), (l0.length ≤ maxLen ∧ l0.length * 32 ≤ 140737488351232 ∧ ∀ x ∈ l0, ((Lit.int .i64 x.f0).wf = true ∧ (Lit.int .i64 x.f1).wf = true ∧ x.f2.size ≤ 140737488351232)) → cubbylaw02_PackWrites.f l0 = some true
theorem cubbylaw02_PackWrites.walk (P : cubbylaw02_PackWrites.Pure) (A0 : Option Addr) (c0 : Nat) (l0 : List (S34)) (w : World) (hr0 : Kd.C k34 w A0 l0.length l0) (hc0 : l0.length ≤ c0) (o0 : (l0.length ≤ maxLen ∧ l0.length * 32 ≤ 140737488351232 ∧ ∀ x ∈ l0, ((Lit.int .i64 x.f0).wf = true ∧ (Lit.int .i64 x.f1).wf = true ∧ x.f2.size ≤ 140737488351232))) :
    Calls Try.prog 4 #[.slice A0 l0.length c0] w fun e w' => e = .returned (.bool true) ∧ Below w.heap.size w w' := by
  have h := P l0 o0
  refine (cubbylaw02_PackWrites.calls A0 c0 l0 true w hr0 hc0 h).mono ?_
  rintro e w' ⟨rfl, hd⟩
  exact ⟨rfl, hd⟩

end Go.Proofs.Ytmecbfadhacajaa.PPackWrites
