-- By a program of this session (wip/tools/mkprint.py), for this claim.
import Derived.Test.YtkjflclkjdbmoaaPExecSlotsx0
import Derived.Test.YtkjflclkjdbmoaaPExecSlotsx3
import Derived.Test.YtkjflclkjdbmoaaPExecSlotsx4
import Derived.Test.YtkjflclkjdbmoaaPExecSlotsx7
namespace Go.Proofs.Ytkjflclkjdbmoaa.PExecSlots
open Go.RowKit Go.Proofs.YtkjflclkjdbmoaaW.PrintWords Go.Proofs.YtkjflclkjdbmoaaW.PrintLast Go.Proofs.YtkjflclkjdbmoaaW.PrintMore
attribute [local go_sem] max2_int min2_int max_two min_two max_three min_three max_four min_four   -- for this text's walks alone
set_option linter.unusedVariables false
set_option linter.unusedSimpArgs false

/-! ### cubbyref10_Ints: function 8 -/
def cubbyref10_Ints.l0 : Nat → List Int → List Int → Int → Option (Bool)
  | 0, _, _, _ => none
  | k + 1, x0, x1, x5 => if x5 < (x0.length : Int) then (if 0 ≤ x5 then (if x5 < (x1.length : Int) then (if (rd x0 x5) = (rd x1 x5) then (cubbyref10_Ints.l0 k x0 x1 (wrap64 (x5 + 1))) else (some false)) else (none)) else (none)) else (some true)
def cubbyref10_Ints.f (k : Nat) (l0 : List Int) (l1 : List Int) : Option (Bool) := if (l0.length : Int) = (l1.length : Int) then (cubbyref10_Ints.l0 k l0 l1 0) else (some false)
theorem cubbyref10_Ints.mono_l : ∀ k, (∀ y0 y1 y2, LeO (cubbyref10_Ints.l0 k y0 y1 y2) (cubbyref10_Ints.l0 (k + 1) y0 y1 y2))
  | 0 => fun _ _ _ r h => by simp [cubbyref10_Ints.l0] at h
  | k + 1 => by
    have ih0 := cubbyref10_Ints.mono_l k
    · intro y0 y1 y2
      unfold cubbyref10_Ints.l0
      repeat' first
      | (with_reducible exact ih0 _ _ _)
      | (with_reducible exact LeO.refl _)
      | (with_reducible exact LeO.none _)
      | (with_reducible refine LeO.ite ?_ ?_)
      | (with_reducible refine LeO.bind ?_ (fun _ => ?_))
      | exact ih0 _ _ _
      | exact LeO.none _
      | refine LeO.ite ?_ ?_
      | refine LeO.bind ?_ (fun _ => ?_)
theorem cubbyref10_Ints.mono : ∀ a0 a1 k, LeO (cubbyref10_Ints.f k a0 a1) (cubbyref10_Ints.f (k + 1) a0 a1) := by
  intro a0 a1 k
  have ih0 := cubbyref10_Ints.mono_l k
  unfold cubbyref10_Ints.f
  repeat' first
      | (with_reducible exact ih0 _ _ _)
      | (with_reducible exact LeO.refl _)
      | (with_reducible exact LeO.none _)
      | (with_reducible refine LeO.ite ?_ ?_)
      | (with_reducible refine LeO.bind ?_ (fun _ => ?_))
      | exact ih0 _ _ _
      | exact LeO.none _
      | refine LeO.ite ?_ ?_
      | refine LeO.bind ?_ (fun _ => ?_)
set_option maxHeartbeats 8000000 in
set_option maxRecDepth 100000 in
theorem cubbyref10_Ints.calls (k : Nat) (A0 : Option Addr) (c0 : Nat) (l0 : List Int) (A1 : Option Addr) (c1 : Nat) (l1 : List Int) (r : Bool) (w : World) (hr0 : Kd.C (Kd.int .i64) w A0 l0.length l0) (hc0 : l0.length ≤ c0) (hr1 : Kd.C (Kd.int .i64) w A1 l1.length l1) (hc1 : l1.length ≤ c1) (h : cubbyref10_Ints.f k l0 l1 = some r) :
    Calls Try.prog 8 #[.slice A0 l0.length c0, .slice A1 l1.length c1] w fun e w' => e = .returned (.bool r) ∧ Drawn0 w w' := by
  have HR0 := Aside0.mk hr0
  have HC0 := Aside0.mk hc0
  clear hr0 hc0
  have HR1 := Aside0.mk hr1
  have HC1 := Aside0.mk hc1
  clear hr1 hc1
  have H : (if (l0.length : Int) = (l1.length : Int) then (cubbyref10_Ints.l0 k l0 l1 0) else (some false)) = some r := h
  clear h
  by_cases c3 : (l0.length : Int) = (l1.length : Int)
  · rw [if_pos c3] at H
    have c3b0 : ((l0.length : Int) == (l1.length : Int)) = true := beq_iff_eq.mpr c3
    have c3b1 : ((l0.length : Int) != (l1.length : Int)) = false := bne_eq_false_iff_eq.mpr c3
    have c3b2 : (l0.length == l1.length) = true := by first | simpa using c3 | (simp at c3 ⊢; omega)
    clear c3
    have H' := Aside0.mk H
    clear H
    go_enter Try.func8, Try.ntmps8
    go_wp2
    repeat (go_quiet (fail); try go_wp2)
    go_loopg [5] k (fun kq v5 w' => ∃ (x5_1 : Int), v5 = .int .i64 x5_1 ∧ Aside0 (cubbyref10_Ints.l0 kq l0 l1 x5_1 = some r) ∧ Aside0 (kq ≤ k) ∧ Drawn0 w w')
    case atStart => exact ⟨(0), (by first | rfl | (simp; done) | (simp [*]; done)), H', ⟨Nat.le_refl _⟩, by repeat (first | exact Drawn0.refl _ | apply Drawn0.step)⟩
    case round =>
      clear H'
      try clear c1
      try clear p2
      try clear c3
      try clear c3b0
      try clear c3b1
      try clear c3b2
      obtain ⟨x5_1, rfl, HA, HK1, ⟨m1, rfl⟩⟩ := hrel
      cases gk with
      | zero => exact absurd HA.out (by simp [cubbyref10_Ints.l0])
      | succ k1 =>
        have H := HA.out
        clear HA
        simp only [cubbyref10_Ints.l0] at H
        by_cases c4 : x5_1 < (l0.length : Int)
        · rw [if_pos c4] at H
          have c4b0 : decide (x5_1 < (l0.length : Int)) = true := decide_eq_true c4
          clear c4
          by_cases c5 : 0 ≤ x5_1
          · rw [if_pos c5] at H
            have c5b0 : decide (0 ≤ x5_1) = true := decide_eq_true c5
            clear c5
            by_cases c6 : x5_1 < (l1.length : Int)
            · rw [if_pos c6] at H
              have c6b0 : decide (x5_1 < (l1.length : Int)) = true := decide_eq_true c6
              clear c6
              by_cases c7 : (rd l0 x5_1) = (rd l1 x5_1)
              · rw [if_pos c7] at H
                have c7b0 : ((rd l0 x5_1) == (rd l1 x5_1)) = true := beq_iff_eq.mpr c7
                have c7b1 : ((rd l0 x5_1) != (rd l1 x5_1)) = false := bne_eq_false_iff_eq.mpr c7
                clear c7
                have H' := Aside0.mk H
                clear H
                have p108 : 0 ≤ (x5_1 : Int) := of_decide_eq_true (by first | (with_reducible assumption) | assumption)
                have q108 : x5_1 < (l0.length : Int) := of_decide_eq_true (by first | (with_reducible assumption) | assumption)
                obtain ⟨ad108, e108, hx108_0⟩ := Kd.at_int HR0.out x5_1 p108 q108
                cases e108
                replace p108 := eq_true p108
                replace q108 := eq_true q108
                have p109 : 0 ≤ (x5_1 : Int) := of_decide_eq_true (by first | (with_reducible assumption) | assumption)
                have q109 : x5_1 < (l1.length : Int) := of_decide_eq_true (by first | (with_reducible assumption) | assumption)
                obtain ⟨ad109, e109, hx109_0⟩ := Kd.at_int HR1.out x5_1 p109 q109
                cases e109
                replace p109 := eq_true p109
                replace q109 := eq_true q109
                go_wp2
                repeat (go_quiet (fail); try go_wp2)
                go_roundg k1
                case measure => have := HK1.out; omega
                case rel => exact ⟨(wrap64 (x5_1 + 1)), (by first | rfl | (simp; done) | (simp [*]; done)), H', ⟨by have := HK1.out; omega⟩, by repeat (first | exact Drawn0.refl _ | apply Drawn0.step)⟩
              · rw [if_neg c7] at H
                have c7b0 : ((rd l0 x5_1) == (rd l1 x5_1)) = false := beq_eq_false_iff_ne.mpr c7
                have c7b1 : ((rd l0 x5_1) != (rd l1 x5_1)) = true := bne_iff_ne.mpr c7
                obtain rfl := Option.some.inj H
                have p108 : 0 ≤ (x5_1 : Int) := of_decide_eq_true (by first | (with_reducible assumption) | assumption)
                have q108 : x5_1 < (l0.length : Int) := of_decide_eq_true (by first | (with_reducible assumption) | assumption)
                obtain ⟨ad108, e108, hx108_0⟩ := Kd.at_int HR0.out x5_1 p108 q108
                cases e108
                replace p108 := eq_true p108
                replace q108 := eq_true q108
                have p109 : 0 ≤ (x5_1 : Int) := of_decide_eq_true (by first | (with_reducible assumption) | assumption)
                have q109 : x5_1 < (l1.length : Int) := of_decide_eq_true (by first | (with_reducible assumption) | assumption)
                obtain ⟨ad109, e109, hx109_0⟩ := Kd.at_int HR1.out x5_1 p109 q109
                cases e109
                replace p109 := eq_true p109
                replace q109 := eq_true q109
                go_wp2
                repeat (go_quiet (fail); try go_wp2)
                go_ret
                exact ⟨by first | rfl | (simp; done) | (simp [*]; done), by repeat (first | exact Drawn0.refl _ | apply Drawn0.step)⟩
            · rw [if_neg c6] at H
              exact absurd H (by simp)
          · rw [if_neg c5] at H
            exact absurd H (by simp)
        · rw [if_neg c4] at H
          have c4b0 : decide (x5_1 < (l0.length : Int)) = false := decide_eq_false c4
          clear c4
          obtain rfl := Option.some.inj H
          go_wp2
          repeat (go_quiet (fail); try go_wp2)
          go_ret
          exact ⟨by first | rfl | (simp; done) | (simp [*]; done), by repeat (first | exact Drawn0.refl _ | apply Drawn0.step)⟩
  · rw [if_neg c3] at H
    have c3b0 : ((l0.length : Int) == (l1.length : Int)) = false := beq_eq_false_iff_ne.mpr c3
    have c3b1 : ((l0.length : Int) != (l1.length : Int)) = true := bne_iff_ne.mpr c3
    have c3b2 : (l0.length == l1.length) = false := by first | simpa using c3 | (simp at c3 ⊢; omega)
    obtain rfl := Option.some.inj H
    go_enter Try.func8, Try.ntmps8
    go_wp2
    repeat (go_quiet (fail); try go_wp2)
    go_ret
    exact ⟨by first | rfl | (simp; done) | (simp [*]; done), by repeat (first | exact Drawn0.refl _ | apply Drawn0.step)⟩

/-! ### cubbylaw14_ExecSlots: function 3 (by hand) -/
theorem cubbylaw14_ExecSlots.flat (sz : Nat) : ∀ (cells : List (List Value)), (∀ c ∈ cells, c.length = sz) → ∀ (j i : Nat) (c : List Value), cells[j]? = some c → i < sz → cells.flatten[j * sz + i]? = c[i]?
  | [], _, j, i, c, hj, _ => by simp at hj
  | a :: l, h, 0, i, c, hj, hi => by
    have e : a = c := by simpa using hj
    subst e
    rw [List.flatten_cons, List.getElem?_append_left (by rw [h a List.mem_cons_self]; omega), Nat.zero_mul, Nat.zero_add]
  | a :: l, h, j + 1, i, c, hj, hi => by
    have hl := h a List.mem_cons_self
    rw [List.flatten_cons, List.getElem?_append_right (by rw [hl, Nat.add_mul]; omega), hl, show (j + 1) * sz + i - sz = j * sz + i by rw [Nat.add_mul]; omega]
    exact cubbylaw14_ExecSlots.flat sz l (fun c hc => h c (List.mem_cons_of_mem _ hc)) j i c (by simpa using hj) hi
/-- A row that lies in a block of its own. -/
theorem cubbylaw14_ExecSlots.C_block {α : Type} (d : Kd α) {W : World} {b : Nat} {t : TypeId} {xs : List α} (cells : List (List Value)) (h : W.heap[b]? = some (.cells cells.flatten.toArray t (0, 0))) (hl : cells.length = xs.length) (hn : xs.length ≤ 9223372036854775807)
    (hK : ∀ (j : Nat) (x : α) (c : List Value), xs[j]? = some x → cells[j]? = some c → d.K W x c) : d.C W (some ⟨b, 0, none⟩) xs.length xs := by
  have hsz : ∀ c ∈ cells, c.length = d.sz := by
    intro c hc
    obtain ⟨j, hj, rfl⟩ := List.getElem_of_mem hc
    exact d.K_len (hK j (xs[j]'(by omega)) _ (List.getElem?_eq_getElem (by omega)) (List.getElem?_eq_getElem hj))
  refine ⟨rfl, hn, fun _ => ⟨_, rfl, fun j p hj => ?_⟩⟩
  have hjl := (List.getElem?_eq_some_iff.1 hj).1
  have hc : cells[j]? = some (cells[j]'(by omega)) := List.getElem?_eq_getElem (by omega)
  have hk := hK j p _ hj hc
  refine ⟨_, d.K_len hk, hk, fun i u hu => ?_⟩
  have ea : (⟨b, 0, none⟩ : Addr).add (j * d.sz + i) = ⟨b, j * d.sz + i, none⟩ := by unfold Addr.add; split <;> simp_all
  have hil : i < d.sz := by rw [← d.K_len hk]; exact (List.getElem?_eq_some_iff.1 hu).1
  rw [ea, cell_of_row W b _ _ _ _ h, List.getElem?_toArray, cubbylaw14_ExecSlots.flat d.sz cells hsz j i _ hc hil]
  exact hu
theorem cubbylaw14_ExecSlots.noargs (W : World) : (Kd.int .i64).C W none 0 [] := ⟨rfl, Nat.zero_le _, fun h => absurd h (Nat.lt_irrefl 0)⟩
theorem cubbylaw14_ExecSlots.mkI {W : World} (o d a b : Int) (nm : ByteArray) (as_ : List Int) (Ag : Option Addr) (cg : Nat) (hl : as_.length ≤ cg) (h : (Kd.int .i64).C W Ag as_.length as_) : Rn.kI.K W ⟨o, d, a, b, nm, as_⟩ [.int .i64 o, .int .i64 d, .int .i64 a, .int .i64 b, .string nm, .slice Ag as_.length cg] :=
  ⟨[.int .i64 o], [.int .i64 d, .int .i64 a, .int .i64 b, .string nm, .slice Ag as_.length cg], rfl, rfl, ⟨[.int .i64 d], [.int .i64 a, .int .i64 b, .string nm, .slice Ag as_.length cg], rfl, rfl, ⟨[.int .i64 a], [.int .i64 b, .string nm, .slice Ag as_.length cg], rfl, rfl, ⟨[.int .i64 b], [.string nm, .slice Ag as_.length cg], rfl, rfl, ⟨[.string nm], [.slice Ag as_.length cg], rfl, rfl, ⟨Ag, cg, rfl, hl, h⟩⟩⟩⟩⟩⟩
theorem cubbylaw14_ExecSlots.gp {α : Type} (r : List Int) (i : Nat) (k : Int → Option α) (h : i < r.length) : Rn.get r (i : Int) k = k (r.getD i 0) := by
  unfold Rn.get
  rw [if_pos (by omega), Int.toNat_natCast]
theorem cubbylaw14_ExecSlots.sp {α : Type} (r : List Int) (i : Nat) (v : Int) (k : List Int → Option α) (h : i < r.length) : Rn.set r (i : Int) v k = k (r.set i v) := by
  unfold Rn.set
  rw [if_pos (by omega), Int.toNat_natCast]
section
variable {mod : List Ex.Cd} {fuel : Int} {g : Nat} {bl : List (List Rn.Ins)} {r s : List Int} {rest : List Rn.Ins} {deep : Int} {nm : ByteArray} {args : List Int} {mem told : List Int} {st b : Int}
theorem cubbylaw14_ExecSlots.s1 (d : Nat) (a : Int) (h : ¬ fuel ≤ st) (hd : d < r.length) : Ex.go mod fuel (g + 1) bl r s (⟨1, (d : Int), a, b, nm, args⟩ :: rest) deep ⟨mem, told, st⟩ = Ex.go mod fuel g bl (r.set d a) s rest deep ⟨mem, told, st + 1⟩ := by
  rw [Ex.goP (by exact h) (by decide) (by decide) (by decide) (by decide)]
  have e : Ex.plain ⟨1, (d : Int), a, b, nm, args⟩ r s (Rn.tick ⟨mem, told, st⟩) = some (some (r.set d a, s, ⟨mem, told, st + 1⟩)) := by
    unfold Ex.plain
    rw [if_pos rfl, cubbylaw14_ExecSlots.sp _ _ _ _ hd]
    rfl
  rw [e]
theorem cubbylaw14_ExecSlots.s22 (d a : Nat) (h : ¬ fuel ≤ st) (hd : d < s.length) (ha : a < r.length) : Ex.go mod fuel (g + 1) bl r s (⟨22, (d : Int), (a : Int), b, nm, args⟩ :: rest) deep ⟨mem, told, st⟩ = Ex.go mod fuel g bl r (s.set d (r.getD a 0)) rest deep ⟨mem, told, st + 1⟩ := by
  rw [Ex.goP (by exact h) (by decide) (by decide) (by decide) (by decide)]
  have e : Ex.plain ⟨22, (d : Int), (a : Int), b, nm, args⟩ r s (Rn.tick ⟨mem, told, st⟩) = some (some (r, s.set d (r.getD a 0), ⟨mem, told, st + 1⟩)) := by
    unfold Ex.plain
    rw [if_neg (show ¬ (22 : Int) = 1 by decide), if_neg (show ¬ (22 : Int) = 2 by decide), if_neg (show ¬ (22 : Int) = 21 by decide), if_pos rfl, cubbylaw14_ExecSlots.gp _ _ _ ha, cubbylaw14_ExecSlots.sp _ _ _ _ hd]
    rfl
  rw [e]
theorem cubbylaw14_ExecSlots.s21 (d a : Nat) (h : ¬ fuel ≤ st) (hd : d < r.length) (ha : a < s.length) : Ex.go mod fuel (g + 1) bl r s (⟨21, (d : Int), (a : Int), b, nm, args⟩ :: rest) deep ⟨mem, told, st⟩ = Ex.go mod fuel g bl (r.set d (s.getD a 0)) s rest deep ⟨mem, told, st + 1⟩ := by
  rw [Ex.goP (by exact h) (by decide) (by decide) (by decide) (by decide)]
  have e : Ex.plain ⟨21, (d : Int), (a : Int), b, nm, args⟩ r s (Rn.tick ⟨mem, told, st⟩) = some (some (r.set d (s.getD a 0), s, ⟨mem, told, st + 1⟩)) := by
    unfold Ex.plain
    rw [if_neg (show ¬ (21 : Int) = 1 by decide), if_neg (show ¬ (21 : Int) = 2 by decide), if_pos rfl, cubbylaw14_ExecSlots.gp _ _ _ ha, cubbylaw14_ExecSlots.sp _ _ _ _ hd]
    rfl
  rw [e]
theorem cubbylaw14_ExecSlots.s10 (d : Int) (a : Nat) (h : ¬ fuel ≤ st) (ha : a < r.length) : Ex.go mod fuel (g + 1) bl r s (⟨10, d, (a : Int), b, nm, args⟩ :: rest) deep ⟨mem, told, st⟩ = Ex.go mod fuel g bl r s rest deep ⟨mem, told ++ [r.getD a 0], st + 1⟩ := by
  rw [Ex.goP (by exact h) (by decide) (by decide) (by decide) (by decide)]
  have e : Ex.plain ⟨10, d, (a : Int), b, nm, args⟩ r s (Rn.tick ⟨mem, told, st⟩) = some (some (r, s, ⟨mem, told ++ [r.getD a 0], st + 1⟩)) := by
    unfold Ex.plain
    rw [if_neg (show ¬ (10 : Int) = 1 by decide), if_neg (show ¬ (10 : Int) = 2 by decide), if_neg (show ¬ (10 : Int) = 21 by decide), if_neg (show ¬ (10 : Int) = 22 by decide), if_neg (show ¬ (10 : Int) = 8 by decide), if_neg (show ¬ (10 : Int) = 9 by decide), if_pos rfl, cubbylaw14_ExecSlots.gp _ _ _ ha]
    rfl
  rw [e]
theorem cubbylaw14_ExecSlots.s14 (d : Int) (a : Nat) (h : ¬ fuel ≤ st) (ha : a < r.length) : Ex.go mod fuel (g + 1) bl r s (⟨14, d, (a : Int), b, nm, args⟩ :: rest) deep ⟨mem, told, st⟩ = some (.val (r.getD a 0), ⟨mem, told, st + 1⟩) := by
  rw [Ex.go14 (by exact h), cubbylaw14_ExecSlots.gp _ _ _ ha]
  rfl
end
theorem cubbylaw14_ExecSlots.gs (l : List Int) (i : Nat) (v : Int) (h : i < l.length) : (l.set i v).getD i 0 = v := by
  rw [List.getD_eq_getElem?_getD, List.getElem?_set_self h]
  rfl
theorem cubbylaw14_ExecSlots.gn (l : List Int) (i j : Nat) (v : Int) (h : i ≠ j) : (l.set i v).getD j 0 = l.getD j 0 := by
  rw [List.getD_eq_getElem?_getD, List.getElem?_set_ne h, List.getD_eq_getElem?_getD]
theorem cubbylaw14_ExecSlots.pp (j : Nat) (h : j < 16) : Ex.pr.getD j 0 = 48879 := by
  unfold Ex.pr
  rw [List.getD_eq_getElem?_getD, List.getElem?_replicate_of_lt h]
  rfl
theorem cubbylaw14_ExecSlots.qq (j : Nat) (h : j < 64) : Ex.ps.getD j 0 = 48879 := by
  unfold Ex.ps
  rw [List.getD_eq_getElem?_getD, List.getElem?_replicate_of_lt h]
  rfl
theorem cubbylaw14_ExecSlots.prl : Ex.pr.length = 16 := rfl
theorem cubbylaw14_ExecSlots.psl : Ex.ps.length = 64 := rfl
theorem cubbylaw14_ExecSlots.call_eq (mod : List Ex.Cd) (fuel : Int) (g : Nat) (name : ByteArray) (vs : List Int) (deep : Int) (m : Rn.M) (f : Ex.Cd) (b : List Rn.Ins) (bs : List (List Rn.Ins)) (h1 : Ex.ok mod (Ex.ix mod name) vs.length deep = true) (h2 : mod.getD (Ex.ix mod name).toNat Ex.zC = f) (h3 : f.blocks = b :: bs) : Ex.call mod fuel g name vs deep m = Ex.go mod fuel g (b :: bs) (Ex.entry vs) Ex.ps b deep m := by
  unfold Ex.call
  rw [if_pos h1, h2, h3]
  unfold Rn.blk
  rw [if_pos (by rw [List.length_cons]; omega)]
  rfl
def cubbylaw14_ExecSlots.c1 (l0 : List Int) (i : Nat) : Rn.Ins := ⟨1, ((i % 5 : Nat) : Int), l0.getD i 0, 0, ⟨#[]⟩, []⟩
def cubbylaw14_ExecSlots.c2 (i : Nat) : Rn.Ins := ⟨22, (i : Int), ((i % 5 : Nat) : Int), 0, ⟨#[]⟩, []⟩
def cubbylaw14_ExecSlots.kk (n : Nat) (l1 : List Int) (j : Nat) : Nat := (l1.getD j 0).toNat % (n + 1)
def cubbylaw14_ExecSlots.c3 (n : Nat) (l1 : List Int) (j : Nat) : Rn.Ins := ⟨21, ((5 : Nat) : Int), (cubbylaw14_ExecSlots.kk n l1 j : Int), 0, ⟨#[]⟩, []⟩
def cubbylaw14_ExecSlots.c4 : Rn.Ins := ⟨10, 0, ((5 : Nat) : Int), 0, ⟨#[]⟩, []⟩
def cubbylaw14_ExecSlots.c5 : Rn.Ins := ⟨14, 0, ((5 : Nat) : Int), 0, ⟨#[]⟩, []⟩
/-- What the first loop has put together behind i rounds. -/
def cubbylaw14_ExecSlots.P1 (l0 : List Int) : Nat → List Rn.Ins
  | 0 => []
  | i + 1 => cubbylaw14_ExecSlots.P1 l0 i ++ [cubbylaw14_ExecSlots.c1 l0 i, cubbylaw14_ExecSlots.c2 i]
def cubbylaw14_ExecSlots.P2 (n : Nat) (l1 : List Int) : Nat → List Rn.Ins
  | 0 => []
  | j + 1 => cubbylaw14_ExecSlots.P2 n l1 j ++ [cubbylaw14_ExecSlots.c3 n l1 j, cubbylaw14_ExecSlots.c4]
/-- What is told. -/
def cubbylaw14_ExecSlots.wt (l0 l1 : List Int) : Nat → List Int
  | 0 => []
  | j + 1 => cubbylaw14_ExecSlots.wt l0 l1 j ++ [l0.getD (cubbylaw14_ExecSlots.kk l0.length l1 j) 48879]
def cubbylaw14_ExecSlots.code (l0 l1 : List Int) : List Rn.Ins := cubbylaw14_ExecSlots.P1 l0 l0.length ++ cubbylaw14_ExecSlots.P2 l0.length l1 l1.length ++ [cubbylaw14_ExecSlots.c5]
theorem cubbylaw14_ExecSlots.P1_len (l0 : List Int) : ∀ i, (cubbylaw14_ExecSlots.P1 l0 i).length = 2 * i
  | 0 => rfl
  | i + 1 => by rw [cubbylaw14_ExecSlots.P1, List.length_append, cubbylaw14_ExecSlots.P1_len l0 i]; rfl
theorem cubbylaw14_ExecSlots.P2_len (n : Nat) (l1 : List Int) : ∀ j, (cubbylaw14_ExecSlots.P2 n l1 j).length = 2 * j
  | 0 => rfl
  | j + 1 => by rw [cubbylaw14_ExecSlots.P2, List.length_append, cubbylaw14_ExecSlots.P2_len n l1 j]; rfl
theorem cubbylaw14_ExecSlots.wt_len (l0 l1 : List Int) : ∀ j, (cubbylaw14_ExecSlots.wt l0 l1 j).length = j
  | 0 => rfl
  | j + 1 => by rw [cubbylaw14_ExecSlots.wt, List.length_append, cubbylaw14_ExecSlots.wt_len l0 l1 j]; rfl
theorem cubbylaw14_ExecSlots.code_len (l0 l1 : List Int) : (cubbylaw14_ExecSlots.code l0 l1).length = 2 * l0.length + 2 * l1.length + 1 := by
  unfold cubbylaw14_ExecSlots.code
  rw [List.length_append, List.length_append, cubbylaw14_ExecSlots.P1_len, cubbylaw14_ExecSlots.P2_len]
  rfl
theorem cubbylaw14_ExecSlots.entry0 : Ex.entry [] = Ex.pr := rfl
theorem cubbylaw14_ExecSlots.run1 (mod : List Ex.Cd) (bl : List (List Rn.Ins)) (mem l0 : List Int) : ∀ i : Nat, i ≤ 12 → ∃ r s : List Int, r.length = 16 ∧ s.length = 64 ∧ (∀ k, k < i → s.getD k 0 = l0.getD k 0) ∧ (∀ k, i ≤ k → k < 64 → s.getD k 0 = 48879) ∧
    ∀ (g : Nat) (tail : List Rn.Ins), Ex.go mod 100 (g + 2 * i) bl Ex.pr Ex.ps (cubbylaw14_ExecSlots.P1 l0 i ++ tail) 0 ⟨mem, [], 0⟩ = Ex.go mod 100 g bl r s tail 0 ⟨mem, [], (2 * i : Nat)⟩
  | 0, _ => ⟨Ex.pr, Ex.ps, cubbylaw14_ExecSlots.prl, cubbylaw14_ExecSlots.psl, fun k h => absurd h (Nat.not_lt_zero _), fun k _ h => cubbylaw14_ExecSlots.qq k h, fun g tail => rfl⟩
  | i + 1, hi => by
    obtain ⟨r, s, hr, hs, h1, h2, h3⟩ := cubbylaw14_ExecSlots.run1 mod bl mem l0 i (by omega)
    refine ⟨r.set (i % 5) (l0.getD i 0), s.set i (l0.getD i 0), by rw [List.length_set, hr], by rw [List.length_set, hs], fun k hk => ?_, fun k hk hk2 => ?_, fun g tail => ?_⟩
    · by_cases e : i = k
      · subst e
        exact cubbylaw14_ExecSlots.gs _ _ _ (by omega)
      · rw [cubbylaw14_ExecSlots.gn _ _ _ _ e]
        exact h1 k (by omega)
    · rw [cubbylaw14_ExecSlots.gn _ _ _ _ (by omega)]
      exact h2 k (by omega) hk2
    · rw [show g + 2 * (i + 1) = (g + 2) + 2 * i by omega, cubbylaw14_ExecSlots.P1, List.append_assoc, h3 (g + 2)]
      show Ex.go mod 100 (g + 1 + 1) bl r s (cubbylaw14_ExecSlots.c1 l0 i :: cubbylaw14_ExecSlots.c2 i :: tail) 0 ⟨mem, [], ((2 * i : Nat) : Int)⟩ = _
      unfold cubbylaw14_ExecSlots.c1 cubbylaw14_ExecSlots.c2
      rw [cubbylaw14_ExecSlots.s1 (g := g + 1) (i % 5) _ (by omega) (by rw [hr]; omega)]
      rw [cubbylaw14_ExecSlots.s22 (g := g) i (i % 5) (by omega) (by rw [hs]; omega) (by rw [List.length_set, hr]; omega)]
      rw [cubbylaw14_ExecSlots.gs _ _ _ (by rw [hr]; omega)]
      rw [show ((2 * i : Nat) : Int) + 1 + 1 = ((2 * (i + 1) : Nat) : Int) by omega]
theorem cubbylaw14_ExecSlots.run2 (mod : List Ex.Cd) (bl : List (List Rn.Ins)) (mem l0 l1 r0 s : List Int) (hr0 : r0.length = 16) (hs : s.length = 64) (hn : l0.length ≤ 12) (h1 : ∀ k, k < l0.length → s.getD k 0 = l0.getD k 0) (h2 : ∀ k, l0.length ≤ k → k < 64 → s.getD k 0 = 48879) : ∀ j : Nat, j ≤ 20 → ∃ r : List Int, r.length = 16 ∧
    ∀ (g : Nat) (tail : List Rn.Ins), Ex.go mod 100 (g + 2 * j) bl r0 s (cubbylaw14_ExecSlots.P2 l0.length l1 j ++ tail) 0 ⟨mem, [], (2 * l0.length : Nat)⟩ = Ex.go mod 100 g bl r s tail 0 ⟨mem, cubbylaw14_ExecSlots.wt l0 l1 j, (2 * l0.length + 2 * j : Nat)⟩
  | 0, _ => ⟨r0, hr0, fun g tail => rfl⟩
  | j + 1, hj => by
    obtain ⟨r, hr, h3⟩ := cubbylaw14_ExecSlots.run2 mod bl mem l0 l1 r0 s hr0 hs hn h1 h2 j (by omega)
    have hk : cubbylaw14_ExecSlots.kk l0.length l1 j < l0.length + 1 := Nat.mod_lt _ (Nat.succ_pos _)
    have hv : s.getD (cubbylaw14_ExecSlots.kk l0.length l1 j) 0 = l0.getD (cubbylaw14_ExecSlots.kk l0.length l1 j) 48879 := by
      by_cases e : cubbylaw14_ExecSlots.kk l0.length l1 j < l0.length
      · rw [h1 _ e, List.getD_eq_getElem?_getD, List.getD_eq_getElem?_getD, List.getElem?_eq_getElem e]
        rfl
      · rw [h2 _ (by omega) (by omega), List.getD_eq_getElem?_getD, List.getElem?_eq_none (by omega)]
        rfl
    refine ⟨r.set 5 (s.getD (cubbylaw14_ExecSlots.kk l0.length l1 j) 0), by rw [List.length_set, hr], fun g tail => ?_⟩
    rw [show g + 2 * (j + 1) = (g + 2) + 2 * j by omega, cubbylaw14_ExecSlots.P2, List.append_assoc, h3 (g + 2)]
    show Ex.go mod 100 (g + 1 + 1) bl r s (cubbylaw14_ExecSlots.c3 l0.length l1 j :: cubbylaw14_ExecSlots.c4 :: tail) 0 ⟨mem, _, ((2 * l0.length + 2 * j : Nat) : Int)⟩ = _
    unfold cubbylaw14_ExecSlots.c3 cubbylaw14_ExecSlots.c4
    rw [cubbylaw14_ExecSlots.s21 (g := g + 1) 5 (cubbylaw14_ExecSlots.kk l0.length l1 j) (by omega) (by rw [hr]; decide) (by rw [hs]; omega)]
    rw [cubbylaw14_ExecSlots.s10 (g := g) 0 5 (by omega) (by rw [List.length_set, hr]; decide)]
    rw [cubbylaw14_ExecSlots.gs _ _ _ (by rw [hr]; decide), hv]
    rw [show ((2 * l0.length + 2 * j : Nat) : Int) + 1 + 1 = ((2 * l0.length + 2 * (j + 1) : Nat) : Int) by omega]
    rfl
def cubbylaw14_ExecSlots.mod (l0 l1 : List Int) : List Ex.Cd := [⟨⟨#[102]⟩, 0, 6, ((l0.length : Int) + 1), [cubbylaw14_ExecSlots.code l0 l1]⟩]
theorem cubbylaw14_ExecSlots.law (l0 l1 mem : List Int) (hn : l0.length ≤ 12) (hm : l1.length ≤ 20) : ∃ v : Int, Ex.call (cubbylaw14_ExecSlots.mod l0 l1) 100 (0 + 1 + 2 * l1.length + 2 * l0.length) ⟨#[102]⟩ [] 0 ⟨mem, [], 0⟩ = some (.val v, ⟨mem, cubbylaw14_ExecSlots.wt l0 l1 l1.length, ((2 * l0.length + 2 * l1.length + 1 : Nat) : Int)⟩) := by
  have hix : Ex.ix (cubbylaw14_ExecSlots.mod l0 l1) ⟨#[102]⟩ = 0 := by
    unfold Ex.ix cubbylaw14_ExecSlots.mod
    simp [List.findIdx?_cons]
  rw [cubbylaw14_ExecSlots.call_eq _ _ _ _ _ _ _ ⟨⟨#[102]⟩, 0, 6, ((l0.length : Int) + 1), [cubbylaw14_ExecSlots.code l0 l1]⟩ (cubbylaw14_ExecSlots.code l0 l1) [] (by rw [hix]; unfold Ex.ok cubbylaw14_ExecSlots.mod; exact decide_eq_true ⟨by decide, rfl, by decide⟩) (by rw [hix]; rfl) rfl, cubbylaw14_ExecSlots.entry0]
  generalize cubbylaw14_ExecSlots.mod l0 l1 = mod
  generalize [cubbylaw14_ExecSlots.code l0 l1] = bl
  unfold cubbylaw14_ExecSlots.code
  obtain ⟨r, s, hr, hs, h1, h2, h3⟩ := cubbylaw14_ExecSlots.run1 mod bl mem l0 l0.length hn
  obtain ⟨r2, hr2, h4⟩ := cubbylaw14_ExecSlots.run2 mod bl mem l0 l1 r s hr hs hn h1 h2 l1.length hm
  rw [List.append_assoc, h3, h4]
  unfold cubbylaw14_ExecSlots.c5
  rw [cubbylaw14_ExecSlots.s14 (g := 0) 0 5 (by omega) (by rw [hr2]; decide)]
  exact ⟨_, rfl⟩
theorem cubbylaw14_ExecSlots.ints_l (xs : List Int) (hl : xs.length < 4611686018427387904) : ∀ (k i : Nat), i ≤ xs.length → xs.length - i < k → cubbyref10_Ints.l0 k xs xs (i : Int) = some true
  | 0, i, _, h => absurd h (Nat.not_lt_zero _)
  | k + 1, i, h1, h2 => by
    unfold cubbyref10_Ints.l0
    by_cases hi : (i : Int) < (xs.length : Int)
    · rw [if_pos hi, if_pos (by omega), if_pos hi, if_pos rfl, Hw.wnat i (by omega)]
      exact cubbylaw14_ExecSlots.ints_l xs hl k (i + 1) (by omega) (by omega)
    · rw [if_neg hi]
theorem cubbylaw14_ExecSlots.ints_same (xs : List Int) (hl : xs.length < 4611686018427387904) : cubbyref10_Ints.f (xs.length + 1) xs xs = some true := by
  unfold cubbyref10_Ints.f
  rw [if_pos rfl]
  exact cubbylaw14_ExecSlots.ints_l xs hl (xs.length + 1) 0 (Nat.zero_le _) (by omega)
/-- A row of things made, in a block of its own. -/
theorem cubbylaw14_ExecSlots.M_block {α : Type} (Rr : α → List Value → Prop) (sz : Nat) {W : World} {b : Nat} {t : TypeId} {xs : List α} (cells : List (List Value)) (h : W.heap[b]? = some (.cells cells.flatten.toArray t (0, 0))) (hl : cells.length = xs.length) (hn : xs.length ≤ 9223372036854775807) (hsz : ∀ c ∈ cells, c.length = sz)
    (hK : ∀ (j : Nat) (x : α) (c : List Value), xs[j]? = some x → cells[j]? = some c → Rr x c) : ReadsRow Rr sz W (some ⟨b, 0, none⟩) xs.length xs := by
  refine ⟨rfl, hn, fun _ => ⟨_, rfl, fun j p hj => ?_⟩⟩
  have hjl := (List.getElem?_eq_some_iff.1 hj).1
  have hc : cells[j]? = some (cells[j]'(by omega)) := List.getElem?_eq_getElem (by omega)
  have hlen : (cells[j]'(by omega)).length = sz := hsz _ (List.getElem_mem _)
  refine ⟨_, hlen, hK j p _ hj hc, fun i u hu => ?_⟩
  have ea : (⟨b, 0, none⟩ : Addr).add (j * sz + i) = ⟨b, j * sz + i, none⟩ := by unfold Addr.add; split <;> simp_all
  have hil : i < sz := by rw [← hlen]; exact (List.getElem?_eq_some_iff.1 hu).1
  rw [ea, cell_of_row W b _ _ _ _ h, List.getElem?_toArray, cubbylaw14_ExecSlots.flat sz cells hsz j i _ hc hil]
  exact hu
theorem cubbylaw14_ExecSlots.mkM {W : World} {base : Nat} {ok : Nat → Prop} (o d a b : Int) (nm : ByteArray) : Rn.kI.M W base ok ⟨o, d, a, b, nm, []⟩ [.int .i64 o, .int .i64 d, .int .i64 a, .int .i64 b, .string nm, .slice none 0 0] :=
  ⟨[.int .i64 o], [.int .i64 d, .int .i64 a, .int .i64 b, .string nm, .slice none 0 0], rfl, rfl, ⟨[.int .i64 d], [.int .i64 a, .int .i64 b, .string nm, .slice none 0 0], rfl, rfl, ⟨[.int .i64 a], [.int .i64 b, .string nm, .slice none 0 0], rfl, rfl, ⟨[.int .i64 b], [.string nm, .slice none 0 0], rfl, rfl, ⟨[.string nm], [.slice none 0 0], rfl, rfl, ⟨_, rfl, Kd.R_nil _ _ _ _ _⟩⟩⟩⟩⟩⟩
/-- What lies in blocks of other types stays, where a row grows. -/
theorem cubbylaw14_ExecSlots.keepR {α β : Type} {d : Kd α} {d' : Kd β} {e e' : Nat} {W W1 : World} {base : Nat} {v v' : Value} {xs : List α} {ys : List β} {ok' : Nat → Prop} (h : d.R e W base (fun _ => True) v xs) (h' : d'.R e' W base ok' v' ys) (hne : ∀ q, q ∈ e :: d.E → q ≠ e') (hg : W.grownBy W1 v'.ownBlock) : d.R e W1 base (fun _ => True) v xs := by
  obtain ⟨inner, ho⟩ := Kd.R_own h'
  refine Kd.R_mono (Kd.R_move (Kd.R_bound h) (fun k hk => ?_)) (fun _ _ => trivial)
  obtain ⟨_, _, h3, q, hq, cells, hc⟩ := hk
  refine hg.block k h3 (fun he => ?_)
  obtain ⟨cells', hc'⟩ := own_typed ho k he.symm
  rw [hc] at hc'
  cases hc'
  exact hne _ hq rfl
theorem cubbylaw14_ExecSlots.neI : ∀ q, q ∈ 3 :: (Kd.int .i64).E → q ≠ 28 := by
  intro q hq
  simp [Kd.int, Kd.scalar] at hq
  omega
/-- What leads nowhere into a row stays, where that row grows; nor does it lead into what the row is then. -/
theorem cubbylaw14_ExecSlots.keepO {α : Type} {d : Kd α} {e : Nat} {W W1 : World} {base : Nat} {v v' v1 : Value} {xs : List α} (h : d.R e W base (fun k => some k ≠ v'.ownBlock) v xs) (hg : W.grownBy W1 v'.ownBlock) (hat : v1.ownBlock = v'.ownBlock ∨ ∃ b, v1.ownBlock = some b ∧ W.heap.size ≤ b) : d.R e W1 base (fun k => some k ≠ v1.ownBlock) v xs := by
  refine Kd.R_mono (Kd.R_move (Kd.R_bound h) (fun k hk => ?_)) (fun k hk => ?_)
  · exact hg.block k hk.2.2.1 hk.1
  · rcases hat with q | ⟨b, q, hb⟩
    · rw [q]
      exact hk.1
    · rw [q]
      intro he
      injection he with he
      have := hk.2.2.1
      omega
/-- May it stand in such code? -/
def cubbylaw14_ExecSlots.Good (n : Nat) (x : Rn.Ins) (last : Bool) : Prop := x.args = [] ∧ x.name = ⟨#[]⟩ ∧ x.b = 0 ∧
  ((x.op = 21 ∧ last = false ∧ x.d = 5 ∧ 0 ≤ x.a ∧ x.a < (n : Int) + 1) ∨ (x.op = 22 ∧ last = false ∧ 0 ≤ x.d ∧ x.d < (n : Int) + 1 ∧ 0 ≤ x.a ∧ x.a < 6) ∨ (x.op = 1 ∧ last = false ∧ 0 ≤ x.d ∧ x.d < 6 ∧ 0 ≤ x.a ∧ x.a < 65536) ∨ (x.op = 10 ∧ last = false ∧ x.d = 0 ∧ x.a = 5) ∨ (x.op = 14 ∧ last = true ∧ x.d = 0 ∧ x.a = 5))
theorem cubbylaw14_ExecSlots.good1 (n : Nat) (l0 : List Int) (hv : ∀ k : Nat, 0 ≤ l0.getD k 0 ∧ l0.getD k 0 < 65536) : ∀ i, i ≤ n → ∀ x ∈ cubbylaw14_ExecSlots.P1 l0 i, cubbylaw14_ExecSlots.Good n x false
  | 0, _, x, hx => by cases hx
  | i + 1, hi, x, hx => by
    rw [cubbylaw14_ExecSlots.P1] at hx
    rcases List.mem_append.1 hx with hx | hx
    · exact cubbylaw14_ExecSlots.good1 n l0 hv i (by omega) x hx
    · have h5 : i % 5 < 5 := Nat.mod_lt _ (by decide)
      rcases List.mem_cons.1 hx with rfl | hx
      · exact ⟨rfl, rfl, rfl, .inr (.inr (.inl ⟨rfl, rfl, by show (0 : Int) ≤ ((i % 5 : Nat) : Int); omega, by show ((i % 5 : Nat) : Int) < 6; omega, (hv i).1, (hv i).2⟩))⟩
      · obtain rfl := List.mem_singleton.1 hx
        exact ⟨rfl, rfl, rfl, .inr (.inl ⟨rfl, rfl, by show (0 : Int) ≤ (i : Int); omega, by show (i : Int) < (n : Int) + 1; omega, by show (0 : Int) ≤ ((i % 5 : Nat) : Int); omega, by show ((i % 5 : Nat) : Int) < 6; omega⟩)⟩
theorem cubbylaw14_ExecSlots.good2 (n : Nat) (l1 : List Int) : ∀ j, ∀ x ∈ cubbylaw14_ExecSlots.P2 n l1 j, cubbylaw14_ExecSlots.Good n x false
  | 0, x, hx => by cases hx
  | j + 1, x, hx => by
    rw [cubbylaw14_ExecSlots.P2] at hx
    rcases List.mem_append.1 hx with hx | hx
    · exact cubbylaw14_ExecSlots.good2 n l1 j x hx
    · have h5 : cubbylaw14_ExecSlots.kk n l1 j < n + 1 := Nat.mod_lt _ (Nat.succ_pos _)
      rcases List.mem_cons.1 hx with rfl | hx
      · exact ⟨rfl, rfl, rfl, .inl ⟨rfl, rfl, rfl, by show (0 : Int) ≤ (cubbylaw14_ExecSlots.kk n l1 j : Int); omega, by show (cubbylaw14_ExecSlots.kk n l1 j : Int) < (n : Int) + 1; omega⟩⟩
      · obtain rfl := List.mem_singleton.1 hx
        exact ⟨rfl, rfl, rfl, .inr (.inr (.inr (.inl ⟨rfl, rfl, rfl, rfl⟩)))⟩
theorem cubbylaw14_ExecSlots.good (l0 l1 : List Int) (hv : ∀ k : Nat, 0 ≤ l0.getD k 0 ∧ l0.getD k 0 < 65536) (j : Nat) (hj : j < (cubbylaw14_ExecSlots.code l0 l1).length) : cubbylaw14_ExecSlots.Good l0.length ((cubbylaw14_ExecSlots.code l0 l1).getD j Rn.zI) (decide ((j : Int) = ((cubbylaw14_ExecSlots.code l0 l1).length : Int) - 1)) := by
  have hl := cubbylaw14_ExecSlots.code_len l0 l1
  have hl2 : (cubbylaw14_ExecSlots.P1 l0 l0.length ++ cubbylaw14_ExecSlots.P2 l0.length l1 l1.length).length = 2 * l0.length + 2 * l1.length := by rw [List.length_append, cubbylaw14_ExecSlots.P1_len, cubbylaw14_ExecSlots.P2_len]
  by_cases e : j < 2 * l0.length + 2 * l1.length
  · rw [decide_eq_false (by omega)]
    unfold cubbylaw14_ExecSlots.code
    rw [List.getD_eq_getElem?_getD, List.getElem?_append_left (by omega), List.getElem?_eq_getElem (by omega)]
    have hm : (cubbylaw14_ExecSlots.P1 l0 l0.length ++ cubbylaw14_ExecSlots.P2 l0.length l1 l1.length)[j]'(by omega) ∈ (cubbylaw14_ExecSlots.P1 l0 l0.length ++ cubbylaw14_ExecSlots.P2 l0.length l1 l1.length) := List.getElem_mem _
    rcases List.mem_append.1 hm with h | h
    · exact cubbylaw14_ExecSlots.good1 _ l0 hv _ (Nat.le_refl _) _ h
    · exact cubbylaw14_ExecSlots.good2 _ l1 _ _ h
  · obtain rfl : j = 2 * l0.length + 2 * l1.length := by omega
    rw [decide_eq_true (by omega)]
    unfold cubbylaw14_ExecSlots.code
    rw [List.getD_eq_getElem?_getD, List.getElem?_append_right (by omega), hl2, Nat.sub_self]
    exact ⟨rfl, rfl, rfl, .inr (.inr (.inr (.inr ⟨rfl, rfl, rfl, rfl⟩)))⟩
theorem cubbylaw14_ExecSlots.one_ok (n : Nat) (x : Rn.Ins) (last : Bool) (h : cubbylaw14_ExecSlots.Good n x last) (cn : ByteArray) (Ab : Option Addr) (cb : Nat) (Ag : Option Addr) (cg : Nat) (W : World) (hC : (Kd.int .i64).C W Ag x.args.length x.args) (hc : x.args.length ≤ cg) :
    Calls Try.prog 15 #[.agg #[.int .i64 x.op, .int .i64 x.d, .int .i64 x.a, .int .i64 x.b, .string x.name, .slice Ag x.args.length cg], .agg #[.string cn, .int .i64 0, .int .i64 6, .int .i64 ((n : Int) + 1), .slice Ab 1 cb], .bool last] W fun e w' => e = .returned (.int .i64 0) ∧ Below W.heap.size W w' := by
  obtain ⟨op, d, a, b, nm, args⟩ := x
  obtain ⟨h1, h2, h3, h4⟩ := h
  dsimp only at h1 h2 h3 h4 hC hc ⊢
  subst h1 h2 h3
  rcases h4 with ⟨rfl, rfl, h5, h6, h7⟩ | ⟨rfl, rfl, h5, h6, h7, h8⟩ | ⟨rfl, rfl, h5, h6, h7, h8⟩ | ⟨rfl, rfl, rfl, rfl⟩ | ⟨rfl, rfl, rfl, rfl⟩
  · exact cubbyref13_one.fs 21 d a 0 ⟨#[]⟩ 0 Ag cg cn 0 6 _ Ab 1 cb false W (.inl rfl) ⟨rfl, rfl, rfl, rfl⟩ (by rw [if_pos rfl]; exact decide_eq_true ⟨by omega, by omega⟩) (by rw [if_pos rfl]; exact decide_eq_true ⟨by omega, by omega⟩)
  · exact cubbyref13_one.fs 22 d a 0 ⟨#[]⟩ 0 Ag cg cn 0 6 _ Ab 1 cb false W (.inr rfl) ⟨rfl, rfl, rfl, rfl⟩ (by rw [if_neg (by decide)]; exact decide_eq_true ⟨by omega, by omega⟩) (by rw [if_neg (by decide)]; exact decide_eq_true ⟨by omega, by omega⟩)
  · have e := cubbyref13_one.ones 1 d a 0 ⟨#[]⟩ [] Ag cg cn 0 6 ((n : Int) + 1) Ab 1 cb false false W (by decide) hC hc (Nat.zero_le _) ⟨1, rfl⟩
    have ea : cubbyref07_One.ans 1 d a 0 ⟨#[]⟩ [] 6 ((1 : Nat) : Int) false false = 0 := by
      unfold cubbyref07_One.ans cubbyref07_One.g
      have q1 : Ir.df 1 d = d := rfl
      have q2 : Ir.last 1 = false := rfl
      have q3 : Ir.bare 1 d a 0 ⟨#[]⟩ [] = true := rfl
      have q4 : Ir.within (Ir.uses 1 a 0 []) 6 = true := rfl
      have q5 : Ir.within (Ir.targets 1 d a 0) ((1 : Nat) : Int) = true := rfl
      rw [q1, q2, q3, q4, q5, if_neg (by simp), if_neg (by simp; omega), if_neg (by omega), if_neg (by omega), if_neg (by simp), if_neg (by simp), if_neg (by simp)]
    rw [ea] at e
    exact e
  · have e := cubbyref13_one.ones 10 0 5 0 ⟨#[]⟩ [] Ag cg cn 0 6 ((n : Int) + 1) Ab 1 cb false false W (by decide) hC hc (Nat.zero_le _) ⟨1, rfl⟩
    rw [show cubbyref07_One.ans 10 0 5 0 ⟨#[]⟩ [] 6 ((1 : Nat) : Int) false false = 0 from rfl] at e
    exact e
  · have e := cubbyref13_one.ones 14 0 5 0 ⟨#[]⟩ [] Ag cg cn 0 6 ((n : Int) + 1) Ab 1 cb true false W (by decide) hC hc (Nat.zero_le _) ⟨1, rfl⟩
    rw [show cubbyref07_One.ans 14 0 5 0 ⟨#[]⟩ [] 6 ((1 : Nat) : Int) false true = 0 from rfl] at e
    exact e
def cubbylaw14_ExecSlots.Fit (l0 l1 : List Int) : Prop := (∀ x ∈ l0, 0 ≤ x ∧ x < 65536) ∧ (∀ x ∈ l1, 0 ≤ x ∧ x < 256)
instance (l0 l1 : List Int) : Decidable (cubbylaw14_ExecSlots.Fit l0 l1) := by unfold cubbylaw14_ExecSlots.Fit; infer_instance
def cubbylaw14_ExecSlots.f (l0 l1 : List Int) : Option Bool := if cubbylaw14_ExecSlots.Fit l0 l1 then some true else none
theorem cubbylaw14_ExecSlots.in_range (l : List Int) (b : Int) (hb : 0 < b) (h : ∀ x ∈ l, 0 ≤ x ∧ x < b) (k : Nat) : 0 ≤ l.getD k 0 ∧ l.getD k 0 < b := by
  rw [List.getD_eq_getElem?_getD]
  by_cases e : k < l.length
  · rw [List.getElem?_eq_getElem e]
    exact h _ (List.getElem_mem _)
  · rw [List.getElem?_eq_none (by omega)]
    exact ⟨Int.le_refl _, hb⟩
set_option maxHeartbeats 16000000 in
set_option maxRecDepth 100000 in
theorem cubbylaw14_ExecSlots.calls (A0 : Option Addr) (c0 : Nat) (l0 : List Int) (A1 : Option Addr) (c1 : Nat) (l1 : List Int) (r : Bool) (w : World) (hr0 : (Kd.int .u16).C w A0 l0.length l0) (hc0 : l0.length ≤ c0) (hr1 : (Kd.int .u8).C w A1 l1.length l1) (hc1 : l1.length ≤ c1) (h : cubbylaw14_ExecSlots.f l0 l1 = some r) :
    Calls Try.prog 3 #[.slice A0 l0.length c0, .slice A1 l1.length c1] w fun e w' => e = .returned (.bool r) ∧ Below w.heap.size w w' := by
  unfold cubbylaw14_ExecSlots.f at h
  by_cases hl : cubbylaw14_ExecSlots.Fit l0 l1
  case neg => rw [if_neg hl] at h; cases h
  rw [if_pos hl] at h
  obtain rfl := Option.some.inj h
  clear h
  have HV := Aside0.mk (cubbylaw14_ExecSlots.in_range l0 65536 (by decide) hl.1)
  have HU := Aside0.mk (cubbylaw14_ExecSlots.in_range l1 256 (by decide) hl.2)
  have HR0 := Aside0.mk hr0
  have HR1 := Aside0.mk hr1
  have hm0 : l0.length ≤ 9223372036854775807 := hr0.2.1
  have hm1 : l1.length ≤ 9223372036854775807 := hr1.2.1
  clear hr0 hr1 hc0 hc1 hl
  by_cases g1 : l0.length ≤ 12
  case neg =>
    have d1 : decide (12 < (l0.length : Int)) = true := decide_eq_true (by omega)
    go_enter Try.func3, Try.ntmps3
    go_wp2_with (fail)
    go_ret
    exact ⟨rfl, Below.refl _ _⟩
  have d1 : decide (12 < (l0.length : Int)) = false := decide_eq_false (by omega)
  by_cases g2 : l0.length = 0
  case pos =>
    have d2 : decide ((l0.length : Int) = 0) = true := decide_eq_true (by omega)
    go_enter Try.func3, Try.ntmps3
    go_wp2_with (fail)
    go_ret
    exact ⟨rfl, Below.refl _ _⟩
  have d2 : decide ((l0.length : Int) = 0) = false := decide_eq_false (by omega)
  by_cases g3 : l1.length ≤ 20
  case neg =>
    have d3 : decide (20 < (l1.length : Int)) = true := decide_eq_true (by omega)
    go_enter Try.func3, Try.ntmps3
    go_wp2_with (fail)
    go_ret
    exact ⟨rfl, Below.refl _ _⟩
  have d3 : decide (20 < (l1.length : Int)) = false := decide_eq_false (by omega)
  have HI : Aside0 ((Try.prog.info? 28).map (fun i => (i.zero, i.size, i.bytes)) = some (some (.agg #[.int .i64 0, .int .i64 0, .int .i64 0, .int .i64 0, .string ⟨#[]⟩, .slice none 0 0]), Rn.kI.sz, 72)) := ⟨by kernel_rfl⟩
  have HJ : Aside0 ((Try.prog.info? 3).map (fun i => (i.zero, i.size, i.bytes)) = some (some (.int .i64 0), (Kd.int .i64).sz, 8)) := ⟨by kernel_rfl⟩
  go_enter Try.func3, Try.ntmps3
  go_upto_region 5 with ((with_reducible refine gate_dst (N := 29) rfl ?_); refine Kd.R_lit Rn.kI _ 28 ?hg (N := 29) ?hd (xs := ([] : List Rn.Ins)) (inner := []) (ok := fun _ => True) (okp := fun _ => True) ?hr ?hp (fun _ hk => hk) trivial (Below.refl _ _) (Nat.le_refl _) (by simp) ?_; (case hd => rfl); (case hg => rfl); (case hr => first | (go_simp; done) | (go_simp; rfl)); (case hp => exact (Reps.none _ _)); intro v29 w3 ho4 hb hg_ hnew_; clear hg_ hnew_; have HO := Aside0.mk ho4; have HB := Aside0.mk hb; clear ho4 hb)
  clear d1 d2 d3
  go_wp2_with (fail)
  go_loopg [6, 7] l0.length (fun gg v6 v7 wq => ∃ k : Nat, v7 = .int .i64 (k : Int) ∧ k ≤ l0.length ∧ l0.length - k ≤ gg ∧ Aside0 (Kd.R Rn.kI 28 wq w.heap.size (fun _ => True) v6 (cubbylaw14_ExecSlots.P1 l0 k)) ∧ Aside0 (Below w.heap.size w wq))
  case atStart => exact ⟨0, rfl, Nat.zero_le _, by omega, HO, HB⟩
  case round =>
    clear HO HB
    obtain ⟨k, rfl, hk, hgg, HO, HB⟩ := hrel
    by_cases hkl : k < l0.length
    · skip
      obtain ⟨gk, rfl⟩ : ∃ q, gk = q + 1 := by
        cases gk with
        | zero => omega
        | succ q => exact ⟨q, rfl⟩
      obtain ⟨adm, rfl, a1⟩ := Kd.at_int (Kd.C_below HR0.out HB.out) (k : Int) (by omega) (by omega)
      rw [Int.toNat_natCast] at a1
      have e1 : rd l0 (k : Int) = l0.getD k 0 := by unfold rd; rw [Int.toNat_natCast]
      rw [e1] at a1
      obtain ⟨hu1, hu2⟩ := HV.out k
      have HC1 : Aside0 (cubbylaw14_ExecSlots.c1 l0 k = ⟨1, (k : Int) % 5, l0.getD k 0, 0, ⟨#[]⟩, []⟩) := ⟨rfl⟩
      have HC2 : Aside0 (cubbylaw14_ExecSlots.c2 k = ⟨22, (k : Int), (k : Int) % 5, 0, ⟨#[]⟩, []⟩) := ⟨rfl⟩
      generalize l0.getD k 0 = u at a1 hu1 hu2 HC1
      clear e1
      have zk : (k : Int) < (l0.length : Int) := by omega
      have HRW : Aside0 (ReadsRow (Rn.kI.M (wr.alloc (.cells #[.int .i64 1, .int .i64 ((k : Int) % 5), .int .i64 u, .int .i64 0, .string ⟨#[]⟩, .slice none 0 0, .int .i64 22, .int .i64 (k : Int), .int .i64 ((k : Int) % 5), .int .i64 0, .string ⟨#[]⟩, .slice none 0 0] 28)) w.heap.size (fun _ => False)) Rn.kI.sz (wr.alloc (.cells #[.int .i64 1, .int .i64 ((k : Int) % 5), .int .i64 u, .int .i64 0, .string ⟨#[]⟩, .slice none 0 0, .int .i64 22, .int .i64 (k : Int), .int .i64 ((k : Int) % 5), .int .i64 0, .string ⟨#[]⟩, .slice none 0 0] 28)) (some ⟨wr.heap.size, 0, none⟩) 2 [cubbylaw14_ExecSlots.c1 l0 k, cubbylaw14_ExecSlots.c2 k]) := ⟨by
        rw [HC1.out, HC2.out]
        refine cubbylaw14_ExecSlots.M_block (α := Rn.Ins) _ 6 (xs := [⟨1, (k : Int) % 5, u, 0, ⟨#[]⟩, []⟩, ⟨22, (k : Int), (k : Int) % 5, 0, ⟨#[]⟩, []⟩]) [[.int .i64 1, .int .i64 ((k : Int) % 5), .int .i64 u, .int .i64 0, .string ⟨#[]⟩, .slice none 0 0], [.int .i64 22, .int .i64 (k : Int), .int .i64 ((k : Int) % 5), .int .i64 0, .string ⟨#[]⟩, .slice none 0 0]] (Hw.blk_nw wr _) rfl (show (2 : Nat) ≤ 9223372036854775807 by decide) (by intro c hc; simp only [List.mem_cons, List.not_mem_nil, or_false] at hc; rcases hc with rfl | rfl <;> rfl) ?_
        intro j x c hj hc
        match j with
        | 0 => cases hj; cases hc; exact cubbylaw14_ExecSlots.mkM _ _ _ _ _
        | 1 => cases hj; cases hc; exact cubbylaw14_ExecSlots.mkM _ _ _ _ _
        | j + 2 => cases hj⟩
      have HO := Aside0.mk (Kd.R_alloc HO.out (.cells #[.int .i64 1, .int .i64 ((k : Int) % 5), .int .i64 u, .int .i64 0, .string ⟨#[]⟩, .slice none 0 0, .int .i64 22, .int .i64 (k : Int), .int .i64 ((k : Int) % 5), .int .i64 0, .string ⟨#[]⟩, .slice none 0 0] 28))
      have HB := Aside0.mk (HB.out.alloc HB.out.size (.cells #[.int .i64 1, .int .i64 ((k : Int) % 5), .int .i64 u, .int .i64 0, .string ⟨#[]⟩, .slice none 0 0, .int .i64 22, .int .i64 (k : Int), .int .i64 ((k : Int) % 5), .int .i64 0, .string ⟨#[]⟩, .slice none 0 0] 28))
      clear HC1 HC2
      go_wp2_with ((with_reducible refine gate_builtin (b := .append) (xs := #[.tmp 35, .tmp 48]) rfl ?_); at_builtin; refine Kd.R_append_rows Rn.kI (w0 := w) w.heap.size rfl (.tmp 35) (.tmp 48) 24 28 (.agg #[.int .i64 0, .int .i64 0, .int .i64 0, .int .i64 0, .string ⟨#[]⟩, .slice none 0 0]) 72 rfl Try.underlying24 HI.out rfl (by decide) (by omega) u6 (cubbylaw14_ExecSlots.P1 l0 k) [cubbylaw14_ExecSlots.c1 l0 k, cubbylaw14_ExecSlots.c2 k] (some ⟨wr.heap.size, 0, none⟩) 2 2 (fun _ => True) (fun _ => False) rfl rfl HO.out HRW.out (fun _ _ h => h) (fun _ h => h.elim) (fun _ _ => trivial) HB.out HB.out.size (by rw [cubbylaw14_ExecSlots.P1_len]; omega) ?_; intro v49 w9 ho hb hg hat; have HO9 := Aside0.mk ho; have HB9 := Aside0.mk hb; clear ho hb hg hat HO HB HRW)
      go_roundg gk
      case measure => omega
      case rel => exact ⟨k + 1, by rw [Int.natCast_add]; rfl, by omega, by omega, HO9, HB9⟩
    · obtain rfl : k = l0.length := by omega
      clear hgg hk hkl
      go_upto_region 10 with ((with_reducible refine gate_dst (N := 50) rfl ?_); refine Kd.R_lit (Kd.int .i64) _ 3 ?hg (N := 50) ?hd (xs := ([] : List Int)) (inner := []) (ok := fun _ => True) (okp := fun _ => True) ?hr ?hp (fun _ hk => hk) trivial (Below.refl _ _) (Nat.le_refl _) (by simp) ?_; (case hd => rfl); (case hg => rfl); (case hr => first | (go_simp; done) | (go_simp; rfl)); (case hp => exact (Reps.none _ _)); intro v50 w3 ho4 hb hg hnew; have HQ := Aside0.mk (Kd.R_lower ho4 HB.out.size); have HO := Aside0.mk (cubbylaw14_ExecSlots.keepO (v' := .slice none 0 0) (v1 := v50) (Kd.R_mono HO.out (fun k _ he => by cases he)) hg (.inr hnew)); have HB := Aside0.mk (HB.out.trans (hb.mono HB.out.size)); clear ho4 hb hg hnew)
      go_wp2_with (fail)
      go_loopg [6, 8, 9, 10] l1.length (fun gg v6 v8 v9 v10 wq => ∃ j : Nat, v9 = .int .i64 (j : Int) ∧ j ≤ l1.length ∧ l1.length - j ≤ gg ∧ Aside0 (Kd.R Rn.kI 28 wq w.heap.size (fun k => some k ≠ v8.ownBlock) v6 (cubbylaw14_ExecSlots.P1 l0 l0.length ++ cubbylaw14_ExecSlots.P2 l0.length l1 j)) ∧ Aside0 (Kd.R (Kd.int .i64) 3 wq w.heap.size (fun _ => True) v8 (cubbylaw14_ExecSlots.wt l0 l1 j)) ∧ Aside0 (Below w.heap.size w wq))
      case atStart => exact ⟨0, rfl, Nat.zero_le _, by omega, ⟨by show Kd.R Rn.kI _ _ _ _ _ (_ ++ []); rw [List.append_nil]; exact HO.out⟩, HQ, HB⟩
      case round =>
        clear HO HQ HB
        obtain ⟨j, rfl, hj, hgj, HO, HQ, HB⟩ := hrel
        by_cases hjl : j < l1.length
        · skip
          obtain ⟨gj, rfl⟩ : ∃ q, gk = q + 1 := by
            cases gk with
            | zero => omega
            | succ q => exact ⟨q, rfl⟩
          obtain ⟨adm, rfl, a1⟩ := Kd.at_int (Kd.C_below HR1.out HB.out) (j : Int) (by omega) (by omega)
          rw [Int.toNat_natCast] at a1
          have e1 : rd l1 (j : Int) = l1.getD j 0 := by unfold rd; rw [Int.toNat_natCast]
          rw [e1] at a1
          obtain ⟨hu1, hu2⟩ := HU.out j
          have HKK : Aside0 ((cubbylaw14_ExecSlots.kk l0.length l1 j : Int) = l1.getD j 0 % ((l0.length : Int) + 1)) := ⟨by
            unfold cubbylaw14_ExecSlots.kk
            rw [Int.natCast_emod, Int.toNat_of_nonneg hu1]
            rfl⟩
          have HKL : Aside0 (cubbylaw14_ExecSlots.kk l0.length l1 j < l0.length + 1) := ⟨Nat.mod_lt _ (Nat.succ_pos _)⟩
          generalize l1.getD j 0 = u at a1 hu1 hu2 HKK
          clear e1
          have zj : (j : Int) < (l1.length : Int) := by omega
          go_upto_region 14 with fail
          rw [← HKK.out]
          have HC3 : Aside0 (cubbylaw14_ExecSlots.c3 l0.length l1 j = ⟨21, 5, (cubbylaw14_ExecSlots.kk l0.length l1 j : Int), 0, ⟨#[]⟩, []⟩) := ⟨rfl⟩
          have HC4 : Aside0 (cubbylaw14_ExecSlots.c4 = ⟨10, 0, 5, 0, ⟨#[]⟩, []⟩) := ⟨rfl⟩
          have HP2 : Aside0 (cubbylaw14_ExecSlots.P2 l0.length l1 (j + 1) = cubbylaw14_ExecSlots.P2 l0.length l1 j ++ [cubbylaw14_ExecSlots.c3 l0.length l1 j, cubbylaw14_ExecSlots.c4]) := ⟨rfl⟩
          have HWT : Aside0 (cubbylaw14_ExecSlots.wt l0 l1 (j + 1) = cubbylaw14_ExecSlots.wt l0 l1 j ++ [l0.getD (cubbylaw14_ExecSlots.kk l0.length l1 j) 48879]) := ⟨rfl⟩
          have HF : Aside0 (∀ k, wr.heap.size ≤ k → some k ≠ u8.ownBlock) := ⟨fun k hk he => by
            obtain ⟨_, ho⟩ := Kd.R_own HQ.out
            have := own_lt ho k he.symm
            omega⟩
          generalize cubbylaw14_ExecSlots.kk l0.length l1 j = K at HKK HKL HC3 HWT ⊢
          clear HKK
          have hKn : K < l0.length + 1 := HKL.out
          have HRW : Aside0 (ReadsRow (Rn.kI.M (wr.alloc (.cells #[.int .i64 21, .int .i64 5, .int .i64 (K : Int), .int .i64 0, .string ⟨#[]⟩, .slice none 0 0, .int .i64 10, .int .i64 0, .int .i64 5, .int .i64 0, .string ⟨#[]⟩, .slice none 0 0] 28)) w.heap.size (fun _ => False)) Rn.kI.sz (wr.alloc (.cells #[.int .i64 21, .int .i64 5, .int .i64 (K : Int), .int .i64 0, .string ⟨#[]⟩, .slice none 0 0, .int .i64 10, .int .i64 0, .int .i64 5, .int .i64 0, .string ⟨#[]⟩, .slice none 0 0] 28)) (some ⟨wr.heap.size, 0, none⟩) 2 [cubbylaw14_ExecSlots.c3 l0.length l1 j, cubbylaw14_ExecSlots.c4]) := ⟨by
            rw [HC3.out, HC4.out]
            refine cubbylaw14_ExecSlots.M_block (α := Rn.Ins) _ 6 (xs := [⟨21, 5, (K : Int), 0, ⟨#[]⟩, []⟩, ⟨10, 0, 5, 0, ⟨#[]⟩, []⟩]) [[.int .i64 21, .int .i64 5, .int .i64 (K : Int), .int .i64 0, .string ⟨#[]⟩, .slice none 0 0], [.int .i64 10, .int .i64 0, .int .i64 5, .int .i64 0, .string ⟨#[]⟩, .slice none 0 0]] (Hw.blk_nw wr _) rfl (show (2 : Nat) ≤ 9223372036854775807 by decide) (by intro c hc; simp only [List.mem_cons, List.not_mem_nil, or_false] at hc; rcases hc with rfl | rfl <;> rfl) ?_
            intro j x c hj hc
            match j with
            | 0 => cases hj; cases hc; exact cubbylaw14_ExecSlots.mkM _ _ _ _ _
            | 1 => cases hj; cases hc; exact cubbylaw14_ExecSlots.mkM _ _ _ _ _
            | j + 2 => cases hj⟩
          have HO := Aside0.mk (Kd.R_alloc HO.out (.cells #[.int .i64 21, .int .i64 5, .int .i64 (K : Int), .int .i64 0, .string ⟨#[]⟩, .slice none 0 0, .int .i64 10, .int .i64 0, .int .i64 5, .int .i64 0, .string ⟨#[]⟩, .slice none 0 0] 28))
          have HQ := Aside0.mk (Kd.R_alloc HQ.out (.cells #[.int .i64 21, .int .i64 5, .int .i64 (K : Int), .int .i64 0, .string ⟨#[]⟩, .slice none 0 0, .int .i64 10, .int .i64 0, .int .i64 5, .int .i64 0, .string ⟨#[]⟩, .slice none 0 0] 28))
          have HB := Aside0.mk (HB.out.alloc HB.out.size (.cells #[.int .i64 21, .int .i64 5, .int .i64 (K : Int), .int .i64 0, .string ⟨#[]⟩, .slice none 0 0, .int .i64 10, .int .i64 0, .int .i64 5, .int .i64 0, .string ⟨#[]⟩, .slice none 0 0] 28))
          have HF : Aside0 (∀ k, (wr.alloc (.cells #[.int .i64 21, .int .i64 5, .int .i64 (K : Int), .int .i64 0, .string ⟨#[]⟩, .slice none 0 0, .int .i64 10, .int .i64 0, .int .i64 5, .int .i64 0, .string ⟨#[]⟩, .slice none 0 0] 28)).heap.size ≤ k → some k ≠ u8.ownBlock) := ⟨fun k hk => HF.out k (by have hsz : (wr.alloc (.cells #[.int .i64 21, .int .i64 5, .int .i64 (K : Int), .int .i64 0, .string ⟨#[]⟩, .slice none 0 0, .int .i64 10, .int .i64 0, .int .i64 5, .int .i64 0, .string ⟨#[]⟩, .slice none 0 0] 28)).heap.size = wr.heap.size + 1 := (by simp); omega)⟩
          clear HC3 HC4
          go_upto_region 15 with ((with_reducible refine gate_builtin (b := .append) (xs := #[.tmp 65, .tmp 69]) rfl ?_); at_builtin; refine Kd.R_append_rows Rn.kI (w0 := w) w.heap.size rfl (.tmp 65) (.tmp 69) 24 28 (.agg #[.int .i64 0, .int .i64 0, .int .i64 0, .int .i64 0, .string ⟨#[]⟩, .slice none 0 0]) 72 rfl Try.underlying24 HI.out rfl (by decide) (by omega) u6 (cubbylaw14_ExecSlots.P1 l0 l0.length ++ cubbylaw14_ExecSlots.P2 l0.length l1 j) [cubbylaw14_ExecSlots.c3 l0.length l1 j, cubbylaw14_ExecSlots.c4] (some ⟨wr.heap.size, 0, none⟩) 2 2 (fun k => some k ≠ u8.ownBlock) (fun _ => False) rfl rfl HO.out HRW.out (fun _ _ h => h) (fun _ h => h.elim) HF.out HB.out HB.out.size (by rw [List.length_append, cubbylaw14_ExecSlots.P1_len, cubbylaw14_ExecSlots.P2_len]; omega) ?_; intro v70 w9 ho hb hg hat; have HO9 := Aside0.mk ho; have HQ9 := Aside0.mk (cubbylaw14_ExecSlots.keepR HQ.out HO.out cubbylaw14_ExecSlots.neI hg); have HB9 := Aside0.mk hb; clear ho hb hg hat HO HB HQ HRW HF)
          by_cases hKl : K < l0.length
          · have zK : (K : Int) < (l0.length : Int) := by omega
            obtain ⟨adv, rfl, b1⟩ := Kd.at_int (Kd.C_below HR0.out HB9.out) (K : Int) (by omega) zK
            rw [Int.toNat_natCast] at b1
            have e1 : rd l0 (K : Int) = l0.getD K 0 := by unfold rd; rw [Int.toNat_natCast]
            rw [e1] at b1
            have e2 : l0.getD K 48879 = l0.getD K 0 := by
              rw [List.getD_eq_getElem?_getD, List.getD_eq_getElem?_getD, List.getElem?_eq_getElem hKl]
              rfl
            rw [e2] at HWT
            obtain ⟨hx1, hx2⟩ := HV.out K
            generalize l0.getD K 0 = x at b1 hx1 hx2 HWT
            clear e1 e2
            go_upto_region 16 with fail
            have HRX : Aside0 (ReadsRow ((Kd.int .i64).M (w9.alloc (.cells #[.int .i64 x] 3)) w.heap.size (fun _ => False)) (Kd.int .i64).sz (w9.alloc (.cells #[.int .i64 x] 3)) (some ⟨w9.heap.size, 0, none⟩) 1 [x]) := ⟨by
              refine cubbylaw14_ExecSlots.M_block (α := Int) _ 1 (xs := [x]) [[.int .i64 x]] (Hw.blk_nw w9 _) rfl (show (1 : Nat) ≤ 9223372036854775807 by decide) (by intro c hc; simp only [List.mem_cons, List.not_mem_nil, or_false] at hc; rw [hc]; rfl) ?_
              intro j x c hj hc
              match j with
              | 0 => cases hj; cases hc; rfl
              | j + 1 => cases hj⟩
            have HO9 := Aside0.mk (Kd.R_alloc HO9.out (.cells #[.int .i64 x] 3))
            have HQ9 := Aside0.mk (Kd.R_alloc HQ9.out (.cells #[.int .i64 x] 3))
            have HB9 := Aside0.mk (HB9.out.alloc HB9.out.size (.cells #[.int .i64 x] 3))
            go_wp2_with ((with_reducible refine gate_builtin (b := .append) (xs := #[.tmp 74, .tmp 80]) rfl ?_); at_builtin; refine Kd.R_append_rows (Kd.int .i64) (w0 := w) w.heap.size rfl (.tmp 74) (.tmp 80) 26 3 (.int .i64 0) 8 rfl Try.underlying26 HJ.out rfl (by decide) (by omega) u8 (cubbylaw14_ExecSlots.wt l0 l1 j) [x] (some ⟨w9.heap.size, 0, none⟩) 1 1 (fun _ => True) (fun _ => False) rfl rfl HQ9.out HRX.out (fun _ _ h => h) (fun _ h => h.elim) (fun _ _ => trivial) HB9.out HB9.out.size (by rw [cubbylaw14_ExecSlots.wt_len]; omega) ?_; intro v81 w10 ho hb hg hat; have HQX := Aside0.mk ho; have HOX := Aside0.mk (cubbylaw14_ExecSlots.keepO (v' := u8) (v1 := v81) HO9.out hg hat); have HBX := Aside0.mk hb; clear ho hb hg hat HO9 HQ9 HB9 HRX)
            go_roundg gj
            case measure => omega
            case rel => exact ⟨j + 1, by rw [Int.natCast_add]; rfl, by omega, by omega, ⟨by rw [HP2.out, ← List.append_assoc]; exact HOX.out⟩, ⟨by rw [HWT.out]; exact HQX.out⟩, HBX⟩
          · have nK : decide ((K : Int) < (l0.length : Int)) = false := decide_eq_false (by omega)
            have e2 : l0.getD K 48879 = 48879 := by
              rw [List.getD_eq_getElem?_getD, List.getElem?_eq_none (by omega)]
              rfl
            rw [e2] at HWT
            clear e2
            go_upto_region 17 with fail
            have HRX : Aside0 (ReadsRow ((Kd.int .i64).M (w9.alloc (.cells #[.int .i64 48879] 3)) w.heap.size (fun _ => False)) (Kd.int .i64).sz (w9.alloc (.cells #[.int .i64 48879] 3)) (some ⟨w9.heap.size, 0, none⟩) 1 [48879]) := ⟨by
              refine cubbylaw14_ExecSlots.M_block (α := Int) _ 1 (xs := [48879]) [[.int .i64 48879]] (Hw.blk_nw w9 _) rfl (show (1 : Nat) ≤ 9223372036854775807 by decide) (by intro c hc; simp only [List.mem_cons, List.not_mem_nil, or_false] at hc; rw [hc]; rfl) ?_
              intro j x c hj hc
              match j with
              | 0 => cases hj; cases hc; rfl
              | j + 1 => cases hj⟩
            have HO9 := Aside0.mk (Kd.R_alloc HO9.out (.cells #[.int .i64 48879] 3))
            have HQ9 := Aside0.mk (Kd.R_alloc HQ9.out (.cells #[.int .i64 48879] 3))
            have HB9 := Aside0.mk (HB9.out.alloc HB9.out.size (.cells #[.int .i64 48879] 3))
            go_wp2_with ((with_reducible refine gate_builtin (b := .append) (xs := #[.tmp 82, .tmp 83]) rfl ?_); at_builtin; refine Kd.R_append_rows (Kd.int .i64) (w0 := w) w.heap.size rfl (.tmp 82) (.tmp 83) 26 3 (.int .i64 0) 8 rfl Try.underlying26 HJ.out rfl (by decide) (by omega) u8 (cubbylaw14_ExecSlots.wt l0 l1 j) [48879] (some ⟨w9.heap.size, 0, none⟩) 1 1 (fun _ => True) (fun _ => False) rfl rfl HQ9.out HRX.out (fun _ _ h => h) (fun _ h => h.elim) (fun _ _ => trivial) HB9.out HB9.out.size (by rw [cubbylaw14_ExecSlots.wt_len]; omega) ?_; intro v84 w10 ho hb hg hat; have HQX := Aside0.mk ho; have HOX := Aside0.mk (cubbylaw14_ExecSlots.keepO (v' := u8) (v1 := v84) HO9.out hg hat); have HBX := Aside0.mk hb; clear ho hb hg hat HO9 HQ9 HB9 HRX)
            go_roundg gj
            case measure => omega
            case rel => exact ⟨j + 1, by rw [Int.natCast_add]; rfl, by omega, by omega, ⟨by rw [HP2.out, ← List.append_assoc]; exact HOX.out⟩, ⟨by rw [HWT.out]; exact HQX.out⟩, HBX⟩
        · obtain rfl : j = l1.length := by omega
          obtain ⟨L, hL⟩ : ∃ L, 2 * l0.length + 2 * l1.length = L := ⟨_, rfl⟩
          obtain ⟨v, hlaw⟩ := cubbylaw14_ExecSlots.law l0 l1 (Ex.filled [] 0) g1 g3
          rw [hL, Int.natCast_add, show ((1 : Nat) : Int) = 1 from rfl] at hlaw
          have HLAW := Aside0.mk hlaw
          clear hlaw hgj hj hjl
          have hlen : (cubbylaw14_ExecSlots.P1 l0 l0.length ++ cubbylaw14_ExecSlots.P2 l0.length l1 l1.length).length = L := by rw [List.length_append, cubbylaw14_ExecSlots.P1_len, cubbylaw14_ExecSlots.P2_len]; exact hL
          have hcl : (cubbylaw14_ExecSlots.code l0 l1).length = L + 1 := by rw [cubbylaw14_ExecSlots.code_len, hL]
          have HCL := Aside0.mk hcl
          clear hcl
          have hL64 : L ≤ 64 := by omega
          obtain ⟨Ab, cb, e6, _, _⟩ := Kd.R_reads HO.out
          rw [hlen] at e6
          subst e6
          have hxl := cubbylaw14_ExecSlots.wt_len l0 l1 l1.length
          generalize cubbylaw14_ExecSlots.wt l0 l1 l1.length = xs at HQ HLAW hxl
          have hx20 : xs.length ≤ 20 := by omega
          clear hxl
          obtain ⟨Aw, cw, e8, hwl, hwC⟩ := Kd.R_reads HQ.out
          subst e8
          have HF : Aside0 (∀ k, (wr.alloc (.cells #[.int .i64 14, .int .i64 0, .int .i64 5, .int .i64 0, .string ⟨#[]⟩, .slice none 0 0] 28)).heap.size ≤ k → some k ≠ (Value.slice Aw xs.length cw).ownBlock) := ⟨fun k hk he => by
            have hsz : (wr.alloc (.cells #[.int .i64 14, .int .i64 0, .int .i64 5, .int .i64 0, .string ⟨#[]⟩, .slice none 0 0] 28)).heap.size = wr.heap.size + 1 := (by simp)
            obtain ⟨_, ho⟩ := Kd.R_own HQ.out
            have := own_lt ho k he.symm
            omega⟩
          clear hwC hwl
          have HQ := Aside0.mk (Kd.R_alloc HQ.out (.cells #[.int .i64 14, .int .i64 0, .int .i64 5, .int .i64 0, .string ⟨#[]⟩, .slice none 0 0] 28))
          have HRW : Aside0 (ReadsRow (Rn.kI.M (wr.alloc (.cells #[.int .i64 14, .int .i64 0, .int .i64 5, .int .i64 0, .string ⟨#[]⟩, .slice none 0 0] 28)) w.heap.size (fun _ => False)) Rn.kI.sz (wr.alloc (.cells #[.int .i64 14, .int .i64 0, .int .i64 5, .int .i64 0, .string ⟨#[]⟩, .slice none 0 0] 28)) (some ⟨wr.heap.size, 0, none⟩) 1 [cubbylaw14_ExecSlots.c5]) := ⟨by
            refine cubbylaw14_ExecSlots.M_block (α := Rn.Ins) _ 6 (xs := [cubbylaw14_ExecSlots.c5]) [[.int .i64 14, .int .i64 0, .int .i64 5, .int .i64 0, .string ⟨#[]⟩, .slice none 0 0]] (Hw.blk_nw wr _) rfl (show (1 : Nat) ≤ 9223372036854775807 by decide) (by intro c hc; simp only [List.mem_cons, List.not_mem_nil, or_false] at hc; rw [hc]; rfl) ?_
            intro j x c hj hc
            match j with
            | 0 => cases hj; cases hc; exact cubbylaw14_ExecSlots.mkM _ _ _ _ _
            | j + 1 => cases hj⟩
          have HO := Aside0.mk (Kd.R_alloc HO.out (.cells #[.int .i64 14, .int .i64 0, .int .i64 5, .int .i64 0, .string ⟨#[]⟩, .slice none 0 0] 28))
          have HB := Aside0.mk (HB.out.alloc HB.out.size (.cells #[.int .i64 14, .int .i64 0, .int .i64 5, .int .i64 0, .string ⟨#[]⟩, .slice none 0 0] 28))
          have zn : (l0.length : Int) ≤ 12 := by omega
          go_upto_region 19 with ((with_reducible refine gate_builtin (b := .append) (xs := #[.tmp 87, .tmp 89]) rfl ?_); at_builtin; refine Kd.R_append_rows Rn.kI (w0 := w) w.heap.size rfl (.tmp 87) (.tmp 89) 24 28 (.agg #[.int .i64 0, .int .i64 0, .int .i64 0, .int .i64 0, .string ⟨#[]⟩, .slice none 0 0]) 72 rfl Try.underlying24 HI.out rfl (by decide) (by omega) (Value.slice Ab L cb) (cubbylaw14_ExecSlots.P1 l0 l0.length ++ cubbylaw14_ExecSlots.P2 l0.length l1 l1.length) [cubbylaw14_ExecSlots.c5] (some ⟨wr.heap.size, 0, none⟩) 1 1 (fun k => some k ≠ (Value.slice Aw xs.length cw).ownBlock) (fun _ => False) rfl rfl HO.out HRW.out (fun _ _ h => h) (fun _ h => h.elim) HF.out HB.out HB.out.size (by rw [hlen]; omega) ?_; intro v90 w9 ho hb hg hat; obtain ⟨Ac, cc, e90, hcl9, hcC⟩ := Kd.R_reads ho; have e90 : v90 = Value.slice Ac (cubbylaw14_ExecSlots.code l0 l1).length cc := e90; subst e90; have HCC : Aside0 ((cubbylaw14_ExecSlots.code l0 l1).length ≤ cc ∧ Rn.kI.C w9 Ac (cubbylaw14_ExecSlots.code l0 l1).length (cubbylaw14_ExecSlots.code l0 l1)) := ⟨⟨hcl9, hcC⟩⟩; have HB9 := Aside0.mk hb; have HQ9 := Aside0.mk (cubbylaw14_ExecSlots.keepR HQ.out HO.out cubbylaw14_ExecSlots.neI hg); clear ho hb hg hat hcl9 hcC HO HB HRW HF HQ)
          obtain ⟨WB, hWB⟩ : ∃ WB, ((w9.alloc (.cells #[.slice Ac (cubbylaw14_ExecSlots.code l0 l1).length cc] 24)).alloc (.cells #[.string ⟨#[102]⟩, .int .i64 0, .int .i64 6, .int .i64 ((l0.length : Int) + 1), .slice (some ⟨w9.heap.size, 0, none⟩) 1 1] 31)) = WB := ⟨_, rfl⟩
          have hbw : Below w9.heap.size w9 WB := by rw [← hWB]; exact ((Below.refl w9.heap.size w9).alloc (Nat.le_refl _) (.cells #[.slice Ac (cubbylaw14_ExecSlots.code l0 l1).length cc] 24)).alloc (by simp) (.cells #[.string ⟨#[102]⟩, .int .i64 0, .int .i64 6, .int .i64 ((l0.length : Int) + 1), .slice (some ⟨w9.heap.size, 0, none⟩) 1 1] 31)
          have b0 : WB.heap[w9.heap.size]? = some (.cells #[.slice Ac (cubbylaw14_ExecSlots.code l0 l1).length cc] 24 (0, 0)) := by rw [← hWB]; exact Hw.blk_al (Hw.blk_nw w9 _) _
          have b1 : WB.heap[w9.heap.size + 1]? = some (.cells #[.string ⟨#[102]⟩, .int .i64 0, .int .i64 6, .int .i64 ((l0.length : Int) + 1), .slice (some ⟨w9.heap.size, 0, none⟩) 1 1] 31 (0, 0)) := by rw [← hWB]; exact Hw.blk_nw1 w9 _ _
          have hbC : Rn.kB.C WB (some ⟨w9.heap.size, 0, none⟩) 1 [cubbylaw14_ExecSlots.code l0 l1] := by
            refine cubbylaw14_ExecSlots.C_block Rn.kB (t := 24) (xs := [cubbylaw14_ExecSlots.code l0 l1]) [[.slice Ac (cubbylaw14_ExecSlots.code l0 l1).length cc]] b0 rfl (show (1 : Nat) ≤ 9223372036854775807 by decide) ?_
            intro j x c hj hc
            match j with
            | 0 => cases hj; cases hc; exact ⟨_, cc, rfl, HCC.out.1, Kd.C_below HCC.out.2 hbw⟩
            | j + 1 => cases hj
          have HBB := Aside0.mk (HB9.out.trans (hbw.mono HB9.out.size))
          have HQB := Aside0.mk (Kd.C_below (Kd.R_reads' HQ9.out).2.2 hbw)
          have HWL := Aside0.mk (Kd.R_reads' HQ9.out).2.1
          have HBC := Aside0.mk hbC
          have HCK : Aside0 (Calls Try.prog 6 #[.agg #[.string ⟨#[102]⟩, .int .i64 0, .int .i64 6, .int .i64 ((l0.length : Int) + 1), .slice (some ⟨w9.heap.size, 0, none⟩) 1 1]] WB fun e w' => e = .returned (.int .i64 0) ∧ Below WB.heap.size WB w') := ⟨cubbyref13_Check.calls ⟨#[102]⟩ 0 6 ((l0.length : Int) + 1) (some ⟨w9.heap.size, 0, none⟩) 1 (cubbylaw14_ExecSlots.code l0 l1) WB ⟨5, by kernel_rfl⟩ (by decide) (by decide) ⟨by omega, by omega⟩ hbC ⟨by rw [HCL.out]; exact Nat.succ_pos _, by rw [HCL.out]; omega⟩ (fun W j Ag cg hj hC hc => cubbylaw14_ExecSlots.one_ok l0.length _ _ (cubbylaw14_ExecSlots.good l0 l1 HV.out j hj) ⟨#[102]⟩ (some ⟨w9.heap.size, 0, none⟩) 1 Ag cg W hC hc)⟩
          have KB : Aside0 (∀ W3, Below WB.heap.size WB W3 → W3.heap[w9.heap.size + 1]? = some (.cells #[.string ⟨#[102]⟩, .int .i64 0, .int .i64 6, .int .i64 ((l0.length : Int) + 1), .slice (some ⟨w9.heap.size, 0, none⟩) 1 1] 31 (0, 0))) := ⟨fun W3 hb => (hb.block _ (Array.getElem?_eq_some_iff.1 b1).1).trans b1⟩
          have q0 : WB.cell? ⟨w9.heap.size + 1, 0, none⟩ = some (.string ⟨#[102]⟩) := cell_of_row WB _ 0 _ _ _ b1
          have q1 : WB.cell? ⟨w9.heap.size + 1, 1, none⟩ = some (.int .i64 0) := cell_of_row WB _ 1 _ _ _ b1
          have q2 : WB.cell? ⟨w9.heap.size + 1, 2, none⟩ = some (.int .i64 6) := cell_of_row WB _ 2 _ _ _ b1
          have q3 : WB.cell? ⟨w9.heap.size + 1, 3, none⟩ = some (.int .i64 ((l0.length : Int) + 1)) := cell_of_row WB _ 3 _ _ _ b1
          have q4 : WB.cell? ⟨w9.heap.size + 1, 4, none⟩ = some (.slice (some ⟨w9.heap.size, 0, none⟩) 1 1) := cell_of_row WB _ 4 _ _ _ b1
          rw [hWB]
          clear hWB hbw b0 b1 hbC HB9 HQ9 HCC
          go_upto_region 21 with (go_at_call 6; (with_reducible refine HCK.out.mono ?_); rintro e w12 ⟨rfl, hb⟩; have b1 := KB.out _ hb; have HBB := Aside0.mk (HBB.out.trans (hb.mono HBB.out.size)); have HQB := Aside0.mk (Kd.C_below HQB.out hb); have HBC := Aside0.mk (Kd.C_below HBC.out hb); have q0 : w12.cell? ⟨w9.heap.size + 1, 0, none⟩ = some (.string ⟨#[102]⟩) := cell_of_row w12 _ 0 _ _ _ b1; have q1 : w12.cell? ⟨w9.heap.size + 1, 1, none⟩ = some (.int .i64 0) := cell_of_row w12 _ 1 _ _ _ b1; have q2 : w12.cell? ⟨w9.heap.size + 1, 2, none⟩ = some (.int .i64 6) := cell_of_row w12 _ 2 _ _ _ b1; have q3 : w12.cell? ⟨w9.heap.size + 1, 3, none⟩ = some (.int .i64 ((l0.length : Int) + 1)) := cell_of_row w12 _ 3 _ _ _ b1; have q4 : w12.cell? ⟨w9.heap.size + 1, 4, none⟩ = some (.slice (some ⟨w9.heap.size, 0, none⟩) 1 1) := cell_of_row w12 _ 4 _ _ _ b1; clear hb b1 HCK)
          go_upto_region 22 with fail
          clear q0 q1 q2 q3 q4 KB
          obtain ⟨WC, hWC⟩ : ∃ WC, (w12.alloc (.cells #[.string ⟨#[102]⟩, .int .i64 0, .int .i64 6, .int .i64 ((l0.length : Int) + 1), .slice (some ⟨w9.heap.size, 0, none⟩) 1 1] 31)) = WC := ⟨_, rfl⟩
          have hbw : Below w12.heap.size w12 WC := by rw [← hWC]; exact (Below.refl w12.heap.size w12).alloc (Nat.le_refl _) (.cells #[.string ⟨#[102]⟩, .int .i64 0, .int .i64 6, .int .i64 ((l0.length : Int) + 1), .slice (some ⟨w9.heap.size, 0, none⟩) 1 1] 31)
          have b2 : WC.heap[w12.heap.size]? = some (.cells #[.string ⟨#[102]⟩, .int .i64 0, .int .i64 6, .int .i64 ((l0.length : Int) + 1), .slice (some ⟨w9.heap.size, 0, none⟩) 1 1] 31 (0, 0)) := by rw [← hWC]; exact Hw.blk_nw w12 _
          have HMC : Ex.kC.C WC (some ⟨w12.heap.size, 0, none⟩) 1 (cubbylaw14_ExecSlots.mod l0 l1) := by
            refine cubbylaw14_ExecSlots.C_block Ex.kC (t := 31) (xs := cubbylaw14_ExecSlots.mod l0 l1) [[.string ⟨#[102]⟩, .int .i64 0, .int .i64 6, .int .i64 ((l0.length : Int) + 1), .slice (some ⟨w9.heap.size, 0, none⟩) 1 1]] b2 rfl (show (1 : Nat) ≤ 9223372036854775807 by decide) ?_
            intro j x c hj hc
            match j with
            | 0 => cases hj; cases hc; exact Ex.mk_C (x := ⟨⟨#[102]⟩, 0, 6, (l0.length : Int) + 1, [cubbylaw14_ExecSlots.code l0 l1]⟩) (Nat.le_refl 1) (Kd.C_below HBC.out hbw)
            | j + 1 => cases hj
          have HBB := Aside0.mk (HBB.out.trans (hbw.mono HBB.out.size))
          have HQB := Aside0.mk (Kd.C_below HQB.out hbw)
          have HC : Aside0 (Calls Try.prog 7 #[.slice (some ⟨w12.heap.size, 0, none⟩) 1 1, .string ⟨#[102]⟩, .slice none 0 0, .slice none 0 0, .int .i64 100] WC fun e w' => ∃ tv mv, e = .returned (.agg #[.int .i64 1, .int .i64 v, tv, mv, .int .i64 ((L : Int) + 1)]) ∧ Kd.R (Kd.int .i64) 3 w' WC.heap.size (fun _ => True) tv xs ∧ Kd.R (Kd.int .i64) 3 w' WC.heap.size (fun _ => True) mv (Ex.filled [] 0) ∧ Below WC.heap.size WC w') := ⟨exec_Run.calls (cubbylaw14_ExecSlots.mod l0 l1) ⟨#[102]⟩ [] [] 100 _ (.val v) _ (some ⟨w12.heap.size, 0, none⟩) 1 none 0 none 0 WC HMC (Nat.le_refl 1) (cubbylaw14_ExecSlots.noargs WC) (Nat.le_refl 0) (by decide) (cubbylaw14_ExecSlots.noargs WC) (Nat.le_refl 0) (by decide) HLAW.out⟩
          have hfl256 : (Ex.filled [] 0).length = 256 := (Ex.filled_len [] 0 (by decide)).resolve_right (Nat.not_lt_zero _)
          rw [hWC]
          clear hWC hbw b2 HMC HBC HLAW
          go_upto_region 23 with (go_at_call 7; (with_reducible refine HC.out.mono ?_); rintro e w13 ⟨tv, mv, rfl, htv, hmv, hb9⟩; obtain ⟨Amv, cmv, emv⟩ := Kd.R_slice hmv; obtain ⟨Atv, ctv, etv⟩ := Kd.R_slice htv; rw [hfl256] at emv; subst emv; subst etv; have HTV := Aside0.mk (Kd.R_reads' htv).2; have HBB := Aside0.mk (HBB.out.trans (hb9.mono HBB.out.size)); have HQB := Aside0.mk (Kd.C_below HQB.out hb9); clear hmv hb9 htv)
          have HTV : Aside0 (xs.length ≤ ctv ∧ (Kd.int .i64).C w13 Atv xs.length xs) := ⟨HTV.out⟩
          have HBB := Aside0.mk (HBB.out.alloc HBB.out.size (.cells #[.int .i64 1, .int .i64 v, .slice Atv xs.length ctv, .slice Amv 256 cmv, .int .i64 ((L : Int) + 1)] 36))
          have HOO := Aside0.mk (Hw.blk_nw w13 (.cells #[.int .i64 1, .int .i64 v, .slice Atv xs.length ctv, .slice Amv 256 cmv, .int .i64 ((L : Int) + 1)] 36))
          have HTC := Aside0.mk (Kd.C_below HTV.out.2 ((Below.refl w13.heap.size w13).alloc (Nat.le_refl _) (.cells #[.int .i64 1, .int .i64 v, .slice Atv xs.length ctv, .slice Amv 256 cmv, .int .i64 ((L : Int) + 1)] 36)))
          have HQB := Aside0.mk (Kd.C_below HQB.out ((Below.refl w13.heap.size w13).alloc (Nat.le_refl _) (.cells #[.int .i64 1, .int .i64 v, .slice Atv xs.length ctv, .slice Amv 256 cmv, .int .i64 ((L : Int) + 1)] 36)))
          generalize w13.alloc (.cells #[.int .i64 1, .int .i64 v, .slice Atv xs.length ctv, .slice Amv 256 cmv, .int .i64 ((L : Int) + 1)] 36) = W10 at HBB HOO HTC HQB ⊢
          generalize w13.heap.size = ob at HOO ⊢
          have HII : Aside0 (Calls Try.prog 8 #[.slice Atv xs.length ctv, .slice Aw xs.length cw] W10 fun e w' => e = .returned (.bool true) ∧ Drawn0 W10 w') := ⟨cubbyref10_Ints.calls (xs.length + 1) Atv ctv xs Aw cw xs true W10 HTC.out HTV.out.1 HQB.out HWL.out (cubbylaw14_ExecSlots.ints_same xs (by omega))⟩
          have o0 : W10.cell? ⟨ob, 0, none⟩ = some (.int .i64 1) := cell_of_row W10 ob 0 _ _ _ HOO.out
          have o1 : W10.cell? ⟨ob, 1, none⟩ = some (.int .i64 v) := cell_of_row W10 ob 1 _ _ _ HOO.out
          have o2 : W10.cell? ⟨ob, 2, none⟩ = some (.slice Atv xs.length ctv) := cell_of_row W10 ob 2 _ _ _ HOO.out
          have o4 : W10.cell? ⟨ob, 4, none⟩ = some (.int .i64 ((L : Int) + 1)) := cell_of_row W10 ob 4 _ _ _ HOO.out
          go_wp2_with (go_at_call 8; (with_reducible refine HII.out.mono ?_); rintro e w12 ⟨rfl, ⟨nq, rfl⟩⟩)
          go_ret
          exact ⟨by first | rfl | simp, pw_below_drewN HBB.out nq⟩

/-- THE ONE PURE STATEMENT of cubbylaw14_ExecSlots: yours. -/
def cubbylaw14_ExecSlots.Pure : Prop := ∀ (l0 : List Int) (l1 : List Int), (l0.length ≤ maxLen ∧ l0.length * 2 ≤ 140737488351232 ∧ ∀ x ∈ l0, (Lit.int .u16 x).wf = true) → (l1.length ≤ maxLen ∧ l1.length * 1 ≤ 140737488351232 ∧ ∀ x ∈ l1, (Lit.int .u8 x).wf = true) → cubbylaw14_ExecSlots.f l0 l1 = some true
theorem cubbylaw14_ExecSlots.walk (P : cubbylaw14_ExecSlots.Pure) (A0 : Option Addr) (c0 : Nat) (l0 : List Int) (A1 : Option Addr) (c1 : Nat) (l1 : List Int) (w : World) (hr0 : Kd.C (Kd.int .u16) w A0 l0.length l0) (hc0 : l0.length ≤ c0) (hr1 : Kd.C (Kd.int .u8) w A1 l1.length l1) (hc1 : l1.length ≤ c1) (o0 : (l0.length ≤ maxLen ∧ l0.length * 2 ≤ 140737488351232 ∧ ∀ x ∈ l0, (Lit.int .u16 x).wf = true)) (o1 : (l1.length ≤ maxLen ∧ l1.length * 1 ≤ 140737488351232 ∧ ∀ x ∈ l1, (Lit.int .u8 x).wf = true)) :
    Calls Try.prog 3 #[.slice A0 l0.length c0, .slice A1 l1.length c1] w fun e w' => e = .returned (.bool true) ∧ Below w.heap.size w w' := by
  have h := P l0 l1 o0 o1
  refine (cubbylaw14_ExecSlots.calls A0 c0 l0 A1 c1 l1 true w hr0 hc0 hr1 hc1 h).mono ?_
  rintro e w' ⟨rfl, hd⟩
  exact ⟨rfl, hd⟩

end Go.Proofs.Ytkjflclkjdbmoaa.PExecSlots
