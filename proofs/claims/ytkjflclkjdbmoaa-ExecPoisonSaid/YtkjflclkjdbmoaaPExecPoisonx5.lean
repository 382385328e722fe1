-- By a program of this session (wip/tools/mkprint.py), for this claim.
import Derived.Test.YtkjflclkjdbmoaaPExecPoisonx0
import Derived.Test.YtkjflclkjdbmoaaPExecPoisonx4
namespace Go.Proofs.Ytkjflclkjdbmoaa.PExecPoison
open Go.RowKit Go.Proofs.YtkjflclkjdbmoaaW.PrintWords Go.Proofs.YtkjflclkjdbmoaaW.PrintLast Go.Proofs.YtkjflclkjdbmoaaW.PrintMore
attribute [local go_sem] max2_int min2_int max_two min_two max_three min_three max_four min_four   -- for this text's walks alone
set_option linter.unusedVariables false
set_option linter.unusedSimpArgs false

/-! ### cubbyref10_Ints: function 8 -/
def cubbyref10_Ints.l0 : Nat → List Int → List Int → Int → Option (Bool)
  | 0, _, _, _ => none
  | k + 1, x0, x1, x5 => if x5 < (x0.length : Int) then (if 0 ≤ x5 then (if x5 < (x1.length : Int) then (if (rd x0 x5) = (rd x1 x5) then (cubbyref10_Ints.l0 k x0 x1 (wrap64 (x5 + 1))) else (some false)) else (none)) else (none)) else (some true)
def cubbyref10_Ints.f (k : Nat) (l0 : List Int) (l1 : List Int) : Option (Bool) := if (l0.length : Int) = (l1.length : Int) then (cubbyref10_Ints.l0 k l0 l1 0) else (some false)
theorem cubbyref10_Ints.mono_l : ∀ k, (∀ y0 y1 y2, LeO (cubbyref10_Ints.l0 k y0 y1 y2) (cubbyref10_Ints.l0 (k + 1) y0 y1 y2))
  | 0 => fun _ _ _ r h => by simp [cubbyref10_Ints.l0] at h
  | k + 1 => by
    have ih0 := cubbyref10_Ints.mono_l k
    · intro y0 y1 y2
      unfold cubbyref10_Ints.l0
      repeat' first
      | (with_reducible exact ih0 _ _ _)
      | (with_reducible exact LeO.refl _)
      | (with_reducible exact LeO.none _)
      | (with_reducible refine LeO.ite ?_ ?_)
      | (with_reducible refine LeO.bind ?_ (fun _ => ?_))
      | exact ih0 _ _ _
      | exact LeO.none _
      | refine LeO.ite ?_ ?_
      | refine LeO.bind ?_ (fun _ => ?_)
theorem cubbyref10_Ints.mono : ∀ a0 a1 k, LeO (cubbyref10_Ints.f k a0 a1) (cubbyref10_Ints.f (k + 1) a0 a1) := by
  intro a0 a1 k
  have ih0 := cubbyref10_Ints.mono_l k
  unfold cubbyref10_Ints.f
  repeat' first
      | (with_reducible exact ih0 _ _ _)
      | (with_reducible exact LeO.refl _)
      | (with_reducible exact LeO.none _)
      | (with_reducible refine LeO.ite ?_ ?_)
      | (with_reducible refine LeO.bind ?_ (fun _ => ?_))
      | exact ih0 _ _ _
      | exact LeO.none _
      | refine LeO.ite ?_ ?_
      | refine LeO.bind ?_ (fun _ => ?_)
set_option maxHeartbeats 8000000 in
set_option maxRecDepth 100000 in
theorem cubbyref10_Ints.calls (k : Nat) (A0 : Option Addr) (c0 : Nat) (l0 : List Int) (A1 : Option Addr) (c1 : Nat) (l1 : List Int) (r : Bool) (w : World) (hr0 : Kd.C (Kd.int .i64) w A0 l0.length l0) (hc0 : l0.length ≤ c0) (hr1 : Kd.C (Kd.int .i64) w A1 l1.length l1) (hc1 : l1.length ≤ c1) (h : cubbyref10_Ints.f k l0 l1 = some r) :
    Calls Try.prog 8 #[.slice A0 l0.length c0, .slice A1 l1.length c1] w fun e w' => e = .returned (.bool r) ∧ Drawn0 w w' := by
  have HR0 := Aside0.mk hr0
  have HC0 := Aside0.mk hc0
  clear hr0 hc0
  have HR1 := Aside0.mk hr1
  have HC1 := Aside0.mk hc1
  clear hr1 hc1
  have H : (if (l0.length : Int) = (l1.length : Int) then (cubbyref10_Ints.l0 k l0 l1 0) else (some false)) = some r := h
  clear h
  by_cases c3 : (l0.length : Int) = (l1.length : Int)
  · rw [if_pos c3] at H
    have c3b0 : ((l0.length : Int) == (l1.length : Int)) = true := beq_iff_eq.mpr c3
    have c3b1 : ((l0.length : Int) != (l1.length : Int)) = false := bne_eq_false_iff_eq.mpr c3
    have c3b2 : (l0.length == l1.length) = true := by first | simpa using c3 | (simp at c3 ⊢; omega)
    clear c3
    have H' := Aside0.mk H
    clear H
    go_enter Try.func8, Try.ntmps8
    go_wp2
    repeat (go_quiet (fail); try go_wp2)
    go_loopg [5] k (fun kq v5 w' => ∃ (x5_1 : Int), v5 = .int .i64 x5_1 ∧ Aside0 (cubbyref10_Ints.l0 kq l0 l1 x5_1 = some r) ∧ Aside0 (kq ≤ k) ∧ Drawn0 w w')
    case atStart => exact ⟨(0), (by first | rfl | (simp; done) | (simp [*]; done)), H', ⟨Nat.le_refl _⟩, by repeat (first | exact Drawn0.refl _ | apply Drawn0.step)⟩
    case round =>
      clear H'
      try clear c1
      try clear p2
      try clear c3
      try clear c3b0
      try clear c3b1
      try clear c3b2
      obtain ⟨x5_1, rfl, HA, HK1, ⟨m1, rfl⟩⟩ := hrel
      cases gk with
      | zero => exact absurd HA.out (by simp [cubbyref10_Ints.l0])
      | succ k1 =>
        have H := HA.out
        clear HA
        simp only [cubbyref10_Ints.l0] at H
        by_cases c4 : x5_1 < (l0.length : Int)
        · rw [if_pos c4] at H
          have c4b0 : decide (x5_1 < (l0.length : Int)) = true := decide_eq_true c4
          clear c4
          by_cases c5 : 0 ≤ x5_1
          · rw [if_pos c5] at H
            have c5b0 : decide (0 ≤ x5_1) = true := decide_eq_true c5
            clear c5
            by_cases c6 : x5_1 < (l1.length : Int)
            · rw [if_pos c6] at H
              have c6b0 : decide (x5_1 < (l1.length : Int)) = true := decide_eq_true c6
              clear c6
              by_cases c7 : (rd l0 x5_1) = (rd l1 x5_1)
              · rw [if_pos c7] at H
                have c7b0 : ((rd l0 x5_1) == (rd l1 x5_1)) = true := beq_iff_eq.mpr c7
                have c7b1 : ((rd l0 x5_1) != (rd l1 x5_1)) = false := bne_eq_false_iff_eq.mpr c7
                clear c7
                have H' := Aside0.mk H
                clear H
                have p106 : 0 ≤ (x5_1 : Int) := of_decide_eq_true (by first | (with_reducible assumption) | assumption)
                have q106 : x5_1 < (l0.length : Int) := of_decide_eq_true (by first | (with_reducible assumption) | assumption)
                obtain ⟨ad106, e106, hx106_0⟩ := Kd.at_int HR0.out x5_1 p106 q106
                cases e106
                replace p106 := eq_true p106
                replace q106 := eq_true q106
                have p107 : 0 ≤ (x5_1 : Int) := of_decide_eq_true (by first | (with_reducible assumption) | assumption)
                have q107 : x5_1 < (l1.length : Int) := of_decide_eq_true (by first | (with_reducible assumption) | assumption)
                obtain ⟨ad107, e107, hx107_0⟩ := Kd.at_int HR1.out x5_1 p107 q107
                cases e107
                replace p107 := eq_true p107
                replace q107 := eq_true q107
                go_wp2
                repeat (go_quiet (fail); try go_wp2)
                go_roundg k1
                case measure => have := HK1.out; omega
                case rel => exact ⟨(wrap64 (x5_1 + 1)), (by first | rfl | (simp; done) | (simp [*]; done)), H', ⟨by have := HK1.out; omega⟩, by repeat (first | exact Drawn0.refl _ | apply Drawn0.step)⟩
              · rw [if_neg c7] at H
                have c7b0 : ((rd l0 x5_1) == (rd l1 x5_1)) = false := beq_eq_false_iff_ne.mpr c7
                have c7b1 : ((rd l0 x5_1) != (rd l1 x5_1)) = true := bne_iff_ne.mpr c7
                obtain rfl := Option.some.inj H
                have p106 : 0 ≤ (x5_1 : Int) := of_decide_eq_true (by first | (with_reducible assumption) | assumption)
                have q106 : x5_1 < (l0.length : Int) := of_decide_eq_true (by first | (with_reducible assumption) | assumption)
                obtain ⟨ad106, e106, hx106_0⟩ := Kd.at_int HR0.out x5_1 p106 q106
                cases e106
                replace p106 := eq_true p106
                replace q106 := eq_true q106
                have p107 : 0 ≤ (x5_1 : Int) := of_decide_eq_true (by first | (with_reducible assumption) | assumption)
                have q107 : x5_1 < (l1.length : Int) := of_decide_eq_true (by first | (with_reducible assumption) | assumption)
                obtain ⟨ad107, e107, hx107_0⟩ := Kd.at_int HR1.out x5_1 p107 q107
                cases e107
                replace p107 := eq_true p107
                replace q107 := eq_true q107
                go_wp2
                repeat (go_quiet (fail); try go_wp2)
                go_ret
                exact ⟨by first | rfl | (simp; done) | (simp [*]; done), by repeat (first | exact Drawn0.refl _ | apply Drawn0.step)⟩
            · rw [if_neg c6] at H
              exact absurd H (by simp)
          · rw [if_neg c5] at H
            exact absurd H (by simp)
        · rw [if_neg c4] at H
          have c4b0 : decide (x5_1 < (l0.length : Int)) = false := decide_eq_false c4
          clear c4
          obtain rfl := Option.some.inj H
          go_wp2
          repeat (go_quiet (fail); try go_wp2)
          go_ret
          exact ⟨by first | rfl | (simp; done) | (simp [*]; done), by repeat (first | exact Drawn0.refl _ | apply Drawn0.step)⟩
  · rw [if_neg c3] at H
    have c3b0 : ((l0.length : Int) == (l1.length : Int)) = false := beq_eq_false_iff_ne.mpr c3
    have c3b1 : ((l0.length : Int) != (l1.length : Int)) = true := bne_iff_ne.mpr c3
    have c3b2 : (l0.length == l1.length) = false := by first | simpa using c3 | (simp at c3 ⊢; omega)
    obtain rfl := Option.some.inj H
    go_enter Try.func8, Try.ntmps8
    go_wp2
    repeat (go_quiet (fail); try go_wp2)
    go_ret
    exact ⟨by first | rfl | (simp; done) | (simp [*]; done), by repeat (first | exact Drawn0.refl _ | apply Drawn0.step)⟩

/-! ### cubbylaw14_ExecPoison: function 4 (by hand) -/
theorem cubbylaw14_ExecPoison.flat (sz : Nat) : ∀ (cells : List (List Value)), (∀ c ∈ cells, c.length = sz) → ∀ (j i : Nat) (c : List Value), cells[j]? = some c → i < sz → cells.flatten[j * sz + i]? = c[i]?
  | [], _, j, i, c, hj, _ => by simp at hj
  | a :: l, h, 0, i, c, hj, hi => by
    have e : a = c := by simpa using hj
    subst e
    rw [List.flatten_cons, List.getElem?_append_left (by rw [h a List.mem_cons_self]; omega), Nat.zero_mul, Nat.zero_add]
  | a :: l, h, j + 1, i, c, hj, hi => by
    have hl := h a List.mem_cons_self
    rw [List.flatten_cons, List.getElem?_append_right (by rw [hl, Nat.add_mul]; omega), hl, show (j + 1) * sz + i - sz = j * sz + i by rw [Nat.add_mul]; omega]
    exact cubbylaw14_ExecPoison.flat sz l (fun c hc => h c (List.mem_cons_of_mem _ hc)) j i c (by simpa using hj) hi
/-- A row that lies in a block of its own. -/
theorem cubbylaw14_ExecPoison.C_block {α : Type} (d : Kd α) {W : World} {b : Nat} {t : TypeId} {xs : List α} (cells : List (List Value)) (h : W.heap[b]? = some (.cells cells.flatten.toArray t (0, 0))) (hl : cells.length = xs.length) (hn : xs.length ≤ 9223372036854775807)
    (hK : ∀ (j : Nat) (x : α) (c : List Value), xs[j]? = some x → cells[j]? = some c → d.K W x c) : d.C W (some ⟨b, 0, none⟩) xs.length xs := by
  have hsz : ∀ c ∈ cells, c.length = d.sz := by
    intro c hc
    obtain ⟨j, hj, rfl⟩ := List.getElem_of_mem hc
    exact d.K_len (hK j (xs[j]'(by omega)) _ (List.getElem?_eq_getElem (by omega)) (List.getElem?_eq_getElem hj))
  refine ⟨rfl, hn, fun _ => ⟨_, rfl, fun j p hj => ?_⟩⟩
  have hjl := (List.getElem?_eq_some_iff.1 hj).1
  have hc : cells[j]? = some (cells[j]'(by omega)) := List.getElem?_eq_getElem (by omega)
  have hk := hK j p _ hj hc
  refine ⟨_, d.K_len hk, hk, fun i u hu => ?_⟩
  have ea : (⟨b, 0, none⟩ : Addr).add (j * d.sz + i) = ⟨b, j * d.sz + i, none⟩ := by unfold Addr.add; split <;> simp_all
  have hil : i < d.sz := by rw [← d.K_len hk]; exact (List.getElem?_eq_some_iff.1 hu).1
  rw [ea, cell_of_row W b _ _ _ _ h, List.getElem?_toArray, cubbylaw14_ExecPoison.flat d.sz cells hsz j i _ hc hil]
  exact hu
theorem cubbylaw14_ExecPoison.noargs (W : World) : (Kd.int .i64).C W none 0 [] := ⟨rfl, Nat.zero_le _, fun h => absurd h (Nat.lt_irrefl 0)⟩
theorem cubbylaw14_ExecPoison.mkI {W : World} (o d a b : Int) (nm : ByteArray) (as_ : List Int) (Ag : Option Addr) (cg : Nat) (hl : as_.length ≤ cg) (h : (Kd.int .i64).C W Ag as_.length as_) : Rn.kI.K W ⟨o, d, a, b, nm, as_⟩ [.int .i64 o, .int .i64 d, .int .i64 a, .int .i64 b, .string nm, .slice Ag as_.length cg] :=
  ⟨[.int .i64 o], [.int .i64 d, .int .i64 a, .int .i64 b, .string nm, .slice Ag as_.length cg], rfl, rfl, ⟨[.int .i64 d], [.int .i64 a, .int .i64 b, .string nm, .slice Ag as_.length cg], rfl, rfl, ⟨[.int .i64 a], [.int .i64 b, .string nm, .slice Ag as_.length cg], rfl, rfl, ⟨[.int .i64 b], [.string nm, .slice Ag as_.length cg], rfl, rfl, ⟨[.string nm], [.slice Ag as_.length cg], rfl, rfl, ⟨Ag, cg, rfl, hl, h⟩⟩⟩⟩⟩⟩
theorem cubbylaw14_ExecPoison.gp {α : Type} (r : List Int) (i : Nat) (k : Int → Option α) (h : i < r.length) : Rn.get r (i : Int) k = k (r.getD i 0) := by
  unfold Rn.get
  rw [if_pos (by omega), Int.toNat_natCast]
theorem cubbylaw14_ExecPoison.sp {α : Type} (r : List Int) (i : Nat) (v : Int) (k : List Int → Option α) (h : i < r.length) : Rn.set r (i : Int) v k = k (r.set i v) := by
  unfold Rn.set
  rw [if_pos (by omega), Int.toNat_natCast]
section
variable {mod : List Ex.Cd} {fuel : Int} {g : Nat} {bl : List (List Rn.Ins)} {r s : List Int} {rest : List Rn.Ins} {deep : Int} {nm : ByteArray} {args : List Int} {mem told : List Int} {st b : Int}
theorem cubbylaw14_ExecPoison.s1 (d : Nat) (a : Int) (h : ¬ fuel ≤ st) (hd : d < r.length) : Ex.go mod fuel (g + 1) bl r s (⟨1, (d : Int), a, b, nm, args⟩ :: rest) deep ⟨mem, told, st⟩ = Ex.go mod fuel g bl (r.set d a) s rest deep ⟨mem, told, st + 1⟩ := by
  rw [Ex.goP (by exact h) (by decide) (by decide) (by decide) (by decide)]
  have e : Ex.plain ⟨1, (d : Int), a, b, nm, args⟩ r s (Rn.tick ⟨mem, told, st⟩) = some (some (r.set d a, s, ⟨mem, told, st + 1⟩)) := by
    unfold Ex.plain
    rw [if_pos rfl, cubbylaw14_ExecPoison.sp _ _ _ _ hd]
    rfl
  rw [e]
theorem cubbylaw14_ExecPoison.s22 (d a : Nat) (h : ¬ fuel ≤ st) (hd : d < s.length) (ha : a < r.length) : Ex.go mod fuel (g + 1) bl r s (⟨22, (d : Int), (a : Int), b, nm, args⟩ :: rest) deep ⟨mem, told, st⟩ = Ex.go mod fuel g bl r (s.set d (r.getD a 0)) rest deep ⟨mem, told, st + 1⟩ := by
  rw [Ex.goP (by exact h) (by decide) (by decide) (by decide) (by decide)]
  have e : Ex.plain ⟨22, (d : Int), (a : Int), b, nm, args⟩ r s (Rn.tick ⟨mem, told, st⟩) = some (some (r, s.set d (r.getD a 0), ⟨mem, told, st + 1⟩)) := by
    unfold Ex.plain
    rw [if_neg (show ¬ (22 : Int) = 1 by decide), if_neg (show ¬ (22 : Int) = 2 by decide), if_neg (show ¬ (22 : Int) = 21 by decide), if_pos rfl, cubbylaw14_ExecPoison.gp _ _ _ ha, cubbylaw14_ExecPoison.sp _ _ _ _ hd]
    rfl
  rw [e]
theorem cubbylaw14_ExecPoison.s21 (d a : Nat) (h : ¬ fuel ≤ st) (hd : d < r.length) (ha : a < s.length) : Ex.go mod fuel (g + 1) bl r s (⟨21, (d : Int), (a : Int), b, nm, args⟩ :: rest) deep ⟨mem, told, st⟩ = Ex.go mod fuel g bl (r.set d (s.getD a 0)) s rest deep ⟨mem, told, st + 1⟩ := by
  rw [Ex.goP (by exact h) (by decide) (by decide) (by decide) (by decide)]
  have e : Ex.plain ⟨21, (d : Int), (a : Int), b, nm, args⟩ r s (Rn.tick ⟨mem, told, st⟩) = some (some (r.set d (s.getD a 0), s, ⟨mem, told, st + 1⟩)) := by
    unfold Ex.plain
    rw [if_neg (show ¬ (21 : Int) = 1 by decide), if_neg (show ¬ (21 : Int) = 2 by decide), if_pos rfl, cubbylaw14_ExecPoison.gp _ _ _ ha, cubbylaw14_ExecPoison.sp _ _ _ _ hd]
    rfl
  rw [e]
theorem cubbylaw14_ExecPoison.s10 (d : Int) (a : Nat) (h : ¬ fuel ≤ st) (ha : a < r.length) : Ex.go mod fuel (g + 1) bl r s (⟨10, d, (a : Int), b, nm, args⟩ :: rest) deep ⟨mem, told, st⟩ = Ex.go mod fuel g bl r s rest deep ⟨mem, told ++ [r.getD a 0], st + 1⟩ := by
  rw [Ex.goP (by exact h) (by decide) (by decide) (by decide) (by decide)]
  have e : Ex.plain ⟨10, d, (a : Int), b, nm, args⟩ r s (Rn.tick ⟨mem, told, st⟩) = some (some (r, s, ⟨mem, told ++ [r.getD a 0], st + 1⟩)) := by
    unfold Ex.plain
    rw [if_neg (show ¬ (10 : Int) = 1 by decide), if_neg (show ¬ (10 : Int) = 2 by decide), if_neg (show ¬ (10 : Int) = 21 by decide), if_neg (show ¬ (10 : Int) = 22 by decide), if_neg (show ¬ (10 : Int) = 8 by decide), if_neg (show ¬ (10 : Int) = 9 by decide), if_pos rfl, cubbylaw14_ExecPoison.gp _ _ _ ha]
    rfl
  rw [e]
theorem cubbylaw14_ExecPoison.s14 (d : Int) (a : Nat) (h : ¬ fuel ≤ st) (ha : a < r.length) : Ex.go mod fuel (g + 1) bl r s (⟨14, d, (a : Int), b, nm, args⟩ :: rest) deep ⟨mem, told, st⟩ = some (.val (r.getD a 0), ⟨mem, told, st + 1⟩) := by
  rw [Ex.go14 (by exact h), cubbylaw14_ExecPoison.gp _ _ _ ha]
  rfl
end
theorem cubbylaw14_ExecPoison.gs (l : List Int) (i : Nat) (v : Int) (h : i < l.length) : (l.set i v).getD i 0 = v := by
  rw [List.getD_eq_getElem?_getD, List.getElem?_set_self h]
  rfl
theorem cubbylaw14_ExecPoison.gn (l : List Int) (i j : Nat) (v : Int) (h : i ≠ j) : (l.set i v).getD j 0 = l.getD j 0 := by
  rw [List.getD_eq_getElem?_getD, List.getElem?_set_ne h, List.getD_eq_getElem?_getD]
theorem cubbylaw14_ExecPoison.pp (j : Nat) (h : j < 16) : Ex.pr.getD j 0 = 48879 := by
  unfold Ex.pr
  rw [List.getD_eq_getElem?_getD, List.getElem?_replicate_of_lt h]
  rfl
theorem cubbylaw14_ExecPoison.qq (j : Nat) (h : j < 64) : Ex.ps.getD j 0 = 48879 := by
  unfold Ex.ps
  rw [List.getD_eq_getElem?_getD, List.getElem?_replicate_of_lt h]
  rfl
theorem cubbylaw14_ExecPoison.prl : Ex.pr.length = 16 := rfl
theorem cubbylaw14_ExecPoison.psl : Ex.ps.length = 64 := rfl
theorem cubbylaw14_ExecPoison.call_eq (mod : List Ex.Cd) (fuel : Int) (g : Nat) (name : ByteArray) (vs : List Int) (deep : Int) (m : Rn.M) (f : Ex.Cd) (b : List Rn.Ins) (bs : List (List Rn.Ins)) (h1 : Ex.ok mod (Ex.ix mod name) vs.length deep = true) (h2 : mod.getD (Ex.ix mod name).toNat Ex.zC = f) (h3 : f.blocks = b :: bs) : Ex.call mod fuel g name vs deep m = Ex.go mod fuel g (b :: bs) (Ex.entry vs) Ex.ps b deep m := by
  unfold Ex.call
  rw [if_pos h1, h2, h3]
  unfold Rn.blk
  rw [if_pos (by rw [List.length_cons]; omega)]
  rfl
def cubbylaw14_ExecPoison.b1 (v : Int) (r s : Nat) : List Rn.Ins := [⟨1, (r : Int), v, 0, ⟨#[]⟩, []⟩, ⟨22, (s : Int), (r : Int), 0, ⟨#[]⟩, []⟩, ⟨11, 0, 0, 0, ⟨#[103]⟩, []⟩, ⟨10, 0, ((0 : Nat) : Int), 0, ⟨#[]⟩, []⟩, ⟨10, 0, (r : Int), 0, ⟨#[]⟩, []⟩, ⟨21, (r : Int), (s : Int), 0, ⟨#[]⟩, []⟩, ⟨14, 0, (r : Int), 0, ⟨#[]⟩, []⟩]
def cubbylaw14_ExecPoison.b2 (u : Int) (r s : Nat) : List Rn.Ins := [⟨1, (r : Int), u, 0, ⟨#[]⟩, []⟩, ⟨22, (s : Int), (r : Int), 0, ⟨#[]⟩, []⟩, ⟨14, 0, (r : Int), 0, ⟨#[]⟩, []⟩]
def cubbylaw14_ExecPoison.mod (v u : Int) (r s : Nat) : List Ex.Cd := [⟨⟨#[102]⟩, 0, 6, 4, [cubbylaw14_ExecPoison.b1 v r s]⟩, ⟨⟨#[103]⟩, 0, 6, 4, [cubbylaw14_ExecPoison.b2 u r s]⟩]
theorem cubbylaw14_ExecPoison.ix1 (v u : Int) (r s : Nat) : Ex.ix (cubbylaw14_ExecPoison.mod v u r s) ⟨#[102]⟩ = 0 := by
  unfold Ex.ix cubbylaw14_ExecPoison.mod
  simp [List.findIdx?_cons]
theorem cubbylaw14_ExecPoison.ix2 (v u : Int) (r s : Nat) : Ex.ix (cubbylaw14_ExecPoison.mod v u r s) ⟨#[103]⟩ = 1 := by
  unfold Ex.ix cubbylaw14_ExecPoison.mod
  simp [List.findIdx?_cons]
theorem cubbylaw14_ExecPoison.entry0 : Ex.entry [] = Ex.pr := rfl
theorem cubbylaw14_ExecPoison.law (v u : Int) (r s : Nat) (hr : 1 ≤ r ∧ r < 16) (hs : s < 64) (mem : List Int) (g : Nat) : Ex.call (cubbylaw14_ExecPoison.mod v u r s) 100 (g + 10) ⟨#[102]⟩ [] 0 ⟨mem, [], 0⟩ = some (.val v, ⟨mem, [u, 48879], 10⟩) := by
  have hp := cubbylaw14_ExecPoison.prl
  have hq := cubbylaw14_ExecPoison.psl
  have hcall : Ex.call (cubbylaw14_ExecPoison.mod v u r s) 100 (g + 7) ⟨#[103]⟩ [] (0 + 1) ⟨mem, [], 3⟩ = some (.val u, ⟨mem, [], 6⟩) := by
    rw [cubbylaw14_ExecPoison.call_eq _ _ _ _ _ _ _ ⟨⟨#[103]⟩, 0, 6, 4, [cubbylaw14_ExecPoison.b2 u r s]⟩ (cubbylaw14_ExecPoison.b2 u r s) [] (by rw [cubbylaw14_ExecPoison.ix2]; unfold Ex.ok cubbylaw14_ExecPoison.mod; exact decide_eq_true ⟨by decide, rfl, by decide⟩) (by rw [cubbylaw14_ExecPoison.ix2]; rfl) rfl, cubbylaw14_ExecPoison.entry0]
    generalize cubbylaw14_ExecPoison.mod v u r s = mod
    generalize [cubbylaw14_ExecPoison.b2 u r s] = bl
    unfold cubbylaw14_ExecPoison.b2
    rw [cubbylaw14_ExecPoison.s1 (g := g + 6) r u (by decide) (by rw [hp]; omega)]
    rw [cubbylaw14_ExecPoison.s22 (g := g + 5) s r (by decide) (by rw [hq]; exact hs) (by rw [List.length_set, hp]; omega)]
    rw [cubbylaw14_ExecPoison.s14 (g := g + 4) 0 r (by decide) (by rw [List.length_set, hp]; omega)]
    rw [cubbylaw14_ExecPoison.gs _ _ _ (by rw [hp]; omega)]
    rfl
  rw [cubbylaw14_ExecPoison.call_eq _ _ _ _ _ _ _ ⟨⟨#[102]⟩, 0, 6, 4, [cubbylaw14_ExecPoison.b1 v r s]⟩ (cubbylaw14_ExecPoison.b1 v r s) [] (by rw [cubbylaw14_ExecPoison.ix1]; unfold Ex.ok cubbylaw14_ExecPoison.mod; exact decide_eq_true ⟨by decide, rfl, by decide⟩) (by rw [cubbylaw14_ExecPoison.ix1]; rfl) rfl, cubbylaw14_ExecPoison.entry0]
  generalize cubbylaw14_ExecPoison.mod v u r s = mod at hcall ⊢
  generalize [cubbylaw14_ExecPoison.b1 v r s] = bl
  unfold cubbylaw14_ExecPoison.b1
  rw [cubbylaw14_ExecPoison.s1 (g := g + 9) r v (by decide) (by rw [hp]; omega)]
  rw [cubbylaw14_ExecPoison.s22 (g := g + 8) s r (by decide) (by rw [hq]; exact hs) (by rw [List.length_set, hp]; omega)]
  rw [cubbylaw14_ExecPoison.gs _ _ _ (by rw [hp]; omega)]
  rw [Ex.go11 (g := g + 7) (by show ¬ (100 : Int) ≤ 0 + 1 + 1; decide), if_pos (by decide)]
  have e3 : (Rn.tick ⟨mem, [], 0 + 1 + 1⟩ : Rn.M) = ⟨mem, [], 3⟩ := rfl
  rw [show ((0 : Int)).toNat = 0 from rfl, List.take_zero, e3, hcall]
  show Ex.go mod 100 (g + 7) bl (Ex.pr.set 0 u) (Ex.ps.set s v) _ 0 ⟨mem, [], 6⟩ = _
  rw [cubbylaw14_ExecPoison.s10 (g := g + 6) 0 0 (by decide) (by rw [List.length_set, hp]; decide)]
  rw [cubbylaw14_ExecPoison.s10 (g := g + 5) 0 r (by decide) (by rw [List.length_set, hp]; omega)]
  rw [cubbylaw14_ExecPoison.s21 (g := g + 4) r s (by decide) (by rw [List.length_set, hp]; omega) (by rw [List.length_set, hq]; exact hs)]
  rw [cubbylaw14_ExecPoison.s14 (g := g + 3) 0 r (by decide) (by rw [List.length_set, List.length_set, hp]; omega)]
  rw [cubbylaw14_ExecPoison.gs _ _ _ (by rw [List.length_set, hp]; omega), cubbylaw14_ExecPoison.gs _ _ _ (by rw [hq]; exact hs), cubbylaw14_ExecPoison.gs _ _ _ (by rw [hp]; decide), cubbylaw14_ExecPoison.gn _ _ _ _ (by omega), cubbylaw14_ExecPoison.pp _ hr.2]
  rfl
theorem cubbylaw14_ExecPoison.ints_l (xs : List Int) (hl : xs.length < 4611686018427387904) : ∀ (k i : Nat), i ≤ xs.length → xs.length - i < k → cubbyref10_Ints.l0 k xs xs (i : Int) = some true
  | 0, i, _, h => absurd h (Nat.not_lt_zero _)
  | k + 1, i, h1, h2 => by
    unfold cubbyref10_Ints.l0
    by_cases hi : (i : Int) < (xs.length : Int)
    · rw [if_pos hi, if_pos (by omega), if_pos hi, if_pos rfl, Hw.wnat i (by omega)]
      exact cubbylaw14_ExecPoison.ints_l xs hl k (i + 1) (by omega) (by omega)
    · rw [if_neg hi]
theorem cubbylaw14_ExecPoison.ints_same (xs : List Int) (hl : xs.length < 4611686018427387904) : cubbyref10_Ints.f (xs.length + 1) xs xs = some true := by
  unfold cubbyref10_Ints.f
  rw [if_pos rfl]
  exact cubbylaw14_ExecPoison.ints_l xs hl (xs.length + 1) 0 (Nat.zero_le _) (by omega)
def cubbylaw14_ExecPoison.Fit (v r s u : Int) : Prop := (0 ≤ v ∧ v < 65536) ∧ (0 ≤ r ∧ r < 256) ∧ (0 ≤ s ∧ s < 256) ∧ (0 ≤ u ∧ u < 65536)
instance (v r s u : Int) : Decidable (cubbylaw14_ExecPoison.Fit v r s u) := by unfold cubbylaw14_ExecPoison.Fit; infer_instance
def cubbylaw14_ExecPoison.f (l0 l1 l2 l3 : Int) : Option Bool := if cubbylaw14_ExecPoison.Fit l0 l1 l2 l3 then some true else none
set_option maxHeartbeats 16000000 in
set_option maxRecDepth 100000 in
theorem cubbylaw14_ExecPoison.calls (l0 l1 l2 l3 : Int) (r : Bool) (w : World) (h : cubbylaw14_ExecPoison.f l0 l1 l2 l3 = some r) :
    Calls Try.prog 4 #[.int .u16 l0, .int .u8 l1, .int .u8 l2, .int .u16 l3] w fun e w' => e = .returned (.bool r) ∧ Below w.heap.size w w' := by
  unfold cubbylaw14_ExecPoison.f at h
  by_cases hl : cubbylaw14_ExecPoison.Fit l0 l1 l2 l3
  case neg => rw [if_neg hl] at h; cases h
  rw [if_pos hl] at h
  obtain rfl := Option.some.inj h
  unfold cubbylaw14_ExecPoison.Fit at hl
  clear h
  obtain ⟨hv, hr, hs, hu⟩ := hl
  obtain ⟨hv1, hv2⟩ := hv
  obtain ⟨hu1, hu2⟩ := hu
  obtain ⟨rn, hrn⟩ : ∃ n : Nat, l1 % 5 + 1 = (n : Int) := ⟨(l1 % 5 + 1).toNat, by omega⟩
  obtain ⟨sn, hsn⟩ : ∃ n : Nat, l2 % 4 = (n : Int) := ⟨(l2 % 4).toNat, by omega⟩
  have e1 : 1 + l1 % 5 = (rn : Int) := by omega
  have e2 : l2 % 4 = (sn : Int) := hsn
  obtain ⟨hr1, hr9⟩ := hr
  obtain ⟨hs1, hs9⟩ := hs
  have hr2 : 1 ≤ rn ∧ rn < 16 := by omega
  have hs2 : sn < 64 := by omega
  clear hrn hsn
  obtain ⟨W7, hW7⟩ : ∃ W7, (((((((w.alloc (.cells #[.int .i64 1, .int .i64 (rn : Int), .int .i64 l0, .int .i64 0, .string ⟨#[]⟩, .slice none 0 0, .int .i64 22, .int .i64 (sn : Int), .int .i64 (rn : Int), .int .i64 0, .string ⟨#[]⟩, .slice none 0 0, .int .i64 11, .int .i64 0, .int .i64 0, .int .i64 0, .string ⟨#[103]⟩, .slice none 0 0, .int .i64 10, .int .i64 0, .int .i64 0, .int .i64 0, .string ⟨#[]⟩, .slice none 0 0, .int .i64 10, .int .i64 0, .int .i64 (rn : Int), .int .i64 0, .string ⟨#[]⟩, .slice none 0 0, .int .i64 21, .int .i64 (rn : Int), .int .i64 (sn : Int), .int .i64 0, .string ⟨#[]⟩, .slice none 0 0, .int .i64 14, .int .i64 0, .int .i64 (rn : Int), .int .i64 0, .string ⟨#[]⟩, .slice none 0 0] 28)).alloc (.cells #[.slice (some ⟨w.heap.size, 0, none⟩) 7 7] 24)).alloc (.cells #[.string ⟨#[102]⟩, .int .i64 0, .int .i64 6, .int .i64 4, .slice (some ⟨w.heap.size + 1, 0, none⟩) 1 1] 31)).alloc (.cells #[.int .i64 1, .int .i64 (rn : Int), .int .i64 l3, .int .i64 0, .string ⟨#[]⟩, .slice none 0 0, .int .i64 22, .int .i64 (sn : Int), .int .i64 (rn : Int), .int .i64 0, .string ⟨#[]⟩, .slice none 0 0, .int .i64 14, .int .i64 0, .int .i64 (rn : Int), .int .i64 0, .string ⟨#[]⟩, .slice none 0 0] 28)).alloc (.cells #[.slice (some ⟨w.heap.size + 1 + 1 + 1, 0, none⟩) 3 3] 24)).alloc (.cells #[.string ⟨#[103]⟩, .int .i64 0, .int .i64 6, .int .i64 4, .slice (some ⟨w.heap.size + 1 + 1 + 1 + 1, 0, none⟩) 1 1] 31)).alloc (.cells #[.string ⟨#[102]⟩, .int .i64 0, .int .i64 6, .int .i64 4, .slice (some ⟨w.heap.size + 1, 0, none⟩) 1 1, .string ⟨#[103]⟩, .int .i64 0, .int .i64 6, .int .i64 4, .slice (some ⟨w.heap.size + 1 + 1 + 1 + 1, 0, none⟩) 1 1] 31)) = W7 := ⟨_, rfl⟩
  have z1 : (w.alloc (.cells #[.int .i64 1, .int .i64 (rn : Int), .int .i64 l0, .int .i64 0, .string ⟨#[]⟩, .slice none 0 0, .int .i64 22, .int .i64 (sn : Int), .int .i64 (rn : Int), .int .i64 0, .string ⟨#[]⟩, .slice none 0 0, .int .i64 11, .int .i64 0, .int .i64 0, .int .i64 0, .string ⟨#[103]⟩, .slice none 0 0, .int .i64 10, .int .i64 0, .int .i64 0, .int .i64 0, .string ⟨#[]⟩, .slice none 0 0, .int .i64 10, .int .i64 0, .int .i64 (rn : Int), .int .i64 0, .string ⟨#[]⟩, .slice none 0 0, .int .i64 21, .int .i64 (rn : Int), .int .i64 (sn : Int), .int .i64 0, .string ⟨#[]⟩, .slice none 0 0, .int .i64 14, .int .i64 0, .int .i64 (rn : Int), .int .i64 0, .string ⟨#[]⟩, .slice none 0 0] 28)).heap.size = w.heap.size + 1 := by simp
  have z2 : ((w.alloc (.cells #[.int .i64 1, .int .i64 (rn : Int), .int .i64 l0, .int .i64 0, .string ⟨#[]⟩, .slice none 0 0, .int .i64 22, .int .i64 (sn : Int), .int .i64 (rn : Int), .int .i64 0, .string ⟨#[]⟩, .slice none 0 0, .int .i64 11, .int .i64 0, .int .i64 0, .int .i64 0, .string ⟨#[103]⟩, .slice none 0 0, .int .i64 10, .int .i64 0, .int .i64 0, .int .i64 0, .string ⟨#[]⟩, .slice none 0 0, .int .i64 10, .int .i64 0, .int .i64 (rn : Int), .int .i64 0, .string ⟨#[]⟩, .slice none 0 0, .int .i64 21, .int .i64 (rn : Int), .int .i64 (sn : Int), .int .i64 0, .string ⟨#[]⟩, .slice none 0 0, .int .i64 14, .int .i64 0, .int .i64 (rn : Int), .int .i64 0, .string ⟨#[]⟩, .slice none 0 0] 28)).alloc (.cells #[.slice (some ⟨w.heap.size, 0, none⟩) 7 7] 24)).heap.size = w.heap.size + 1 + 1 := by simp
  have z3 : (((w.alloc (.cells #[.int .i64 1, .int .i64 (rn : Int), .int .i64 l0, .int .i64 0, .string ⟨#[]⟩, .slice none 0 0, .int .i64 22, .int .i64 (sn : Int), .int .i64 (rn : Int), .int .i64 0, .string ⟨#[]⟩, .slice none 0 0, .int .i64 11, .int .i64 0, .int .i64 0, .int .i64 0, .string ⟨#[103]⟩, .slice none 0 0, .int .i64 10, .int .i64 0, .int .i64 0, .int .i64 0, .string ⟨#[]⟩, .slice none 0 0, .int .i64 10, .int .i64 0, .int .i64 (rn : Int), .int .i64 0, .string ⟨#[]⟩, .slice none 0 0, .int .i64 21, .int .i64 (rn : Int), .int .i64 (sn : Int), .int .i64 0, .string ⟨#[]⟩, .slice none 0 0, .int .i64 14, .int .i64 0, .int .i64 (rn : Int), .int .i64 0, .string ⟨#[]⟩, .slice none 0 0] 28)).alloc (.cells #[.slice (some ⟨w.heap.size, 0, none⟩) 7 7] 24)).alloc (.cells #[.string ⟨#[102]⟩, .int .i64 0, .int .i64 6, .int .i64 4, .slice (some ⟨w.heap.size + 1, 0, none⟩) 1 1] 31)).heap.size = w.heap.size + 1 + 1 + 1 := by simp
  have z4 : ((((w.alloc (.cells #[.int .i64 1, .int .i64 (rn : Int), .int .i64 l0, .int .i64 0, .string ⟨#[]⟩, .slice none 0 0, .int .i64 22, .int .i64 (sn : Int), .int .i64 (rn : Int), .int .i64 0, .string ⟨#[]⟩, .slice none 0 0, .int .i64 11, .int .i64 0, .int .i64 0, .int .i64 0, .string ⟨#[103]⟩, .slice none 0 0, .int .i64 10, .int .i64 0, .int .i64 0, .int .i64 0, .string ⟨#[]⟩, .slice none 0 0, .int .i64 10, .int .i64 0, .int .i64 (rn : Int), .int .i64 0, .string ⟨#[]⟩, .slice none 0 0, .int .i64 21, .int .i64 (rn : Int), .int .i64 (sn : Int), .int .i64 0, .string ⟨#[]⟩, .slice none 0 0, .int .i64 14, .int .i64 0, .int .i64 (rn : Int), .int .i64 0, .string ⟨#[]⟩, .slice none 0 0] 28)).alloc (.cells #[.slice (some ⟨w.heap.size, 0, none⟩) 7 7] 24)).alloc (.cells #[.string ⟨#[102]⟩, .int .i64 0, .int .i64 6, .int .i64 4, .slice (some ⟨w.heap.size + 1, 0, none⟩) 1 1] 31)).alloc (.cells #[.int .i64 1, .int .i64 (rn : Int), .int .i64 l3, .int .i64 0, .string ⟨#[]⟩, .slice none 0 0, .int .i64 22, .int .i64 (sn : Int), .int .i64 (rn : Int), .int .i64 0, .string ⟨#[]⟩, .slice none 0 0, .int .i64 14, .int .i64 0, .int .i64 (rn : Int), .int .i64 0, .string ⟨#[]⟩, .slice none 0 0] 28)).heap.size = w.heap.size + 1 + 1 + 1 + 1 := by simp
  have z5 : (((((w.alloc (.cells #[.int .i64 1, .int .i64 (rn : Int), .int .i64 l0, .int .i64 0, .string ⟨#[]⟩, .slice none 0 0, .int .i64 22, .int .i64 (sn : Int), .int .i64 (rn : Int), .int .i64 0, .string ⟨#[]⟩, .slice none 0 0, .int .i64 11, .int .i64 0, .int .i64 0, .int .i64 0, .string ⟨#[103]⟩, .slice none 0 0, .int .i64 10, .int .i64 0, .int .i64 0, .int .i64 0, .string ⟨#[]⟩, .slice none 0 0, .int .i64 10, .int .i64 0, .int .i64 (rn : Int), .int .i64 0, .string ⟨#[]⟩, .slice none 0 0, .int .i64 21, .int .i64 (rn : Int), .int .i64 (sn : Int), .int .i64 0, .string ⟨#[]⟩, .slice none 0 0, .int .i64 14, .int .i64 0, .int .i64 (rn : Int), .int .i64 0, .string ⟨#[]⟩, .slice none 0 0] 28)).alloc (.cells #[.slice (some ⟨w.heap.size, 0, none⟩) 7 7] 24)).alloc (.cells #[.string ⟨#[102]⟩, .int .i64 0, .int .i64 6, .int .i64 4, .slice (some ⟨w.heap.size + 1, 0, none⟩) 1 1] 31)).alloc (.cells #[.int .i64 1, .int .i64 (rn : Int), .int .i64 l3, .int .i64 0, .string ⟨#[]⟩, .slice none 0 0, .int .i64 22, .int .i64 (sn : Int), .int .i64 (rn : Int), .int .i64 0, .string ⟨#[]⟩, .slice none 0 0, .int .i64 14, .int .i64 0, .int .i64 (rn : Int), .int .i64 0, .string ⟨#[]⟩, .slice none 0 0] 28)).alloc (.cells #[.slice (some ⟨w.heap.size + 1 + 1 + 1, 0, none⟩) 3 3] 24)).heap.size = w.heap.size + 1 + 1 + 1 + 1 + 1 := by simp
  have z6 : ((((((w.alloc (.cells #[.int .i64 1, .int .i64 (rn : Int), .int .i64 l0, .int .i64 0, .string ⟨#[]⟩, .slice none 0 0, .int .i64 22, .int .i64 (sn : Int), .int .i64 (rn : Int), .int .i64 0, .string ⟨#[]⟩, .slice none 0 0, .int .i64 11, .int .i64 0, .int .i64 0, .int .i64 0, .string ⟨#[103]⟩, .slice none 0 0, .int .i64 10, .int .i64 0, .int .i64 0, .int .i64 0, .string ⟨#[]⟩, .slice none 0 0, .int .i64 10, .int .i64 0, .int .i64 (rn : Int), .int .i64 0, .string ⟨#[]⟩, .slice none 0 0, .int .i64 21, .int .i64 (rn : Int), .int .i64 (sn : Int), .int .i64 0, .string ⟨#[]⟩, .slice none 0 0, .int .i64 14, .int .i64 0, .int .i64 (rn : Int), .int .i64 0, .string ⟨#[]⟩, .slice none 0 0] 28)).alloc (.cells #[.slice (some ⟨w.heap.size, 0, none⟩) 7 7] 24)).alloc (.cells #[.string ⟨#[102]⟩, .int .i64 0, .int .i64 6, .int .i64 4, .slice (some ⟨w.heap.size + 1, 0, none⟩) 1 1] 31)).alloc (.cells #[.int .i64 1, .int .i64 (rn : Int), .int .i64 l3, .int .i64 0, .string ⟨#[]⟩, .slice none 0 0, .int .i64 22, .int .i64 (sn : Int), .int .i64 (rn : Int), .int .i64 0, .string ⟨#[]⟩, .slice none 0 0, .int .i64 14, .int .i64 0, .int .i64 (rn : Int), .int .i64 0, .string ⟨#[]⟩, .slice none 0 0] 28)).alloc (.cells #[.slice (some ⟨w.heap.size + 1 + 1 + 1, 0, none⟩) 3 3] 24)).alloc (.cells #[.string ⟨#[103]⟩, .int .i64 0, .int .i64 6, .int .i64 4, .slice (some ⟨w.heap.size + 1 + 1 + 1 + 1, 0, none⟩) 1 1] 31)).heap.size = w.heap.size + 1 + 1 + 1 + 1 + 1 + 1 := by simp
  have b0 : W7.heap[w.heap.size]? = some (.cells #[.int .i64 1, .int .i64 (rn : Int), .int .i64 l0, .int .i64 0, .string ⟨#[]⟩, .slice none 0 0, .int .i64 22, .int .i64 (sn : Int), .int .i64 (rn : Int), .int .i64 0, .string ⟨#[]⟩, .slice none 0 0, .int .i64 11, .int .i64 0, .int .i64 0, .int .i64 0, .string ⟨#[103]⟩, .slice none 0 0, .int .i64 10, .int .i64 0, .int .i64 0, .int .i64 0, .string ⟨#[]⟩, .slice none 0 0, .int .i64 10, .int .i64 0, .int .i64 (rn : Int), .int .i64 0, .string ⟨#[]⟩, .slice none 0 0, .int .i64 21, .int .i64 (rn : Int), .int .i64 (sn : Int), .int .i64 0, .string ⟨#[]⟩, .slice none 0 0, .int .i64 14, .int .i64 0, .int .i64 (rn : Int), .int .i64 0, .string ⟨#[]⟩, .slice none 0 0] 28) := by
    have e := Hw.blk_nw w (.cells #[.int .i64 1, .int .i64 (rn : Int), .int .i64 l0, .int .i64 0, .string ⟨#[]⟩, .slice none 0 0, .int .i64 22, .int .i64 (sn : Int), .int .i64 (rn : Int), .int .i64 0, .string ⟨#[]⟩, .slice none 0 0, .int .i64 11, .int .i64 0, .int .i64 0, .int .i64 0, .string ⟨#[103]⟩, .slice none 0 0, .int .i64 10, .int .i64 0, .int .i64 0, .int .i64 0, .string ⟨#[]⟩, .slice none 0 0, .int .i64 10, .int .i64 0, .int .i64 (rn : Int), .int .i64 0, .string ⟨#[]⟩, .slice none 0 0, .int .i64 21, .int .i64 (rn : Int), .int .i64 (sn : Int), .int .i64 0, .string ⟨#[]⟩, .slice none 0 0, .int .i64 14, .int .i64 0, .int .i64 (rn : Int), .int .i64 0, .string ⟨#[]⟩, .slice none 0 0] 28)
    rw [← hW7]
    exact (Hw.blk_al (Hw.blk_al (Hw.blk_al (Hw.blk_al (Hw.blk_al (Hw.blk_al e (.cells #[.slice (some ⟨w.heap.size, 0, none⟩) 7 7] 24)) (.cells #[.string ⟨#[102]⟩, .int .i64 0, .int .i64 6, .int .i64 4, .slice (some ⟨w.heap.size + 1, 0, none⟩) 1 1] 31)) (.cells #[.int .i64 1, .int .i64 (rn : Int), .int .i64 l3, .int .i64 0, .string ⟨#[]⟩, .slice none 0 0, .int .i64 22, .int .i64 (sn : Int), .int .i64 (rn : Int), .int .i64 0, .string ⟨#[]⟩, .slice none 0 0, .int .i64 14, .int .i64 0, .int .i64 (rn : Int), .int .i64 0, .string ⟨#[]⟩, .slice none 0 0] 28)) (.cells #[.slice (some ⟨w.heap.size + 1 + 1 + 1, 0, none⟩) 3 3] 24)) (.cells #[.string ⟨#[103]⟩, .int .i64 0, .int .i64 6, .int .i64 4, .slice (some ⟨w.heap.size + 1 + 1 + 1 + 1, 0, none⟩) 1 1] 31)) (.cells #[.string ⟨#[102]⟩, .int .i64 0, .int .i64 6, .int .i64 4, .slice (some ⟨w.heap.size + 1, 0, none⟩) 1 1, .string ⟨#[103]⟩, .int .i64 0, .int .i64 6, .int .i64 4, .slice (some ⟨w.heap.size + 1 + 1 + 1 + 1, 0, none⟩) 1 1] 31))
  have b1 : W7.heap[w.heap.size + 1]? = some (.cells #[.slice (some ⟨w.heap.size, 0, none⟩) 7 7] 24) := by
    have e := Hw.blk_nw (w.alloc (.cells #[.int .i64 1, .int .i64 (rn : Int), .int .i64 l0, .int .i64 0, .string ⟨#[]⟩, .slice none 0 0, .int .i64 22, .int .i64 (sn : Int), .int .i64 (rn : Int), .int .i64 0, .string ⟨#[]⟩, .slice none 0 0, .int .i64 11, .int .i64 0, .int .i64 0, .int .i64 0, .string ⟨#[103]⟩, .slice none 0 0, .int .i64 10, .int .i64 0, .int .i64 0, .int .i64 0, .string ⟨#[]⟩, .slice none 0 0, .int .i64 10, .int .i64 0, .int .i64 (rn : Int), .int .i64 0, .string ⟨#[]⟩, .slice none 0 0, .int .i64 21, .int .i64 (rn : Int), .int .i64 (sn : Int), .int .i64 0, .string ⟨#[]⟩, .slice none 0 0, .int .i64 14, .int .i64 0, .int .i64 (rn : Int), .int .i64 0, .string ⟨#[]⟩, .slice none 0 0] 28)) (.cells #[.slice (some ⟨w.heap.size, 0, none⟩) 7 7] 24)
    rw [z1] at e
    rw [← hW7]
    exact (Hw.blk_al (Hw.blk_al (Hw.blk_al (Hw.blk_al (Hw.blk_al e (.cells #[.string ⟨#[102]⟩, .int .i64 0, .int .i64 6, .int .i64 4, .slice (some ⟨w.heap.size + 1, 0, none⟩) 1 1] 31)) (.cells #[.int .i64 1, .int .i64 (rn : Int), .int .i64 l3, .int .i64 0, .string ⟨#[]⟩, .slice none 0 0, .int .i64 22, .int .i64 (sn : Int), .int .i64 (rn : Int), .int .i64 0, .string ⟨#[]⟩, .slice none 0 0, .int .i64 14, .int .i64 0, .int .i64 (rn : Int), .int .i64 0, .string ⟨#[]⟩, .slice none 0 0] 28)) (.cells #[.slice (some ⟨w.heap.size + 1 + 1 + 1, 0, none⟩) 3 3] 24)) (.cells #[.string ⟨#[103]⟩, .int .i64 0, .int .i64 6, .int .i64 4, .slice (some ⟨w.heap.size + 1 + 1 + 1 + 1, 0, none⟩) 1 1] 31)) (.cells #[.string ⟨#[102]⟩, .int .i64 0, .int .i64 6, .int .i64 4, .slice (some ⟨w.heap.size + 1, 0, none⟩) 1 1, .string ⟨#[103]⟩, .int .i64 0, .int .i64 6, .int .i64 4, .slice (some ⟨w.heap.size + 1 + 1 + 1 + 1, 0, none⟩) 1 1] 31))
  have b2 : W7.heap[w.heap.size + 1 + 1]? = some (.cells #[.string ⟨#[102]⟩, .int .i64 0, .int .i64 6, .int .i64 4, .slice (some ⟨w.heap.size + 1, 0, none⟩) 1 1] 31) := by
    have e := Hw.blk_nw ((w.alloc (.cells #[.int .i64 1, .int .i64 (rn : Int), .int .i64 l0, .int .i64 0, .string ⟨#[]⟩, .slice none 0 0, .int .i64 22, .int .i64 (sn : Int), .int .i64 (rn : Int), .int .i64 0, .string ⟨#[]⟩, .slice none 0 0, .int .i64 11, .int .i64 0, .int .i64 0, .int .i64 0, .string ⟨#[103]⟩, .slice none 0 0, .int .i64 10, .int .i64 0, .int .i64 0, .int .i64 0, .string ⟨#[]⟩, .slice none 0 0, .int .i64 10, .int .i64 0, .int .i64 (rn : Int), .int .i64 0, .string ⟨#[]⟩, .slice none 0 0, .int .i64 21, .int .i64 (rn : Int), .int .i64 (sn : Int), .int .i64 0, .string ⟨#[]⟩, .slice none 0 0, .int .i64 14, .int .i64 0, .int .i64 (rn : Int), .int .i64 0, .string ⟨#[]⟩, .slice none 0 0] 28)).alloc (.cells #[.slice (some ⟨w.heap.size, 0, none⟩) 7 7] 24)) (.cells #[.string ⟨#[102]⟩, .int .i64 0, .int .i64 6, .int .i64 4, .slice (some ⟨w.heap.size + 1, 0, none⟩) 1 1] 31)
    rw [z2] at e
    rw [← hW7]
    exact (Hw.blk_al (Hw.blk_al (Hw.blk_al (Hw.blk_al e (.cells #[.int .i64 1, .int .i64 (rn : Int), .int .i64 l3, .int .i64 0, .string ⟨#[]⟩, .slice none 0 0, .int .i64 22, .int .i64 (sn : Int), .int .i64 (rn : Int), .int .i64 0, .string ⟨#[]⟩, .slice none 0 0, .int .i64 14, .int .i64 0, .int .i64 (rn : Int), .int .i64 0, .string ⟨#[]⟩, .slice none 0 0] 28)) (.cells #[.slice (some ⟨w.heap.size + 1 + 1 + 1, 0, none⟩) 3 3] 24)) (.cells #[.string ⟨#[103]⟩, .int .i64 0, .int .i64 6, .int .i64 4, .slice (some ⟨w.heap.size + 1 + 1 + 1 + 1, 0, none⟩) 1 1] 31)) (.cells #[.string ⟨#[102]⟩, .int .i64 0, .int .i64 6, .int .i64 4, .slice (some ⟨w.heap.size + 1, 0, none⟩) 1 1, .string ⟨#[103]⟩, .int .i64 0, .int .i64 6, .int .i64 4, .slice (some ⟨w.heap.size + 1 + 1 + 1 + 1, 0, none⟩) 1 1] 31))
  have b3 : W7.heap[w.heap.size + 1 + 1 + 1]? = some (.cells #[.int .i64 1, .int .i64 (rn : Int), .int .i64 l3, .int .i64 0, .string ⟨#[]⟩, .slice none 0 0, .int .i64 22, .int .i64 (sn : Int), .int .i64 (rn : Int), .int .i64 0, .string ⟨#[]⟩, .slice none 0 0, .int .i64 14, .int .i64 0, .int .i64 (rn : Int), .int .i64 0, .string ⟨#[]⟩, .slice none 0 0] 28) := by
    have e := Hw.blk_nw (((w.alloc (.cells #[.int .i64 1, .int .i64 (rn : Int), .int .i64 l0, .int .i64 0, .string ⟨#[]⟩, .slice none 0 0, .int .i64 22, .int .i64 (sn : Int), .int .i64 (rn : Int), .int .i64 0, .string ⟨#[]⟩, .slice none 0 0, .int .i64 11, .int .i64 0, .int .i64 0, .int .i64 0, .string ⟨#[103]⟩, .slice none 0 0, .int .i64 10, .int .i64 0, .int .i64 0, .int .i64 0, .string ⟨#[]⟩, .slice none 0 0, .int .i64 10, .int .i64 0, .int .i64 (rn : Int), .int .i64 0, .string ⟨#[]⟩, .slice none 0 0, .int .i64 21, .int .i64 (rn : Int), .int .i64 (sn : Int), .int .i64 0, .string ⟨#[]⟩, .slice none 0 0, .int .i64 14, .int .i64 0, .int .i64 (rn : Int), .int .i64 0, .string ⟨#[]⟩, .slice none 0 0] 28)).alloc (.cells #[.slice (some ⟨w.heap.size, 0, none⟩) 7 7] 24)).alloc (.cells #[.string ⟨#[102]⟩, .int .i64 0, .int .i64 6, .int .i64 4, .slice (some ⟨w.heap.size + 1, 0, none⟩) 1 1] 31)) (.cells #[.int .i64 1, .int .i64 (rn : Int), .int .i64 l3, .int .i64 0, .string ⟨#[]⟩, .slice none 0 0, .int .i64 22, .int .i64 (sn : Int), .int .i64 (rn : Int), .int .i64 0, .string ⟨#[]⟩, .slice none 0 0, .int .i64 14, .int .i64 0, .int .i64 (rn : Int), .int .i64 0, .string ⟨#[]⟩, .slice none 0 0] 28)
    rw [z3] at e
    rw [← hW7]
    exact (Hw.blk_al (Hw.blk_al (Hw.blk_al e (.cells #[.slice (some ⟨w.heap.size + 1 + 1 + 1, 0, none⟩) 3 3] 24)) (.cells #[.string ⟨#[103]⟩, .int .i64 0, .int .i64 6, .int .i64 4, .slice (some ⟨w.heap.size + 1 + 1 + 1 + 1, 0, none⟩) 1 1] 31)) (.cells #[.string ⟨#[102]⟩, .int .i64 0, .int .i64 6, .int .i64 4, .slice (some ⟨w.heap.size + 1, 0, none⟩) 1 1, .string ⟨#[103]⟩, .int .i64 0, .int .i64 6, .int .i64 4, .slice (some ⟨w.heap.size + 1 + 1 + 1 + 1, 0, none⟩) 1 1] 31))
  have b4 : W7.heap[w.heap.size + 1 + 1 + 1 + 1]? = some (.cells #[.slice (some ⟨w.heap.size + 1 + 1 + 1, 0, none⟩) 3 3] 24) := by
    have e := Hw.blk_nw ((((w.alloc (.cells #[.int .i64 1, .int .i64 (rn : Int), .int .i64 l0, .int .i64 0, .string ⟨#[]⟩, .slice none 0 0, .int .i64 22, .int .i64 (sn : Int), .int .i64 (rn : Int), .int .i64 0, .string ⟨#[]⟩, .slice none 0 0, .int .i64 11, .int .i64 0, .int .i64 0, .int .i64 0, .string ⟨#[103]⟩, .slice none 0 0, .int .i64 10, .int .i64 0, .int .i64 0, .int .i64 0, .string ⟨#[]⟩, .slice none 0 0, .int .i64 10, .int .i64 0, .int .i64 (rn : Int), .int .i64 0, .string ⟨#[]⟩, .slice none 0 0, .int .i64 21, .int .i64 (rn : Int), .int .i64 (sn : Int), .int .i64 0, .string ⟨#[]⟩, .slice none 0 0, .int .i64 14, .int .i64 0, .int .i64 (rn : Int), .int .i64 0, .string ⟨#[]⟩, .slice none 0 0] 28)).alloc (.cells #[.slice (some ⟨w.heap.size, 0, none⟩) 7 7] 24)).alloc (.cells #[.string ⟨#[102]⟩, .int .i64 0, .int .i64 6, .int .i64 4, .slice (some ⟨w.heap.size + 1, 0, none⟩) 1 1] 31)).alloc (.cells #[.int .i64 1, .int .i64 (rn : Int), .int .i64 l3, .int .i64 0, .string ⟨#[]⟩, .slice none 0 0, .int .i64 22, .int .i64 (sn : Int), .int .i64 (rn : Int), .int .i64 0, .string ⟨#[]⟩, .slice none 0 0, .int .i64 14, .int .i64 0, .int .i64 (rn : Int), .int .i64 0, .string ⟨#[]⟩, .slice none 0 0] 28)) (.cells #[.slice (some ⟨w.heap.size + 1 + 1 + 1, 0, none⟩) 3 3] 24)
    rw [z4] at e
    rw [← hW7]
    exact (Hw.blk_al (Hw.blk_al e (.cells #[.string ⟨#[103]⟩, .int .i64 0, .int .i64 6, .int .i64 4, .slice (some ⟨w.heap.size + 1 + 1 + 1 + 1, 0, none⟩) 1 1] 31)) (.cells #[.string ⟨#[102]⟩, .int .i64 0, .int .i64 6, .int .i64 4, .slice (some ⟨w.heap.size + 1, 0, none⟩) 1 1, .string ⟨#[103]⟩, .int .i64 0, .int .i64 6, .int .i64 4, .slice (some ⟨w.heap.size + 1 + 1 + 1 + 1, 0, none⟩) 1 1] 31))
  have b5 : W7.heap[w.heap.size + 1 + 1 + 1 + 1 + 1]? = some (.cells #[.string ⟨#[103]⟩, .int .i64 0, .int .i64 6, .int .i64 4, .slice (some ⟨w.heap.size + 1 + 1 + 1 + 1, 0, none⟩) 1 1] 31) := by
    have e := Hw.blk_nw (((((w.alloc (.cells #[.int .i64 1, .int .i64 (rn : Int), .int .i64 l0, .int .i64 0, .string ⟨#[]⟩, .slice none 0 0, .int .i64 22, .int .i64 (sn : Int), .int .i64 (rn : Int), .int .i64 0, .string ⟨#[]⟩, .slice none 0 0, .int .i64 11, .int .i64 0, .int .i64 0, .int .i64 0, .string ⟨#[103]⟩, .slice none 0 0, .int .i64 10, .int .i64 0, .int .i64 0, .int .i64 0, .string ⟨#[]⟩, .slice none 0 0, .int .i64 10, .int .i64 0, .int .i64 (rn : Int), .int .i64 0, .string ⟨#[]⟩, .slice none 0 0, .int .i64 21, .int .i64 (rn : Int), .int .i64 (sn : Int), .int .i64 0, .string ⟨#[]⟩, .slice none 0 0, .int .i64 14, .int .i64 0, .int .i64 (rn : Int), .int .i64 0, .string ⟨#[]⟩, .slice none 0 0] 28)).alloc (.cells #[.slice (some ⟨w.heap.size, 0, none⟩) 7 7] 24)).alloc (.cells #[.string ⟨#[102]⟩, .int .i64 0, .int .i64 6, .int .i64 4, .slice (some ⟨w.heap.size + 1, 0, none⟩) 1 1] 31)).alloc (.cells #[.int .i64 1, .int .i64 (rn : Int), .int .i64 l3, .int .i64 0, .string ⟨#[]⟩, .slice none 0 0, .int .i64 22, .int .i64 (sn : Int), .int .i64 (rn : Int), .int .i64 0, .string ⟨#[]⟩, .slice none 0 0, .int .i64 14, .int .i64 0, .int .i64 (rn : Int), .int .i64 0, .string ⟨#[]⟩, .slice none 0 0] 28)).alloc (.cells #[.slice (some ⟨w.heap.size + 1 + 1 + 1, 0, none⟩) 3 3] 24)) (.cells #[.string ⟨#[103]⟩, .int .i64 0, .int .i64 6, .int .i64 4, .slice (some ⟨w.heap.size + 1 + 1 + 1 + 1, 0, none⟩) 1 1] 31)
    rw [z5] at e
    rw [← hW7]
    exact (Hw.blk_al e (.cells #[.string ⟨#[102]⟩, .int .i64 0, .int .i64 6, .int .i64 4, .slice (some ⟨w.heap.size + 1, 0, none⟩) 1 1, .string ⟨#[103]⟩, .int .i64 0, .int .i64 6, .int .i64 4, .slice (some ⟨w.heap.size + 1 + 1 + 1 + 1, 0, none⟩) 1 1] 31))
  have b6 : W7.heap[w.heap.size + 1 + 1 + 1 + 1 + 1 + 1]? = some (.cells #[.string ⟨#[102]⟩, .int .i64 0, .int .i64 6, .int .i64 4, .slice (some ⟨w.heap.size + 1, 0, none⟩) 1 1, .string ⟨#[103]⟩, .int .i64 0, .int .i64 6, .int .i64 4, .slice (some ⟨w.heap.size + 1 + 1 + 1 + 1, 0, none⟩) 1 1] 31) := by
    have e := Hw.blk_nw ((((((w.alloc (.cells #[.int .i64 1, .int .i64 (rn : Int), .int .i64 l0, .int .i64 0, .string ⟨#[]⟩, .slice none 0 0, .int .i64 22, .int .i64 (sn : Int), .int .i64 (rn : Int), .int .i64 0, .string ⟨#[]⟩, .slice none 0 0, .int .i64 11, .int .i64 0, .int .i64 0, .int .i64 0, .string ⟨#[103]⟩, .slice none 0 0, .int .i64 10, .int .i64 0, .int .i64 0, .int .i64 0, .string ⟨#[]⟩, .slice none 0 0, .int .i64 10, .int .i64 0, .int .i64 (rn : Int), .int .i64 0, .string ⟨#[]⟩, .slice none 0 0, .int .i64 21, .int .i64 (rn : Int), .int .i64 (sn : Int), .int .i64 0, .string ⟨#[]⟩, .slice none 0 0, .int .i64 14, .int .i64 0, .int .i64 (rn : Int), .int .i64 0, .string ⟨#[]⟩, .slice none 0 0] 28)).alloc (.cells #[.slice (some ⟨w.heap.size, 0, none⟩) 7 7] 24)).alloc (.cells #[.string ⟨#[102]⟩, .int .i64 0, .int .i64 6, .int .i64 4, .slice (some ⟨w.heap.size + 1, 0, none⟩) 1 1] 31)).alloc (.cells #[.int .i64 1, .int .i64 (rn : Int), .int .i64 l3, .int .i64 0, .string ⟨#[]⟩, .slice none 0 0, .int .i64 22, .int .i64 (sn : Int), .int .i64 (rn : Int), .int .i64 0, .string ⟨#[]⟩, .slice none 0 0, .int .i64 14, .int .i64 0, .int .i64 (rn : Int), .int .i64 0, .string ⟨#[]⟩, .slice none 0 0] 28)).alloc (.cells #[.slice (some ⟨w.heap.size + 1 + 1 + 1, 0, none⟩) 3 3] 24)).alloc (.cells #[.string ⟨#[103]⟩, .int .i64 0, .int .i64 6, .int .i64 4, .slice (some ⟨w.heap.size + 1 + 1 + 1 + 1, 0, none⟩) 1 1] 31)) (.cells #[.string ⟨#[102]⟩, .int .i64 0, .int .i64 6, .int .i64 4, .slice (some ⟨w.heap.size + 1, 0, none⟩) 1 1, .string ⟨#[103]⟩, .int .i64 0, .int .i64 6, .int .i64 4, .slice (some ⟨w.heap.size + 1 + 1 + 1 + 1, 0, none⟩) 1 1] 31)
    rw [z6] at e
    rw [← hW7]
    exact e
  have hI1 : Rn.kI.C W7 (some ⟨w.heap.size, 0, none⟩) 7 (cubbylaw14_ExecPoison.b1 l0 rn sn) := by
    refine cubbylaw14_ExecPoison.C_block Rn.kI (t := 28) (xs := cubbylaw14_ExecPoison.b1 l0 rn sn) [[.int .i64 1, .int .i64 (rn : Int), .int .i64 l0, .int .i64 0, .string ⟨#[]⟩, .slice none 0 0], [.int .i64 22, .int .i64 (sn : Int), .int .i64 (rn : Int), .int .i64 0, .string ⟨#[]⟩, .slice none 0 0], [.int .i64 11, .int .i64 0, .int .i64 0, .int .i64 0, .string ⟨#[103]⟩, .slice none 0 0], [.int .i64 10, .int .i64 0, .int .i64 0, .int .i64 0, .string ⟨#[]⟩, .slice none 0 0], [.int .i64 10, .int .i64 0, .int .i64 (rn : Int), .int .i64 0, .string ⟨#[]⟩, .slice none 0 0], [.int .i64 21, .int .i64 (rn : Int), .int .i64 (sn : Int), .int .i64 0, .string ⟨#[]⟩, .slice none 0 0], [.int .i64 14, .int .i64 0, .int .i64 (rn : Int), .int .i64 0, .string ⟨#[]⟩, .slice none 0 0]] b0 rfl (show (7 : Nat) ≤ 9223372036854775807 by decide) ?_
    intro j x c hj hc
    match j with
    | 0 => cases hj; cases hc; exact cubbylaw14_ExecPoison.mkI _ _ _ _ _ [] none 0 (Nat.le_refl _) (cubbylaw14_ExecPoison.noargs W7)
    | 1 => cases hj; cases hc; exact cubbylaw14_ExecPoison.mkI _ _ _ _ _ [] none 0 (Nat.le_refl _) (cubbylaw14_ExecPoison.noargs W7)
    | 2 => cases hj; cases hc; exact cubbylaw14_ExecPoison.mkI _ _ _ _ _ [] none 0 (Nat.le_refl _) (cubbylaw14_ExecPoison.noargs W7)
    | 3 => cases hj; cases hc; exact cubbylaw14_ExecPoison.mkI _ _ _ _ _ [] none 0 (Nat.le_refl _) (cubbylaw14_ExecPoison.noargs W7)
    | 4 => cases hj; cases hc; exact cubbylaw14_ExecPoison.mkI _ _ _ _ _ [] none 0 (Nat.le_refl _) (cubbylaw14_ExecPoison.noargs W7)
    | 5 => cases hj; cases hc; exact cubbylaw14_ExecPoison.mkI _ _ _ _ _ [] none 0 (Nat.le_refl _) (cubbylaw14_ExecPoison.noargs W7)
    | 6 => cases hj; cases hc; exact cubbylaw14_ExecPoison.mkI _ _ _ _ _ [] none 0 (Nat.le_refl _) (cubbylaw14_ExecPoison.noargs W7)
    | j + 7 => cases hj
  have hI2 : Rn.kI.C W7 (some ⟨w.heap.size + 1 + 1 + 1, 0, none⟩) 3 (cubbylaw14_ExecPoison.b2 l3 rn sn) := by
    refine cubbylaw14_ExecPoison.C_block Rn.kI (t := 28) (xs := cubbylaw14_ExecPoison.b2 l3 rn sn) [[.int .i64 1, .int .i64 (rn : Int), .int .i64 l3, .int .i64 0, .string ⟨#[]⟩, .slice none 0 0], [.int .i64 22, .int .i64 (sn : Int), .int .i64 (rn : Int), .int .i64 0, .string ⟨#[]⟩, .slice none 0 0], [.int .i64 14, .int .i64 0, .int .i64 (rn : Int), .int .i64 0, .string ⟨#[]⟩, .slice none 0 0]] b3 rfl (show (3 : Nat) ≤ 9223372036854775807 by decide) ?_
    intro j x c hj hc
    match j with
    | 0 => cases hj; cases hc; exact cubbylaw14_ExecPoison.mkI _ _ _ _ _ [] none 0 (Nat.le_refl _) (cubbylaw14_ExecPoison.noargs W7)
    | 1 => cases hj; cases hc; exact cubbylaw14_ExecPoison.mkI _ _ _ _ _ [] none 0 (Nat.le_refl _) (cubbylaw14_ExecPoison.noargs W7)
    | 2 => cases hj; cases hc; exact cubbylaw14_ExecPoison.mkI _ _ _ _ _ [] none 0 (Nat.le_refl _) (cubbylaw14_ExecPoison.noargs W7)
    | j + 3 => cases hj
  have hB1 : Rn.kB.C W7 (some ⟨w.heap.size + 1, 0, none⟩) 1 [cubbylaw14_ExecPoison.b1 l0 rn sn] := by
    refine cubbylaw14_ExecPoison.C_block Rn.kB (t := 24) (xs := [cubbylaw14_ExecPoison.b1 l0 rn sn]) [[.slice (some ⟨w.heap.size, 0, none⟩) 7 7]] b1 rfl (show (1 : Nat) ≤ 9223372036854775807 by decide) ?_
    intro j x c hj hc
    match j with
    | 0 => cases hj; cases hc; exact ⟨_, 7, rfl, Nat.le_refl _, hI1⟩
    | j + 1 => cases hj
  have hB2 : Rn.kB.C W7 (some ⟨w.heap.size + 1 + 1 + 1 + 1, 0, none⟩) 1 [cubbylaw14_ExecPoison.b2 l3 rn sn] := by
    refine cubbylaw14_ExecPoison.C_block Rn.kB (t := 24) (xs := [cubbylaw14_ExecPoison.b2 l3 rn sn]) [[.slice (some ⟨w.heap.size + 1 + 1 + 1, 0, none⟩) 3 3]] b4 rfl (show (1 : Nat) ≤ 9223372036854775807 by decide) ?_
    intro j x c hj hc
    match j with
    | 0 => cases hj; cases hc; exact ⟨_, 3, rfl, Nat.le_refl _, hI2⟩
    | j + 1 => cases hj
  have hM : Ex.kC.C W7 (some ⟨w.heap.size + 1 + 1 + 1 + 1 + 1 + 1, 0, none⟩) 2 (cubbylaw14_ExecPoison.mod l0 l3 rn sn) := by
    refine cubbylaw14_ExecPoison.C_block Ex.kC (t := 31) (xs := cubbylaw14_ExecPoison.mod l0 l3 rn sn) [[.string ⟨#[102]⟩, .int .i64 0, .int .i64 6, .int .i64 4, .slice (some ⟨w.heap.size + 1, 0, none⟩) 1 1], [.string ⟨#[103]⟩, .int .i64 0, .int .i64 6, .int .i64 4, .slice (some ⟨w.heap.size + 1 + 1 + 1 + 1, 0, none⟩) 1 1]] b6 rfl (show (2 : Nat) ≤ 9223372036854775807 by decide) ?_
    intro j x c hj hc
    match j with
    | 0 => cases hj; cases hc; exact Ex.mk_C (x := ⟨⟨#[102]⟩, 0, 6, 4, [cubbylaw14_ExecPoison.b1 l0 rn sn]⟩) (Nat.le_refl 1) hB1
    | 1 => cases hj; cases hc; exact Ex.mk_C (x := ⟨⟨#[103]⟩, 0, 6, 4, [cubbylaw14_ExecPoison.b2 l3 rn sn]⟩) (Nat.le_refl 1) hB2
    | j + 2 => cases hj
  have HB : Aside0 (Below w.heap.size w W7) := ⟨by
    rw [← hW7]
    exact (((((((Below.refl w.heap.size w).alloc (Nat.le_refl _) (.cells #[.int .i64 1, .int .i64 (rn : Int), .int .i64 l0, .int .i64 0, .string ⟨#[]⟩, .slice none 0 0, .int .i64 22, .int .i64 (sn : Int), .int .i64 (rn : Int), .int .i64 0, .string ⟨#[]⟩, .slice none 0 0, .int .i64 11, .int .i64 0, .int .i64 0, .int .i64 0, .string ⟨#[103]⟩, .slice none 0 0, .int .i64 10, .int .i64 0, .int .i64 0, .int .i64 0, .string ⟨#[]⟩, .slice none 0 0, .int .i64 10, .int .i64 0, .int .i64 (rn : Int), .int .i64 0, .string ⟨#[]⟩, .slice none 0 0, .int .i64 21, .int .i64 (rn : Int), .int .i64 (sn : Int), .int .i64 0, .string ⟨#[]⟩, .slice none 0 0, .int .i64 14, .int .i64 0, .int .i64 (rn : Int), .int .i64 0, .string ⟨#[]⟩, .slice none 0 0] 28)).alloc (by rw [z1]; omega) (.cells #[.slice (some ⟨w.heap.size, 0, none⟩) 7 7] 24)).alloc (by rw [z2]; omega) (.cells #[.string ⟨#[102]⟩, .int .i64 0, .int .i64 6, .int .i64 4, .slice (some ⟨w.heap.size + 1, 0, none⟩) 1 1] 31)).alloc (by rw [z3]; omega) (.cells #[.int .i64 1, .int .i64 (rn : Int), .int .i64 l3, .int .i64 0, .string ⟨#[]⟩, .slice none 0 0, .int .i64 22, .int .i64 (sn : Int), .int .i64 (rn : Int), .int .i64 0, .string ⟨#[]⟩, .slice none 0 0, .int .i64 14, .int .i64 0, .int .i64 (rn : Int), .int .i64 0, .string ⟨#[]⟩, .slice none 0 0] 28)).alloc (by rw [z4]; omega) (.cells #[.slice (some ⟨w.heap.size + 1 + 1 + 1, 0, none⟩) 3 3] 24)).alloc (by rw [z5]; omega) (.cells #[.string ⟨#[103]⟩, .int .i64 0, .int .i64 6, .int .i64 4, .slice (some ⟨w.heap.size + 1 + 1 + 1 + 1, 0, none⟩) 1 1] 31)).alloc (by rw [z6]; omega) (.cells #[.string ⟨#[102]⟩, .int .i64 0, .int .i64 6, .int .i64 4, .slice (some ⟨w.heap.size + 1, 0, none⟩) 1 1, .string ⟨#[103]⟩, .int .i64 0, .int .i64 6, .int .i64 4, .slice (some ⟨w.heap.size + 1 + 1 + 1 + 1, 0, none⟩) 1 1] 31)⟩
  have hgo := cubbylaw14_ExecPoison.law l0 l3 rn sn hr2 hs2 (Ex.filled [] 0) 90
  have HC : Aside0 (Calls Try.prog 7 #[.slice (some ⟨w.heap.size + 1 + 1 + 1 + 1 + 1 + 1, 0, none⟩) 2 2, .string ⟨#[102]⟩, .slice none 0 0, .slice none 0 0, .int .i64 100] W7 fun e w' => ∃ tv mv, e = .returned (.agg #[.int .i64 1, .int .i64 l0, tv, mv, .int .i64 10]) ∧ Kd.R (Kd.int .i64) 3 w' W7.heap.size (fun _ => True) tv [l3, 48879] ∧ Kd.R (Kd.int .i64) 3 w' W7.heap.size (fun _ => True) mv (Ex.filled [] 0) ∧ Below W7.heap.size W7 w') := ⟨exec_Run.calls (cubbylaw14_ExecPoison.mod l0 l3 rn sn) ⟨#[102]⟩ [] [] 100 100 (.val l0) _ (some ⟨w.heap.size + 1 + 1 + 1 + 1 + 1 + 1, 0, none⟩) 2 none 0 none 0 W7 hM (Nat.le_refl 2) (cubbylaw14_ExecPoison.noargs W7) (Nat.le_refl 0) (by decide) (cubbylaw14_ExecPoison.noargs W7) (Nat.le_refl 0) (by decide) hgo⟩
  have hfl256 : (Ex.filled [] 0).length = 256 := (Ex.filled_len [] 0 (by decide)).resolve_right (Nat.not_lt_zero _)
  clear hgo hM hB1 hB2 hI1 hI2 b0 b1 b2 b3 b4 b5 b6 z1 z2 z3 z4 z5 z6
  have HW7 := Lib.hid hW7
  clear hW7
  go_enter Try.func4, Try.ntmps4
  go_upto_region 3 with fail
  rw [e2]
  clear e1 e2 hr1 hr9 hs1 hs9
  go_upto_region 6 with fail
  have e9 := HW7.out
  dsimp only at e9
  rw [e9]
  clear e9 HW7
  go_upto_region 7 with (go_at_call 7; (with_reducible refine HC.out.mono ?_); rintro e w9 ⟨tv, mv, rfl, htv, hmv, hb9⟩; obtain ⟨Amv, cmv, emv⟩ := Kd.R_slice hmv; obtain ⟨Atv, ctv, etv⟩ := Kd.R_slice htv; rw [hfl256] at emv; subst emv; subst etv; have HTV := Aside0.mk (Kd.R_reads' htv).2; have HB := Aside0.mk (HB.out.trans (hb9.mono HB.out.size)); clear hmv hb9 htv)
  have HTV : Aside0 (2 ≤ ctv ∧ (Kd.int .i64).C w9 Atv 2 [l3, 48879]) := ⟨HTV.out⟩
  have HB := Aside0.mk (HB.out.alloc HB.out.size (.cells #[.int .i64 1, .int .i64 l0, .slice Atv 2 ctv, .slice Amv 256 cmv, .int .i64 10] 36))
  have HO := Aside0.mk (Hw.blk_nw w9 (.cells #[.int .i64 1, .int .i64 l0, .slice Atv 2 ctv, .slice Amv 256 cmv, .int .i64 10] 36))
  have HTC := Aside0.mk (Kd.C_below HTV.out.2 ((Below.refl w9.heap.size w9).alloc (Nat.le_refl _) (.cells #[.int .i64 1, .int .i64 l0, .slice Atv 2 ctv, .slice Amv 256 cmv, .int .i64 10] 36)))
  generalize w9.alloc (.cells #[.int .i64 1, .int .i64 l0, .slice Atv 2 ctv, .slice Amv 256 cmv, .int .i64 10] 36) = W10 at HB HO HTC ⊢
  generalize w9.heap.size = ob at HO ⊢
  go_upto_region 8 with fail
  have HW := Aside0.mk (Hw.blk_nw W10 (.cells #[.int .i64 l3, .int .i64 48879] 3))
  have HB := Aside0.mk (HB.out.alloc HB.out.size (.cells #[.int .i64 l3, .int .i64 48879] 3))
  have HO := Aside0.mk (Hw.blk_al HO.out (.cells #[.int .i64 l3, .int .i64 48879] 3))
  have HTC := Aside0.mk (Kd.C_below HTC.out ((Below.refl W10.heap.size W10).alloc (Nat.le_refl _) (.cells #[.int .i64 l3, .int .i64 48879] 3)))
  generalize W10.alloc (.cells #[.int .i64 l3, .int .i64 48879] 3) = W11 at HB HO HTC HW ⊢
  generalize W10.heap.size = wb at HW ⊢
  have hWC : (Kd.int .i64).C W11 (some ⟨wb, 0, none⟩) 2 [l3, 48879] := by
    refine cubbylaw14_ExecPoison.C_block (Kd.int .i64) (t := 3) (xs := [l3, 48879]) [[.int .i64 l3], [.int .i64 48879]] HW.out rfl (show (2 : Nat) ≤ 9223372036854775807 by decide) ?_
    intro j x c hj hc
    match j with
    | 0 => cases hj; cases hc; rfl
    | 1 => cases hj; cases hc; rfl
    | j + 2 => cases hj
  have HI : Aside0 (Calls Try.prog 8 #[.slice Atv 2 ctv, .slice (some ⟨wb, 0, none⟩) 2 2] W11 fun e w' => e = .returned (.bool true) ∧ Drawn0 W11 w') := ⟨cubbyref10_Ints.calls 3 Atv ctv [l3, 48879] (some ⟨wb, 0, none⟩) 2 [l3, 48879] true W11 HTC.out HTV.out.1 hWC (Nat.le_refl 2) (cubbylaw14_ExecPoison.ints_same [l3, 48879] (show (2 : Nat) < 4611686018427387904 by decide))⟩
  clear hWC
  have o0 : W11.cell? ⟨ob, 0, none⟩ = some (.int .i64 1) := cell_of_row W11 ob 0 _ _ _ HO.out
  have o1 : W11.cell? ⟨ob, 1, none⟩ = some (.int .i64 l0) := cell_of_row W11 ob 1 _ _ _ HO.out
  have o2 : W11.cell? ⟨ob, 2, none⟩ = some (.slice Atv 2 ctv) := cell_of_row W11 ob 2 _ _ _ HO.out
  have o4 : W11.cell? ⟨ob, 4, none⟩ = some (.int .i64 10) := cell_of_row W11 ob 4 _ _ _ HO.out
  go_wp2_with (go_at_call 8; (with_reducible refine HI.out.mono ?_); rintro e w12 ⟨rfl, ⟨nq, rfl⟩⟩)
  go_ret
  exact ⟨by first | rfl | simp, pw_below_drewN HB.out nq⟩

/-- THE ONE PURE STATEMENT of cubbylaw14_ExecPoison: yours. -/
def cubbylaw14_ExecPoison.Pure : Prop := ∀ (a0 : Int) (a1 : Int) (a2 : Int) (a3 : Int), (Lit.int .u16 a0).wf = true → (Lit.int .u8 a1).wf = true → (Lit.int .u8 a2).wf = true → (Lit.int .u16 a3).wf = true → cubbylaw14_ExecPoison.f a0 a1 a2 a3 = some true
theorem cubbylaw14_ExecPoison.walk (P : cubbylaw14_ExecPoison.Pure) (a0 : Int) (a1 : Int) (a2 : Int) (a3 : Int) (w : World) (o0 : (Lit.int .u16 a0).wf = true) (o1 : (Lit.int .u8 a1).wf = true) (o2 : (Lit.int .u8 a2).wf = true) (o3 : (Lit.int .u16 a3).wf = true) :
    Calls Try.prog 4 #[.int .u16 a0, .int .u8 a1, .int .u8 a2, .int .u16 a3] w fun e w' => e = .returned (.bool true) ∧ Below w.heap.size w w' := by
  have h := P a0 a1 a2 a3 o0 o1 o2 o3
  refine (cubbylaw14_ExecPoison.calls a0 a1 a2 a3 true w h).mono ?_
  rintro e w' ⟨rfl, hd⟩
  exact ⟨rfl, hd⟩

end Go.Proofs.Ytkjflclkjdbmoaa.PExecPoison
