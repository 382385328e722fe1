-- By a program of this session (wip/tools/mkprint.py), for this claim.
import Derived.Test.YtjmgfpfdkfelhaaPRunMemoryx0
import Derived.Test.YtjmgfpfdkfelhaaPRunMemoryx3
namespace Go.Proofs.Ytjmgfpfdkfelhaa.PRunMemory
open Go.RowKit Go.Proofs.YtjmgfpfdkfelhaaW.PrintWords Go.Proofs.YtjmgfpfdkfelhaaW.PrintLast Go.Proofs.YtjmgfpfdkfelhaaW.PrintMore
attribute [local go_sem] max2_int min2_int max_two min_two max_three min_three max_four min_four   -- for this text's walks alone
set_option linter.unusedVariables false
set_option linter.unusedSimpArgs false

/-! ### cubbyref10_Word: function 10 -/
def cubbyref10_Word.f (a0 : Int) : Option (Int) := if (Int.tmod a0 65536) < 0 then (some (wrap64 ((Int.tmod a0 65536) + 65536))) else (some (Int.tmod a0 65536))
set_option maxHeartbeats 8000000 in
set_option maxRecDepth 100000 in
theorem cubbyref10_Word.calls (a0 : Int) (r : Int) (w : World) (h : cubbyref10_Word.f a0 = some r) :
    Calls Try.prog 10 #[.int .i64 a0] w fun e w' => e = .returned (.int .i64 r) ∧ Drawn0 w w' := by
  have H : (if (Int.tmod a0 65536) < 0 then (some (wrap64 ((Int.tmod a0 65536) + 65536))) else (some (Int.tmod a0 65536))) = some r := h
  clear h
  by_cases c2 : (Int.tmod a0 65536) < 0
  · rw [if_pos c2] at H
    have c2b0 : decide ((Int.tmod a0 65536) < 0) = true := decide_eq_true c2
    clear c2
    obtain rfl := Option.some.inj H
    go_enter Try.func10, Try.ntmps10
    go_wp2
    go_ret
    exact ⟨by first | rfl | (simp; done) | (simp [*]; done), by repeat (first | exact Drawn0.refl _ | apply Drawn0.step)⟩
  · rw [if_neg c2] at H
    have c2b0 : decide ((Int.tmod a0 65536) < 0) = false := decide_eq_false c2
    clear c2
    obtain rfl := Option.some.inj H
    go_enter Try.func10, Try.ntmps10
    go_wp2
    go_ret
    exact ⟨by first | rfl | (simp; done) | (simp [*]; done), by repeat (first | exact Drawn0.refl _ | apply Drawn0.step)⟩

/-! ### cubbyref10_Filled: function 12 -/
def cubbyref10_Filled.l0 : Nat → List Int → List Int → Int → Option (List Int)
  | 0, _, _, _ => none
  | k + 1, x0, x3, x4 => if x4 < (x0.length : Int) then (if x4 < 256 then (if 0 ≤ x4 then ((cubbyref10_Word.f (rd x0 x4)).bind fun t110 => (if x4 < (x3.length : Int) then (cubbyref10_Filled.l0 k x0 (x3.set (x4 : Int).toNat t110) (wrap64 (x4 + 1))) else (none))) else (none)) else (some x3)) else (some x3)
def cubbyref10_Filled.f (k : Nat) (l0 : List Int) : Option (List Int) := if 256 ≤ 35184372088832 then (cubbyref10_Filled.l0 k l0 (List.replicate 256 0) 0) else (none)
theorem cubbyref10_Filled.mono_l : ∀ k, (∀ y0 y1 y2, LeO (cubbyref10_Filled.l0 k y0 y1 y2) (cubbyref10_Filled.l0 (k + 1) y0 y1 y2))
  | 0 => fun _ _ _ r h => by simp [cubbyref10_Filled.l0] at h
  | k + 1 => by
    have ih0 := cubbyref10_Filled.mono_l k
    · intro y0 y1 y2
      unfold cubbyref10_Filled.l0
      repeat' first
      | (with_reducible exact ih0 _ _ _)
      | (with_reducible exact LeO.refl _)
      | (with_reducible exact LeO.none _)
      | (with_reducible refine LeO.ite ?_ ?_)
      | (with_reducible refine LeO.bind ?_ (fun _ => ?_))
      | exact ih0 _ _ _
      | exact LeO.none _
      | refine LeO.ite ?_ ?_
      | refine LeO.bind ?_ (fun _ => ?_)
theorem cubbyref10_Filled.mono : ∀ a0 k, LeO (cubbyref10_Filled.f k a0) (cubbyref10_Filled.f (k + 1) a0) := by
  intro a0 k
  have ih0 := cubbyref10_Filled.mono_l k
  unfold cubbyref10_Filled.f
  repeat' first
      | (with_reducible exact ih0 _ _ _)
      | (with_reducible exact LeO.refl _)
      | (with_reducible exact LeO.none _)
      | (with_reducible refine LeO.ite ?_ ?_)
      | (with_reducible refine LeO.bind ?_ (fun _ => ?_))
      | exact ih0 _ _ _
      | exact LeO.none _
      | refine LeO.ite ?_ ?_
      | refine LeO.bind ?_ (fun _ => ?_)
set_option maxHeartbeats 8000000 in
set_option maxRecDepth 100000 in
theorem cubbyref10_Filled.calls (k : Nat) (A0 : Option Addr) (c0 : Nat) (l0 : List Int) (r : List Int) (w : World) (hr0 : Kd.C (Kd.int .i64) w A0 l0.length l0) (hc0 : l0.length ≤ c0) (h : cubbyref10_Filled.f k l0 = some r) :
    Calls Try.prog 12 #[.slice A0 l0.length c0] w fun e w' => ∃ v0_ : Value, e = .returned (v0_) ∧ Kd.R (Kd.int .i64) 3 w' w.heap.size (fun _ => True) v0_ r ∧ Below w.heap.size w w' := by
  have HR0 := Aside0.mk hr0
  have HC0 := Aside0.mk hc0
  clear hr0 hc0
  have HB := Aside0.mk (Below.refl w.heap.size w)
  have H : (if 256 ≤ 35184372088832 then (cubbyref10_Filled.l0 k l0 (List.replicate 256 0) 0) else (none)) = some r := h
  clear h
  by_cases c2 : 256 ≤ 35184372088832
  · rw [if_pos c2] at H
    have c2b0 := eq_true c2
    have c2b1 : decide (256 ≤ 35184372088832) = true := decide_eq_true c2
    clear c2
    obtain ⟨y106, hy106⟩ : ∃ y_ : List Int, y_ = (List.replicate 256 0) := ⟨_, rfl⟩
    replace H : (cubbyref10_Filled.l0 k l0 y106 0) = some r := by first | (rw [hy106]; with_reducible exact H) | (have H2_ := (Option.bind_some _ _).symm.trans H; rw [hy106]; with_reducible exact H2_) | (have H2_ := (Option.bind_some _ _).symm.trans H; with_reducible exact H2_) | with_reducible exact H | (rw [hy106]; exact H) | exact H
    have Ny106 := Aside0.mk hy106
    clear hy106
    have H' := Aside0.mk H
    clear H
    go_enter Try.func12, Try.ntmps12
    go_wp2_with (first | ((with_reducible refine gate_dst (N := 5) rfl ?_); refine Kd.R_make (Kd.int .i64) _ 3 rfl (N := 5) rfl 28 _ _ rfl 256 rfl rfl Try.underlying28 (.int .i64 0) 8 info3 rfl (by decide) (by omega) 0 (ok := fun _ => True) (okp := fun _ => True) rfl (fun _ hk => hk) trivial (by omega) (by omega) (Below.refl _ _) (Nat.le_refl _) ?_; intro v107 w3 ho4 hb hg_ hnew_; clear hg_ hnew_; (first | rw [← Ny106.out] at ho4 | (simp only [Int.reduceToNat] at ho4; rw [← Ny106.out] at ho4)); have n0_ := Aside0.mk (Kd.R_lower ho4 (below_size (by repeat (first | (with_reducible first | exact HB.out | apply below_alloc | apply pw_below_drewN | apply below_drew1) | exact HB.out)))); have n1_ := Aside0.mk (below_step (by repeat (first | (with_reducible first | exact HB.out | apply below_alloc | apply pw_below_drewN | apply below_drew1) | exact HB.out)) hb); clear HB; have HO108 := n0_; have HB := n1_; clear n0_ n1_; clear hb ho4))
    go_loopg [4] k (fun kq v4 w' => ∃ (x3_1 : List Int) (x4_1 : Int), v4 = .int .i64 x4_1 ∧ Aside0 (cubbyref10_Filled.l0 kq l0 x3_1 x4_1 = some r) ∧ Aside0 (kq ≤ k) ∧ Aside0 (Kd.R (Kd.int .i64) 3 w' w.heap.size (fun _ => True) v107 x3_1) ∧ Aside0 (Below w.heap.size w w'))
    case atStart => exact ⟨(y106), (0), (by first | rfl | (simp; done) | (simp [*]; done)), H', ⟨Nat.le_refl _⟩, ⟨by (with_reducible repeat (first | apply Kd.R_alloc | apply Kd.R_drewN | apply Kd.R_drew)); exact HO108.out⟩, ⟨by repeat (first | (with_reducible first | exact HB.out | apply below_alloc | apply pw_below_drewN | apply below_drew1) | exact HB.out)⟩⟩
    case round =>
      clear H'
      try clear c1
      try clear c2
      try clear c2b0
      try clear c2b1
      try clear p2
      obtain ⟨x3_1, x4_1, rfl, HA, HK1, HO_3, HB⟩ := hrel
      cases gk with
      | zero => exact absurd HA.out (by simp [cubbyref10_Filled.l0])
      | succ k1 =>
        have H := HA.out
        clear HA
        simp only [cubbyref10_Filled.l0] at H
        by_cases c5 : x4_1 < (l0.length : Int)
        · rw [if_pos c5] at H
          have c5b0 : decide (x4_1 < (l0.length : Int)) = true := decide_eq_true c5
          clear c5
          by_cases c6 : x4_1 < 256
          · rw [if_pos c6] at H
            have c6b0 : decide (x4_1 < 256) = true := decide_eq_true c6
            clear c6
            by_cases c7 : 0 ≤ x4_1
            · rw [if_pos c7] at H
              have c7b0 : decide (0 ≤ x4_1) = true := decide_eq_true c7
              clear c7
              replace H := Option.bind_eq_some_iff.mp H
              obtain ⟨t110, A80, H⟩ := H
              replace H : (if x4_1 < (x3_1.length : Int) then (cubbyref10_Filled.l0 k1 l0 (x3_1.set (x4_1 : Int).toNat t110) (wrap64 (x4_1 + 1))) else (none)) = some r := H
              have A8 := Aside0.mk A80
              clear A80
              by_cases c9 : x4_1 < (x3_1.length : Int)
              · rw [if_pos c9] at H
                have c9b0 : decide (x4_1 < (x3_1.length : Int)) = true := decide_eq_true c9
                clear c9
                obtain ⟨y111, hy111⟩ : ∃ y_ : List Int, y_ = (x3_1.set (x4_1 : Int).toNat t110) := ⟨_, rfl⟩
                replace H : (cubbyref10_Filled.l0 k1 l0 y111 (wrap64 (x4_1 + 1))) = some r := by first | (rw [hy111]; with_reducible exact H) | (have H2_ := (Option.bind_some _ _).symm.trans H; rw [hy111]; with_reducible exact H2_) | (have H2_ := (Option.bind_some _ _).symm.trans H; with_reducible exact H2_) | with_reducible exact H | (rw [hy111]; exact H) | exact H
                have Ny111 := Aside0.mk hy111
                clear hy111
                have H' := Aside0.mk H
                clear H
                have p109 : 0 ≤ (x4_1 : Int) := of_decide_eq_true (by first | (with_reducible assumption) | assumption)
                have q109 : x4_1 < (l0.length : Int) := of_decide_eq_true (by first | (with_reducible assumption) | assumption)
                obtain ⟨ad109, e109, hx109_0⟩ := Kd.at_int HR0.out x4_1 p109 q109
                cases e109
                replace hx109_0 := (HB.out.cell (World.block_lt_of_cell? w _ hx109_0)).trans hx109_0
                replace p109 := eq_true p109
                replace q109 := eq_true q109
                go_wp2_with (first | ((with_reducible refine gate_callee (f := 10) rfl ?_); refine goesL_ (some 22) rfl rfl Try.func10 (by kernel_rfl) rfl #[.int .i64 (rd l0 x4_1)] rfl (by (try simp only [List.map_toArray, List.map_cons, List.map_nil]); first | done | rfl | (simp only [List.length_drop, List.length_take]; rfl)) ?_; (with_reducible refine (cubbyref10_Word.calls (rd l0 x4_1) t110 _ A8.out).mono ?_); rintro e w' ⟨rfl, ⟨nd, rfl⟩⟩; refine ⟨_, rfl, ?_⟩; (try (rw [drewN_self wr]; generalize hq_ : World.drewN wr _ = wr; have n0_ : Aside0 (Kd.R (Kd.int .i64) 3 wr w.heap.size (fun _ => True) v107 x3_1) := ⟨by rw [← hq_]; exact (by (with_reducible repeat (first | apply Kd.R_alloc | apply Kd.R_drewN | apply Kd.R_drew)); exact HO_3.out)⟩; have n1_ : Aside0 (Below w.heap.size w wr) := ⟨by rw [← hq_]; exact (by repeat (first | (with_reducible first | exact HB.out | apply below_alloc | apply pw_below_drewN | apply below_drew1) | exact HB.out))⟩; clear HO_3 HB hq_; have HO_3 := n0_; have HB := n1_; clear n0_ n1_)); have p10 : 0 ≤ (x4_1 : Int) := of_decide_eq_true (by first | (with_reducible assumption) | assumption); have q10 : (x4_1 : Int) < ((x3_1.length : Int) : Int) := of_decide_eq_true (by first | (with_reducible assumption) | assumption); obtain ⟨go10, co10, eo10, gb10, gl10, cl10, HG10⟩ := Kd.R_form HO_3.out (by omega); (first | cases eo10 | (injection eo10 with ea_ en_ ec_; (first | subst ea_ | (injection ea_ with ea_; subst ea_)); subst ec_; clear en_)); have GB10 := Aside0.mk gb10; have GG10 := Aside0.mk HG10; clear gb10 gl10 HG10; obtain ⟨hx10_0, hf10_0⟩ := Kd.R_celln 0 HO_3.out (x4_1 : Int) p10 q10; replace p10 := eq_true p10; replace q10 := eq_true q10; obtain ⟨hy11_, hz11_⟩ := Kd.R_celln 0 HO_3.out (x4_1 : Int) (of_decide_eq_true (by first | (with_reducible assumption) | assumption)) (of_decide_eq_true (by first | (with_reducible assumption) | assumption)); have HP11 := Kd.R_putg HO_3.out (x4_1 : Int) t110) | ((with_reducible refine gate_store (t := 3) (p := 23) rfl ?_); refine store_event (t := 3) (p := 23) (v := ?vo_w12) (w1 := (wr.setCell ⟨go10, (x4_1 : Int).toNat, none⟩ (.int .i64 t110))) ?hg ?ho ?hn ?hr ?_; (case ho => rfl); (case hg => rfl); (case hn => rfl); (case hr => first | (go_simp; done) | (go_simp; rfl)); intro w12 hw; have hg : wr.grownBy w12 (some go10) := (by rw [hw]; exact HP11.2); have hp_ : Kd.R (Kd.int .i64) 3 w12 w.heap.size (fun _ => True) (.slice (some ⟨go10, 0, none⟩) x3_1.length co10) y111 := (by rw [hw, Ny111.out]; exact HP11.1); clear HP11; have n0_ := Aside0.mk (hp_); have n1_ := Aside0.mk ((by rw [hw]; exact below_set (HB.out) GB10.out : Below w.heap.size w w12)); clear HO_3; clear HB; have HO_3 := n0_; have HB := n1_; clear n0_ n1_; clear hg hw hp_))
                go_roundg k1
                case measure => have := HK1.out; omega
                case rel => exact ⟨(y111), (wrap64 (x4_1 + 1)), (by first | rfl | (simp; done) | (simp [*]; done)), H', ⟨by have := HK1.out; omega⟩, ⟨by (with_reducible repeat (first | apply Kd.R_alloc | apply Kd.R_drewN | apply Kd.R_drew)); exact HO_3.out⟩, ⟨by repeat (first | (with_reducible first | exact HB.out | apply below_alloc | apply pw_below_drewN | apply below_drew1) | exact HB.out)⟩⟩
              · rw [if_neg c9] at H
                exact absurd H (by simp)
            · rw [if_neg c7] at H
              exact absurd H (by simp)
          · rw [if_neg c6] at H
            have c6b0 : decide (x4_1 < 256) = false := decide_eq_false c6
            clear c6
            obtain rfl := Option.some.inj H
            go_wp2
            go_ret
            exact ⟨_, by first | rfl | (simp [errW_none, errW_some] <;> rfl) | (simp [*, errW_none, errW_some] <;> rfl), by (with_reducible repeat (first | apply Kd.R_alloc | apply Kd.R_drewN | apply Kd.R_drew)); exact HO_3.out, by repeat (first | (with_reducible first | exact HB.out | apply below_alloc | apply pw_below_drewN | apply below_drew1) | exact HB.out)⟩
        · rw [if_neg c5] at H
          have c5b0 : decide (x4_1 < (l0.length : Int)) = false := decide_eq_false c5
          clear c5
          obtain rfl := Option.some.inj H
          go_wp2
          go_ret
          exact ⟨_, by first | rfl | (simp [errW_none, errW_some] <;> rfl) | (simp [*, errW_none, errW_some] <;> rfl), by (with_reducible repeat (first | apply Kd.R_alloc | apply Kd.R_drewN | apply Kd.R_drew)); exact HO_3.out, by repeat (first | (with_reducible first | exact HB.out | apply below_alloc | apply pw_below_drewN | apply below_drew1) | exact HB.out)⟩
  · rw [if_neg c2] at H
    exact absurd H (by simp)

/-! ### cubbylaw10_RunMemory: function 5 (by hand) -/
theorem cubbylaw10_RunMemory.flat (sz : Nat) : ∀ (cells : List (List Value)), (∀ c ∈ cells, c.length = sz) → ∀ (j i : Nat) (c : List Value), cells[j]? = some c → i < sz → cells.flatten[j * sz + i]? = c[i]?
  | [], _, j, i, c, hj, _ => by simp at hj
  | a :: l, h, 0, i, c, hj, hi => by
    have e : a = c := by simpa using hj
    subst e
    rw [List.flatten_cons, List.getElem?_append_left (by rw [h a List.mem_cons_self]; omega), Nat.zero_mul, Nat.zero_add]
  | a :: l, h, j + 1, i, c, hj, hi => by
    have hl := h a List.mem_cons_self
    rw [List.flatten_cons, List.getElem?_append_right (by rw [hl, Nat.add_mul]; omega), hl, show (j + 1) * sz + i - sz = j * sz + i by rw [Nat.add_mul]; omega]
    exact cubbylaw10_RunMemory.flat sz l (fun c hc => h c (List.mem_cons_of_mem _ hc)) j i c (by simpa using hj) hi
/-- A row that lies in a block of its own. -/
theorem cubbylaw10_RunMemory.C_block {α : Type} (d : Kd α) {W : World} {b : Nat} {t : TypeId} {xs : List α} (cells : List (List Value)) (h : W.heap[b]? = some (.cells cells.flatten.toArray t (0, 0))) (hl : cells.length = xs.length) (hn : xs.length ≤ 9223372036854775807)
    (hK : ∀ (j : Nat) (x : α) (c : List Value), xs[j]? = some x → cells[j]? = some c → d.K W x c) : d.C W (some ⟨b, 0, none⟩) xs.length xs := by
  have hsz : ∀ c ∈ cells, c.length = d.sz := by
    intro c hc
    obtain ⟨j, hj, rfl⟩ := List.getElem_of_mem hc
    exact d.K_len (hK j (xs[j]'(by omega)) _ (List.getElem?_eq_getElem (by omega)) (List.getElem?_eq_getElem hj))
  refine ⟨rfl, hn, fun _ => ⟨_, rfl, fun j p hj => ?_⟩⟩
  have hjl := (List.getElem?_eq_some_iff.1 hj).1
  have hc : cells[j]? = some (cells[j]'(by omega)) := List.getElem?_eq_getElem (by omega)
  have hk := hK j p _ hj hc
  refine ⟨_, d.K_len hk, hk, fun i u hu => ?_⟩
  have ea : (⟨b, 0, none⟩ : Addr).add (j * d.sz + i) = ⟨b, j * d.sz + i, none⟩ := by unfold Addr.add; split <;> simp_all
  have hil : i < d.sz := by rw [← d.K_len hk]; exact (List.getElem?_eq_some_iff.1 hu).1
  rw [ea, cell_of_row W b _ _ _ _ h, List.getElem?_toArray, cubbylaw10_RunMemory.flat d.sz cells hsz j i _ hc hil]
  exact hu
theorem cubbylaw10_RunMemory.noargs (W : World) : (Kd.int .i64).C W none 0 [] := ⟨rfl, Nat.zero_le _, fun h => absurd h (Nat.lt_irrefl 0)⟩
theorem cubbylaw10_RunMemory.mkI {W : World} (o d a b : Int) (nm : ByteArray) (as_ : List Int) (Ag : Option Addr) (cg : Nat) (hl : as_.length ≤ cg) (h : (Kd.int .i64).C W Ag as_.length as_) : Rn.kI.K W ⟨o, d, a, b, nm, as_⟩ [.int .i64 o, .int .i64 d, .int .i64 a, .int .i64 b, .string nm, .slice Ag as_.length cg] :=
  ⟨[.int .i64 o], [.int .i64 d, .int .i64 a, .int .i64 b, .string nm, .slice Ag as_.length cg], rfl, rfl, ⟨[.int .i64 d], [.int .i64 a, .int .i64 b, .string nm, .slice Ag as_.length cg], rfl, rfl, ⟨[.int .i64 a], [.int .i64 b, .string nm, .slice Ag as_.length cg], rfl, rfl, ⟨[.int .i64 b], [.string nm, .slice Ag as_.length cg], rfl, rfl, ⟨[.string nm], [.slice Ag as_.length cg], rfl, rfl, ⟨Ag, cg, rfl, hl, h⟩⟩⟩⟩⟩⟩
def cubbylaw10_RunMemory.F : Rn.Fn := ⟨⟨#[102]⟩, 2, 3, [[⟨9, 0, 0, 1, ⟨#[]⟩, []⟩, ⟨8, 2, 0, 0, ⟨#[]⟩, []⟩, ⟨14, 0, 2, 0, ⟨#[]⟩, []⟩]]⟩
theorem cubbylaw10_RunMemory.getp {α : Type} (r : List Int) (i : Int) (k : Int → Option α) (h : 0 ≤ i ∧ i < (r.length : Int)) : Rn.get r i k = k (r.getD i.toNat 0) := if_pos h
theorem cubbylaw10_RunMemory.setp {α : Type} (r : List Int) (i v : Int) (k : List Int → Option α) (h : 0 ≤ i ∧ i < (r.length : Int)) : Rn.set r i v k = k (r.set i.toNat v) := if_pos h
theorem cubbylaw10_RunMemory.plain (a v : Int) (mem : List Int) (ha : 0 ≤ a ∧ a < 65536) (hv : 0 ≤ v ∧ v < 65536) (hm : mem.length = 256) :
    Rn.call [cubbylaw10_RunMemory.F] 10 10 ⟨#[102]⟩ (run_Run.word [a, v]) 0 ⟨mem, [], 0⟩ = some (.val v, ⟨mem.set (a % 256).toNat v, [], 3⟩) := by
  have e1 : run_Run.word [a, v] = [a, v] := by
    show [a % 65536, v % 65536] = [a, v]
    rw [Int.emod_eq_of_lt ha.1 ha.2, Int.emod_eq_of_lt hv.1 hv.2]
  rw [e1]
  have ei : Rn.ix [cubbylaw10_RunMemory.F] ⟨#[102]⟩ = 0 := by decide
  have e2 : (a % 256).toNat < mem.length := by rw [hm]; omega
  have eok : Rn.ok [cubbylaw10_RunMemory.F] 0 [a, v].length 0 = true := by show Rn.ok [cubbylaw10_RunMemory.F] 0 2 0 = true; decide
  have hcall : Rn.call [cubbylaw10_RunMemory.F] 10 10 ⟨#[102]⟩ [a, v] 0 ⟨mem, [], 0⟩ = Rn.go [cubbylaw10_RunMemory.F] 10 10 cubbylaw10_RunMemory.F.blocks [a, v, 0] [⟨9, 0, 0, 1, ⟨#[]⟩, []⟩, ⟨8, 2, 0, 0, ⟨#[]⟩, []⟩, ⟨14, 0, 2, 0, ⟨#[]⟩, []⟩] 0 ⟨mem, [], 0⟩ := by
    unfold Rn.call
    rw [ei]
    simp only [eok]
    rfl
  rw [hcall]
  have l3 : ∀ x : Int, ((([a, v, x] : List Int).length : Nat) : Int) = 3 := fun x => rfl
  have g0 : ∀ x : Int, ([a, v, x] : List Int).getD (0 : Int).toNat 0 = a := fun x => rfl
  have g1 : ∀ x : Int, ([a, v, x] : List Int).getD (1 : Int).toNat 0 = v := fun x => rfl
  have g2 : ∀ x : Int, ([a, v, x] : List Int).getD (2 : Int).toNat 0 = x := fun x => rfl
  have s2 : ∀ x y : Int, ([a, v, x] : List Int).set (2 : Int).toNat y = [a, v, y] := fun x y => rfl
  have e3 : (mem.set (a % 256).toNat v).getD (a % 256).toNat 0 = v := by
    rw [List.getD_eq_getElem?_getD, List.getElem?_set_self e2]
    rfl
  rw [Rn.go9 (g := 9) (by show ¬ (10 : Int) ≤ 0; decide), cubbylaw10_RunMemory.getp _ _ _ (by rw [l3]; decide), cubbylaw10_RunMemory.getp _ _ _ (by rw [l3]; decide), g0, g1, if_pos ha.1]
  rw [Rn.go8 (g := 8) (by show ¬ (10 : Int) ≤ 1; decide), cubbylaw10_RunMemory.getp _ _ _ (by rw [l3]; decide), g0, if_pos ha.1, cubbylaw10_RunMemory.setp _ _ _ _ (by rw [l3]; decide), s2]
  rw [Rn.go14 (g := 7) (by show ¬ (10 : Int) ≤ 2; decide), cubbylaw10_RunMemory.getp _ _ _ (by rw [l3]; decide), g2]
  show some (Rn.Res.val ((mem.set (a % 256).toNat v).getD (a % 256).toNat 0), (⟨mem.set (a % 256).toNat v, [], 3⟩ : Rn.M)) = _
  rw [e3]
theorem cubbylaw10_RunMemory.rword (a : Int) : cubbyref10_Word.f a = some (a % 65536) := by
  unfold cubbyref10_Word.f
  have h := Int.tmod_eq_emod (a := a) (b := 65536)
  have hb : -65536 < Int.tmod a 65536 ∧ Int.tmod a 65536 < 65536 := ⟨Int.lt_tmod_of_pos a (by omega), Int.tmod_lt_of_pos a (by omega)⟩
  have hm : Int.tmod a 65536 % 65536 = a % 65536 := by
    rw [h]; split <;> omega
  by_cases hn : Int.tmod a 65536 < 0
  · rw [if_pos hn, Hw.w64 _ (by omega) (by omega)]
    exact congrArg some (by omega)
  · rw [if_neg hn]
    exact congrArg some (by omega)
theorem cubbylaw10_RunMemory.filled_l0 (l : List Int) : ∀ (d i k : Nat), i + d = min l.length 256 → d < k → cubbyref10_Filled.l0 k l (run_Run.filled l i) (i : Int) = some (run_Run.filled l (min l.length 256))
  | 0, i, k, hi, hk => by
    obtain ⟨k, rfl⟩ : ∃ m, k = m + 1 := ⟨k - 1, by omega⟩
    rw [cubbyref10_Filled.l0]
    have hi' : i = min l.length 256 := hi
    by_cases h1 : (i : Int) < (l.length : Int)
    · rw [if_pos h1, if_neg (by omega), ← hi']
    · rw [if_neg h1, ← hi']
  | d + 1, i, k, hi, hk => by
    obtain ⟨k, rfl⟩ : ∃ m, k = m + 1 := ⟨k - 1, by omega⟩
    have h1 : i < l.length := by omega
    have h2 : i < 256 := by omega
    have hfl : (run_Run.filled l i).length = 256 := (run_Run.filled_len l i (by omega)).resolve_right (by omega)
    rw [cubbyref10_Filled.l0, if_pos (by omega), if_pos (by omega), if_pos (by omega), cubbylaw10_RunMemory.rword, Option.bind_some, if_pos (by rw [hfl]; omega)]
    have e1 : rd l (i : Int) = l.getD i 0 := by unfold rd; rw [Int.toNat_natCast]
    rw [e1, Int.toNat_natCast, run_Run.filled_set l i h2 h1, Hw.wnat i (by omega)]
    exact cubbylaw10_RunMemory.filled_l0 l d (i + 1) k (by omega) (by omega)
theorem cubbylaw10_RunMemory.filled_ev (l : List Int) : ∃ k, cubbyref10_Filled.f k l = some (run_Run.filled l (min l.length 256)) := by
  refine ⟨min l.length 256 + 1, ?_⟩
  unfold cubbyref10_Filled.f
  rw [if_pos (by decide)]
  have e : (List.replicate 256 0 : List Int) = run_Run.filled l 0 := rfl
  rw [e]
  exact cubbylaw10_RunMemory.filled_l0 l _ 0 _ (Nat.zero_add _) (Nat.lt_succ_self _)
def cubbylaw10_RunMemory.Fit (a v : Int) (mem : List Int) : Prop := (0 ≤ a ∧ a < 65536) ∧ (0 ≤ v ∧ v < 65536) ∧ mem.length ≤ 140737488351232
instance (a v : Int) (mem : List Int) : Decidable (cubbylaw10_RunMemory.Fit a v mem) := by unfold cubbylaw10_RunMemory.Fit; infer_instance
def cubbylaw10_RunMemory.f (l0 l1 : Int) (l2 : List Int) : Option Bool := if cubbylaw10_RunMemory.Fit l0 l1 l2 then some true else none
set_option maxHeartbeats 16000000 in
set_option maxRecDepth 100000 in
theorem cubbylaw10_RunMemory.calls (l0 l1 : Int) (A2 : Option Addr) (c2 : Nat) (l2 : List Int) (r : Bool) (w : World) (hr2 : (Kd.int .i64).C w A2 l2.length l2) (hc2 : l2.length ≤ c2) (h : cubbylaw10_RunMemory.f l0 l1 l2 = some r) :
    Calls Try.prog 5 #[.int .u16 l0, .int .u16 l1, .slice A2 l2.length c2] w fun e w' => e = .returned (.bool r) ∧ Below w.heap.size w w' := by
  unfold cubbylaw10_RunMemory.f at h
  by_cases hl : cubbylaw10_RunMemory.Fit l0 l1 l2
  case neg => rw [if_neg hl] at h; cases h
  rw [if_pos hl] at h
  obtain rfl := Option.some.inj h
  unfold cubbylaw10_RunMemory.Fit at hl
  clear h
  obtain ⟨ha, hv, hlen⟩ := hl
  have HR := Aside0.mk hr2
  clear hr2
  by_cases hbig : 300 < l2.length
  · have hb2 : (300 : Int) < (l2.length : Int) := by omega
    go_enter Try.func5, Try.ntmps5
    go_wp2_with (fail)
    go_ret
    exact ⟨rfl, Below.refl _ _⟩
  have hb2 : ¬ (300 : Int) < (l2.length : Int) := by omega
  obtain ⟨W5, hW5⟩ : ∃ W5, ((((w.alloc (.cells #[.int .i64 9, .int .i64 0, .int .i64 0, .int .i64 1, .string ⟨#[]⟩, .slice none 0 0, .int .i64 8, .int .i64 2, .int .i64 0, .int .i64 0, .string ⟨#[]⟩, .slice none 0 0, .int .i64 14, .int .i64 0, .int .i64 2, .int .i64 0, .string ⟨#[]⟩, .slice none 0 0] 30)).alloc (.cells #[.slice (some ⟨w.heap.size, 0, none⟩) 3 3] 31)).alloc (.cells #[.string ⟨#[102]⟩, .int .i64 2, .int .i64 3, .slice (some ⟨w.heap.size + 1, 0, none⟩) 1 1] 34)).alloc (.cells #[.string ⟨#[102]⟩, .int .i64 2, .int .i64 3, .slice (some ⟨w.heap.size + 1, 0, none⟩) 1 1] 34)).alloc (.cells #[.int .i64 l0, .int .i64 l1] 3) = W5 := ⟨_, rfl⟩
  have b0 : W5.heap[w.heap.size]? = some (.cells #[.int .i64 9, .int .i64 0, .int .i64 0, .int .i64 1, .string ⟨#[]⟩, .slice none 0 0, .int .i64 8, .int .i64 2, .int .i64 0, .int .i64 0, .string ⟨#[]⟩, .slice none 0 0, .int .i64 14, .int .i64 0, .int .i64 2, .int .i64 0, .string ⟨#[]⟩, .slice none 0 0] 30) := by rw [← hW5]; exact Hw.blk_al (Hw.blk_al (Hw.blk_al (Hw.blk_al (Hw.blk_nw w (.cells #[.int .i64 9, .int .i64 0, .int .i64 0, .int .i64 1, .string ⟨#[]⟩, .slice none 0 0, .int .i64 8, .int .i64 2, .int .i64 0, .int .i64 0, .string ⟨#[]⟩, .slice none 0 0, .int .i64 14, .int .i64 0, .int .i64 2, .int .i64 0, .string ⟨#[]⟩, .slice none 0 0] 30)) (.cells #[.slice (some ⟨w.heap.size, 0, none⟩) 3 3] 31)) (.cells #[.string ⟨#[102]⟩, .int .i64 2, .int .i64 3, .slice (some ⟨w.heap.size + 1, 0, none⟩) 1 1] 34)) (.cells #[.string ⟨#[102]⟩, .int .i64 2, .int .i64 3, .slice (some ⟨w.heap.size + 1, 0, none⟩) 1 1] 34)) (.cells #[.int .i64 l0, .int .i64 l1] 3)
  have b1 : W5.heap[w.heap.size + 1]? = some (.cells #[.slice (some ⟨w.heap.size, 0, none⟩) 3 3] 31) := by rw [← hW5]; exact Hw.blk_al (Hw.blk_al (Hw.blk_al (Hw.blk_nw1 w (.cells #[.int .i64 9, .int .i64 0, .int .i64 0, .int .i64 1, .string ⟨#[]⟩, .slice none 0 0, .int .i64 8, .int .i64 2, .int .i64 0, .int .i64 0, .string ⟨#[]⟩, .slice none 0 0, .int .i64 14, .int .i64 0, .int .i64 2, .int .i64 0, .string ⟨#[]⟩, .slice none 0 0] 30) (.cells #[.slice (some ⟨w.heap.size, 0, none⟩) 3 3] 31)) (.cells #[.string ⟨#[102]⟩, .int .i64 2, .int .i64 3, .slice (some ⟨w.heap.size + 1, 0, none⟩) 1 1] 34)) (.cells #[.string ⟨#[102]⟩, .int .i64 2, .int .i64 3, .slice (some ⟨w.heap.size + 1, 0, none⟩) 1 1] 34)) (.cells #[.int .i64 l0, .int .i64 l1] 3)
  have b3 : W5.heap[w.heap.size + 1 + 1 + 1]? = some (.cells #[.string ⟨#[102]⟩, .int .i64 2, .int .i64 3, .slice (some ⟨w.heap.size + 1, 0, none⟩) 1 1] 34) := by rw [← hW5]; exact Hw.blk_al (Hw.blk_nw3 w (.cells #[.int .i64 9, .int .i64 0, .int .i64 0, .int .i64 1, .string ⟨#[]⟩, .slice none 0 0, .int .i64 8, .int .i64 2, .int .i64 0, .int .i64 0, .string ⟨#[]⟩, .slice none 0 0, .int .i64 14, .int .i64 0, .int .i64 2, .int .i64 0, .string ⟨#[]⟩, .slice none 0 0] 30) (.cells #[.slice (some ⟨w.heap.size, 0, none⟩) 3 3] 31) (.cells #[.string ⟨#[102]⟩, .int .i64 2, .int .i64 3, .slice (some ⟨w.heap.size + 1, 0, none⟩) 1 1] 34) (.cells #[.string ⟨#[102]⟩, .int .i64 2, .int .i64 3, .slice (some ⟨w.heap.size + 1, 0, none⟩) 1 1] 34)) (.cells #[.int .i64 l0, .int .i64 l1] 3)
  have b4 : W5.heap[w.heap.size + 1 + 1 + 1 + 1]? = some (.cells #[.int .i64 l0, .int .i64 l1] 3) := by
    rw [← hW5]
    have e := Hw.blk_nw ((((w.alloc (.cells #[.int .i64 9, .int .i64 0, .int .i64 0, .int .i64 1, .string ⟨#[]⟩, .slice none 0 0, .int .i64 8, .int .i64 2, .int .i64 0, .int .i64 0, .string ⟨#[]⟩, .slice none 0 0, .int .i64 14, .int .i64 0, .int .i64 2, .int .i64 0, .string ⟨#[]⟩, .slice none 0 0] 30)).alloc (.cells #[.slice (some ⟨w.heap.size, 0, none⟩) 3 3] 31)).alloc (.cells #[.string ⟨#[102]⟩, .int .i64 2, .int .i64 3, .slice (some ⟨w.heap.size + 1, 0, none⟩) 1 1] 34)).alloc (.cells #[.string ⟨#[102]⟩, .int .i64 2, .int .i64 3, .slice (some ⟨w.heap.size + 1, 0, none⟩) 1 1] 34)) (.cells #[.int .i64 l0, .int .i64 l1] 3)
    have es : ((((w.alloc (.cells #[.int .i64 9, .int .i64 0, .int .i64 0, .int .i64 1, .string ⟨#[]⟩, .slice none 0 0, .int .i64 8, .int .i64 2, .int .i64 0, .int .i64 0, .string ⟨#[]⟩, .slice none 0 0, .int .i64 14, .int .i64 0, .int .i64 2, .int .i64 0, .string ⟨#[]⟩, .slice none 0 0] 30)).alloc (.cells #[.slice (some ⟨w.heap.size, 0, none⟩) 3 3] 31)).alloc (.cells #[.string ⟨#[102]⟩, .int .i64 2, .int .i64 3, .slice (some ⟨w.heap.size + 1, 0, none⟩) 1 1] 34)).alloc (.cells #[.string ⟨#[102]⟩, .int .i64 2, .int .i64 3, .slice (some ⟨w.heap.size + 1, 0, none⟩) 1 1] 34)).heap.size = w.heap.size + 1 + 1 + 1 + 1 := by simp
    rw [es] at e
    exact e
  have HB : Aside0 (Below w.heap.size w W5) := ⟨by
    rw [← hW5]
    exact (((((Below.refl w.heap.size w).alloc (Nat.le_refl _) (.cells #[.int .i64 9, .int .i64 0, .int .i64 0, .int .i64 1, .string ⟨#[]⟩, .slice none 0 0, .int .i64 8, .int .i64 2, .int .i64 0, .int .i64 0, .string ⟨#[]⟩, .slice none 0 0, .int .i64 14, .int .i64 0, .int .i64 2, .int .i64 0, .string ⟨#[]⟩, .slice none 0 0] 30)).alloc (by simp) (.cells #[.slice (some ⟨w.heap.size, 0, none⟩) 3 3] 31)).alloc (by simp; omega) (.cells #[.string ⟨#[102]⟩, .int .i64 2, .int .i64 3, .slice (some ⟨w.heap.size + 1, 0, none⟩) 1 1] 34)).alloc (by simp; omega) (.cells #[.string ⟨#[102]⟩, .int .i64 2, .int .i64 3, .slice (some ⟨w.heap.size + 1, 0, none⟩) 1 1] 34)).alloc (by simp; omega) (.cells #[.int .i64 l0, .int .i64 l1] 3)⟩
  have hI : Rn.kI.C W5 (some ⟨w.heap.size, 0, none⟩) 3 [⟨9, 0, 0, 1, ⟨#[]⟩, []⟩, ⟨8, 2, 0, 0, ⟨#[]⟩, []⟩, ⟨14, 0, 2, 0, ⟨#[]⟩, []⟩] := by
    refine cubbylaw10_RunMemory.C_block Rn.kI (t := 30) (xs := [⟨9, 0, 0, 1, ⟨#[]⟩, []⟩, ⟨8, 2, 0, 0, ⟨#[]⟩, []⟩, ⟨14, 0, 2, 0, ⟨#[]⟩, []⟩]) [[.int .i64 9, .int .i64 0, .int .i64 0, .int .i64 1, .string ⟨#[]⟩, .slice none 0 0], [.int .i64 8, .int .i64 2, .int .i64 0, .int .i64 0, .string ⟨#[]⟩, .slice none 0 0], [.int .i64 14, .int .i64 0, .int .i64 2, .int .i64 0, .string ⟨#[]⟩, .slice none 0 0]] b0 rfl (by decide) ?_
    intro j x c hj hc
    match j with
    | 0 => cases hj; cases hc; exact cubbylaw10_RunMemory.mkI _ _ _ _ _ [] none 0 (Nat.le_refl _) (cubbylaw10_RunMemory.noargs W5)
    | 1 => cases hj; cases hc; exact cubbylaw10_RunMemory.mkI _ _ _ _ _ [] none 0 (Nat.le_refl _) (cubbylaw10_RunMemory.noargs W5)
    | 2 => cases hj; cases hc; exact cubbylaw10_RunMemory.mkI _ _ _ _ _ [] none 0 (Nat.le_refl _) (cubbylaw10_RunMemory.noargs W5)
    | j + 3 => cases hj
  have hBk : Rn.kB.C W5 (some ⟨w.heap.size + 1, 0, none⟩) 1 cubbylaw10_RunMemory.F.blocks := by
    refine cubbylaw10_RunMemory.C_block Rn.kB (t := 31) (xs := cubbylaw10_RunMemory.F.blocks) [[.slice (some ⟨w.heap.size, 0, none⟩) 3 3]] b1 rfl (by decide) ?_
    intro j x c hj hc
    match j with
    | 0 => cases hj; cases hc; exact ⟨some ⟨w.heap.size, 0, none⟩, 3, rfl, Nat.le_refl _, hI⟩
    | j + 1 => cases hj
  have hF : Rn.kF.C W5 (some ⟨w.heap.size + 1 + 1 + 1, 0, none⟩) 1 [cubbylaw10_RunMemory.F] := by
    refine cubbylaw10_RunMemory.C_block Rn.kF (t := 34) (xs := [cubbylaw10_RunMemory.F]) [[.string ⟨#[102]⟩, .int .i64 2, .int .i64 3, .slice (some ⟨w.heap.size + 1, 0, none⟩) 1 1]] b3 rfl (by decide) ?_
    intro j x c hj hc
    match j with
    | 0 => cases hj; cases hc; exact Rn.mk_F (x := cubbylaw10_RunMemory.F) (Nat.le_refl 1) hBk
    | j + 1 => cases hj
  have hA : (Kd.int .i64).C W5 (some ⟨w.heap.size + 1 + 1 + 1 + 1, 0, none⟩) 2 [l0, l1] := by
    refine cubbylaw10_RunMemory.C_block (Kd.int .i64) (t := 3) (xs := [l0, l1]) [[.int .i64 l0], [.int .i64 l1]] b4 rfl (show (2 : Nat) ≤ 9223372036854775807 by decide) ?_
    intro j x c hj hc
    match j with
    | 0 => cases hj; cases hc; rfl
    | 1 => cases hj; cases hc; rfl
    | j + 2 => cases hj
  have hfl : (run_Run.filled l2 (min l2.length 256)).length = 256 := (run_Run.filled_len l2 (min l2.length 256) (Nat.min_le_right _ _)).resolve_right (by omega)
  have HC : Aside0 (Calls Try.prog 11 #[.slice (some ⟨w.heap.size + 1 + 1 + 1, 0, none⟩) 1 1, .string ⟨#[102]⟩, .slice (some ⟨w.heap.size + 1 + 1 + 1 + 1, 0, none⟩) 2 2, .slice A2 l2.length c2, .int .i64 10] W5 fun e w' => ∃ tv mv, e = .returned (.agg #[.int .i64 1, .int .i64 l1, tv, mv, .int .i64 3]) ∧ Kd.R (Kd.int .i64) 3 w' W5.heap.size (fun _ => True) tv [] ∧ Kd.R (Kd.int .i64) 3 w' W5.heap.size (fun _ => True) mv ((run_Run.filled l2 (min l2.length 256)).set (l0 % 256).toNat l1) ∧ Below W5.heap.size W5 w') := ⟨run_Run.calls [cubbylaw10_RunMemory.F] ⟨#[102]⟩ [l0, l1] l2 10 10 (.val l1) _ (some ⟨w.heap.size + 1 + 1 + 1, 0, none⟩) 1 (some ⟨w.heap.size + 1 + 1 + 1 + 1, 0, none⟩) 2 A2 c2 W5 hF (Nat.le_refl 1) hA (Nat.le_refl 2) (show (2 : Nat) ≤ 100000 by decide) (Kd.C_below HR.out HB.out) hc2 (by decide) (cubbylaw10_RunMemory.plain l0 l1 _ ha hv hfl)⟩
  clear b0 b1 b3 b4 hI hBk hF hA
  obtain ⟨kf, hkf⟩ := cubbylaw10_RunMemory.filled_ev l2
  generalize run_Run.filled l2 (min l2.length 256) = fm at HC hfl hkf
  have HF := Aside0.mk (fun W h => cubbyref10_Filled.calls kf A2 c2 l2 fm W h hc2 hkf)
  have hm256 : (l0 % 256).toNat < 256 := by omega
  have hatm : l0.tmod 256 = l0 % 256 := Int.tmod_eq_emod_of_nonneg ha.1
  clear hkf
  go_enter Try.func5, Try.ntmps5
  go_upto_region 7 with (go_at_call 11; (with_reducible refine HC.out.mono ?_); rintro e w6 ⟨tv, mv, rfl, htv, hmv, hb6⟩; obtain ⟨Amv, cmv, emv⟩ := Kd.R_slice hmv; obtain ⟨Atv, ctv, etv⟩ := Kd.R_slice htv; subst emv; subst etv; have HMV := Aside0.mk hmv; have HB := Aside0.mk (HB.out.trans (hb6.mono HB.out.size)); clear hmv hb6 htv)
  have hlm : (fm.set (l0 % 256).toNat l1).length = 256 := by rw [List.length_set]; exact hfl
  have HMC : Aside0 ((Kd.int .i64).C w6 Amv 256 (fm.set (l0 % 256).toNat l1)) := ⟨by
    obtain ⟨A', c', e, hl', hC⟩ := Kd.R_reads HMV.out
    injection e with e1 e2 e3
    subst e1
    rw [hlm] at hC
    exact hC⟩
  clear HMV HC hW5
  have HO := Aside0.mk (Hw.blk_nw w6 (.cells #[.int .i64 1, .int .i64 l1, .slice Atv 0 ctv, .slice Amv 256 cmv, .int .i64 3] 37))
  have HMC := Aside0.mk (Kd.C_below HMC.out ((Below.refl w6.heap.size w6).alloc (Nat.le_refl _) (.cells #[.int .i64 1, .int .i64 l1, .slice Atv 0 ctv, .slice Amv 256 cmv, .int .i64 3] 37)))
  have HB := Aside0.mk (HB.out.alloc HB.out.size (.cells #[.int .i64 1, .int .i64 l1, .slice Atv 0 ctv, .slice Amv 256 cmv, .int .i64 3] 37))
  generalize w6.heap.size = ob at HO ⊢
  generalize w6.alloc (.cells #[.int .i64 1, .int .i64 l1, .slice Atv 0 ctv, .slice Amv 256 cmv, .int .i64 3] 37) = W7 at HO HMC HB ⊢
  have holt : ob < W7.heap.size := (Array.getElem?_eq_some_iff.1 HO.out).1
  have o0 : W7.cell? ⟨ob, 0, none⟩ = some (.int .i64 1) := cell_of_row W7 ob 0 _ _ _ HO.out
  have o1 : W7.cell? ⟨ob, 1, none⟩ = some (.int .i64 l1) := cell_of_row W7 ob 1 _ _ _ HO.out
  have o3 : W7.cell? ⟨ob, 3, none⟩ = some (.slice Amv 256 cmv) := cell_of_row W7 ob 3 _ _ _ HO.out
  have HF7 := Aside0.mk (HF.out W7 (Kd.C_below HR.out HB.out))
  go_wp2_with (go_at_call 12; (with_reducible refine HF7.out.mono ?_); rintro e w8 ⟨v0, rfl, hw8, hb8⟩; obtain ⟨wb, wc, ewv, hwb, _, _⟩ := Kd.R_form hw8 (by rw [hfl]; decide); rw [hfl] at ewv; subst ewv; have HW := Aside0.mk hw8; have HB8 := Aside0.mk hb8; clear hw8 hb8)
  clear o0 o1 HF7 HF
  go_loopg [12] 256 (fun gg v12 wq => ∃ i : Nat, v12 = .int .i64 (i : Int) ∧ i ≤ 256 ∧ 256 - i ≤ gg ∧ Aside0 (Below W7.heap.size W7 wq) ∧ Aside0 (Kd.R (Kd.int .i64) 3 wq W7.heap.size (fun _ => True) (.slice (some ⟨wb, 0, none⟩) 256 wc) (if (l0 % 256).toNat < i then fm.set (l0 % 256).toNat l1 else fm)))
  case atStart => exact ⟨0, rfl, Nat.zero_le _, by omega, HB8, ⟨by rw [if_neg (Nat.not_lt_zero _)]; exact HW.out⟩⟩
  case round =>
    clear HB8 HW
    obtain ⟨i, rfl, hi, hgg, HB8, HW⟩ := hrel
    by_cases hil : i < 256
    · obtain ⟨gk, rfl⟩ : ∃ q, gk = q + 1 := by
        cases gk with
        | zero => omega
        | succ q => exact ⟨q, rfl⟩
      have zi : (i : Int) < 256 := by omega
      have hwl : (if (l0 % 256).toNat < i then fm.set (l0 % 256).toNat l1 else fm).length = 256 := by split <;> assumption
      have hr1 : Kd.R (Kd.int .i64) 3 wr W7.heap.size (fun _ => True) (.slice (some ⟨wb, 0, none⟩) (if (l0 % 256).toNat < i then fm.set (l0 % 256).toNat l1 else fm).length wc) (if (l0 % 256).toNat < i then fm.set (l0 % 256).toNat l1 else fm) := by rw [hwl]; exact HW.out
      obtain ⟨w1, w2⟩ := Kd.R_celln (0 : Int) hr1 (i : Int) (by omega) (by omega)
      rw [Int.toNat_natCast] at w1 w2
      have KX : Aside0 (∀ W, Below W7.heap.size W7 W → W.cell? ⟨ob, 3, none⟩ = some (.slice Amv 256 cmv) ∧ ∃ ad, Amv = some ad ∧ W.cell? (ad.add i) = some (.int .i64 ((fm.set (l0 % 256).toNat l1).getD i 0))) := ⟨fun W hb => by
        refine ⟨(hb.cell (p := ⟨ob, 3, none⟩) holt).trans o3, ?_⟩
        obtain ⟨ad, e, q⟩ := Kd.at_int (Kd.C_below HMC.out hb) (i : Int) (by omega) (by omega)
        refine ⟨ad, e, ?_⟩
        rw [Int.toNat_natCast] at q
        rw [q]
        unfold rd
        rw [Int.toNat_natCast]⟩
      by_cases hia : (i : Int) = l0 % 256
      · have eia : (l0 % 256).toNat = i := by omega
        have hput := Kd.R_putn hr1 (i : Int) l1
        rw [Int.toNat_natCast] at hput
        have hb' := HB8.out.setCell (p := ⟨wb, i, none⟩) hwb (.int .i64 l1)
        obtain ⟨p3, adm, rfl, pm⟩ := KX.out _ hb'
        have eset : (if (l0 % 256).toNat < i then fm.set (l0 % 256).toNat l1 else fm).set i l1 = fm.set i l1 := by rw [if_neg (by omega)]
        rw [eset] at hput
        have ew : (fm.set (l0 % 256).toNat l1).getD i 0 = l1 := by
          rw [eia, List.getD_eq_getElem?_getD, List.getElem?_set_self (by omega)]
          rfl
        rw [ew] at pm
        have hput2 : Kd.R (Kd.int .i64) 3 (wr.setCell ⟨wb, i, none⟩ (.int .i64 l1)) W7.heap.size (fun _ => True) (.slice (some ⟨wb, 0, none⟩) (fm.set i l1).length wc) (fm.set i l1) := by
          rw [List.length_set, hfl]
          rw [hwl] at hput
          exact hput
        obtain ⟨u1, _⟩ := Kd.R_celln (0 : Int) hput2 (i : Int) (by omega) (by rw [List.length_set]; omega)
        rw [Int.toNat_natCast] at u1
        have eu : rdOf (0 : Int) (fm.set i l1) (i : Int) = l1 := by
          unfold rdOf
          rw [Int.toNat_natCast, List.getD_eq_getElem?_getD, List.getElem?_set_self (by omega)]
          rfl
        have u1' : (wr.setCell ⟨wb, i, none⟩ (.int .i64 l1)).cell? ⟨wb, i, none⟩ = some (.int .i64 l1) := by rw [u1, eu]
        have HPUT := Aside0.mk hput2
        have HB9 := Aside0.mk hb'
        clear hput hput2 hb' eset ew u1 eu hr1 hwl KX
        go_upto_region 15 with fail
        generalize wr.setCell ⟨wb, i, none⟩ (.int .i64 l1) = W9 at p3 pm u1' HPUT HB9 ⊢
        go_quiet (fail)
        go_wp2_with (fail)
        go_roundg gk
        case measure => omega
        case rel =>
          have h := HPUT.out
          rw [List.length_set, hfl] at h
          exact ⟨i + 1, by rw [Int.natCast_add, hia]; rfl, by omega, by omega, ⟨pw_below_drewN HB9.out nq⟩, ⟨by rw [if_pos (by omega), eia]; exact Kd.R_drewN h nq⟩⟩
      · have eia : ¬ (l0 % 256).toNat = i := by omega
        obtain ⟨p3, adm, rfl, pm⟩ := KX.out _ HB8.out
        have ew : rdOf (0 : Int) (if (l0 % 256).toNat < i then fm.set (l0 % 256).toNat l1 else fm) (i : Int) = (fm.set (l0 % 256).toNat l1).getD i 0 := by
          unfold rdOf
          rw [Int.toNat_natCast]
          by_cases hc : (l0 % 256).toNat < i
          · rw [if_pos hc]
          · rw [if_neg hc, List.getD_eq_getElem?_getD, List.getD_eq_getElem?_getD, List.getElem?_set_ne eia]
        have w1' : wr.cell? ⟨wb, i, none⟩ = some (.int .i64 ((fm.set (l0 % 256).toNat l1).getD i 0)) := by rw [w1, ew]
        generalize (fm.set (l0 % 256).toNat l1).getD i 0 = u at pm w1'
        have hnx : (if (l0 % 256).toNat < i + 1 then fm.set (l0 % 256).toNat l1 else fm) = (if (l0 % 256).toNat < i then fm.set (l0 % 256).toNat l1 else fm) := by
          by_cases hc : (l0 % 256).toNat < i
          · rw [if_pos hc, if_pos (by omega)]
          · rw [if_neg hc, if_neg (by omega)]
        have HNX := Aside0.mk hnx
        have hia2 : decide ((i : Int) = l0 % 256) = false := decide_eq_false hia
        clear w1 ew hr1 hwl KX hnx
        go_upto_region 15 with fail
        go_quiet (fail)
        go_wp2_with (fail)
        go_roundg gk
        case measure => omega
        case rel => exact ⟨i + 1, by rw [Int.natCast_add]; rfl, by omega, by omega, ⟨pw_below_drewN HB8.out nq⟩, ⟨by rw [HNX.out]; exact Kd.R_drewN HW.out nq⟩⟩
    · go_wp2_with (fail)
      go_ret
      exact ⟨rfl, HB.out.trans (HB8.out.mono HB.out.size)⟩

/-- THE ONE PURE STATEMENT of cubbylaw10_RunMemory: yours. -/
def cubbylaw10_RunMemory.Pure : Prop := ∀ (a0 : Int) (a1 : Int) (l2 : List Int), (Lit.int .u16 a0).wf = true → (Lit.int .u16 a1).wf = true → (l2.length ≤ maxLen ∧ l2.length * 8 ≤ 140737488351232 ∧ ∀ x ∈ l2, (Lit.int .i64 x).wf = true) → cubbylaw10_RunMemory.f a0 a1 l2 = some true
theorem cubbylaw10_RunMemory.walk (P : cubbylaw10_RunMemory.Pure) (a0 : Int) (a1 : Int) (A2 : Option Addr) (c2 : Nat) (l2 : List Int) (w : World) (hr2 : Kd.C (Kd.int .i64) w A2 l2.length l2) (hc2 : l2.length ≤ c2) (o0 : (Lit.int .u16 a0).wf = true) (o1 : (Lit.int .u16 a1).wf = true) (o2 : (l2.length ≤ maxLen ∧ l2.length * 8 ≤ 140737488351232 ∧ ∀ x ∈ l2, (Lit.int .i64 x).wf = true)) :
    Calls Try.prog 5 #[.int .u16 a0, .int .u16 a1, .slice A2 l2.length c2] w fun e w' => e = .returned (.bool true) ∧ Below w.heap.size w w' := by
  have h := P a0 a1 l2 o0 o1 o2
  refine (cubbylaw10_RunMemory.calls a0 a1 A2 c2 l2 true w hr2 hc2 h).mono ?_
  rintro e w' ⟨rfl, hd⟩
  exact ⟨rfl, hd⟩

end Go.Proofs.Ytjmgfpfdkfelhaa.PRunMemory
