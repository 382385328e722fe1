-- By a program of this session (wip/tools/mkprint.py), for this claim.
import Derived.Test.YtkjflclkjdbmoaaPExecSlotsx0
import Derived.Test.YtkjflclkjdbmoaaPExecSlotsx1
import Derived.Test.YtkjflclkjdbmoaaPExecSlotsx2
namespace Go.Proofs.Ytkjflclkjdbmoaa.PExecSlots
open Go.RowKit Go.Proofs.YtkjflclkjdbmoaaW.PrintWords Go.Proofs.YtkjflclkjdbmoaaW.PrintLast Go.Proofs.YtkjflclkjdbmoaaW.PrintMore
attribute [local go_sem] max2_int min2_int max_two min_two max_three min_three max_four min_four   -- for this text's walks alone
set_option linter.unusedVariables false
set_option linter.unusedSimpArgs false

/-! ### cubbyref07_Targets: function 36 (by hand) -/
theorem cubbyref07_Targets.flat (sz : Nat) : ∀ (cells : List (List Value)), (∀ c ∈ cells, c.length = sz) → ∀ (j i : Nat) (c : List Value), cells[j]? = some c → i < sz → cells.flatten[j * sz + i]? = c[i]?
  | [], _, j, i, c, hj, _ => by simp at hj
  | a :: l, h, 0, i, c, hj, hi => by
    have e : a = c := by simpa using hj
    subst e
    rw [List.flatten_cons, List.getElem?_append_left (by rw [h a List.mem_cons_self]; omega), Nat.zero_mul, Nat.zero_add]
  | a :: l, h, j + 1, i, c, hj, hi => by
    have hl := h a List.mem_cons_self
    rw [List.flatten_cons, List.getElem?_append_right (by rw [hl, Nat.add_mul]; omega), hl, show (j + 1) * sz + i - sz = j * sz + i by rw [Nat.add_mul]; omega]
    exact cubbyref07_Targets.flat sz l (fun c hc => h c (List.mem_cons_of_mem _ hc)) j i c (by simpa using hj) hi
/-- A row that lies in a block of its own. -/
theorem cubbyref07_Targets.C_block {α : Type} (d : Kd α) {W : World} {b : Nat} {t : TypeId} {xs : List α} (cells : List (List Value)) (h : W.heap[b]? = some (.cells cells.flatten.toArray t (0, 0))) (hl : cells.length = xs.length) (hn : xs.length ≤ 9223372036854775807)
    (hK : ∀ (j : Nat) (x : α) (c : List Value), xs[j]? = some x → cells[j]? = some c → d.K W x c) : d.C W (some ⟨b, 0, none⟩) xs.length xs := by
  have hsz : ∀ c ∈ cells, c.length = d.sz := by
    intro c hc
    obtain ⟨j, hj, rfl⟩ := List.getElem_of_mem hc
    exact d.K_len (hK j (xs[j]'(by omega)) _ (List.getElem?_eq_getElem (by omega)) (List.getElem?_eq_getElem hj))
  refine ⟨rfl, hn, fun _ => ⟨_, rfl, fun j p hj => ?_⟩⟩
  have hjl := (List.getElem?_eq_some_iff.1 hj).1
  have hc : cells[j]? = some (cells[j]'(by omega)) := List.getElem?_eq_getElem (by omega)
  have hk := hK j p _ hj hc
  refine ⟨_, d.K_len hk, hk, fun i u hu => ?_⟩
  have ea : (⟨b, 0, none⟩ : Addr).add (j * d.sz + i) = ⟨b, j * d.sz + i, none⟩ := by unfold Addr.add; split <;> simp_all
  have hil : i < d.sz := by rw [← d.K_len hk]; exact (List.getElem?_eq_some_iff.1 hu).1
  rw [ea, cell_of_row W b _ _ _ _ h, List.getElem?_toArray, cubbyref07_Targets.flat d.sz cells hsz j i _ hc hil]
  exact hu
theorem cubbyref07_Targets.noargs (W : World) : (Kd.int .i64).C W none 0 [] := ⟨rfl, Nat.zero_le _, fun h => absurd h (Nat.lt_irrefl 0)⟩
theorem cubbyref07_Targets.mkI {W : World} (o d a b : Int) (nm : ByteArray) (as_ : List Int) (Ag : Option Addr) (cg : Nat) (hl : as_.length ≤ cg) (h : (Kd.int .i64).C W Ag as_.length as_) : Rn.kI.K W ⟨o, d, a, b, nm, as_⟩ [.int .i64 o, .int .i64 d, .int .i64 a, .int .i64 b, .string nm, .slice Ag as_.length cg] :=
  ⟨[.int .i64 o], [.int .i64 d, .int .i64 a, .int .i64 b, .string nm, .slice Ag as_.length cg], rfl, rfl, ⟨[.int .i64 d], [.int .i64 a, .int .i64 b, .string nm, .slice Ag as_.length cg], rfl, rfl, ⟨[.int .i64 a], [.int .i64 b, .string nm, .slice Ag as_.length cg], rfl, rfl, ⟨[.int .i64 b], [.string nm, .slice Ag as_.length cg], rfl, rfl, ⟨[.string nm], [.slice Ag as_.length cg], rfl, rfl, ⟨Ag, cg, rfl, hl, h⟩⟩⟩⟩⟩⟩
set_option maxHeartbeats 4000000 in
set_option maxRecDepth 100000 in
theorem cubbyref07_Targets.calls (op d a b : Int) (nm : ByteArray) (args : List Int) (Ag : Option Addr) (cg : Nat) (h1 : 1 ≤ op) (h2 : op ≤ 14) (w : World) (hargs : (Kd.int .i64).C w Ag args.length args) (hal : args.length ≤ 1000000) :
    Calls Try.prog 36 #[.agg #[.int .i64 op, .int .i64 d, .int .i64 a, .int .i64 b, .string nm, .slice Ag args.length cg]] w fun e w' => ∃ v0_ : Value, e = .returned v0_ ∧ Kd.R (Kd.int .i64) 3 w' w.heap.size (fun _ => True) v0_ (Ir.targets op d a b) ∧ Below w.heap.size w w' := by
  have hinfo : (Try.prog.info? 3).map (fun i => (i.zero, i.size, i.bytes)) = some (some (.int .i64 0), 1, 8) := by kernel_rfl
  have HI := Lib.hid hinfo
  have KX : Aside0 (∀ W2, Below (w.alloc (.cells #[.int .i64 op, .int .i64 d, .int .i64 a, .int .i64 b, .string nm, .slice Ag args.length cg] 28)).heap.size (w.alloc (.cells #[.int .i64 op, .int .i64 d, .int .i64 a, .int .i64 b, .string nm, .slice Ag args.length cg] 28)) W2 → W2.cell? ⟨w.heap.size, 0, none⟩ = some (.int .i64 op) ∧ W2.cell? ⟨w.heap.size, 1, none⟩ = some (.int .i64 d) ∧ W2.cell? ⟨w.heap.size, 2, none⟩ = some (.int .i64 a) ∧ W2.cell? ⟨w.heap.size, 3, none⟩ = some (.int .i64 b) ∧ W2.cell? ⟨w.heap.size, 4, none⟩ = some (.string nm) ∧ W2.cell? ⟨w.heap.size, 5, none⟩ = some (.slice Ag args.length cg)) := ⟨fun W2 hb => by
    have e := (hb.block w.heap.size (by simp)).trans (Hw.blk_nw w (.cells #[.int .i64 op, .int .i64 d, .int .i64 a, .int .i64 b, .string nm, .slice Ag args.length cg] 28))
    exact ⟨cell_of_row W2 _ 0 _ _ _ e, cell_of_row W2 _ 1 _ _ _ e, cell_of_row W2 _ 2 _ _ _ e, cell_of_row W2 _ 3 _ _ _ e, cell_of_row W2 _ 4 _ _ _ e, cell_of_row W2 _ 5 _ _ _ e⟩⟩
  have HW1 := Aside0.mk ((Below.refl w.heap.size w).alloc (Nat.le_refl _) (.cells #[.int .i64 op, .int .i64 d, .int .i64 a, .int .i64 b, .string nm, .slice Ag args.length cg] 28))
  have hs1 : w.heap.size ≤ (w.alloc (.cells #[.int .i64 op, .int .i64 d, .int .i64 a, .int .i64 b, .string nm, .slice Ag args.length cg] 28)).heap.size := by simp
  have HA := Aside0.mk hargs
  clear hinfo hargs
  go_enter Try.func36, Try.ntmps36
  go_upto_region 1 with fail
  generalize w.alloc (.cells #[.int .i64 op, .int .i64 d, .int .i64 a, .int .i64 b, .string nm, .slice Ag args.length cg] 28) = W1 at KX HW1 hs1 ⊢
  go_upto_region 2 with ((with_reducible refine gate_dst (N := 4) rfl ?_); refine Kd.R_lit (Kd.int .i64) _ 3 ?hg (N := 4) ?hd (xs := ([] : List (Int))) (inner := []) (ok := fun _ => True) (okp := fun _ => True) ?hr ?hp (fun _ hk => hk) trivial (Below.refl _ _) (Nat.le_refl _) (by simp) ?_; (case hd => rfl); (case hg => rfl); (case hr => first | (go_simp; done) | (go_simp; rfl)); (case hp => exact (Reps.none _ _)); intro v4 w3 ho4 hb hg_ hnew_; clear hg_ hnew_; have HO := Aside0.mk (Kd.R_lower ho4 hs1); have HX := Aside0.mk hb; clear ho4 hb)
  obtain ⟨k0, k1, k2, k3, k4, k5⟩ := KX.out _ HX.out
  have HB := Aside0.mk (HW1.out.trans (HX.out.mono hs1))
  have HC := Aside0.mk (Kd.C_below HA.out HB.out)
  clear KX HW1 HA HX hs1
  rcases Ir.ops op h1 h2 with rfl | rfl | rfl | rfl | rfl | rfl | rfl | rfl | rfl | rfl | rfl | rfl | rfl | rfl
  · clear h1 h2
    go_wp2_with (fail)
    go_ret
    exact ⟨_, rfl, HO.out, HB.out⟩
  · clear h1 h2
    go_wp2_with (fail)
    go_ret
    exact ⟨_, rfl, HO.out, HB.out⟩
  · clear h1 h2
    go_wp2_with (fail)
    go_ret
    exact ⟨_, rfl, HO.out, HB.out⟩
  · clear h1 h2
    go_wp2_with (fail)
    go_ret
    exact ⟨_, rfl, HO.out, HB.out⟩
  · clear h1 h2
    go_wp2_with (fail)
    go_ret
    exact ⟨_, rfl, HO.out, HB.out⟩
  · clear h1 h2
    go_wp2_with (fail)
    go_ret
    exact ⟨_, rfl, HO.out, HB.out⟩
  · clear h1 h2
    go_wp2_with (fail)
    go_ret
    exact ⟨_, rfl, HO.out, HB.out⟩
  · clear h1 h2
    go_wp2_with (fail)
    go_ret
    exact ⟨_, rfl, HO.out, HB.out⟩
  · clear h1 h2
    go_wp2_with (fail)
    go_ret
    exact ⟨_, rfl, HO.out, HB.out⟩
  · clear h1 h2
    go_wp2_with (fail)
    go_ret
    exact ⟨_, rfl, HO.out, HB.out⟩
  · clear h1 h2
    go_wp2_with (fail)
    go_ret
    exact ⟨_, rfl, HO.out, HB.out⟩
  · clear h1 h2
    have HN := Aside0.mk (Hw.blk_nw w3 (.cells #[.int .i64 a] 3))
    have HO := Aside0.mk (Kd.R_alloc HO.out (.cells #[.int .i64 a] 3))
    have HB := Aside0.mk (HB.out.alloc HB.out.size (.cells #[.int .i64 a] 3))
    have hrow : (Kd.int .i64).C (w3.alloc (.cells #[.int .i64 a] 3)) (some ⟨w3.heap.size, 0, none⟩) 1 [a] := by
      refine cubbyref07_Targets.C_block (Kd.int .i64) (t := 3) (xs := [a]) [[.int .i64 a]] HN.out rfl (show (1 : Nat) ≤ 9223372036854775807 by decide) ?_
      intro j x c hj hc
      match j with
      | 0 => cases hj; cases hc; rfl
      | j + 1 => cases hj
    have HR := Aside0.mk hrow
    clear hrow
    (go_wp2_with ((with_reducible refine gate_builtin (b := .append) (xs := #[.tmp 8, .tmp 11]) rfl ?_); at_builtin; refine Kd.R_append_rows (Kd.int .i64) (w0 := w) w.heap.size rfl (.tmp 8) (.tmp 11) 26 3 (.int .i64 0) 8 rfl Try.underlying26 HI.out rfl (by decide) (by omega) v4 ([] : List Int) [a] (some ⟨w3.heap.size, 0, none⟩) 1 1 (fun _ => True) (fun _ => False) rfl rfl HO.out HR.out (fun _ _ h => h) (fun _ h => h.elim) (fun _ _ => trivial) HB.out HB.out.size (by simp only [List.length_nil]; omega) ?_; intro v1 w9 ho hb hg hat; have HO9 := Aside0.mk ho; have HB9 := Aside0.mk hb; clear ho hb hg hat))
    go_ret
    exact ⟨_, rfl, HO9.out, HB9.out⟩
  · clear h1 h2
    have HN := Aside0.mk (Hw.blk_nw w3 (.cells #[.int .i64 b, .int .i64 d] 3))
    have HO := Aside0.mk (Kd.R_alloc HO.out (.cells #[.int .i64 b, .int .i64 d] 3))
    have HB := Aside0.mk (HB.out.alloc HB.out.size (.cells #[.int .i64 b, .int .i64 d] 3))
    have hrow : (Kd.int .i64).C (w3.alloc (.cells #[.int .i64 b, .int .i64 d] 3)) (some ⟨w3.heap.size, 0, none⟩) 2 [b, d] := by
      refine cubbyref07_Targets.C_block (Kd.int .i64) (t := 3) (xs := [b, d]) [[.int .i64 b], [.int .i64 d]] HN.out rfl (show (2 : Nat) ≤ 9223372036854775807 by decide) ?_
      intro j x c hj hc
      match j with
      | 0 => cases hj; cases hc; rfl
      | 1 => cases hj; cases hc; rfl
      | j + 2 => cases hj
    have HR := Aside0.mk hrow
    clear hrow
    (go_wp2_with ((with_reducible refine gate_builtin (b := .append) (xs := #[.tmp 16, .tmp 21]) rfl ?_); at_builtin; refine Kd.R_append_rows (Kd.int .i64) (w0 := w) w.heap.size rfl (.tmp 16) (.tmp 21) 26 3 (.int .i64 0) 8 rfl Try.underlying26 HI.out rfl (by decide) (by omega) v4 ([] : List Int) [b, d] (some ⟨w3.heap.size, 0, none⟩) 2 2 (fun _ => True) (fun _ => False) rfl rfl HO.out HR.out (fun _ _ h => h) (fun _ h => h.elim) (fun _ _ => trivial) HB.out HB.out.size (by simp only [List.length_nil]; omega) ?_; intro v1 w9 ho hb hg hat; have HO9 := Aside0.mk ho; have HB9 := Aside0.mk hb; clear ho hb hg hat))
    go_ret
    exact ⟨_, rfl, HO9.out, HB9.out⟩
  · clear h1 h2
    go_wp2_with (fail)
    go_ret
    exact ⟨_, rfl, HO.out, HB.out⟩

/-! ### cubbyref07_One: function 22 (by hand) -/
/-- What One answers, by what its callees do: L last's, B bare's, df Def's, wu and wt within's, n Name's. -/
def cubbyref07_One.g (op a : Int) (na : Nat) (df regs : Int) (L B wu wt n last : Bool) : Int :=
  if op < 1 ∨ 14 < op ∨ L ≠ last ∨ B = false then 72
  else if (df ≠ -1 ∧ (df < 0 ∨ regs ≤ df)) ∨ wu = false then 73
  else if df = -1 ∧ op ≠ 9 ∧ op ≠ 10 ∧ L = false then 73
  else if op = 1 ∧ (a < 0 ∨ 65536 ≤ a) then 81
  else if wt = false then 74
  else if op = 11 ∧ n = false then 70
  else if op = 11 ∧ 4 < na then 192
  else 0
set_option maxHeartbeats 16000000 in
set_option maxRecDepth 100000 in
theorem cubbyref07_One.walk (op d a b : Int) (nm : ByteArray) (args : List Int) (Ag : Option Addr) (cg : Nat) (regs blocks : Int) (last : Bool) (L B wu wt n : Bool) (df : Int) (us ts : List Int) (w : World) (hargs : (Kd.int .i64).C w Ag args.length args) (hcg : args.length ≤ cg)
    (hL : ∀ W, Calls Try.prog 31 #[.int .i64 op] W fun e w' => e = .returned (.bool L) ∧ Below W.heap.size W w')
    (hB : 1 ≤ op → op ≤ 14 → ∀ W, (Kd.int .i64).C W Ag args.length args → Calls Try.prog 32 #[.agg #[.int .i64 op, .int .i64 d, .int .i64 a, .int .i64 b, .string nm, .slice Ag args.length cg]] W fun e w' => e = .returned (.bool B) ∧ Below W.heap.size W w')
    (hD : 1 ≤ op → op ≤ 14 → ∀ W, (Kd.int .i64).C W Ag args.length args → Calls Try.prog 33 #[.agg #[.int .i64 op, .int .i64 d, .int .i64 a, .int .i64 b, .string nm, .slice Ag args.length cg]] W fun e w' => e = .returned (.int .i64 df) ∧ Below W.heap.size W w')
    (hU : 1 ≤ op → op ≤ 14 → ∀ W, (Kd.int .i64).C W Ag args.length args → Calls Try.prog 35 #[.agg #[.int .i64 op, .int .i64 d, .int .i64 a, .int .i64 b, .string nm, .slice Ag args.length cg]] W fun e w' => ∃ v0_ : Value, e = .returned v0_ ∧ Kd.R (Kd.int .i64) 3 w' W.heap.size (fun _ => True) v0_ us ∧ Below W.heap.size W w')
    (hT : 1 ≤ op → op ≤ 14 → ∀ W, (Kd.int .i64).C W Ag args.length args → Calls Try.prog 36 #[.agg #[.int .i64 op, .int .i64 d, .int .i64 a, .int .i64 b, .string nm, .slice Ag args.length cg]] W fun e w' => ∃ v0_ : Value, e = .returned v0_ ∧ Kd.R (Kd.int .i64) 3 w' W.heap.size (fun _ => True) v0_ ts ∧ Below W.heap.size W w')
    (hWU : ∀ W A c, (Kd.int .i64).C W A us.length us → us.length ≤ c → Calls Try.prog 34 #[.slice A us.length c, .int .i64 regs] W fun e w' => e = .returned (.bool wu) ∧ Below W.heap.size W w')
    (hWT : ∀ W A c, (Kd.int .i64).C W A ts.length ts → ts.length ≤ c → Calls Try.prog 34 #[.slice A ts.length c, .int .i64 blocks] W fun e w' => e = .returned (.bool wt) ∧ Below W.heap.size W w')
    (hN : ∀ W, Calls Try.prog 13 #[.string nm] W fun e w' => e = .returned (.bool n) ∧ Below W.heap.size W w') :
    Calls Try.prog 22 #[.agg #[.int .i64 op, .int .i64 d, .int .i64 a, .int .i64 b, .string nm, .slice Ag args.length cg], .int .i64 regs, .int .i64 blocks, .bool last] w fun e w' => e = .returned (.int .i64 (cubbyref07_One.g op a args.length df regs L B wu wt n last)) ∧ Below w.heap.size w w' := by
  have HA := Aside0.mk hargs
  have HL := Aside0.mk hL
  have HB := Aside0.mk hB
  have HD := Aside0.mk hD
  have HU := Aside0.mk hU
  have HT := Aside0.mk hT
  have HWU := Aside0.mk hWU
  have HWT := Aside0.mk hWT
  have HN := Aside0.mk hN
  have hal : args.length ≤ 9223372036854775807 := hargs.2.1
  clear hargs hL hB hD hU hT hWU hWT hN
  have KX : Aside0 (∀ W2, Below (w.alloc (.cells #[.int .i64 op, .int .i64 d, .int .i64 a, .int .i64 b, .string nm, .slice Ag args.length cg] 28)).heap.size (w.alloc (.cells #[.int .i64 op, .int .i64 d, .int .i64 a, .int .i64 b, .string nm, .slice Ag args.length cg] 28)) W2 → W2.cell? ⟨w.heap.size, 0, none⟩ = some (.int .i64 op) ∧ W2.cell? ⟨w.heap.size, 1, none⟩ = some (.int .i64 d) ∧ W2.cell? ⟨w.heap.size, 2, none⟩ = some (.int .i64 a) ∧ W2.cell? ⟨w.heap.size, 3, none⟩ = some (.int .i64 b) ∧ W2.cell? ⟨w.heap.size, 4, none⟩ = some (.string nm) ∧ W2.cell? ⟨w.heap.size, 5, none⟩ = some (.slice Ag args.length cg)) := ⟨fun W2 hb => by
    have e := (hb.block w.heap.size (by simp)).trans (Hw.blk_nw w (.cells #[.int .i64 op, .int .i64 d, .int .i64 a, .int .i64 b, .string nm, .slice Ag args.length cg] 28))
    exact ⟨cell_of_row W2 _ 0 _ _ _ e, cell_of_row W2 _ 1 _ _ _ e, cell_of_row W2 _ 2 _ _ _ e, cell_of_row W2 _ 3 _ _ _ e, cell_of_row W2 _ 4 _ _ _ e, cell_of_row W2 _ 5 _ _ _ e⟩⟩
  have HX := Aside0.mk (Below.refl (w.alloc (.cells #[.int .i64 op, .int .i64 d, .int .i64 a, .int .i64 b, .string nm, .slice Ag args.length cg] 28)).heap.size (w.alloc (.cells #[.int .i64 op, .int .i64 d, .int .i64 a, .int .i64 b, .string nm, .slice Ag args.length cg] 28)))
  have HW1 := Aside0.mk ((Below.refl w.heap.size w).alloc (Nat.le_refl _) (.cells #[.int .i64 op, .int .i64 d, .int .i64 a, .int .i64 b, .string nm, .slice Ag args.length cg] 28))
  have hs1 : w.heap.size ≤ (w.alloc (.cells #[.int .i64 op, .int .i64 d, .int .i64 a, .int .i64 b, .string nm, .slice Ag args.length cg] 28)).heap.size := by simp
  go_enter Try.func22, Try.ntmps22
  go_upto_region 1 with fail
  generalize w.alloc (.cells #[.int .i64 op, .int .i64 d, .int .i64 a, .int .i64 b, .string nm, .slice Ag args.length cg] 28) = W1 at KX HX HW1 hs1 ⊢
  obtain ⟨k0, k1, k2, k3, k4, k5⟩ := KX.out _ HX.out
  have HEND : Aside0 (∀ W2, Below W1.heap.size W1 W2 → Below w.heap.size w W2) := ⟨fun W2 hb => HW1.out.trans (hb.mono hs1)⟩
  have HC : Aside0 (∀ W2, Below W1.heap.size W1 W2 → (Kd.int .i64).C W2 Ag args.length args) := ⟨fun W2 hb => Kd.C_below HA.out (HEND.out W2 hb)⟩
  clear HA HW1 hs1
  by_cases hop1 : 1 ≤ op
  case neg =>
    have c1 : op < 1 := by omega
    have hres : cubbyref07_One.g op a args.length df regs L B wu wt n last = 72 := by unfold cubbyref07_One.g; simp [c1]
    have HRES := Lib.hid hres; clear hres
    go_wp2_with (first | (go_at_call 31; (with_reducible refine (HL.out _).mono ?_); rintro e w9 ⟨rfl, hb⟩; have HX := Aside0.mk (HX.out.trans (hb.mono HX.out.size)); clear hb k0 k1 k2 k3 k4 k5; obtain ⟨k0, k1, k2, k3, k4, k5⟩ := KX.out _ HX.out) | (go_at_call 32; (with_reducible refine (HB.out HR.out.1 HR.out.2 _ (HC.out _ HX.out)).mono ?_); rintro e w9 ⟨rfl, hb⟩; have HX := Aside0.mk (HX.out.trans (hb.mono HX.out.size)); clear hb k0 k1 k2 k3 k4 k5; obtain ⟨k0, k1, k2, k3, k4, k5⟩ := KX.out _ HX.out) | (go_at_call 33; (with_reducible refine (HD.out HR.out.1 HR.out.2 _ (HC.out _ HX.out)).mono ?_); rintro e w9 ⟨rfl, hb⟩; have HX := Aside0.mk (HX.out.trans (hb.mono HX.out.size)); clear hb k0 k1 k2 k3 k4 k5; obtain ⟨k0, k1, k2, k3, k4, k5⟩ := KX.out _ HX.out) | (go_at_call 35; (with_reducible refine (HU.out HR.out.1 HR.out.2 _ (HC.out _ HX.out)).mono ?_); rintro e w9 ⟨v0, rfl, hr, hb⟩; obtain ⟨Au, cu, rfl, hul, huC⟩ := Kd.R_reads hr; clear hr; have HUC := Aside0.mk (And.intro hul huC); clear hul huC; have HX := Aside0.mk (HX.out.trans (hb.mono HX.out.size)); clear hb k0 k1 k2 k3 k4 k5; obtain ⟨k0, k1, k2, k3, k4, k5⟩ := KX.out _ HX.out) | (go_at_call 34; (with_reducible refine (HWU.out _ _ _ HUC.out.2 HUC.out.1).mono ?_); rintro e w9 ⟨rfl, hb⟩; have HX := Aside0.mk (HX.out.trans (hb.mono HX.out.size)); clear hb k0 k1 k2 k3 k4 k5; obtain ⟨k0, k1, k2, k3, k4, k5⟩ := KX.out _ HX.out) | (go_at_call 36; (with_reducible refine (HT.out HR.out.1 HR.out.2 _ (HC.out _ HX.out)).mono ?_); rintro e w9 ⟨v0, rfl, hr, hb⟩; obtain ⟨At, ct, rfl, htl, htC⟩ := Kd.R_reads hr; clear hr; have HTC := Aside0.mk (And.intro htl htC); clear htl htC; have HX := Aside0.mk (HX.out.trans (hb.mono HX.out.size)); clear hb k0 k1 k2 k3 k4 k5; obtain ⟨k0, k1, k2, k3, k4, k5⟩ := KX.out _ HX.out) | (go_at_call 34; (with_reducible refine (HWT.out _ _ _ HTC.out.2 HTC.out.1).mono ?_); rintro e w9 ⟨rfl, hb⟩; have HX := Aside0.mk (HX.out.trans (hb.mono HX.out.size)); clear hb k0 k1 k2 k3 k4 k5; obtain ⟨k0, k1, k2, k3, k4, k5⟩ := KX.out _ HX.out) | (go_at_call 13; (with_reducible refine (HN.out _).mono ?_); rintro e w9 ⟨rfl, hb⟩; have HX := Aside0.mk (HX.out.trans (hb.mono HX.out.size)); clear hb k0 k1 k2 k3 k4 k5; obtain ⟨k0, k1, k2, k3, k4, k5⟩ := KX.out _ HX.out))
    go_ret
    exact ⟨by rw [HRES.out]; first | done | rfl, HEND.out _ HX.out⟩
  by_cases hop2 : op ≤ 14
  case neg =>
    have c1 : ¬ op < 1 := by omega
    have c2 : 14 < op := by omega
    have hres : cubbyref07_One.g op a args.length df regs L B wu wt n last = 72 := by unfold cubbyref07_One.g; simp [c1, c2]
    have HRES := Lib.hid hres; clear hres
    go_wp2_with (first | (go_at_call 31; (with_reducible refine (HL.out _).mono ?_); rintro e w9 ⟨rfl, hb⟩; have HX := Aside0.mk (HX.out.trans (hb.mono HX.out.size)); clear hb k0 k1 k2 k3 k4 k5; obtain ⟨k0, k1, k2, k3, k4, k5⟩ := KX.out _ HX.out) | (go_at_call 32; (with_reducible refine (HB.out HR.out.1 HR.out.2 _ (HC.out _ HX.out)).mono ?_); rintro e w9 ⟨rfl, hb⟩; have HX := Aside0.mk (HX.out.trans (hb.mono HX.out.size)); clear hb k0 k1 k2 k3 k4 k5; obtain ⟨k0, k1, k2, k3, k4, k5⟩ := KX.out _ HX.out) | (go_at_call 33; (with_reducible refine (HD.out HR.out.1 HR.out.2 _ (HC.out _ HX.out)).mono ?_); rintro e w9 ⟨rfl, hb⟩; have HX := Aside0.mk (HX.out.trans (hb.mono HX.out.size)); clear hb k0 k1 k2 k3 k4 k5; obtain ⟨k0, k1, k2, k3, k4, k5⟩ := KX.out _ HX.out) | (go_at_call 35; (with_reducible refine (HU.out HR.out.1 HR.out.2 _ (HC.out _ HX.out)).mono ?_); rintro e w9 ⟨v0, rfl, hr, hb⟩; obtain ⟨Au, cu, rfl, hul, huC⟩ := Kd.R_reads hr; clear hr; have HUC := Aside0.mk (And.intro hul huC); clear hul huC; have HX := Aside0.mk (HX.out.trans (hb.mono HX.out.size)); clear hb k0 k1 k2 k3 k4 k5; obtain ⟨k0, k1, k2, k3, k4, k5⟩ := KX.out _ HX.out) | (go_at_call 34; (with_reducible refine (HWU.out _ _ _ HUC.out.2 HUC.out.1).mono ?_); rintro e w9 ⟨rfl, hb⟩; have HX := Aside0.mk (HX.out.trans (hb.mono HX.out.size)); clear hb k0 k1 k2 k3 k4 k5; obtain ⟨k0, k1, k2, k3, k4, k5⟩ := KX.out _ HX.out) | (go_at_call 36; (with_reducible refine (HT.out HR.out.1 HR.out.2 _ (HC.out _ HX.out)).mono ?_); rintro e w9 ⟨v0, rfl, hr, hb⟩; obtain ⟨At, ct, rfl, htl, htC⟩ := Kd.R_reads hr; clear hr; have HTC := Aside0.mk (And.intro htl htC); clear htl htC; have HX := Aside0.mk (HX.out.trans (hb.mono HX.out.size)); clear hb k0 k1 k2 k3 k4 k5; obtain ⟨k0, k1, k2, k3, k4, k5⟩ := KX.out _ HX.out) | (go_at_call 34; (with_reducible refine (HWT.out _ _ _ HTC.out.2 HTC.out.1).mono ?_); rintro e w9 ⟨rfl, hb⟩; have HX := Aside0.mk (HX.out.trans (hb.mono HX.out.size)); clear hb k0 k1 k2 k3 k4 k5; obtain ⟨k0, k1, k2, k3, k4, k5⟩ := KX.out _ HX.out) | (go_at_call 13; (with_reducible refine (HN.out _).mono ?_); rintro e w9 ⟨rfl, hb⟩; have HX := Aside0.mk (HX.out.trans (hb.mono HX.out.size)); clear hb k0 k1 k2 k3 k4 k5; obtain ⟨k0, k1, k2, k3, k4, k5⟩ := KX.out _ HX.out))
    go_ret
    exact ⟨by rw [HRES.out]; first | done | rfl, HEND.out _ HX.out⟩
  have c1 : ¬ op < 1 := by omega
  have c2 : ¬ 14 < op := by omega
  have HR := Aside0.mk (And.intro hop1 hop2)
  by_cases hLl : L = last
  case neg =>
    have e2 : (L != last) = true := bne_iff_ne.2 hLl
    have hres : cubbyref07_One.g op a args.length df regs L B wu wt n last = 72 := by unfold cubbyref07_One.g; simp [c1, c2, hLl]
    have HRES := Lib.hid hres; clear hres
    go_wp2_with (first | (go_at_call 31; (with_reducible refine (HL.out _).mono ?_); rintro e w9 ⟨rfl, hb⟩; have HX := Aside0.mk (HX.out.trans (hb.mono HX.out.size)); clear hb k0 k1 k2 k3 k4 k5; obtain ⟨k0, k1, k2, k3, k4, k5⟩ := KX.out _ HX.out) | (go_at_call 32; (with_reducible refine (HB.out HR.out.1 HR.out.2 _ (HC.out _ HX.out)).mono ?_); rintro e w9 ⟨rfl, hb⟩; have HX := Aside0.mk (HX.out.trans (hb.mono HX.out.size)); clear hb k0 k1 k2 k3 k4 k5; obtain ⟨k0, k1, k2, k3, k4, k5⟩ := KX.out _ HX.out) | (go_at_call 33; (with_reducible refine (HD.out HR.out.1 HR.out.2 _ (HC.out _ HX.out)).mono ?_); rintro e w9 ⟨rfl, hb⟩; have HX := Aside0.mk (HX.out.trans (hb.mono HX.out.size)); clear hb k0 k1 k2 k3 k4 k5; obtain ⟨k0, k1, k2, k3, k4, k5⟩ := KX.out _ HX.out) | (go_at_call 35; (with_reducible refine (HU.out HR.out.1 HR.out.2 _ (HC.out _ HX.out)).mono ?_); rintro e w9 ⟨v0, rfl, hr, hb⟩; obtain ⟨Au, cu, rfl, hul, huC⟩ := Kd.R_reads hr; clear hr; have HUC := Aside0.mk (And.intro hul huC); clear hul huC; have HX := Aside0.mk (HX.out.trans (hb.mono HX.out.size)); clear hb k0 k1 k2 k3 k4 k5; obtain ⟨k0, k1, k2, k3, k4, k5⟩ := KX.out _ HX.out) | (go_at_call 34; (with_reducible refine (HWU.out _ _ _ HUC.out.2 HUC.out.1).mono ?_); rintro e w9 ⟨rfl, hb⟩; have HX := Aside0.mk (HX.out.trans (hb.mono HX.out.size)); clear hb k0 k1 k2 k3 k4 k5; obtain ⟨k0, k1, k2, k3, k4, k5⟩ := KX.out _ HX.out) | (go_at_call 36; (with_reducible refine (HT.out HR.out.1 HR.out.2 _ (HC.out _ HX.out)).mono ?_); rintro e w9 ⟨v0, rfl, hr, hb⟩; obtain ⟨At, ct, rfl, htl, htC⟩ := Kd.R_reads hr; clear hr; have HTC := Aside0.mk (And.intro htl htC); clear htl htC; have HX := Aside0.mk (HX.out.trans (hb.mono HX.out.size)); clear hb k0 k1 k2 k3 k4 k5; obtain ⟨k0, k1, k2, k3, k4, k5⟩ := KX.out _ HX.out) | (go_at_call 34; (with_reducible refine (HWT.out _ _ _ HTC.out.2 HTC.out.1).mono ?_); rintro e w9 ⟨rfl, hb⟩; have HX := Aside0.mk (HX.out.trans (hb.mono HX.out.size)); clear hb k0 k1 k2 k3 k4 k5; obtain ⟨k0, k1, k2, k3, k4, k5⟩ := KX.out _ HX.out) | (go_at_call 13; (with_reducible refine (HN.out _).mono ?_); rintro e w9 ⟨rfl, hb⟩; have HX := Aside0.mk (HX.out.trans (hb.mono HX.out.size)); clear hb k0 k1 k2 k3 k4 k5; obtain ⟨k0, k1, k2, k3, k4, k5⟩ := KX.out _ HX.out))
    go_ret
    exact ⟨by rw [HRES.out]; first | done | rfl, HEND.out _ HX.out⟩
  subst hLl
  cases B with
  | false =>
    have hres : cubbyref07_One.g op a args.length df regs L false wu wt n L = 72 := by unfold cubbyref07_One.g; simp [c1, c2]
    have HRES := Lib.hid hres; clear hres
    go_wp2_with (first | (go_at_call 31; (with_reducible refine (HL.out _).mono ?_); rintro e w9 ⟨rfl, hb⟩; have HX := Aside0.mk (HX.out.trans (hb.mono HX.out.size)); clear hb k0 k1 k2 k3 k4 k5; obtain ⟨k0, k1, k2, k3, k4, k5⟩ := KX.out _ HX.out) | (go_at_call 32; (with_reducible refine (HB.out HR.out.1 HR.out.2 _ (HC.out _ HX.out)).mono ?_); rintro e w9 ⟨rfl, hb⟩; have HX := Aside0.mk (HX.out.trans (hb.mono HX.out.size)); clear hb k0 k1 k2 k3 k4 k5; obtain ⟨k0, k1, k2, k3, k4, k5⟩ := KX.out _ HX.out) | (go_at_call 33; (with_reducible refine (HD.out HR.out.1 HR.out.2 _ (HC.out _ HX.out)).mono ?_); rintro e w9 ⟨rfl, hb⟩; have HX := Aside0.mk (HX.out.trans (hb.mono HX.out.size)); clear hb k0 k1 k2 k3 k4 k5; obtain ⟨k0, k1, k2, k3, k4, k5⟩ := KX.out _ HX.out) | (go_at_call 35; (with_reducible refine (HU.out HR.out.1 HR.out.2 _ (HC.out _ HX.out)).mono ?_); rintro e w9 ⟨v0, rfl, hr, hb⟩; obtain ⟨Au, cu, rfl, hul, huC⟩ := Kd.R_reads hr; clear hr; have HUC := Aside0.mk (And.intro hul huC); clear hul huC; have HX := Aside0.mk (HX.out.trans (hb.mono HX.out.size)); clear hb k0 k1 k2 k3 k4 k5; obtain ⟨k0, k1, k2, k3, k4, k5⟩ := KX.out _ HX.out) | (go_at_call 34; (with_reducible refine (HWU.out _ _ _ HUC.out.2 HUC.out.1).mono ?_); rintro e w9 ⟨rfl, hb⟩; have HX := Aside0.mk (HX.out.trans (hb.mono HX.out.size)); clear hb k0 k1 k2 k3 k4 k5; obtain ⟨k0, k1, k2, k3, k4, k5⟩ := KX.out _ HX.out) | (go_at_call 36; (with_reducible refine (HT.out HR.out.1 HR.out.2 _ (HC.out _ HX.out)).mono ?_); rintro e w9 ⟨v0, rfl, hr, hb⟩; obtain ⟨At, ct, rfl, htl, htC⟩ := Kd.R_reads hr; clear hr; have HTC := Aside0.mk (And.intro htl htC); clear htl htC; have HX := Aside0.mk (HX.out.trans (hb.mono HX.out.size)); clear hb k0 k1 k2 k3 k4 k5; obtain ⟨k0, k1, k2, k3, k4, k5⟩ := KX.out _ HX.out) | (go_at_call 34; (with_reducible refine (HWT.out _ _ _ HTC.out.2 HTC.out.1).mono ?_); rintro e w9 ⟨rfl, hb⟩; have HX := Aside0.mk (HX.out.trans (hb.mono HX.out.size)); clear hb k0 k1 k2 k3 k4 k5; obtain ⟨k0, k1, k2, k3, k4, k5⟩ := KX.out _ HX.out) | (go_at_call 13; (with_reducible refine (HN.out _).mono ?_); rintro e w9 ⟨rfl, hb⟩; have HX := Aside0.mk (HX.out.trans (hb.mono HX.out.size)); clear hb k0 k1 k2 k3 k4 k5; obtain ⟨k0, k1, k2, k3, k4, k5⟩ := KX.out _ HX.out))
    go_ret
    exact ⟨by rw [HRES.out]; first | done | rfl, HEND.out _ HX.out⟩
  | true =>
    go_upto_region 3 with (first | (go_at_call 31; (with_reducible refine (HL.out _).mono ?_); rintro e w9 ⟨rfl, hb⟩; have HX := Aside0.mk (HX.out.trans (hb.mono HX.out.size)); clear hb k0 k1 k2 k3 k4 k5; obtain ⟨k0, k1, k2, k3, k4, k5⟩ := KX.out _ HX.out) | (go_at_call 32; (with_reducible refine (HB.out HR.out.1 HR.out.2 _ (HC.out _ HX.out)).mono ?_); rintro e w9 ⟨rfl, hb⟩; have HX := Aside0.mk (HX.out.trans (hb.mono HX.out.size)); clear hb k0 k1 k2 k3 k4 k5; obtain ⟨k0, k1, k2, k3, k4, k5⟩ := KX.out _ HX.out) | (go_at_call 33; (with_reducible refine (HD.out HR.out.1 HR.out.2 _ (HC.out _ HX.out)).mono ?_); rintro e w9 ⟨rfl, hb⟩; have HX := Aside0.mk (HX.out.trans (hb.mono HX.out.size)); clear hb k0 k1 k2 k3 k4 k5; obtain ⟨k0, k1, k2, k3, k4, k5⟩ := KX.out _ HX.out) | (go_at_call 35; (with_reducible refine (HU.out HR.out.1 HR.out.2 _ (HC.out _ HX.out)).mono ?_); rintro e w9 ⟨v0, rfl, hr, hb⟩; obtain ⟨Au, cu, rfl, hul, huC⟩ := Kd.R_reads hr; clear hr; have HUC := Aside0.mk (And.intro hul huC); clear hul huC; have HX := Aside0.mk (HX.out.trans (hb.mono HX.out.size)); clear hb k0 k1 k2 k3 k4 k5; obtain ⟨k0, k1, k2, k3, k4, k5⟩ := KX.out _ HX.out) | (go_at_call 34; (with_reducible refine (HWU.out _ _ _ HUC.out.2 HUC.out.1).mono ?_); rintro e w9 ⟨rfl, hb⟩; have HX := Aside0.mk (HX.out.trans (hb.mono HX.out.size)); clear hb k0 k1 k2 k3 k4 k5; obtain ⟨k0, k1, k2, k3, k4, k5⟩ := KX.out _ HX.out) | (go_at_call 36; (with_reducible refine (HT.out HR.out.1 HR.out.2 _ (HC.out _ HX.out)).mono ?_); rintro e w9 ⟨v0, rfl, hr, hb⟩; obtain ⟨At, ct, rfl, htl, htC⟩ := Kd.R_reads hr; clear hr; have HTC := Aside0.mk (And.intro htl htC); clear htl htC; have HX := Aside0.mk (HX.out.trans (hb.mono HX.out.size)); clear hb k0 k1 k2 k3 k4 k5; obtain ⟨k0, k1, k2, k3, k4, k5⟩ := KX.out _ HX.out) | (go_at_call 34; (with_reducible refine (HWT.out _ _ _ HTC.out.2 HTC.out.1).mono ?_); rintro e w9 ⟨rfl, hb⟩; have HX := Aside0.mk (HX.out.trans (hb.mono HX.out.size)); clear hb k0 k1 k2 k3 k4 k5; obtain ⟨k0, k1, k2, k3, k4, k5⟩ := KX.out _ HX.out) | (go_at_call 13; (with_reducible refine (HN.out _).mono ?_); rintro e w9 ⟨rfl, hb⟩; have HX := Aside0.mk (HX.out.trans (hb.mono HX.out.size)); clear hb k0 k1 k2 k3 k4 k5; obtain ⟨k0, k1, k2, k3, k4, k5⟩ := KX.out _ HX.out))
    by_cases hdf : df = -1
    case pos =>
      subst hdf
      cases wu with
      | false =>
        have hres : cubbyref07_One.g op a args.length (-1) regs L true false wt n L = 73 := by unfold cubbyref07_One.g; simp [c1, c2]
        have HRES := Lib.hid hres; clear hres
        go_wp2_with (first | (go_at_call 31; (with_reducible refine (HL.out _).mono ?_); rintro e w9 ⟨rfl, hb⟩; have HX := Aside0.mk (HX.out.trans (hb.mono HX.out.size)); clear hb k0 k1 k2 k3 k4 k5; obtain ⟨k0, k1, k2, k3, k4, k5⟩ := KX.out _ HX.out) | (go_at_call 32; (with_reducible refine (HB.out HR.out.1 HR.out.2 _ (HC.out _ HX.out)).mono ?_); rintro e w9 ⟨rfl, hb⟩; have HX := Aside0.mk (HX.out.trans (hb.mono HX.out.size)); clear hb k0 k1 k2 k3 k4 k5; obtain ⟨k0, k1, k2, k3, k4, k5⟩ := KX.out _ HX.out) | (go_at_call 33; (with_reducible refine (HD.out HR.out.1 HR.out.2 _ (HC.out _ HX.out)).mono ?_); rintro e w9 ⟨rfl, hb⟩; have HX := Aside0.mk (HX.out.trans (hb.mono HX.out.size)); clear hb k0 k1 k2 k3 k4 k5; obtain ⟨k0, k1, k2, k3, k4, k5⟩ := KX.out _ HX.out) | (go_at_call 35; (with_reducible refine (HU.out HR.out.1 HR.out.2 _ (HC.out _ HX.out)).mono ?_); rintro e w9 ⟨v0, rfl, hr, hb⟩; obtain ⟨Au, cu, rfl, hul, huC⟩ := Kd.R_reads hr; clear hr; have HUC := Aside0.mk (And.intro hul huC); clear hul huC; have HX := Aside0.mk (HX.out.trans (hb.mono HX.out.size)); clear hb k0 k1 k2 k3 k4 k5; obtain ⟨k0, k1, k2, k3, k4, k5⟩ := KX.out _ HX.out) | (go_at_call 34; (with_reducible refine (HWU.out _ _ _ HUC.out.2 HUC.out.1).mono ?_); rintro e w9 ⟨rfl, hb⟩; have HX := Aside0.mk (HX.out.trans (hb.mono HX.out.size)); clear hb k0 k1 k2 k3 k4 k5; obtain ⟨k0, k1, k2, k3, k4, k5⟩ := KX.out _ HX.out) | (go_at_call 36; (with_reducible refine (HT.out HR.out.1 HR.out.2 _ (HC.out _ HX.out)).mono ?_); rintro e w9 ⟨v0, rfl, hr, hb⟩; obtain ⟨At, ct, rfl, htl, htC⟩ := Kd.R_reads hr; clear hr; have HTC := Aside0.mk (And.intro htl htC); clear htl htC; have HX := Aside0.mk (HX.out.trans (hb.mono HX.out.size)); clear hb k0 k1 k2 k3 k4 k5; obtain ⟨k0, k1, k2, k3, k4, k5⟩ := KX.out _ HX.out) | (go_at_call 34; (with_reducible refine (HWT.out _ _ _ HTC.out.2 HTC.out.1).mono ?_); rintro e w9 ⟨rfl, hb⟩; have HX := Aside0.mk (HX.out.trans (hb.mono HX.out.size)); clear hb k0 k1 k2 k3 k4 k5; obtain ⟨k0, k1, k2, k3, k4, k5⟩ := KX.out _ HX.out) | (go_at_call 13; (with_reducible refine (HN.out _).mono ?_); rintro e w9 ⟨rfl, hb⟩; have HX := Aside0.mk (HX.out.trans (hb.mono HX.out.size)); clear hb k0 k1 k2 k3 k4 k5; obtain ⟨k0, k1, k2, k3, k4, k5⟩ := KX.out _ HX.out))
        go_ret
        exact ⟨by rw [HRES.out]; first | done | rfl, HEND.out _ HX.out⟩
      | true =>
        go_upto_region 5 with (first | (go_at_call 31; (with_reducible refine (HL.out _).mono ?_); rintro e w9 ⟨rfl, hb⟩; have HX := Aside0.mk (HX.out.trans (hb.mono HX.out.size)); clear hb k0 k1 k2 k3 k4 k5; obtain ⟨k0, k1, k2, k3, k4, k5⟩ := KX.out _ HX.out) | (go_at_call 32; (with_reducible refine (HB.out HR.out.1 HR.out.2 _ (HC.out _ HX.out)).mono ?_); rintro e w9 ⟨rfl, hb⟩; have HX := Aside0.mk (HX.out.trans (hb.mono HX.out.size)); clear hb k0 k1 k2 k3 k4 k5; obtain ⟨k0, k1, k2, k3, k4, k5⟩ := KX.out _ HX.out) | (go_at_call 33; (with_reducible refine (HD.out HR.out.1 HR.out.2 _ (HC.out _ HX.out)).mono ?_); rintro e w9 ⟨rfl, hb⟩; have HX := Aside0.mk (HX.out.trans (hb.mono HX.out.size)); clear hb k0 k1 k2 k3 k4 k5; obtain ⟨k0, k1, k2, k3, k4, k5⟩ := KX.out _ HX.out) | (go_at_call 35; (with_reducible refine (HU.out HR.out.1 HR.out.2 _ (HC.out _ HX.out)).mono ?_); rintro e w9 ⟨v0, rfl, hr, hb⟩; obtain ⟨Au, cu, rfl, hul, huC⟩ := Kd.R_reads hr; clear hr; have HUC := Aside0.mk (And.intro hul huC); clear hul huC; have HX := Aside0.mk (HX.out.trans (hb.mono HX.out.size)); clear hb k0 k1 k2 k3 k4 k5; obtain ⟨k0, k1, k2, k3, k4, k5⟩ := KX.out _ HX.out) | (go_at_call 34; (with_reducible refine (HWU.out _ _ _ HUC.out.2 HUC.out.1).mono ?_); rintro e w9 ⟨rfl, hb⟩; have HX := Aside0.mk (HX.out.trans (hb.mono HX.out.size)); clear hb k0 k1 k2 k3 k4 k5; obtain ⟨k0, k1, k2, k3, k4, k5⟩ := KX.out _ HX.out) | (go_at_call 36; (with_reducible refine (HT.out HR.out.1 HR.out.2 _ (HC.out _ HX.out)).mono ?_); rintro e w9 ⟨v0, rfl, hr, hb⟩; obtain ⟨At, ct, rfl, htl, htC⟩ := Kd.R_reads hr; clear hr; have HTC := Aside0.mk (And.intro htl htC); clear htl htC; have HX := Aside0.mk (HX.out.trans (hb.mono HX.out.size)); clear hb k0 k1 k2 k3 k4 k5; obtain ⟨k0, k1, k2, k3, k4, k5⟩ := KX.out _ HX.out) | (go_at_call 34; (with_reducible refine (HWT.out _ _ _ HTC.out.2 HTC.out.1).mono ?_); rintro e w9 ⟨rfl, hb⟩; have HX := Aside0.mk (HX.out.trans (hb.mono HX.out.size)); clear hb k0 k1 k2 k3 k4 k5; obtain ⟨k0, k1, k2, k3, k4, k5⟩ := KX.out _ HX.out) | (go_at_call 13; (with_reducible refine (HN.out _).mono ?_); rintro e w9 ⟨rfl, hb⟩; have HX := Aside0.mk (HX.out.trans (hb.mono HX.out.size)); clear hb k0 k1 k2 k3 k4 k5; obtain ⟨k0, k1, k2, k3, k4, k5⟩ := KX.out _ HX.out))
        by_cases h9 : op = 9
        case pos =>
          subst h9
          cases wt with
          | false =>
            have hres : cubbyref07_One.g 9 a args.length (-1) regs L true true false n L = 74 := by unfold cubbyref07_One.g; simp [c1, c2]
            have HRES := Lib.hid hres; clear hres
            go_wp2_with (first | (go_at_call 31; (with_reducible refine (HL.out _).mono ?_); rintro e w9 ⟨rfl, hb⟩; have HX := Aside0.mk (HX.out.trans (hb.mono HX.out.size)); clear hb k0 k1 k2 k3 k4 k5; obtain ⟨k0, k1, k2, k3, k4, k5⟩ := KX.out _ HX.out) | (go_at_call 32; (with_reducible refine (HB.out HR.out.1 HR.out.2 _ (HC.out _ HX.out)).mono ?_); rintro e w9 ⟨rfl, hb⟩; have HX := Aside0.mk (HX.out.trans (hb.mono HX.out.size)); clear hb k0 k1 k2 k3 k4 k5; obtain ⟨k0, k1, k2, k3, k4, k5⟩ := KX.out _ HX.out) | (go_at_call 33; (with_reducible refine (HD.out HR.out.1 HR.out.2 _ (HC.out _ HX.out)).mono ?_); rintro e w9 ⟨rfl, hb⟩; have HX := Aside0.mk (HX.out.trans (hb.mono HX.out.size)); clear hb k0 k1 k2 k3 k4 k5; obtain ⟨k0, k1, k2, k3, k4, k5⟩ := KX.out _ HX.out) | (go_at_call 35; (with_reducible refine (HU.out HR.out.1 HR.out.2 _ (HC.out _ HX.out)).mono ?_); rintro e w9 ⟨v0, rfl, hr, hb⟩; obtain ⟨Au, cu, rfl, hul, huC⟩ := Kd.R_reads hr; clear hr; have HUC := Aside0.mk (And.intro hul huC); clear hul huC; have HX := Aside0.mk (HX.out.trans (hb.mono HX.out.size)); clear hb k0 k1 k2 k3 k4 k5; obtain ⟨k0, k1, k2, k3, k4, k5⟩ := KX.out _ HX.out) | (go_at_call 34; (with_reducible refine (HWU.out _ _ _ HUC.out.2 HUC.out.1).mono ?_); rintro e w9 ⟨rfl, hb⟩; have HX := Aside0.mk (HX.out.trans (hb.mono HX.out.size)); clear hb k0 k1 k2 k3 k4 k5; obtain ⟨k0, k1, k2, k3, k4, k5⟩ := KX.out _ HX.out) | (go_at_call 36; (with_reducible refine (HT.out HR.out.1 HR.out.2 _ (HC.out _ HX.out)).mono ?_); rintro e w9 ⟨v0, rfl, hr, hb⟩; obtain ⟨At, ct, rfl, htl, htC⟩ := Kd.R_reads hr; clear hr; have HTC := Aside0.mk (And.intro htl htC); clear htl htC; have HX := Aside0.mk (HX.out.trans (hb.mono HX.out.size)); clear hb k0 k1 k2 k3 k4 k5; obtain ⟨k0, k1, k2, k3, k4, k5⟩ := KX.out _ HX.out) | (go_at_call 34; (with_reducible refine (HWT.out _ _ _ HTC.out.2 HTC.out.1).mono ?_); rintro e w9 ⟨rfl, hb⟩; have HX := Aside0.mk (HX.out.trans (hb.mono HX.out.size)); clear hb k0 k1 k2 k3 k4 k5; obtain ⟨k0, k1, k2, k3, k4, k5⟩ := KX.out _ HX.out) | (go_at_call 13; (with_reducible refine (HN.out _).mono ?_); rintro e w9 ⟨rfl, hb⟩; have HX := Aside0.mk (HX.out.trans (hb.mono HX.out.size)); clear hb k0 k1 k2 k3 k4 k5; obtain ⟨k0, k1, k2, k3, k4, k5⟩ := KX.out _ HX.out))
            go_ret
            exact ⟨by rw [HRES.out]; first | done | rfl, HEND.out _ HX.out⟩
          | true =>
            have hres : cubbyref07_One.g 9 a args.length (-1) regs L true true true n L = 0 := by unfold cubbyref07_One.g; simp [c1, c2]
            have HRES := Lib.hid hres; clear hres
            go_wp2_with (first | (go_at_call 31; (with_reducible refine (HL.out _).mono ?_); rintro e w9 ⟨rfl, hb⟩; have HX := Aside0.mk (HX.out.trans (hb.mono HX.out.size)); clear hb k0 k1 k2 k3 k4 k5; obtain ⟨k0, k1, k2, k3, k4, k5⟩ := KX.out _ HX.out) | (go_at_call 32; (with_reducible refine (HB.out HR.out.1 HR.out.2 _ (HC.out _ HX.out)).mono ?_); rintro e w9 ⟨rfl, hb⟩; have HX := Aside0.mk (HX.out.trans (hb.mono HX.out.size)); clear hb k0 k1 k2 k3 k4 k5; obtain ⟨k0, k1, k2, k3, k4, k5⟩ := KX.out _ HX.out) | (go_at_call 33; (with_reducible refine (HD.out HR.out.1 HR.out.2 _ (HC.out _ HX.out)).mono ?_); rintro e w9 ⟨rfl, hb⟩; have HX := Aside0.mk (HX.out.trans (hb.mono HX.out.size)); clear hb k0 k1 k2 k3 k4 k5; obtain ⟨k0, k1, k2, k3, k4, k5⟩ := KX.out _ HX.out) | (go_at_call 35; (with_reducible refine (HU.out HR.out.1 HR.out.2 _ (HC.out _ HX.out)).mono ?_); rintro e w9 ⟨v0, rfl, hr, hb⟩; obtain ⟨Au, cu, rfl, hul, huC⟩ := Kd.R_reads hr; clear hr; have HUC := Aside0.mk (And.intro hul huC); clear hul huC; have HX := Aside0.mk (HX.out.trans (hb.mono HX.out.size)); clear hb k0 k1 k2 k3 k4 k5; obtain ⟨k0, k1, k2, k3, k4, k5⟩ := KX.out _ HX.out) | (go_at_call 34; (with_reducible refine (HWU.out _ _ _ HUC.out.2 HUC.out.1).mono ?_); rintro e w9 ⟨rfl, hb⟩; have HX := Aside0.mk (HX.out.trans (hb.mono HX.out.size)); clear hb k0 k1 k2 k3 k4 k5; obtain ⟨k0, k1, k2, k3, k4, k5⟩ := KX.out _ HX.out) | (go_at_call 36; (with_reducible refine (HT.out HR.out.1 HR.out.2 _ (HC.out _ HX.out)).mono ?_); rintro e w9 ⟨v0, rfl, hr, hb⟩; obtain ⟨At, ct, rfl, htl, htC⟩ := Kd.R_reads hr; clear hr; have HTC := Aside0.mk (And.intro htl htC); clear htl htC; have HX := Aside0.mk (HX.out.trans (hb.mono HX.out.size)); clear hb k0 k1 k2 k3 k4 k5; obtain ⟨k0, k1, k2, k3, k4, k5⟩ := KX.out _ HX.out) | (go_at_call 34; (with_reducible refine (HWT.out _ _ _ HTC.out.2 HTC.out.1).mono ?_); rintro e w9 ⟨rfl, hb⟩; have HX := Aside0.mk (HX.out.trans (hb.mono HX.out.size)); clear hb k0 k1 k2 k3 k4 k5; obtain ⟨k0, k1, k2, k3, k4, k5⟩ := KX.out _ HX.out) | (go_at_call 13; (with_reducible refine (HN.out _).mono ?_); rintro e w9 ⟨rfl, hb⟩; have HX := Aside0.mk (HX.out.trans (hb.mono HX.out.size)); clear hb k0 k1 k2 k3 k4 k5; obtain ⟨k0, k1, k2, k3, k4, k5⟩ := KX.out _ HX.out))
            go_ret
            exact ⟨by rw [HRES.out]; first | done | rfl, HEND.out _ HX.out⟩
        have e9 : (op != 9) = true := bne_iff_ne.2 h9
        have e9' : decide (op = 9) = false := decide_eq_false h9
        by_cases h10 : op = 10
        case pos =>
          subst h10
          cases wt with
          | false =>
            have hres : cubbyref07_One.g 10 a args.length (-1) regs L true true false n L = 74 := by unfold cubbyref07_One.g; simp [c1, c2]
            have HRES := Lib.hid hres; clear hres
            go_wp2_with (first | (go_at_call 31; (with_reducible refine (HL.out _).mono ?_); rintro e w9 ⟨rfl, hb⟩; have HX := Aside0.mk (HX.out.trans (hb.mono HX.out.size)); clear hb k0 k1 k2 k3 k4 k5; obtain ⟨k0, k1, k2, k3, k4, k5⟩ := KX.out _ HX.out) | (go_at_call 32; (with_reducible refine (HB.out HR.out.1 HR.out.2 _ (HC.out _ HX.out)).mono ?_); rintro e w9 ⟨rfl, hb⟩; have HX := Aside0.mk (HX.out.trans (hb.mono HX.out.size)); clear hb k0 k1 k2 k3 k4 k5; obtain ⟨k0, k1, k2, k3, k4, k5⟩ := KX.out _ HX.out) | (go_at_call 33; (with_reducible refine (HD.out HR.out.1 HR.out.2 _ (HC.out _ HX.out)).mono ?_); rintro e w9 ⟨rfl, hb⟩; have HX := Aside0.mk (HX.out.trans (hb.mono HX.out.size)); clear hb k0 k1 k2 k3 k4 k5; obtain ⟨k0, k1, k2, k3, k4, k5⟩ := KX.out _ HX.out) | (go_at_call 35; (with_reducible refine (HU.out HR.out.1 HR.out.2 _ (HC.out _ HX.out)).mono ?_); rintro e w9 ⟨v0, rfl, hr, hb⟩; obtain ⟨Au, cu, rfl, hul, huC⟩ := Kd.R_reads hr; clear hr; have HUC := Aside0.mk (And.intro hul huC); clear hul huC; have HX := Aside0.mk (HX.out.trans (hb.mono HX.out.size)); clear hb k0 k1 k2 k3 k4 k5; obtain ⟨k0, k1, k2, k3, k4, k5⟩ := KX.out _ HX.out) | (go_at_call 34; (with_reducible refine (HWU.out _ _ _ HUC.out.2 HUC.out.1).mono ?_); rintro e w9 ⟨rfl, hb⟩; have HX := Aside0.mk (HX.out.trans (hb.mono HX.out.size)); clear hb k0 k1 k2 k3 k4 k5; obtain ⟨k0, k1, k2, k3, k4, k5⟩ := KX.out _ HX.out) | (go_at_call 36; (with_reducible refine (HT.out HR.out.1 HR.out.2 _ (HC.out _ HX.out)).mono ?_); rintro e w9 ⟨v0, rfl, hr, hb⟩; obtain ⟨At, ct, rfl, htl, htC⟩ := Kd.R_reads hr; clear hr; have HTC := Aside0.mk (And.intro htl htC); clear htl htC; have HX := Aside0.mk (HX.out.trans (hb.mono HX.out.size)); clear hb k0 k1 k2 k3 k4 k5; obtain ⟨k0, k1, k2, k3, k4, k5⟩ := KX.out _ HX.out) | (go_at_call 34; (with_reducible refine (HWT.out _ _ _ HTC.out.2 HTC.out.1).mono ?_); rintro e w9 ⟨rfl, hb⟩; have HX := Aside0.mk (HX.out.trans (hb.mono HX.out.size)); clear hb k0 k1 k2 k3 k4 k5; obtain ⟨k0, k1, k2, k3, k4, k5⟩ := KX.out _ HX.out) | (go_at_call 13; (with_reducible refine (HN.out _).mono ?_); rintro e w9 ⟨rfl, hb⟩; have HX := Aside0.mk (HX.out.trans (hb.mono HX.out.size)); clear hb k0 k1 k2 k3 k4 k5; obtain ⟨k0, k1, k2, k3, k4, k5⟩ := KX.out _ HX.out))
            go_ret
            exact ⟨by rw [HRES.out]; first | done | rfl, HEND.out _ HX.out⟩
          | true =>
            have hres : cubbyref07_One.g 10 a args.length (-1) regs L true true true n L = 0 := by unfold cubbyref07_One.g; simp [c1, c2]
            have HRES := Lib.hid hres; clear hres
            go_wp2_with (first | (go_at_call 31; (with_reducible refine (HL.out _).mono ?_); rintro e w9 ⟨rfl, hb⟩; have HX := Aside0.mk (HX.out.trans (hb.mono HX.out.size)); clear hb k0 k1 k2 k3 k4 k5; obtain ⟨k0, k1, k2, k3, k4, k5⟩ := KX.out _ HX.out) | (go_at_call 32; (with_reducible refine (HB.out HR.out.1 HR.out.2 _ (HC.out _ HX.out)).mono ?_); rintro e w9 ⟨rfl, hb⟩; have HX := Aside0.mk (HX.out.trans (hb.mono HX.out.size)); clear hb k0 k1 k2 k3 k4 k5; obtain ⟨k0, k1, k2, k3, k4, k5⟩ := KX.out _ HX.out) | (go_at_call 33; (with_reducible refine (HD.out HR.out.1 HR.out.2 _ (HC.out _ HX.out)).mono ?_); rintro e w9 ⟨rfl, hb⟩; have HX := Aside0.mk (HX.out.trans (hb.mono HX.out.size)); clear hb k0 k1 k2 k3 k4 k5; obtain ⟨k0, k1, k2, k3, k4, k5⟩ := KX.out _ HX.out) | (go_at_call 35; (with_reducible refine (HU.out HR.out.1 HR.out.2 _ (HC.out _ HX.out)).mono ?_); rintro e w9 ⟨v0, rfl, hr, hb⟩; obtain ⟨Au, cu, rfl, hul, huC⟩ := Kd.R_reads hr; clear hr; have HUC := Aside0.mk (And.intro hul huC); clear hul huC; have HX := Aside0.mk (HX.out.trans (hb.mono HX.out.size)); clear hb k0 k1 k2 k3 k4 k5; obtain ⟨k0, k1, k2, k3, k4, k5⟩ := KX.out _ HX.out) | (go_at_call 34; (with_reducible refine (HWU.out _ _ _ HUC.out.2 HUC.out.1).mono ?_); rintro e w9 ⟨rfl, hb⟩; have HX := Aside0.mk (HX.out.trans (hb.mono HX.out.size)); clear hb k0 k1 k2 k3 k4 k5; obtain ⟨k0, k1, k2, k3, k4, k5⟩ := KX.out _ HX.out) | (go_at_call 36; (with_reducible refine (HT.out HR.out.1 HR.out.2 _ (HC.out _ HX.out)).mono ?_); rintro e w9 ⟨v0, rfl, hr, hb⟩; obtain ⟨At, ct, rfl, htl, htC⟩ := Kd.R_reads hr; clear hr; have HTC := Aside0.mk (And.intro htl htC); clear htl htC; have HX := Aside0.mk (HX.out.trans (hb.mono HX.out.size)); clear hb k0 k1 k2 k3 k4 k5; obtain ⟨k0, k1, k2, k3, k4, k5⟩ := KX.out _ HX.out) | (go_at_call 34; (with_reducible refine (HWT.out _ _ _ HTC.out.2 HTC.out.1).mono ?_); rintro e w9 ⟨rfl, hb⟩; have HX := Aside0.mk (HX.out.trans (hb.mono HX.out.size)); clear hb k0 k1 k2 k3 k4 k5; obtain ⟨k0, k1, k2, k3, k4, k5⟩ := KX.out _ HX.out) | (go_at_call 13; (with_reducible refine (HN.out _).mono ?_); rintro e w9 ⟨rfl, hb⟩; have HX := Aside0.mk (HX.out.trans (hb.mono HX.out.size)); clear hb k0 k1 k2 k3 k4 k5; obtain ⟨k0, k1, k2, k3, k4, k5⟩ := KX.out _ HX.out))
            go_ret
            exact ⟨by rw [HRES.out]; first | done | rfl, HEND.out _ HX.out⟩
        have e10 : (op != 10) = true := bne_iff_ne.2 h10
        have e10' : decide (op = 10) = false := decide_eq_false h10
        cases L with
        | false =>
          have hres : cubbyref07_One.g op a args.length (-1) regs false true true wt n false = 73 := by unfold cubbyref07_One.g; simp [c1, c2, h9, h10]
          have HRES := Lib.hid hres; clear hres
          go_wp2_with (first | (go_at_call 31; (with_reducible refine (HL.out _).mono ?_); rintro e w9 ⟨rfl, hb⟩; have HX := Aside0.mk (HX.out.trans (hb.mono HX.out.size)); clear hb k0 k1 k2 k3 k4 k5; obtain ⟨k0, k1, k2, k3, k4, k5⟩ := KX.out _ HX.out) | (go_at_call 32; (with_reducible refine (HB.out HR.out.1 HR.out.2 _ (HC.out _ HX.out)).mono ?_); rintro e w9 ⟨rfl, hb⟩; have HX := Aside0.mk (HX.out.trans (hb.mono HX.out.size)); clear hb k0 k1 k2 k3 k4 k5; obtain ⟨k0, k1, k2, k3, k4, k5⟩ := KX.out _ HX.out) | (go_at_call 33; (with_reducible refine (HD.out HR.out.1 HR.out.2 _ (HC.out _ HX.out)).mono ?_); rintro e w9 ⟨rfl, hb⟩; have HX := Aside0.mk (HX.out.trans (hb.mono HX.out.size)); clear hb k0 k1 k2 k3 k4 k5; obtain ⟨k0, k1, k2, k3, k4, k5⟩ := KX.out _ HX.out) | (go_at_call 35; (with_reducible refine (HU.out HR.out.1 HR.out.2 _ (HC.out _ HX.out)).mono ?_); rintro e w9 ⟨v0, rfl, hr, hb⟩; obtain ⟨Au, cu, rfl, hul, huC⟩ := Kd.R_reads hr; clear hr; have HUC := Aside0.mk (And.intro hul huC); clear hul huC; have HX := Aside0.mk (HX.out.trans (hb.mono HX.out.size)); clear hb k0 k1 k2 k3 k4 k5; obtain ⟨k0, k1, k2, k3, k4, k5⟩ := KX.out _ HX.out) | (go_at_call 34; (with_reducible refine (HWU.out _ _ _ HUC.out.2 HUC.out.1).mono ?_); rintro e w9 ⟨rfl, hb⟩; have HX := Aside0.mk (HX.out.trans (hb.mono HX.out.size)); clear hb k0 k1 k2 k3 k4 k5; obtain ⟨k0, k1, k2, k3, k4, k5⟩ := KX.out _ HX.out) | (go_at_call 36; (with_reducible refine (HT.out HR.out.1 HR.out.2 _ (HC.out _ HX.out)).mono ?_); rintro e w9 ⟨v0, rfl, hr, hb⟩; obtain ⟨At, ct, rfl, htl, htC⟩ := Kd.R_reads hr; clear hr; have HTC := Aside0.mk (And.intro htl htC); clear htl htC; have HX := Aside0.mk (HX.out.trans (hb.mono HX.out.size)); clear hb k0 k1 k2 k3 k4 k5; obtain ⟨k0, k1, k2, k3, k4, k5⟩ := KX.out _ HX.out) | (go_at_call 34; (with_reducible refine (HWT.out _ _ _ HTC.out.2 HTC.out.1).mono ?_); rintro e w9 ⟨rfl, hb⟩; have HX := Aside0.mk (HX.out.trans (hb.mono HX.out.size)); clear hb k0 k1 k2 k3 k4 k5; obtain ⟨k0, k1, k2, k3, k4, k5⟩ := KX.out _ HX.out) | (go_at_call 13; (with_reducible refine (HN.out _).mono ?_); rintro e w9 ⟨rfl, hb⟩; have HX := Aside0.mk (HX.out.trans (hb.mono HX.out.size)); clear hb k0 k1 k2 k3 k4 k5; obtain ⟨k0, k1, k2, k3, k4, k5⟩ := KX.out _ HX.out))
          go_ret
          exact ⟨by rw [HRES.out]; first | done | rfl, HEND.out _ HX.out⟩
        | true =>
          go_upto_region 7 with (first | (go_at_call 31; (with_reducible refine (HL.out _).mono ?_); rintro e w9 ⟨rfl, hb⟩; have HX := Aside0.mk (HX.out.trans (hb.mono HX.out.size)); clear hb k0 k1 k2 k3 k4 k5; obtain ⟨k0, k1, k2, k3, k4, k5⟩ := KX.out _ HX.out) | (go_at_call 32; (with_reducible refine (HB.out HR.out.1 HR.out.2 _ (HC.out _ HX.out)).mono ?_); rintro e w9 ⟨rfl, hb⟩; have HX := Aside0.mk (HX.out.trans (hb.mono HX.out.size)); clear hb k0 k1 k2 k3 k4 k5; obtain ⟨k0, k1, k2, k3, k4, k5⟩ := KX.out _ HX.out) | (go_at_call 33; (with_reducible refine (HD.out HR.out.1 HR.out.2 _ (HC.out _ HX.out)).mono ?_); rintro e w9 ⟨rfl, hb⟩; have HX := Aside0.mk (HX.out.trans (hb.mono HX.out.size)); clear hb k0 k1 k2 k3 k4 k5; obtain ⟨k0, k1, k2, k3, k4, k5⟩ := KX.out _ HX.out) | (go_at_call 35; (with_reducible refine (HU.out HR.out.1 HR.out.2 _ (HC.out _ HX.out)).mono ?_); rintro e w9 ⟨v0, rfl, hr, hb⟩; obtain ⟨Au, cu, rfl, hul, huC⟩ := Kd.R_reads hr; clear hr; have HUC := Aside0.mk (And.intro hul huC); clear hul huC; have HX := Aside0.mk (HX.out.trans (hb.mono HX.out.size)); clear hb k0 k1 k2 k3 k4 k5; obtain ⟨k0, k1, k2, k3, k4, k5⟩ := KX.out _ HX.out) | (go_at_call 34; (with_reducible refine (HWU.out _ _ _ HUC.out.2 HUC.out.1).mono ?_); rintro e w9 ⟨rfl, hb⟩; have HX := Aside0.mk (HX.out.trans (hb.mono HX.out.size)); clear hb k0 k1 k2 k3 k4 k5; obtain ⟨k0, k1, k2, k3, k4, k5⟩ := KX.out _ HX.out) | (go_at_call 36; (with_reducible refine (HT.out HR.out.1 HR.out.2 _ (HC.out _ HX.out)).mono ?_); rintro e w9 ⟨v0, rfl, hr, hb⟩; obtain ⟨At, ct, rfl, htl, htC⟩ := Kd.R_reads hr; clear hr; have HTC := Aside0.mk (And.intro htl htC); clear htl htC; have HX := Aside0.mk (HX.out.trans (hb.mono HX.out.size)); clear hb k0 k1 k2 k3 k4 k5; obtain ⟨k0, k1, k2, k3, k4, k5⟩ := KX.out _ HX.out) | (go_at_call 34; (with_reducible refine (HWT.out _ _ _ HTC.out.2 HTC.out.1).mono ?_); rintro e w9 ⟨rfl, hb⟩; have HX := Aside0.mk (HX.out.trans (hb.mono HX.out.size)); clear hb k0 k1 k2 k3 k4 k5; obtain ⟨k0, k1, k2, k3, k4, k5⟩ := KX.out _ HX.out) | (go_at_call 13; (with_reducible refine (HN.out _).mono ?_); rintro e w9 ⟨rfl, hb⟩; have HX := Aside0.mk (HX.out.trans (hb.mono HX.out.size)); clear hb k0 k1 k2 k3 k4 k5; obtain ⟨k0, k1, k2, k3, k4, k5⟩ := KX.out _ HX.out))
          by_cases h1 : op = 1
          case pos =>
            subst h1
            by_cases ha1 : a < 0
            case pos =>
              have hres : cubbyref07_One.g 1 a args.length (-1) regs true true true wt n true = 81 := by unfold cubbyref07_One.g; simp [c1, c2, h9, h10, ha1]
              have HRES := Lib.hid hres; clear hres
              go_wp2_with (first | (go_at_call 31; (with_reducible refine (HL.out _).mono ?_); rintro e w9 ⟨rfl, hb⟩; have HX := Aside0.mk (HX.out.trans (hb.mono HX.out.size)); clear hb k0 k1 k2 k3 k4 k5; obtain ⟨k0, k1, k2, k3, k4, k5⟩ := KX.out _ HX.out) | (go_at_call 32; (with_reducible refine (HB.out HR.out.1 HR.out.2 _ (HC.out _ HX.out)).mono ?_); rintro e w9 ⟨rfl, hb⟩; have HX := Aside0.mk (HX.out.trans (hb.mono HX.out.size)); clear hb k0 k1 k2 k3 k4 k5; obtain ⟨k0, k1, k2, k3, k4, k5⟩ := KX.out _ HX.out) | (go_at_call 33; (with_reducible refine (HD.out HR.out.1 HR.out.2 _ (HC.out _ HX.out)).mono ?_); rintro e w9 ⟨rfl, hb⟩; have HX := Aside0.mk (HX.out.trans (hb.mono HX.out.size)); clear hb k0 k1 k2 k3 k4 k5; obtain ⟨k0, k1, k2, k3, k4, k5⟩ := KX.out _ HX.out) | (go_at_call 35; (with_reducible refine (HU.out HR.out.1 HR.out.2 _ (HC.out _ HX.out)).mono ?_); rintro e w9 ⟨v0, rfl, hr, hb⟩; obtain ⟨Au, cu, rfl, hul, huC⟩ := Kd.R_reads hr; clear hr; have HUC := Aside0.mk (And.intro hul huC); clear hul huC; have HX := Aside0.mk (HX.out.trans (hb.mono HX.out.size)); clear hb k0 k1 k2 k3 k4 k5; obtain ⟨k0, k1, k2, k3, k4, k5⟩ := KX.out _ HX.out) | (go_at_call 34; (with_reducible refine (HWU.out _ _ _ HUC.out.2 HUC.out.1).mono ?_); rintro e w9 ⟨rfl, hb⟩; have HX := Aside0.mk (HX.out.trans (hb.mono HX.out.size)); clear hb k0 k1 k2 k3 k4 k5; obtain ⟨k0, k1, k2, k3, k4, k5⟩ := KX.out _ HX.out) | (go_at_call 36; (with_reducible refine (HT.out HR.out.1 HR.out.2 _ (HC.out _ HX.out)).mono ?_); rintro e w9 ⟨v0, rfl, hr, hb⟩; obtain ⟨At, ct, rfl, htl, htC⟩ := Kd.R_reads hr; clear hr; have HTC := Aside0.mk (And.intro htl htC); clear htl htC; have HX := Aside0.mk (HX.out.trans (hb.mono HX.out.size)); clear hb k0 k1 k2 k3 k4 k5; obtain ⟨k0, k1, k2, k3, k4, k5⟩ := KX.out _ HX.out) | (go_at_call 34; (with_reducible refine (HWT.out _ _ _ HTC.out.2 HTC.out.1).mono ?_); rintro e w9 ⟨rfl, hb⟩; have HX := Aside0.mk (HX.out.trans (hb.mono HX.out.size)); clear hb k0 k1 k2 k3 k4 k5; obtain ⟨k0, k1, k2, k3, k4, k5⟩ := KX.out _ HX.out) | (go_at_call 13; (with_reducible refine (HN.out _).mono ?_); rintro e w9 ⟨rfl, hb⟩; have HX := Aside0.mk (HX.out.trans (hb.mono HX.out.size)); clear hb k0 k1 k2 k3 k4 k5; obtain ⟨k0, k1, k2, k3, k4, k5⟩ := KX.out _ HX.out))
              go_ret
              exact ⟨by rw [HRES.out]; first | done | rfl, HEND.out _ HX.out⟩
            by_cases ha2 : 65536 ≤ a
            case pos =>
              have hres : cubbyref07_One.g 1 a args.length (-1) regs true true true wt n true = 81 := by unfold cubbyref07_One.g; simp [c1, c2, h9, h10, ha1, ha2]
              have HRES := Lib.hid hres; clear hres
              go_wp2_with (first | (go_at_call 31; (with_reducible refine (HL.out _).mono ?_); rintro e w9 ⟨rfl, hb⟩; have HX := Aside0.mk (HX.out.trans (hb.mono HX.out.size)); clear hb k0 k1 k2 k3 k4 k5; obtain ⟨k0, k1, k2, k3, k4, k5⟩ := KX.out _ HX.out) | (go_at_call 32; (with_reducible refine (HB.out HR.out.1 HR.out.2 _ (HC.out _ HX.out)).mono ?_); rintro e w9 ⟨rfl, hb⟩; have HX := Aside0.mk (HX.out.trans (hb.mono HX.out.size)); clear hb k0 k1 k2 k3 k4 k5; obtain ⟨k0, k1, k2, k3, k4, k5⟩ := KX.out _ HX.out) | (go_at_call 33; (with_reducible refine (HD.out HR.out.1 HR.out.2 _ (HC.out _ HX.out)).mono ?_); rintro e w9 ⟨rfl, hb⟩; have HX := Aside0.mk (HX.out.trans (hb.mono HX.out.size)); clear hb k0 k1 k2 k3 k4 k5; obtain ⟨k0, k1, k2, k3, k4, k5⟩ := KX.out _ HX.out) | (go_at_call 35; (with_reducible refine (HU.out HR.out.1 HR.out.2 _ (HC.out _ HX.out)).mono ?_); rintro e w9 ⟨v0, rfl, hr, hb⟩; obtain ⟨Au, cu, rfl, hul, huC⟩ := Kd.R_reads hr; clear hr; have HUC := Aside0.mk (And.intro hul huC); clear hul huC; have HX := Aside0.mk (HX.out.trans (hb.mono HX.out.size)); clear hb k0 k1 k2 k3 k4 k5; obtain ⟨k0, k1, k2, k3, k4, k5⟩ := KX.out _ HX.out) | (go_at_call 34; (with_reducible refine (HWU.out _ _ _ HUC.out.2 HUC.out.1).mono ?_); rintro e w9 ⟨rfl, hb⟩; have HX := Aside0.mk (HX.out.trans (hb.mono HX.out.size)); clear hb k0 k1 k2 k3 k4 k5; obtain ⟨k0, k1, k2, k3, k4, k5⟩ := KX.out _ HX.out) | (go_at_call 36; (with_reducible refine (HT.out HR.out.1 HR.out.2 _ (HC.out _ HX.out)).mono ?_); rintro e w9 ⟨v0, rfl, hr, hb⟩; obtain ⟨At, ct, rfl, htl, htC⟩ := Kd.R_reads hr; clear hr; have HTC := Aside0.mk (And.intro htl htC); clear htl htC; have HX := Aside0.mk (HX.out.trans (hb.mono HX.out.size)); clear hb k0 k1 k2 k3 k4 k5; obtain ⟨k0, k1, k2, k3, k4, k5⟩ := KX.out _ HX.out) | (go_at_call 34; (with_reducible refine (HWT.out _ _ _ HTC.out.2 HTC.out.1).mono ?_); rintro e w9 ⟨rfl, hb⟩; have HX := Aside0.mk (HX.out.trans (hb.mono HX.out.size)); clear hb k0 k1 k2 k3 k4 k5; obtain ⟨k0, k1, k2, k3, k4, k5⟩ := KX.out _ HX.out) | (go_at_call 13; (with_reducible refine (HN.out _).mono ?_); rintro e w9 ⟨rfl, hb⟩; have HX := Aside0.mk (HX.out.trans (hb.mono HX.out.size)); clear hb k0 k1 k2 k3 k4 k5; obtain ⟨k0, k1, k2, k3, k4, k5⟩ := KX.out _ HX.out))
              go_ret
              exact ⟨by rw [HRES.out]; first | done | rfl, HEND.out _ HX.out⟩
            cases wt with
            | false =>
              have hres : cubbyref07_One.g 1 a args.length (-1) regs true true true false n true = 74 := by unfold cubbyref07_One.g; simp [c1, c2, h9, h10, ha1, ha2]
              have HRES := Lib.hid hres; clear hres
              go_wp2_with (first | (go_at_call 31; (with_reducible refine (HL.out _).mono ?_); rintro e w9 ⟨rfl, hb⟩; have HX := Aside0.mk (HX.out.trans (hb.mono HX.out.size)); clear hb k0 k1 k2 k3 k4 k5; obtain ⟨k0, k1, k2, k3, k4, k5⟩ := KX.out _ HX.out) | (go_at_call 32; (with_reducible refine (HB.out HR.out.1 HR.out.2 _ (HC.out _ HX.out)).mono ?_); rintro e w9 ⟨rfl, hb⟩; have HX := Aside0.mk (HX.out.trans (hb.mono HX.out.size)); clear hb k0 k1 k2 k3 k4 k5; obtain ⟨k0, k1, k2, k3, k4, k5⟩ := KX.out _ HX.out) | (go_at_call 33; (with_reducible refine (HD.out HR.out.1 HR.out.2 _ (HC.out _ HX.out)).mono ?_); rintro e w9 ⟨rfl, hb⟩; have HX := Aside0.mk (HX.out.trans (hb.mono HX.out.size)); clear hb k0 k1 k2 k3 k4 k5; obtain ⟨k0, k1, k2, k3, k4, k5⟩ := KX.out _ HX.out) | (go_at_call 35; (with_reducible refine (HU.out HR.out.1 HR.out.2 _ (HC.out _ HX.out)).mono ?_); rintro e w9 ⟨v0, rfl, hr, hb⟩; obtain ⟨Au, cu, rfl, hul, huC⟩ := Kd.R_reads hr; clear hr; have HUC := Aside0.mk (And.intro hul huC); clear hul huC; have HX := Aside0.mk (HX.out.trans (hb.mono HX.out.size)); clear hb k0 k1 k2 k3 k4 k5; obtain ⟨k0, k1, k2, k3, k4, k5⟩ := KX.out _ HX.out) | (go_at_call 34; (with_reducible refine (HWU.out _ _ _ HUC.out.2 HUC.out.1).mono ?_); rintro e w9 ⟨rfl, hb⟩; have HX := Aside0.mk (HX.out.trans (hb.mono HX.out.size)); clear hb k0 k1 k2 k3 k4 k5; obtain ⟨k0, k1, k2, k3, k4, k5⟩ := KX.out _ HX.out) | (go_at_call 36; (with_reducible refine (HT.out HR.out.1 HR.out.2 _ (HC.out _ HX.out)).mono ?_); rintro e w9 ⟨v0, rfl, hr, hb⟩; obtain ⟨At, ct, rfl, htl, htC⟩ := Kd.R_reads hr; clear hr; have HTC := Aside0.mk (And.intro htl htC); clear htl htC; have HX := Aside0.mk (HX.out.trans (hb.mono HX.out.size)); clear hb k0 k1 k2 k3 k4 k5; obtain ⟨k0, k1, k2, k3, k4, k5⟩ := KX.out _ HX.out) | (go_at_call 34; (with_reducible refine (HWT.out _ _ _ HTC.out.2 HTC.out.1).mono ?_); rintro e w9 ⟨rfl, hb⟩; have HX := Aside0.mk (HX.out.trans (hb.mono HX.out.size)); clear hb k0 k1 k2 k3 k4 k5; obtain ⟨k0, k1, k2, k3, k4, k5⟩ := KX.out _ HX.out) | (go_at_call 13; (with_reducible refine (HN.out _).mono ?_); rintro e w9 ⟨rfl, hb⟩; have HX := Aside0.mk (HX.out.trans (hb.mono HX.out.size)); clear hb k0 k1 k2 k3 k4 k5; obtain ⟨k0, k1, k2, k3, k4, k5⟩ := KX.out _ HX.out))
              go_ret
              exact ⟨by rw [HRES.out]; first | done | rfl, HEND.out _ HX.out⟩
            | true =>
              have hres : cubbyref07_One.g 1 a args.length (-1) regs true true true true n true = 0 := by unfold cubbyref07_One.g; simp [c1, c2, h9, h10, ha1, ha2]
              have HRES := Lib.hid hres; clear hres
              go_wp2_with (first | (go_at_call 31; (with_reducible refine (HL.out _).mono ?_); rintro e w9 ⟨rfl, hb⟩; have HX := Aside0.mk (HX.out.trans (hb.mono HX.out.size)); clear hb k0 k1 k2 k3 k4 k5; obtain ⟨k0, k1, k2, k3, k4, k5⟩ := KX.out _ HX.out) | (go_at_call 32; (with_reducible refine (HB.out HR.out.1 HR.out.2 _ (HC.out _ HX.out)).mono ?_); rintro e w9 ⟨rfl, hb⟩; have HX := Aside0.mk (HX.out.trans (hb.mono HX.out.size)); clear hb k0 k1 k2 k3 k4 k5; obtain ⟨k0, k1, k2, k3, k4, k5⟩ := KX.out _ HX.out) | (go_at_call 33; (with_reducible refine (HD.out HR.out.1 HR.out.2 _ (HC.out _ HX.out)).mono ?_); rintro e w9 ⟨rfl, hb⟩; have HX := Aside0.mk (HX.out.trans (hb.mono HX.out.size)); clear hb k0 k1 k2 k3 k4 k5; obtain ⟨k0, k1, k2, k3, k4, k5⟩ := KX.out _ HX.out) | (go_at_call 35; (with_reducible refine (HU.out HR.out.1 HR.out.2 _ (HC.out _ HX.out)).mono ?_); rintro e w9 ⟨v0, rfl, hr, hb⟩; obtain ⟨Au, cu, rfl, hul, huC⟩ := Kd.R_reads hr; clear hr; have HUC := Aside0.mk (And.intro hul huC); clear hul huC; have HX := Aside0.mk (HX.out.trans (hb.mono HX.out.size)); clear hb k0 k1 k2 k3 k4 k5; obtain ⟨k0, k1, k2, k3, k4, k5⟩ := KX.out _ HX.out) | (go_at_call 34; (with_reducible refine (HWU.out _ _ _ HUC.out.2 HUC.out.1).mono ?_); rintro e w9 ⟨rfl, hb⟩; have HX := Aside0.mk (HX.out.trans (hb.mono HX.out.size)); clear hb k0 k1 k2 k3 k4 k5; obtain ⟨k0, k1, k2, k3, k4, k5⟩ := KX.out _ HX.out) | (go_at_call 36; (with_reducible refine (HT.out HR.out.1 HR.out.2 _ (HC.out _ HX.out)).mono ?_); rintro e w9 ⟨v0, rfl, hr, hb⟩; obtain ⟨At, ct, rfl, htl, htC⟩ := Kd.R_reads hr; clear hr; have HTC := Aside0.mk (And.intro htl htC); clear htl htC; have HX := Aside0.mk (HX.out.trans (hb.mono HX.out.size)); clear hb k0 k1 k2 k3 k4 k5; obtain ⟨k0, k1, k2, k3, k4, k5⟩ := KX.out _ HX.out) | (go_at_call 34; (with_reducible refine (HWT.out _ _ _ HTC.out.2 HTC.out.1).mono ?_); rintro e w9 ⟨rfl, hb⟩; have HX := Aside0.mk (HX.out.trans (hb.mono HX.out.size)); clear hb k0 k1 k2 k3 k4 k5; obtain ⟨k0, k1, k2, k3, k4, k5⟩ := KX.out _ HX.out) | (go_at_call 13; (with_reducible refine (HN.out _).mono ?_); rintro e w9 ⟨rfl, hb⟩; have HX := Aside0.mk (HX.out.trans (hb.mono HX.out.size)); clear hb k0 k1 k2 k3 k4 k5; obtain ⟨k0, k1, k2, k3, k4, k5⟩ := KX.out _ HX.out))
              go_ret
              exact ⟨by rw [HRES.out]; first | done | rfl, HEND.out _ HX.out⟩
          have e13 : (op == 1) = false := beq_eq_false_iff_ne.2 h1
          have e14 : decide (op = 1) = false := decide_eq_false h1
          cases wt with
          | false =>
            have hres : cubbyref07_One.g op a args.length (-1) regs true true true false n true = 74 := by unfold cubbyref07_One.g; simp [c1, c2, h9, h10, h1]
            have HRES := Lib.hid hres; clear hres
            go_wp2_with (first | (go_at_call 31; (with_reducible refine (HL.out _).mono ?_); rintro e w9 ⟨rfl, hb⟩; have HX := Aside0.mk (HX.out.trans (hb.mono HX.out.size)); clear hb k0 k1 k2 k3 k4 k5; obtain ⟨k0, k1, k2, k3, k4, k5⟩ := KX.out _ HX.out) | (go_at_call 32; (with_reducible refine (HB.out HR.out.1 HR.out.2 _ (HC.out _ HX.out)).mono ?_); rintro e w9 ⟨rfl, hb⟩; have HX := Aside0.mk (HX.out.trans (hb.mono HX.out.size)); clear hb k0 k1 k2 k3 k4 k5; obtain ⟨k0, k1, k2, k3, k4, k5⟩ := KX.out _ HX.out) | (go_at_call 33; (with_reducible refine (HD.out HR.out.1 HR.out.2 _ (HC.out _ HX.out)).mono ?_); rintro e w9 ⟨rfl, hb⟩; have HX := Aside0.mk (HX.out.trans (hb.mono HX.out.size)); clear hb k0 k1 k2 k3 k4 k5; obtain ⟨k0, k1, k2, k3, k4, k5⟩ := KX.out _ HX.out) | (go_at_call 35; (with_reducible refine (HU.out HR.out.1 HR.out.2 _ (HC.out _ HX.out)).mono ?_); rintro e w9 ⟨v0, rfl, hr, hb⟩; obtain ⟨Au, cu, rfl, hul, huC⟩ := Kd.R_reads hr; clear hr; have HUC := Aside0.mk (And.intro hul huC); clear hul huC; have HX := Aside0.mk (HX.out.trans (hb.mono HX.out.size)); clear hb k0 k1 k2 k3 k4 k5; obtain ⟨k0, k1, k2, k3, k4, k5⟩ := KX.out _ HX.out) | (go_at_call 34; (with_reducible refine (HWU.out _ _ _ HUC.out.2 HUC.out.1).mono ?_); rintro e w9 ⟨rfl, hb⟩; have HX := Aside0.mk (HX.out.trans (hb.mono HX.out.size)); clear hb k0 k1 k2 k3 k4 k5; obtain ⟨k0, k1, k2, k3, k4, k5⟩ := KX.out _ HX.out) | (go_at_call 36; (with_reducible refine (HT.out HR.out.1 HR.out.2 _ (HC.out _ HX.out)).mono ?_); rintro e w9 ⟨v0, rfl, hr, hb⟩; obtain ⟨At, ct, rfl, htl, htC⟩ := Kd.R_reads hr; clear hr; have HTC := Aside0.mk (And.intro htl htC); clear htl htC; have HX := Aside0.mk (HX.out.trans (hb.mono HX.out.size)); clear hb k0 k1 k2 k3 k4 k5; obtain ⟨k0, k1, k2, k3, k4, k5⟩ := KX.out _ HX.out) | (go_at_call 34; (with_reducible refine (HWT.out _ _ _ HTC.out.2 HTC.out.1).mono ?_); rintro e w9 ⟨rfl, hb⟩; have HX := Aside0.mk (HX.out.trans (hb.mono HX.out.size)); clear hb k0 k1 k2 k3 k4 k5; obtain ⟨k0, k1, k2, k3, k4, k5⟩ := KX.out _ HX.out) | (go_at_call 13; (with_reducible refine (HN.out _).mono ?_); rintro e w9 ⟨rfl, hb⟩; have HX := Aside0.mk (HX.out.trans (hb.mono HX.out.size)); clear hb k0 k1 k2 k3 k4 k5; obtain ⟨k0, k1, k2, k3, k4, k5⟩ := KX.out _ HX.out))
            go_ret
            exact ⟨by rw [HRES.out]; first | done | rfl, HEND.out _ HX.out⟩
          | true =>
            by_cases h11 : op = 11
            case neg =>
              have e11 : (op == 11) = false := beq_eq_false_iff_ne.2 h11
              have e12 : decide (op = 11) = false := decide_eq_false h11
              have hres : cubbyref07_One.g op a args.length (-1) regs true true true true n true = 0 := by unfold cubbyref07_One.g; simp [c1, c2, h9, h10, h1, h11]
              have HRES := Lib.hid hres; clear hres
              go_wp2_with (first | (go_at_call 31; (with_reducible refine (HL.out _).mono ?_); rintro e w9 ⟨rfl, hb⟩; have HX := Aside0.mk (HX.out.trans (hb.mono HX.out.size)); clear hb k0 k1 k2 k3 k4 k5; obtain ⟨k0, k1, k2, k3, k4, k5⟩ := KX.out _ HX.out) | (go_at_call 32; (with_reducible refine (HB.out HR.out.1 HR.out.2 _ (HC.out _ HX.out)).mono ?_); rintro e w9 ⟨rfl, hb⟩; have HX := Aside0.mk (HX.out.trans (hb.mono HX.out.size)); clear hb k0 k1 k2 k3 k4 k5; obtain ⟨k0, k1, k2, k3, k4, k5⟩ := KX.out _ HX.out) | (go_at_call 33; (with_reducible refine (HD.out HR.out.1 HR.out.2 _ (HC.out _ HX.out)).mono ?_); rintro e w9 ⟨rfl, hb⟩; have HX := Aside0.mk (HX.out.trans (hb.mono HX.out.size)); clear hb k0 k1 k2 k3 k4 k5; obtain ⟨k0, k1, k2, k3, k4, k5⟩ := KX.out _ HX.out) | (go_at_call 35; (with_reducible refine (HU.out HR.out.1 HR.out.2 _ (HC.out _ HX.out)).mono ?_); rintro e w9 ⟨v0, rfl, hr, hb⟩; obtain ⟨Au, cu, rfl, hul, huC⟩ := Kd.R_reads hr; clear hr; have HUC := Aside0.mk (And.intro hul huC); clear hul huC; have HX := Aside0.mk (HX.out.trans (hb.mono HX.out.size)); clear hb k0 k1 k2 k3 k4 k5; obtain ⟨k0, k1, k2, k3, k4, k5⟩ := KX.out _ HX.out) | (go_at_call 34; (with_reducible refine (HWU.out _ _ _ HUC.out.2 HUC.out.1).mono ?_); rintro e w9 ⟨rfl, hb⟩; have HX := Aside0.mk (HX.out.trans (hb.mono HX.out.size)); clear hb k0 k1 k2 k3 k4 k5; obtain ⟨k0, k1, k2, k3, k4, k5⟩ := KX.out _ HX.out) | (go_at_call 36; (with_reducible refine (HT.out HR.out.1 HR.out.2 _ (HC.out _ HX.out)).mono ?_); rintro e w9 ⟨v0, rfl, hr, hb⟩; obtain ⟨At, ct, rfl, htl, htC⟩ := Kd.R_reads hr; clear hr; have HTC := Aside0.mk (And.intro htl htC); clear htl htC; have HX := Aside0.mk (HX.out.trans (hb.mono HX.out.size)); clear hb k0 k1 k2 k3 k4 k5; obtain ⟨k0, k1, k2, k3, k4, k5⟩ := KX.out _ HX.out) | (go_at_call 34; (with_reducible refine (HWT.out _ _ _ HTC.out.2 HTC.out.1).mono ?_); rintro e w9 ⟨rfl, hb⟩; have HX := Aside0.mk (HX.out.trans (hb.mono HX.out.size)); clear hb k0 k1 k2 k3 k4 k5; obtain ⟨k0, k1, k2, k3, k4, k5⟩ := KX.out _ HX.out) | (go_at_call 13; (with_reducible refine (HN.out _).mono ?_); rintro e w9 ⟨rfl, hb⟩; have HX := Aside0.mk (HX.out.trans (hb.mono HX.out.size)); clear hb k0 k1 k2 k3 k4 k5; obtain ⟨k0, k1, k2, k3, k4, k5⟩ := KX.out _ HX.out))
              go_ret
              exact ⟨by rw [HRES.out]; first | done | rfl, HEND.out _ HX.out⟩
            subst h11
            cases n with
            | false =>
              have hres : cubbyref07_One.g 11 a args.length (-1) regs true true true true false true = 70 := by unfold cubbyref07_One.g; simp [c1, c2, h9, h10, h1]
              have HRES := Lib.hid hres; clear hres
              go_wp2_with (first | (go_at_call 31; (with_reducible refine (HL.out _).mono ?_); rintro e w9 ⟨rfl, hb⟩; have HX := Aside0.mk (HX.out.trans (hb.mono HX.out.size)); clear hb k0 k1 k2 k3 k4 k5; obtain ⟨k0, k1, k2, k3, k4, k5⟩ := KX.out _ HX.out) | (go_at_call 32; (with_reducible refine (HB.out HR.out.1 HR.out.2 _ (HC.out _ HX.out)).mono ?_); rintro e w9 ⟨rfl, hb⟩; have HX := Aside0.mk (HX.out.trans (hb.mono HX.out.size)); clear hb k0 k1 k2 k3 k4 k5; obtain ⟨k0, k1, k2, k3, k4, k5⟩ := KX.out _ HX.out) | (go_at_call 33; (with_reducible refine (HD.out HR.out.1 HR.out.2 _ (HC.out _ HX.out)).mono ?_); rintro e w9 ⟨rfl, hb⟩; have HX := Aside0.mk (HX.out.trans (hb.mono HX.out.size)); clear hb k0 k1 k2 k3 k4 k5; obtain ⟨k0, k1, k2, k3, k4, k5⟩ := KX.out _ HX.out) | (go_at_call 35; (with_reducible refine (HU.out HR.out.1 HR.out.2 _ (HC.out _ HX.out)).mono ?_); rintro e w9 ⟨v0, rfl, hr, hb⟩; obtain ⟨Au, cu, rfl, hul, huC⟩ := Kd.R_reads hr; clear hr; have HUC := Aside0.mk (And.intro hul huC); clear hul huC; have HX := Aside0.mk (HX.out.trans (hb.mono HX.out.size)); clear hb k0 k1 k2 k3 k4 k5; obtain ⟨k0, k1, k2, k3, k4, k5⟩ := KX.out _ HX.out) | (go_at_call 34; (with_reducible refine (HWU.out _ _ _ HUC.out.2 HUC.out.1).mono ?_); rintro e w9 ⟨rfl, hb⟩; have HX := Aside0.mk (HX.out.trans (hb.mono HX.out.size)); clear hb k0 k1 k2 k3 k4 k5; obtain ⟨k0, k1, k2, k3, k4, k5⟩ := KX.out _ HX.out) | (go_at_call 36; (with_reducible refine (HT.out HR.out.1 HR.out.2 _ (HC.out _ HX.out)).mono ?_); rintro e w9 ⟨v0, rfl, hr, hb⟩; obtain ⟨At, ct, rfl, htl, htC⟩ := Kd.R_reads hr; clear hr; have HTC := Aside0.mk (And.intro htl htC); clear htl htC; have HX := Aside0.mk (HX.out.trans (hb.mono HX.out.size)); clear hb k0 k1 k2 k3 k4 k5; obtain ⟨k0, k1, k2, k3, k4, k5⟩ := KX.out _ HX.out) | (go_at_call 34; (with_reducible refine (HWT.out _ _ _ HTC.out.2 HTC.out.1).mono ?_); rintro e w9 ⟨rfl, hb⟩; have HX := Aside0.mk (HX.out.trans (hb.mono HX.out.size)); clear hb k0 k1 k2 k3 k4 k5; obtain ⟨k0, k1, k2, k3, k4, k5⟩ := KX.out _ HX.out) | (go_at_call 13; (with_reducible refine (HN.out _).mono ?_); rintro e w9 ⟨rfl, hb⟩; have HX := Aside0.mk (HX.out.trans (hb.mono HX.out.size)); clear hb k0 k1 k2 k3 k4 k5; obtain ⟨k0, k1, k2, k3, k4, k5⟩ := KX.out _ HX.out))
              go_ret
              exact ⟨by rw [HRES.out]; first | done | rfl, HEND.out _ HX.out⟩
            | true =>
              by_cases h4 : 4 < args.length
              case pos =>
                have h5 : (4 : Int) < (args.length : Int) := by omega
                have hres : cubbyref07_One.g 11 a args.length (-1) regs true true true true true true = 192 := by unfold cubbyref07_One.g; simp [c1, c2, h9, h10, h1, h4]
                have HRES := Lib.hid hres; clear hres
                go_wp2_with (first | (go_at_call 31; (with_reducible refine (HL.out _).mono ?_); rintro e w9 ⟨rfl, hb⟩; have HX := Aside0.mk (HX.out.trans (hb.mono HX.out.size)); clear hb k0 k1 k2 k3 k4 k5; obtain ⟨k0, k1, k2, k3, k4, k5⟩ := KX.out _ HX.out) | (go_at_call 32; (with_reducible refine (HB.out HR.out.1 HR.out.2 _ (HC.out _ HX.out)).mono ?_); rintro e w9 ⟨rfl, hb⟩; have HX := Aside0.mk (HX.out.trans (hb.mono HX.out.size)); clear hb k0 k1 k2 k3 k4 k5; obtain ⟨k0, k1, k2, k3, k4, k5⟩ := KX.out _ HX.out) | (go_at_call 33; (with_reducible refine (HD.out HR.out.1 HR.out.2 _ (HC.out _ HX.out)).mono ?_); rintro e w9 ⟨rfl, hb⟩; have HX := Aside0.mk (HX.out.trans (hb.mono HX.out.size)); clear hb k0 k1 k2 k3 k4 k5; obtain ⟨k0, k1, k2, k3, k4, k5⟩ := KX.out _ HX.out) | (go_at_call 35; (with_reducible refine (HU.out HR.out.1 HR.out.2 _ (HC.out _ HX.out)).mono ?_); rintro e w9 ⟨v0, rfl, hr, hb⟩; obtain ⟨Au, cu, rfl, hul, huC⟩ := Kd.R_reads hr; clear hr; have HUC := Aside0.mk (And.intro hul huC); clear hul huC; have HX := Aside0.mk (HX.out.trans (hb.mono HX.out.size)); clear hb k0 k1 k2 k3 k4 k5; obtain ⟨k0, k1, k2, k3, k4, k5⟩ := KX.out _ HX.out) | (go_at_call 34; (with_reducible refine (HWU.out _ _ _ HUC.out.2 HUC.out.1).mono ?_); rintro e w9 ⟨rfl, hb⟩; have HX := Aside0.mk (HX.out.trans (hb.mono HX.out.size)); clear hb k0 k1 k2 k3 k4 k5; obtain ⟨k0, k1, k2, k3, k4, k5⟩ := KX.out _ HX.out) | (go_at_call 36; (with_reducible refine (HT.out HR.out.1 HR.out.2 _ (HC.out _ HX.out)).mono ?_); rintro e w9 ⟨v0, rfl, hr, hb⟩; obtain ⟨At, ct, rfl, htl, htC⟩ := Kd.R_reads hr; clear hr; have HTC := Aside0.mk (And.intro htl htC); clear htl htC; have HX := Aside0.mk (HX.out.trans (hb.mono HX.out.size)); clear hb k0 k1 k2 k3 k4 k5; obtain ⟨k0, k1, k2, k3, k4, k5⟩ := KX.out _ HX.out) | (go_at_call 34; (with_reducible refine (HWT.out _ _ _ HTC.out.2 HTC.out.1).mono ?_); rintro e w9 ⟨rfl, hb⟩; have HX := Aside0.mk (HX.out.trans (hb.mono HX.out.size)); clear hb k0 k1 k2 k3 k4 k5; obtain ⟨k0, k1, k2, k3, k4, k5⟩ := KX.out _ HX.out) | (go_at_call 13; (with_reducible refine (HN.out _).mono ?_); rintro e w9 ⟨rfl, hb⟩; have HX := Aside0.mk (HX.out.trans (hb.mono HX.out.size)); clear hb k0 k1 k2 k3 k4 k5; obtain ⟨k0, k1, k2, k3, k4, k5⟩ := KX.out _ HX.out))
                go_ret
                exact ⟨by rw [HRES.out]; first | done | rfl, HEND.out _ HX.out⟩
              have h5 : ¬ (4 : Int) < (args.length : Int) := by omega
              have hres : cubbyref07_One.g 11 a args.length (-1) regs true true true true true true = 0 := by unfold cubbyref07_One.g; simp [c1, c2, h9, h10, h1, h4]
              have HRES := Lib.hid hres; clear hres
              go_wp2_with (first | (go_at_call 31; (with_reducible refine (HL.out _).mono ?_); rintro e w9 ⟨rfl, hb⟩; have HX := Aside0.mk (HX.out.trans (hb.mono HX.out.size)); clear hb k0 k1 k2 k3 k4 k5; obtain ⟨k0, k1, k2, k3, k4, k5⟩ := KX.out _ HX.out) | (go_at_call 32; (with_reducible refine (HB.out HR.out.1 HR.out.2 _ (HC.out _ HX.out)).mono ?_); rintro e w9 ⟨rfl, hb⟩; have HX := Aside0.mk (HX.out.trans (hb.mono HX.out.size)); clear hb k0 k1 k2 k3 k4 k5; obtain ⟨k0, k1, k2, k3, k4, k5⟩ := KX.out _ HX.out) | (go_at_call 33; (with_reducible refine (HD.out HR.out.1 HR.out.2 _ (HC.out _ HX.out)).mono ?_); rintro e w9 ⟨rfl, hb⟩; have HX := Aside0.mk (HX.out.trans (hb.mono HX.out.size)); clear hb k0 k1 k2 k3 k4 k5; obtain ⟨k0, k1, k2, k3, k4, k5⟩ := KX.out _ HX.out) | (go_at_call 35; (with_reducible refine (HU.out HR.out.1 HR.out.2 _ (HC.out _ HX.out)).mono ?_); rintro e w9 ⟨v0, rfl, hr, hb⟩; obtain ⟨Au, cu, rfl, hul, huC⟩ := Kd.R_reads hr; clear hr; have HUC := Aside0.mk (And.intro hul huC); clear hul huC; have HX := Aside0.mk (HX.out.trans (hb.mono HX.out.size)); clear hb k0 k1 k2 k3 k4 k5; obtain ⟨k0, k1, k2, k3, k4, k5⟩ := KX.out _ HX.out) | (go_at_call 34; (with_reducible refine (HWU.out _ _ _ HUC.out.2 HUC.out.1).mono ?_); rintro e w9 ⟨rfl, hb⟩; have HX := Aside0.mk (HX.out.trans (hb.mono HX.out.size)); clear hb k0 k1 k2 k3 k4 k5; obtain ⟨k0, k1, k2, k3, k4, k5⟩ := KX.out _ HX.out) | (go_at_call 36; (with_reducible refine (HT.out HR.out.1 HR.out.2 _ (HC.out _ HX.out)).mono ?_); rintro e w9 ⟨v0, rfl, hr, hb⟩; obtain ⟨At, ct, rfl, htl, htC⟩ := Kd.R_reads hr; clear hr; have HTC := Aside0.mk (And.intro htl htC); clear htl htC; have HX := Aside0.mk (HX.out.trans (hb.mono HX.out.size)); clear hb k0 k1 k2 k3 k4 k5; obtain ⟨k0, k1, k2, k3, k4, k5⟩ := KX.out _ HX.out) | (go_at_call 34; (with_reducible refine (HWT.out _ _ _ HTC.out.2 HTC.out.1).mono ?_); rintro e w9 ⟨rfl, hb⟩; have HX := Aside0.mk (HX.out.trans (hb.mono HX.out.size)); clear hb k0 k1 k2 k3 k4 k5; obtain ⟨k0, k1, k2, k3, k4, k5⟩ := KX.out _ HX.out) | (go_at_call 13; (with_reducible refine (HN.out _).mono ?_); rintro e w9 ⟨rfl, hb⟩; have HX := Aside0.mk (HX.out.trans (hb.mono HX.out.size)); clear hb k0 k1 k2 k3 k4 k5; obtain ⟨k0, k1, k2, k3, k4, k5⟩ := KX.out _ HX.out))
              go_ret
              exact ⟨by rw [HRES.out]; first | done | rfl, HEND.out _ HX.out⟩
    have e15 : (df == -1) = false := beq_eq_false_iff_ne.2 hdf
    have e16 : (df != -1) = true := bne_iff_ne.2 hdf
    have e17 : decide (df = -1) = false := decide_eq_false hdf
    by_cases hd0 : df < 0
    case pos =>
      have hres : cubbyref07_One.g op a args.length df regs L true wu wt n L = 73 := by unfold cubbyref07_One.g; simp [c1, c2, hdf, hd0]
      have HRES := Lib.hid hres; clear hres
      go_wp2_with (first | (go_at_call 31; (with_reducible refine (HL.out _).mono ?_); rintro e w9 ⟨rfl, hb⟩; have HX := Aside0.mk (HX.out.trans (hb.mono HX.out.size)); clear hb k0 k1 k2 k3 k4 k5; obtain ⟨k0, k1, k2, k3, k4, k5⟩ := KX.out _ HX.out) | (go_at_call 32; (with_reducible refine (HB.out HR.out.1 HR.out.2 _ (HC.out _ HX.out)).mono ?_); rintro e w9 ⟨rfl, hb⟩; have HX := Aside0.mk (HX.out.trans (hb.mono HX.out.size)); clear hb k0 k1 k2 k3 k4 k5; obtain ⟨k0, k1, k2, k3, k4, k5⟩ := KX.out _ HX.out) | (go_at_call 33; (with_reducible refine (HD.out HR.out.1 HR.out.2 _ (HC.out _ HX.out)).mono ?_); rintro e w9 ⟨rfl, hb⟩; have HX := Aside0.mk (HX.out.trans (hb.mono HX.out.size)); clear hb k0 k1 k2 k3 k4 k5; obtain ⟨k0, k1, k2, k3, k4, k5⟩ := KX.out _ HX.out) | (go_at_call 35; (with_reducible refine (HU.out HR.out.1 HR.out.2 _ (HC.out _ HX.out)).mono ?_); rintro e w9 ⟨v0, rfl, hr, hb⟩; obtain ⟨Au, cu, rfl, hul, huC⟩ := Kd.R_reads hr; clear hr; have HUC := Aside0.mk (And.intro hul huC); clear hul huC; have HX := Aside0.mk (HX.out.trans (hb.mono HX.out.size)); clear hb k0 k1 k2 k3 k4 k5; obtain ⟨k0, k1, k2, k3, k4, k5⟩ := KX.out _ HX.out) | (go_at_call 34; (with_reducible refine (HWU.out _ _ _ HUC.out.2 HUC.out.1).mono ?_); rintro e w9 ⟨rfl, hb⟩; have HX := Aside0.mk (HX.out.trans (hb.mono HX.out.size)); clear hb k0 k1 k2 k3 k4 k5; obtain ⟨k0, k1, k2, k3, k4, k5⟩ := KX.out _ HX.out) | (go_at_call 36; (with_reducible refine (HT.out HR.out.1 HR.out.2 _ (HC.out _ HX.out)).mono ?_); rintro e w9 ⟨v0, rfl, hr, hb⟩; obtain ⟨At, ct, rfl, htl, htC⟩ := Kd.R_reads hr; clear hr; have HTC := Aside0.mk (And.intro htl htC); clear htl htC; have HX := Aside0.mk (HX.out.trans (hb.mono HX.out.size)); clear hb k0 k1 k2 k3 k4 k5; obtain ⟨k0, k1, k2, k3, k4, k5⟩ := KX.out _ HX.out) | (go_at_call 34; (with_reducible refine (HWT.out _ _ _ HTC.out.2 HTC.out.1).mono ?_); rintro e w9 ⟨rfl, hb⟩; have HX := Aside0.mk (HX.out.trans (hb.mono HX.out.size)); clear hb k0 k1 k2 k3 k4 k5; obtain ⟨k0, k1, k2, k3, k4, k5⟩ := KX.out _ HX.out) | (go_at_call 13; (with_reducible refine (HN.out _).mono ?_); rintro e w9 ⟨rfl, hb⟩; have HX := Aside0.mk (HX.out.trans (hb.mono HX.out.size)); clear hb k0 k1 k2 k3 k4 k5; obtain ⟨k0, k1, k2, k3, k4, k5⟩ := KX.out _ HX.out))
      go_ret
      exact ⟨by rw [HRES.out]; first | done | rfl, HEND.out _ HX.out⟩
    by_cases hd1 : regs ≤ df
    case pos =>
      have hres : cubbyref07_One.g op a args.length df regs L true wu wt n L = 73 := by unfold cubbyref07_One.g; simp [c1, c2, hdf, hd0, hd1]
      have HRES := Lib.hid hres; clear hres
      go_wp2_with (first | (go_at_call 31; (with_reducible refine (HL.out _).mono ?_); rintro e w9 ⟨rfl, hb⟩; have HX := Aside0.mk (HX.out.trans (hb.mono HX.out.size)); clear hb k0 k1 k2 k3 k4 k5; obtain ⟨k0, k1, k2, k3, k4, k5⟩ := KX.out _ HX.out) | (go_at_call 32; (with_reducible refine (HB.out HR.out.1 HR.out.2 _ (HC.out _ HX.out)).mono ?_); rintro e w9 ⟨rfl, hb⟩; have HX := Aside0.mk (HX.out.trans (hb.mono HX.out.size)); clear hb k0 k1 k2 k3 k4 k5; obtain ⟨k0, k1, k2, k3, k4, k5⟩ := KX.out _ HX.out) | (go_at_call 33; (with_reducible refine (HD.out HR.out.1 HR.out.2 _ (HC.out _ HX.out)).mono ?_); rintro e w9 ⟨rfl, hb⟩; have HX := Aside0.mk (HX.out.trans (hb.mono HX.out.size)); clear hb k0 k1 k2 k3 k4 k5; obtain ⟨k0, k1, k2, k3, k4, k5⟩ := KX.out _ HX.out) | (go_at_call 35; (with_reducible refine (HU.out HR.out.1 HR.out.2 _ (HC.out _ HX.out)).mono ?_); rintro e w9 ⟨v0, rfl, hr, hb⟩; obtain ⟨Au, cu, rfl, hul, huC⟩ := Kd.R_reads hr; clear hr; have HUC := Aside0.mk (And.intro hul huC); clear hul huC; have HX := Aside0.mk (HX.out.trans (hb.mono HX.out.size)); clear hb k0 k1 k2 k3 k4 k5; obtain ⟨k0, k1, k2, k3, k4, k5⟩ := KX.out _ HX.out) | (go_at_call 34; (with_reducible refine (HWU.out _ _ _ HUC.out.2 HUC.out.1).mono ?_); rintro e w9 ⟨rfl, hb⟩; have HX := Aside0.mk (HX.out.trans (hb.mono HX.out.size)); clear hb k0 k1 k2 k3 k4 k5; obtain ⟨k0, k1, k2, k3, k4, k5⟩ := KX.out _ HX.out) | (go_at_call 36; (with_reducible refine (HT.out HR.out.1 HR.out.2 _ (HC.out _ HX.out)).mono ?_); rintro e w9 ⟨v0, rfl, hr, hb⟩; obtain ⟨At, ct, rfl, htl, htC⟩ := Kd.R_reads hr; clear hr; have HTC := Aside0.mk (And.intro htl htC); clear htl htC; have HX := Aside0.mk (HX.out.trans (hb.mono HX.out.size)); clear hb k0 k1 k2 k3 k4 k5; obtain ⟨k0, k1, k2, k3, k4, k5⟩ := KX.out _ HX.out) | (go_at_call 34; (with_reducible refine (HWT.out _ _ _ HTC.out.2 HTC.out.1).mono ?_); rintro e w9 ⟨rfl, hb⟩; have HX := Aside0.mk (HX.out.trans (hb.mono HX.out.size)); clear hb k0 k1 k2 k3 k4 k5; obtain ⟨k0, k1, k2, k3, k4, k5⟩ := KX.out _ HX.out) | (go_at_call 13; (with_reducible refine (HN.out _).mono ?_); rintro e w9 ⟨rfl, hb⟩; have HX := Aside0.mk (HX.out.trans (hb.mono HX.out.size)); clear hb k0 k1 k2 k3 k4 k5; obtain ⟨k0, k1, k2, k3, k4, k5⟩ := KX.out _ HX.out))
      go_ret
      exact ⟨by rw [HRES.out]; first | done | rfl, HEND.out _ HX.out⟩
    cases wu with
    | false =>
      have hres : cubbyref07_One.g op a args.length df regs L true false wt n L = 73 := by unfold cubbyref07_One.g; simp [c1, c2, hdf, hd0, hd1]
      have HRES := Lib.hid hres; clear hres
      go_wp2_with (first | (go_at_call 31; (with_reducible refine (HL.out _).mono ?_); rintro e w9 ⟨rfl, hb⟩; have HX := Aside0.mk (HX.out.trans (hb.mono HX.out.size)); clear hb k0 k1 k2 k3 k4 k5; obtain ⟨k0, k1, k2, k3, k4, k5⟩ := KX.out _ HX.out) | (go_at_call 32; (with_reducible refine (HB.out HR.out.1 HR.out.2 _ (HC.out _ HX.out)).mono ?_); rintro e w9 ⟨rfl, hb⟩; have HX := Aside0.mk (HX.out.trans (hb.mono HX.out.size)); clear hb k0 k1 k2 k3 k4 k5; obtain ⟨k0, k1, k2, k3, k4, k5⟩ := KX.out _ HX.out) | (go_at_call 33; (with_reducible refine (HD.out HR.out.1 HR.out.2 _ (HC.out _ HX.out)).mono ?_); rintro e w9 ⟨rfl, hb⟩; have HX := Aside0.mk (HX.out.trans (hb.mono HX.out.size)); clear hb k0 k1 k2 k3 k4 k5; obtain ⟨k0, k1, k2, k3, k4, k5⟩ := KX.out _ HX.out) | (go_at_call 35; (with_reducible refine (HU.out HR.out.1 HR.out.2 _ (HC.out _ HX.out)).mono ?_); rintro e w9 ⟨v0, rfl, hr, hb⟩; obtain ⟨Au, cu, rfl, hul, huC⟩ := Kd.R_reads hr; clear hr; have HUC := Aside0.mk (And.intro hul huC); clear hul huC; have HX := Aside0.mk (HX.out.trans (hb.mono HX.out.size)); clear hb k0 k1 k2 k3 k4 k5; obtain ⟨k0, k1, k2, k3, k4, k5⟩ := KX.out _ HX.out) | (go_at_call 34; (with_reducible refine (HWU.out _ _ _ HUC.out.2 HUC.out.1).mono ?_); rintro e w9 ⟨rfl, hb⟩; have HX := Aside0.mk (HX.out.trans (hb.mono HX.out.size)); clear hb k0 k1 k2 k3 k4 k5; obtain ⟨k0, k1, k2, k3, k4, k5⟩ := KX.out _ HX.out) | (go_at_call 36; (with_reducible refine (HT.out HR.out.1 HR.out.2 _ (HC.out _ HX.out)).mono ?_); rintro e w9 ⟨v0, rfl, hr, hb⟩; obtain ⟨At, ct, rfl, htl, htC⟩ := Kd.R_reads hr; clear hr; have HTC := Aside0.mk (And.intro htl htC); clear htl htC; have HX := Aside0.mk (HX.out.trans (hb.mono HX.out.size)); clear hb k0 k1 k2 k3 k4 k5; obtain ⟨k0, k1, k2, k3, k4, k5⟩ := KX.out _ HX.out) | (go_at_call 34; (with_reducible refine (HWT.out _ _ _ HTC.out.2 HTC.out.1).mono ?_); rintro e w9 ⟨rfl, hb⟩; have HX := Aside0.mk (HX.out.trans (hb.mono HX.out.size)); clear hb k0 k1 k2 k3 k4 k5; obtain ⟨k0, k1, k2, k3, k4, k5⟩ := KX.out _ HX.out) | (go_at_call 13; (with_reducible refine (HN.out _).mono ?_); rintro e w9 ⟨rfl, hb⟩; have HX := Aside0.mk (HX.out.trans (hb.mono HX.out.size)); clear hb k0 k1 k2 k3 k4 k5; obtain ⟨k0, k1, k2, k3, k4, k5⟩ := KX.out _ HX.out))
      go_ret
      exact ⟨by rw [HRES.out]; first | done | rfl, HEND.out _ HX.out⟩
    | true =>
      go_upto_region 7 with (first | (go_at_call 31; (with_reducible refine (HL.out _).mono ?_); rintro e w9 ⟨rfl, hb⟩; have HX := Aside0.mk (HX.out.trans (hb.mono HX.out.size)); clear hb k0 k1 k2 k3 k4 k5; obtain ⟨k0, k1, k2, k3, k4, k5⟩ := KX.out _ HX.out) | (go_at_call 32; (with_reducible refine (HB.out HR.out.1 HR.out.2 _ (HC.out _ HX.out)).mono ?_); rintro e w9 ⟨rfl, hb⟩; have HX := Aside0.mk (HX.out.trans (hb.mono HX.out.size)); clear hb k0 k1 k2 k3 k4 k5; obtain ⟨k0, k1, k2, k3, k4, k5⟩ := KX.out _ HX.out) | (go_at_call 33; (with_reducible refine (HD.out HR.out.1 HR.out.2 _ (HC.out _ HX.out)).mono ?_); rintro e w9 ⟨rfl, hb⟩; have HX := Aside0.mk (HX.out.trans (hb.mono HX.out.size)); clear hb k0 k1 k2 k3 k4 k5; obtain ⟨k0, k1, k2, k3, k4, k5⟩ := KX.out _ HX.out) | (go_at_call 35; (with_reducible refine (HU.out HR.out.1 HR.out.2 _ (HC.out _ HX.out)).mono ?_); rintro e w9 ⟨v0, rfl, hr, hb⟩; obtain ⟨Au, cu, rfl, hul, huC⟩ := Kd.R_reads hr; clear hr; have HUC := Aside0.mk (And.intro hul huC); clear hul huC; have HX := Aside0.mk (HX.out.trans (hb.mono HX.out.size)); clear hb k0 k1 k2 k3 k4 k5; obtain ⟨k0, k1, k2, k3, k4, k5⟩ := KX.out _ HX.out) | (go_at_call 34; (with_reducible refine (HWU.out _ _ _ HUC.out.2 HUC.out.1).mono ?_); rintro e w9 ⟨rfl, hb⟩; have HX := Aside0.mk (HX.out.trans (hb.mono HX.out.size)); clear hb k0 k1 k2 k3 k4 k5; obtain ⟨k0, k1, k2, k3, k4, k5⟩ := KX.out _ HX.out) | (go_at_call 36; (with_reducible refine (HT.out HR.out.1 HR.out.2 _ (HC.out _ HX.out)).mono ?_); rintro e w9 ⟨v0, rfl, hr, hb⟩; obtain ⟨At, ct, rfl, htl, htC⟩ := Kd.R_reads hr; clear hr; have HTC := Aside0.mk (And.intro htl htC); clear htl htC; have HX := Aside0.mk (HX.out.trans (hb.mono HX.out.size)); clear hb k0 k1 k2 k3 k4 k5; obtain ⟨k0, k1, k2, k3, k4, k5⟩ := KX.out _ HX.out) | (go_at_call 34; (with_reducible refine (HWT.out _ _ _ HTC.out.2 HTC.out.1).mono ?_); rintro e w9 ⟨rfl, hb⟩; have HX := Aside0.mk (HX.out.trans (hb.mono HX.out.size)); clear hb k0 k1 k2 k3 k4 k5; obtain ⟨k0, k1, k2, k3, k4, k5⟩ := KX.out _ HX.out) | (go_at_call 13; (with_reducible refine (HN.out _).mono ?_); rintro e w9 ⟨rfl, hb⟩; have HX := Aside0.mk (HX.out.trans (hb.mono HX.out.size)); clear hb k0 k1 k2 k3 k4 k5; obtain ⟨k0, k1, k2, k3, k4, k5⟩ := KX.out _ HX.out))
      have c1 : ¬ op < 1 := by omega
      have c2 : ¬ 14 < op := by omega
      have hd0 : ¬ df < 0 := by omega
      have hd1 : ¬ regs ≤ df := by omega
      by_cases h1 : op = 1
      case pos =>
        subst h1
        by_cases ha1 : a < 0
        case pos =>
          have hres : cubbyref07_One.g 1 a args.length df regs L true true wt n L = 81 := by unfold cubbyref07_One.g; simp [c1, c2, hdf, hd0, hd1, ha1]
          have HRES := Lib.hid hres; clear hres
          go_wp2_with (first | (go_at_call 31; (with_reducible refine (HL.out _).mono ?_); rintro e w9 ⟨rfl, hb⟩; have HX := Aside0.mk (HX.out.trans (hb.mono HX.out.size)); clear hb k0 k1 k2 k3 k4 k5; obtain ⟨k0, k1, k2, k3, k4, k5⟩ := KX.out _ HX.out) | (go_at_call 32; (with_reducible refine (HB.out HR.out.1 HR.out.2 _ (HC.out _ HX.out)).mono ?_); rintro e w9 ⟨rfl, hb⟩; have HX := Aside0.mk (HX.out.trans (hb.mono HX.out.size)); clear hb k0 k1 k2 k3 k4 k5; obtain ⟨k0, k1, k2, k3, k4, k5⟩ := KX.out _ HX.out) | (go_at_call 33; (with_reducible refine (HD.out HR.out.1 HR.out.2 _ (HC.out _ HX.out)).mono ?_); rintro e w9 ⟨rfl, hb⟩; have HX := Aside0.mk (HX.out.trans (hb.mono HX.out.size)); clear hb k0 k1 k2 k3 k4 k5; obtain ⟨k0, k1, k2, k3, k4, k5⟩ := KX.out _ HX.out) | (go_at_call 35; (with_reducible refine (HU.out HR.out.1 HR.out.2 _ (HC.out _ HX.out)).mono ?_); rintro e w9 ⟨v0, rfl, hr, hb⟩; obtain ⟨Au, cu, rfl, hul, huC⟩ := Kd.R_reads hr; clear hr; have HUC := Aside0.mk (And.intro hul huC); clear hul huC; have HX := Aside0.mk (HX.out.trans (hb.mono HX.out.size)); clear hb k0 k1 k2 k3 k4 k5; obtain ⟨k0, k1, k2, k3, k4, k5⟩ := KX.out _ HX.out) | (go_at_call 34; (with_reducible refine (HWU.out _ _ _ HUC.out.2 HUC.out.1).mono ?_); rintro e w9 ⟨rfl, hb⟩; have HX := Aside0.mk (HX.out.trans (hb.mono HX.out.size)); clear hb k0 k1 k2 k3 k4 k5; obtain ⟨k0, k1, k2, k3, k4, k5⟩ := KX.out _ HX.out) | (go_at_call 36; (with_reducible refine (HT.out HR.out.1 HR.out.2 _ (HC.out _ HX.out)).mono ?_); rintro e w9 ⟨v0, rfl, hr, hb⟩; obtain ⟨At, ct, rfl, htl, htC⟩ := Kd.R_reads hr; clear hr; have HTC := Aside0.mk (And.intro htl htC); clear htl htC; have HX := Aside0.mk (HX.out.trans (hb.mono HX.out.size)); clear hb k0 k1 k2 k3 k4 k5; obtain ⟨k0, k1, k2, k3, k4, k5⟩ := KX.out _ HX.out) | (go_at_call 34; (with_reducible refine (HWT.out _ _ _ HTC.out.2 HTC.out.1).mono ?_); rintro e w9 ⟨rfl, hb⟩; have HX := Aside0.mk (HX.out.trans (hb.mono HX.out.size)); clear hb k0 k1 k2 k3 k4 k5; obtain ⟨k0, k1, k2, k3, k4, k5⟩ := KX.out _ HX.out) | (go_at_call 13; (with_reducible refine (HN.out _).mono ?_); rintro e w9 ⟨rfl, hb⟩; have HX := Aside0.mk (HX.out.trans (hb.mono HX.out.size)); clear hb k0 k1 k2 k3 k4 k5; obtain ⟨k0, k1, k2, k3, k4, k5⟩ := KX.out _ HX.out))
          go_ret
          exact ⟨by rw [HRES.out]; first | done | rfl, HEND.out _ HX.out⟩
        by_cases ha2 : 65536 ≤ a
        case pos =>
          have hres : cubbyref07_One.g 1 a args.length df regs L true true wt n L = 81 := by unfold cubbyref07_One.g; simp [c1, c2, hdf, hd0, hd1, ha1, ha2]
          have HRES := Lib.hid hres; clear hres
          go_wp2_with (first | (go_at_call 31; (with_reducible refine (HL.out _).mono ?_); rintro e w9 ⟨rfl, hb⟩; have HX := Aside0.mk (HX.out.trans (hb.mono HX.out.size)); clear hb k0 k1 k2 k3 k4 k5; obtain ⟨k0, k1, k2, k3, k4, k5⟩ := KX.out _ HX.out) | (go_at_call 32; (with_reducible refine (HB.out HR.out.1 HR.out.2 _ (HC.out _ HX.out)).mono ?_); rintro e w9 ⟨rfl, hb⟩; have HX := Aside0.mk (HX.out.trans (hb.mono HX.out.size)); clear hb k0 k1 k2 k3 k4 k5; obtain ⟨k0, k1, k2, k3, k4, k5⟩ := KX.out _ HX.out) | (go_at_call 33; (with_reducible refine (HD.out HR.out.1 HR.out.2 _ (HC.out _ HX.out)).mono ?_); rintro e w9 ⟨rfl, hb⟩; have HX := Aside0.mk (HX.out.trans (hb.mono HX.out.size)); clear hb k0 k1 k2 k3 k4 k5; obtain ⟨k0, k1, k2, k3, k4, k5⟩ := KX.out _ HX.out) | (go_at_call 35; (with_reducible refine (HU.out HR.out.1 HR.out.2 _ (HC.out _ HX.out)).mono ?_); rintro e w9 ⟨v0, rfl, hr, hb⟩; obtain ⟨Au, cu, rfl, hul, huC⟩ := Kd.R_reads hr; clear hr; have HUC := Aside0.mk (And.intro hul huC); clear hul huC; have HX := Aside0.mk (HX.out.trans (hb.mono HX.out.size)); clear hb k0 k1 k2 k3 k4 k5; obtain ⟨k0, k1, k2, k3, k4, k5⟩ := KX.out _ HX.out) | (go_at_call 34; (with_reducible refine (HWU.out _ _ _ HUC.out.2 HUC.out.1).mono ?_); rintro e w9 ⟨rfl, hb⟩; have HX := Aside0.mk (HX.out.trans (hb.mono HX.out.size)); clear hb k0 k1 k2 k3 k4 k5; obtain ⟨k0, k1, k2, k3, k4, k5⟩ := KX.out _ HX.out) | (go_at_call 36; (with_reducible refine (HT.out HR.out.1 HR.out.2 _ (HC.out _ HX.out)).mono ?_); rintro e w9 ⟨v0, rfl, hr, hb⟩; obtain ⟨At, ct, rfl, htl, htC⟩ := Kd.R_reads hr; clear hr; have HTC := Aside0.mk (And.intro htl htC); clear htl htC; have HX := Aside0.mk (HX.out.trans (hb.mono HX.out.size)); clear hb k0 k1 k2 k3 k4 k5; obtain ⟨k0, k1, k2, k3, k4, k5⟩ := KX.out _ HX.out) | (go_at_call 34; (with_reducible refine (HWT.out _ _ _ HTC.out.2 HTC.out.1).mono ?_); rintro e w9 ⟨rfl, hb⟩; have HX := Aside0.mk (HX.out.trans (hb.mono HX.out.size)); clear hb k0 k1 k2 k3 k4 k5; obtain ⟨k0, k1, k2, k3, k4, k5⟩ := KX.out _ HX.out) | (go_at_call 13; (with_reducible refine (HN.out _).mono ?_); rintro e w9 ⟨rfl, hb⟩; have HX := Aside0.mk (HX.out.trans (hb.mono HX.out.size)); clear hb k0 k1 k2 k3 k4 k5; obtain ⟨k0, k1, k2, k3, k4, k5⟩ := KX.out _ HX.out))
          go_ret
          exact ⟨by rw [HRES.out]; first | done | rfl, HEND.out _ HX.out⟩
        cases wt with
        | false =>
          have hres : cubbyref07_One.g 1 a args.length df regs L true true false n L = 74 := by unfold cubbyref07_One.g; simp [c1, c2, hdf, hd0, hd1, ha1, ha2]
          have HRES := Lib.hid hres; clear hres
          go_wp2_with (first | (go_at_call 31; (with_reducible refine (HL.out _).mono ?_); rintro e w9 ⟨rfl, hb⟩; have HX := Aside0.mk (HX.out.trans (hb.mono HX.out.size)); clear hb k0 k1 k2 k3 k4 k5; obtain ⟨k0, k1, k2, k3, k4, k5⟩ := KX.out _ HX.out) | (go_at_call 32; (with_reducible refine (HB.out HR.out.1 HR.out.2 _ (HC.out _ HX.out)).mono ?_); rintro e w9 ⟨rfl, hb⟩; have HX := Aside0.mk (HX.out.trans (hb.mono HX.out.size)); clear hb k0 k1 k2 k3 k4 k5; obtain ⟨k0, k1, k2, k3, k4, k5⟩ := KX.out _ HX.out) | (go_at_call 33; (with_reducible refine (HD.out HR.out.1 HR.out.2 _ (HC.out _ HX.out)).mono ?_); rintro e w9 ⟨rfl, hb⟩; have HX := Aside0.mk (HX.out.trans (hb.mono HX.out.size)); clear hb k0 k1 k2 k3 k4 k5; obtain ⟨k0, k1, k2, k3, k4, k5⟩ := KX.out _ HX.out) | (go_at_call 35; (with_reducible refine (HU.out HR.out.1 HR.out.2 _ (HC.out _ HX.out)).mono ?_); rintro e w9 ⟨v0, rfl, hr, hb⟩; obtain ⟨Au, cu, rfl, hul, huC⟩ := Kd.R_reads hr; clear hr; have HUC := Aside0.mk (And.intro hul huC); clear hul huC; have HX := Aside0.mk (HX.out.trans (hb.mono HX.out.size)); clear hb k0 k1 k2 k3 k4 k5; obtain ⟨k0, k1, k2, k3, k4, k5⟩ := KX.out _ HX.out) | (go_at_call 34; (with_reducible refine (HWU.out _ _ _ HUC.out.2 HUC.out.1).mono ?_); rintro e w9 ⟨rfl, hb⟩; have HX := Aside0.mk (HX.out.trans (hb.mono HX.out.size)); clear hb k0 k1 k2 k3 k4 k5; obtain ⟨k0, k1, k2, k3, k4, k5⟩ := KX.out _ HX.out) | (go_at_call 36; (with_reducible refine (HT.out HR.out.1 HR.out.2 _ (HC.out _ HX.out)).mono ?_); rintro e w9 ⟨v0, rfl, hr, hb⟩; obtain ⟨At, ct, rfl, htl, htC⟩ := Kd.R_reads hr; clear hr; have HTC := Aside0.mk (And.intro htl htC); clear htl htC; have HX := Aside0.mk (HX.out.trans (hb.mono HX.out.size)); clear hb k0 k1 k2 k3 k4 k5; obtain ⟨k0, k1, k2, k3, k4, k5⟩ := KX.out _ HX.out) | (go_at_call 34; (with_reducible refine (HWT.out _ _ _ HTC.out.2 HTC.out.1).mono ?_); rintro e w9 ⟨rfl, hb⟩; have HX := Aside0.mk (HX.out.trans (hb.mono HX.out.size)); clear hb k0 k1 k2 k3 k4 k5; obtain ⟨k0, k1, k2, k3, k4, k5⟩ := KX.out _ HX.out) | (go_at_call 13; (with_reducible refine (HN.out _).mono ?_); rintro e w9 ⟨rfl, hb⟩; have HX := Aside0.mk (HX.out.trans (hb.mono HX.out.size)); clear hb k0 k1 k2 k3 k4 k5; obtain ⟨k0, k1, k2, k3, k4, k5⟩ := KX.out _ HX.out))
          go_ret
          exact ⟨by rw [HRES.out]; first | done | rfl, HEND.out _ HX.out⟩
        | true =>
          have hres : cubbyref07_One.g 1 a args.length df regs L true true true n L = 0 := by unfold cubbyref07_One.g; simp [c1, c2, hdf, hd0, hd1, ha1, ha2]
          have HRES := Lib.hid hres; clear hres
          go_wp2_with (first | (go_at_call 31; (with_reducible refine (HL.out _).mono ?_); rintro e w9 ⟨rfl, hb⟩; have HX := Aside0.mk (HX.out.trans (hb.mono HX.out.size)); clear hb k0 k1 k2 k3 k4 k5; obtain ⟨k0, k1, k2, k3, k4, k5⟩ := KX.out _ HX.out) | (go_at_call 32; (with_reducible refine (HB.out HR.out.1 HR.out.2 _ (HC.out _ HX.out)).mono ?_); rintro e w9 ⟨rfl, hb⟩; have HX := Aside0.mk (HX.out.trans (hb.mono HX.out.size)); clear hb k0 k1 k2 k3 k4 k5; obtain ⟨k0, k1, k2, k3, k4, k5⟩ := KX.out _ HX.out) | (go_at_call 33; (with_reducible refine (HD.out HR.out.1 HR.out.2 _ (HC.out _ HX.out)).mono ?_); rintro e w9 ⟨rfl, hb⟩; have HX := Aside0.mk (HX.out.trans (hb.mono HX.out.size)); clear hb k0 k1 k2 k3 k4 k5; obtain ⟨k0, k1, k2, k3, k4, k5⟩ := KX.out _ HX.out) | (go_at_call 35; (with_reducible refine (HU.out HR.out.1 HR.out.2 _ (HC.out _ HX.out)).mono ?_); rintro e w9 ⟨v0, rfl, hr, hb⟩; obtain ⟨Au, cu, rfl, hul, huC⟩ := Kd.R_reads hr; clear hr; have HUC := Aside0.mk (And.intro hul huC); clear hul huC; have HX := Aside0.mk (HX.out.trans (hb.mono HX.out.size)); clear hb k0 k1 k2 k3 k4 k5; obtain ⟨k0, k1, k2, k3, k4, k5⟩ := KX.out _ HX.out) | (go_at_call 34; (with_reducible refine (HWU.out _ _ _ HUC.out.2 HUC.out.1).mono ?_); rintro e w9 ⟨rfl, hb⟩; have HX := Aside0.mk (HX.out.trans (hb.mono HX.out.size)); clear hb k0 k1 k2 k3 k4 k5; obtain ⟨k0, k1, k2, k3, k4, k5⟩ := KX.out _ HX.out) | (go_at_call 36; (with_reducible refine (HT.out HR.out.1 HR.out.2 _ (HC.out _ HX.out)).mono ?_); rintro e w9 ⟨v0, rfl, hr, hb⟩; obtain ⟨At, ct, rfl, htl, htC⟩ := Kd.R_reads hr; clear hr; have HTC := Aside0.mk (And.intro htl htC); clear htl htC; have HX := Aside0.mk (HX.out.trans (hb.mono HX.out.size)); clear hb k0 k1 k2 k3 k4 k5; obtain ⟨k0, k1, k2, k3, k4, k5⟩ := KX.out _ HX.out) | (go_at_call 34; (with_reducible refine (HWT.out _ _ _ HTC.out.2 HTC.out.1).mono ?_); rintro e w9 ⟨rfl, hb⟩; have HX := Aside0.mk (HX.out.trans (hb.mono HX.out.size)); clear hb k0 k1 k2 k3 k4 k5; obtain ⟨k0, k1, k2, k3, k4, k5⟩ := KX.out _ HX.out) | (go_at_call 13; (with_reducible refine (HN.out _).mono ?_); rintro e w9 ⟨rfl, hb⟩; have HX := Aside0.mk (HX.out.trans (hb.mono HX.out.size)); clear hb k0 k1 k2 k3 k4 k5; obtain ⟨k0, k1, k2, k3, k4, k5⟩ := KX.out _ HX.out))
          go_ret
          exact ⟨by rw [HRES.out]; first | done | rfl, HEND.out _ HX.out⟩
      have e13 : (op == 1) = false := beq_eq_false_iff_ne.2 h1
      have e14 : decide (op = 1) = false := decide_eq_false h1
      cases wt with
      | false =>
        have hres : cubbyref07_One.g op a args.length df regs L true true false n L = 74 := by unfold cubbyref07_One.g; simp [c1, c2, hdf, hd0, hd1, h1]
        have HRES := Lib.hid hres; clear hres
        go_wp2_with (first | (go_at_call 31; (with_reducible refine (HL.out _).mono ?_); rintro e w9 ⟨rfl, hb⟩; have HX := Aside0.mk (HX.out.trans (hb.mono HX.out.size)); clear hb k0 k1 k2 k3 k4 k5; obtain ⟨k0, k1, k2, k3, k4, k5⟩ := KX.out _ HX.out) | (go_at_call 32; (with_reducible refine (HB.out HR.out.1 HR.out.2 _ (HC.out _ HX.out)).mono ?_); rintro e w9 ⟨rfl, hb⟩; have HX := Aside0.mk (HX.out.trans (hb.mono HX.out.size)); clear hb k0 k1 k2 k3 k4 k5; obtain ⟨k0, k1, k2, k3, k4, k5⟩ := KX.out _ HX.out) | (go_at_call 33; (with_reducible refine (HD.out HR.out.1 HR.out.2 _ (HC.out _ HX.out)).mono ?_); rintro e w9 ⟨rfl, hb⟩; have HX := Aside0.mk (HX.out.trans (hb.mono HX.out.size)); clear hb k0 k1 k2 k3 k4 k5; obtain ⟨k0, k1, k2, k3, k4, k5⟩ := KX.out _ HX.out) | (go_at_call 35; (with_reducible refine (HU.out HR.out.1 HR.out.2 _ (HC.out _ HX.out)).mono ?_); rintro e w9 ⟨v0, rfl, hr, hb⟩; obtain ⟨Au, cu, rfl, hul, huC⟩ := Kd.R_reads hr; clear hr; have HUC := Aside0.mk (And.intro hul huC); clear hul huC; have HX := Aside0.mk (HX.out.trans (hb.mono HX.out.size)); clear hb k0 k1 k2 k3 k4 k5; obtain ⟨k0, k1, k2, k3, k4, k5⟩ := KX.out _ HX.out) | (go_at_call 34; (with_reducible refine (HWU.out _ _ _ HUC.out.2 HUC.out.1).mono ?_); rintro e w9 ⟨rfl, hb⟩; have HX := Aside0.mk (HX.out.trans (hb.mono HX.out.size)); clear hb k0 k1 k2 k3 k4 k5; obtain ⟨k0, k1, k2, k3, k4, k5⟩ := KX.out _ HX.out) | (go_at_call 36; (with_reducible refine (HT.out HR.out.1 HR.out.2 _ (HC.out _ HX.out)).mono ?_); rintro e w9 ⟨v0, rfl, hr, hb⟩; obtain ⟨At, ct, rfl, htl, htC⟩ := Kd.R_reads hr; clear hr; have HTC := Aside0.mk (And.intro htl htC); clear htl htC; have HX := Aside0.mk (HX.out.trans (hb.mono HX.out.size)); clear hb k0 k1 k2 k3 k4 k5; obtain ⟨k0, k1, k2, k3, k4, k5⟩ := KX.out _ HX.out) | (go_at_call 34; (with_reducible refine (HWT.out _ _ _ HTC.out.2 HTC.out.1).mono ?_); rintro e w9 ⟨rfl, hb⟩; have HX := Aside0.mk (HX.out.trans (hb.mono HX.out.size)); clear hb k0 k1 k2 k3 k4 k5; obtain ⟨k0, k1, k2, k3, k4, k5⟩ := KX.out _ HX.out) | (go_at_call 13; (with_reducible refine (HN.out _).mono ?_); rintro e w9 ⟨rfl, hb⟩; have HX := Aside0.mk (HX.out.trans (hb.mono HX.out.size)); clear hb k0 k1 k2 k3 k4 k5; obtain ⟨k0, k1, k2, k3, k4, k5⟩ := KX.out _ HX.out))
        go_ret
        exact ⟨by rw [HRES.out]; first | done | rfl, HEND.out _ HX.out⟩
      | true =>
        by_cases h11 : op = 11
        case neg =>
          have e11 : (op == 11) = false := beq_eq_false_iff_ne.2 h11
          have e12 : decide (op = 11) = false := decide_eq_false h11
          have hres : cubbyref07_One.g op a args.length df regs L true true true n L = 0 := by unfold cubbyref07_One.g; simp [c1, c2, hdf, hd0, hd1, h1, h11]
          have HRES := Lib.hid hres; clear hres
          go_wp2_with (first | (go_at_call 31; (with_reducible refine (HL.out _).mono ?_); rintro e w9 ⟨rfl, hb⟩; have HX := Aside0.mk (HX.out.trans (hb.mono HX.out.size)); clear hb k0 k1 k2 k3 k4 k5; obtain ⟨k0, k1, k2, k3, k4, k5⟩ := KX.out _ HX.out) | (go_at_call 32; (with_reducible refine (HB.out HR.out.1 HR.out.2 _ (HC.out _ HX.out)).mono ?_); rintro e w9 ⟨rfl, hb⟩; have HX := Aside0.mk (HX.out.trans (hb.mono HX.out.size)); clear hb k0 k1 k2 k3 k4 k5; obtain ⟨k0, k1, k2, k3, k4, k5⟩ := KX.out _ HX.out) | (go_at_call 33; (with_reducible refine (HD.out HR.out.1 HR.out.2 _ (HC.out _ HX.out)).mono ?_); rintro e w9 ⟨rfl, hb⟩; have HX := Aside0.mk (HX.out.trans (hb.mono HX.out.size)); clear hb k0 k1 k2 k3 k4 k5; obtain ⟨k0, k1, k2, k3, k4, k5⟩ := KX.out _ HX.out) | (go_at_call 35; (with_reducible refine (HU.out HR.out.1 HR.out.2 _ (HC.out _ HX.out)).mono ?_); rintro e w9 ⟨v0, rfl, hr, hb⟩; obtain ⟨Au, cu, rfl, hul, huC⟩ := Kd.R_reads hr; clear hr; have HUC := Aside0.mk (And.intro hul huC); clear hul huC; have HX := Aside0.mk (HX.out.trans (hb.mono HX.out.size)); clear hb k0 k1 k2 k3 k4 k5; obtain ⟨k0, k1, k2, k3, k4, k5⟩ := KX.out _ HX.out) | (go_at_call 34; (with_reducible refine (HWU.out _ _ _ HUC.out.2 HUC.out.1).mono ?_); rintro e w9 ⟨rfl, hb⟩; have HX := Aside0.mk (HX.out.trans (hb.mono HX.out.size)); clear hb k0 k1 k2 k3 k4 k5; obtain ⟨k0, k1, k2, k3, k4, k5⟩ := KX.out _ HX.out) | (go_at_call 36; (with_reducible refine (HT.out HR.out.1 HR.out.2 _ (HC.out _ HX.out)).mono ?_); rintro e w9 ⟨v0, rfl, hr, hb⟩; obtain ⟨At, ct, rfl, htl, htC⟩ := Kd.R_reads hr; clear hr; have HTC := Aside0.mk (And.intro htl htC); clear htl htC; have HX := Aside0.mk (HX.out.trans (hb.mono HX.out.size)); clear hb k0 k1 k2 k3 k4 k5; obtain ⟨k0, k1, k2, k3, k4, k5⟩ := KX.out _ HX.out) | (go_at_call 34; (with_reducible refine (HWT.out _ _ _ HTC.out.2 HTC.out.1).mono ?_); rintro e w9 ⟨rfl, hb⟩; have HX := Aside0.mk (HX.out.trans (hb.mono HX.out.size)); clear hb k0 k1 k2 k3 k4 k5; obtain ⟨k0, k1, k2, k3, k4, k5⟩ := KX.out _ HX.out) | (go_at_call 13; (with_reducible refine (HN.out _).mono ?_); rintro e w9 ⟨rfl, hb⟩; have HX := Aside0.mk (HX.out.trans (hb.mono HX.out.size)); clear hb k0 k1 k2 k3 k4 k5; obtain ⟨k0, k1, k2, k3, k4, k5⟩ := KX.out _ HX.out))
          go_ret
          exact ⟨by rw [HRES.out]; first | done | rfl, HEND.out _ HX.out⟩
        subst h11
        cases n with
        | false =>
          have hres : cubbyref07_One.g 11 a args.length df regs L true true true false L = 70 := by unfold cubbyref07_One.g; simp [c1, c2, hdf, hd0, hd1, h1]
          have HRES := Lib.hid hres; clear hres
          go_wp2_with (first | (go_at_call 31; (with_reducible refine (HL.out _).mono ?_); rintro e w9 ⟨rfl, hb⟩; have HX := Aside0.mk (HX.out.trans (hb.mono HX.out.size)); clear hb k0 k1 k2 k3 k4 k5; obtain ⟨k0, k1, k2, k3, k4, k5⟩ := KX.out _ HX.out) | (go_at_call 32; (with_reducible refine (HB.out HR.out.1 HR.out.2 _ (HC.out _ HX.out)).mono ?_); rintro e w9 ⟨rfl, hb⟩; have HX := Aside0.mk (HX.out.trans (hb.mono HX.out.size)); clear hb k0 k1 k2 k3 k4 k5; obtain ⟨k0, k1, k2, k3, k4, k5⟩ := KX.out _ HX.out) | (go_at_call 33; (with_reducible refine (HD.out HR.out.1 HR.out.2 _ (HC.out _ HX.out)).mono ?_); rintro e w9 ⟨rfl, hb⟩; have HX := Aside0.mk (HX.out.trans (hb.mono HX.out.size)); clear hb k0 k1 k2 k3 k4 k5; obtain ⟨k0, k1, k2, k3, k4, k5⟩ := KX.out _ HX.out) | (go_at_call 35; (with_reducible refine (HU.out HR.out.1 HR.out.2 _ (HC.out _ HX.out)).mono ?_); rintro e w9 ⟨v0, rfl, hr, hb⟩; obtain ⟨Au, cu, rfl, hul, huC⟩ := Kd.R_reads hr; clear hr; have HUC := Aside0.mk (And.intro hul huC); clear hul huC; have HX := Aside0.mk (HX.out.trans (hb.mono HX.out.size)); clear hb k0 k1 k2 k3 k4 k5; obtain ⟨k0, k1, k2, k3, k4, k5⟩ := KX.out _ HX.out) | (go_at_call 34; (with_reducible refine (HWU.out _ _ _ HUC.out.2 HUC.out.1).mono ?_); rintro e w9 ⟨rfl, hb⟩; have HX := Aside0.mk (HX.out.trans (hb.mono HX.out.size)); clear hb k0 k1 k2 k3 k4 k5; obtain ⟨k0, k1, k2, k3, k4, k5⟩ := KX.out _ HX.out) | (go_at_call 36; (with_reducible refine (HT.out HR.out.1 HR.out.2 _ (HC.out _ HX.out)).mono ?_); rintro e w9 ⟨v0, rfl, hr, hb⟩; obtain ⟨At, ct, rfl, htl, htC⟩ := Kd.R_reads hr; clear hr; have HTC := Aside0.mk (And.intro htl htC); clear htl htC; have HX := Aside0.mk (HX.out.trans (hb.mono HX.out.size)); clear hb k0 k1 k2 k3 k4 k5; obtain ⟨k0, k1, k2, k3, k4, k5⟩ := KX.out _ HX.out) | (go_at_call 34; (with_reducible refine (HWT.out _ _ _ HTC.out.2 HTC.out.1).mono ?_); rintro e w9 ⟨rfl, hb⟩; have HX := Aside0.mk (HX.out.trans (hb.mono HX.out.size)); clear hb k0 k1 k2 k3 k4 k5; obtain ⟨k0, k1, k2, k3, k4, k5⟩ := KX.out _ HX.out) | (go_at_call 13; (with_reducible refine (HN.out _).mono ?_); rintro e w9 ⟨rfl, hb⟩; have HX := Aside0.mk (HX.out.trans (hb.mono HX.out.size)); clear hb k0 k1 k2 k3 k4 k5; obtain ⟨k0, k1, k2, k3, k4, k5⟩ := KX.out _ HX.out))
          go_ret
          exact ⟨by rw [HRES.out]; first | done | rfl, HEND.out _ HX.out⟩
        | true =>
          by_cases h4 : 4 < args.length
          case pos =>
            have h5 : (4 : Int) < (args.length : Int) := by omega
            have hres : cubbyref07_One.g 11 a args.length df regs L true true true true L = 192 := by unfold cubbyref07_One.g; simp [c1, c2, hdf, hd0, hd1, h1, h4]
            have HRES := Lib.hid hres; clear hres
            go_wp2_with (first | (go_at_call 31; (with_reducible refine (HL.out _).mono ?_); rintro e w9 ⟨rfl, hb⟩; have HX := Aside0.mk (HX.out.trans (hb.mono HX.out.size)); clear hb k0 k1 k2 k3 k4 k5; obtain ⟨k0, k1, k2, k3, k4, k5⟩ := KX.out _ HX.out) | (go_at_call 32; (with_reducible refine (HB.out HR.out.1 HR.out.2 _ (HC.out _ HX.out)).mono ?_); rintro e w9 ⟨rfl, hb⟩; have HX := Aside0.mk (HX.out.trans (hb.mono HX.out.size)); clear hb k0 k1 k2 k3 k4 k5; obtain ⟨k0, k1, k2, k3, k4, k5⟩ := KX.out _ HX.out) | (go_at_call 33; (with_reducible refine (HD.out HR.out.1 HR.out.2 _ (HC.out _ HX.out)).mono ?_); rintro e w9 ⟨rfl, hb⟩; have HX := Aside0.mk (HX.out.trans (hb.mono HX.out.size)); clear hb k0 k1 k2 k3 k4 k5; obtain ⟨k0, k1, k2, k3, k4, k5⟩ := KX.out _ HX.out) | (go_at_call 35; (with_reducible refine (HU.out HR.out.1 HR.out.2 _ (HC.out _ HX.out)).mono ?_); rintro e w9 ⟨v0, rfl, hr, hb⟩; obtain ⟨Au, cu, rfl, hul, huC⟩ := Kd.R_reads hr; clear hr; have HUC := Aside0.mk (And.intro hul huC); clear hul huC; have HX := Aside0.mk (HX.out.trans (hb.mono HX.out.size)); clear hb k0 k1 k2 k3 k4 k5; obtain ⟨k0, k1, k2, k3, k4, k5⟩ := KX.out _ HX.out) | (go_at_call 34; (with_reducible refine (HWU.out _ _ _ HUC.out.2 HUC.out.1).mono ?_); rintro e w9 ⟨rfl, hb⟩; have HX := Aside0.mk (HX.out.trans (hb.mono HX.out.size)); clear hb k0 k1 k2 k3 k4 k5; obtain ⟨k0, k1, k2, k3, k4, k5⟩ := KX.out _ HX.out) | (go_at_call 36; (with_reducible refine (HT.out HR.out.1 HR.out.2 _ (HC.out _ HX.out)).mono ?_); rintro e w9 ⟨v0, rfl, hr, hb⟩; obtain ⟨At, ct, rfl, htl, htC⟩ := Kd.R_reads hr; clear hr; have HTC := Aside0.mk (And.intro htl htC); clear htl htC; have HX := Aside0.mk (HX.out.trans (hb.mono HX.out.size)); clear hb k0 k1 k2 k3 k4 k5; obtain ⟨k0, k1, k2, k3, k4, k5⟩ := KX.out _ HX.out) | (go_at_call 34; (with_reducible refine (HWT.out _ _ _ HTC.out.2 HTC.out.1).mono ?_); rintro e w9 ⟨rfl, hb⟩; have HX := Aside0.mk (HX.out.trans (hb.mono HX.out.size)); clear hb k0 k1 k2 k3 k4 k5; obtain ⟨k0, k1, k2, k3, k4, k5⟩ := KX.out _ HX.out) | (go_at_call 13; (with_reducible refine (HN.out _).mono ?_); rintro e w9 ⟨rfl, hb⟩; have HX := Aside0.mk (HX.out.trans (hb.mono HX.out.size)); clear hb k0 k1 k2 k3 k4 k5; obtain ⟨k0, k1, k2, k3, k4, k5⟩ := KX.out _ HX.out))
            go_ret
            exact ⟨by rw [HRES.out]; first | done | rfl, HEND.out _ HX.out⟩
          have h5 : ¬ (4 : Int) < (args.length : Int) := by omega
          have hres : cubbyref07_One.g 11 a args.length df regs L true true true true L = 0 := by unfold cubbyref07_One.g; simp [c1, c2, hdf, hd0, hd1, h1, h4]
          have HRES := Lib.hid hres; clear hres
          go_wp2_with (first | (go_at_call 31; (with_reducible refine (HL.out _).mono ?_); rintro e w9 ⟨rfl, hb⟩; have HX := Aside0.mk (HX.out.trans (hb.mono HX.out.size)); clear hb k0 k1 k2 k3 k4 k5; obtain ⟨k0, k1, k2, k3, k4, k5⟩ := KX.out _ HX.out) | (go_at_call 32; (with_reducible refine (HB.out HR.out.1 HR.out.2 _ (HC.out _ HX.out)).mono ?_); rintro e w9 ⟨rfl, hb⟩; have HX := Aside0.mk (HX.out.trans (hb.mono HX.out.size)); clear hb k0 k1 k2 k3 k4 k5; obtain ⟨k0, k1, k2, k3, k4, k5⟩ := KX.out _ HX.out) | (go_at_call 33; (with_reducible refine (HD.out HR.out.1 HR.out.2 _ (HC.out _ HX.out)).mono ?_); rintro e w9 ⟨rfl, hb⟩; have HX := Aside0.mk (HX.out.trans (hb.mono HX.out.size)); clear hb k0 k1 k2 k3 k4 k5; obtain ⟨k0, k1, k2, k3, k4, k5⟩ := KX.out _ HX.out) | (go_at_call 35; (with_reducible refine (HU.out HR.out.1 HR.out.2 _ (HC.out _ HX.out)).mono ?_); rintro e w9 ⟨v0, rfl, hr, hb⟩; obtain ⟨Au, cu, rfl, hul, huC⟩ := Kd.R_reads hr; clear hr; have HUC := Aside0.mk (And.intro hul huC); clear hul huC; have HX := Aside0.mk (HX.out.trans (hb.mono HX.out.size)); clear hb k0 k1 k2 k3 k4 k5; obtain ⟨k0, k1, k2, k3, k4, k5⟩ := KX.out _ HX.out) | (go_at_call 34; (with_reducible refine (HWU.out _ _ _ HUC.out.2 HUC.out.1).mono ?_); rintro e w9 ⟨rfl, hb⟩; have HX := Aside0.mk (HX.out.trans (hb.mono HX.out.size)); clear hb k0 k1 k2 k3 k4 k5; obtain ⟨k0, k1, k2, k3, k4, k5⟩ := KX.out _ HX.out) | (go_at_call 36; (with_reducible refine (HT.out HR.out.1 HR.out.2 _ (HC.out _ HX.out)).mono ?_); rintro e w9 ⟨v0, rfl, hr, hb⟩; obtain ⟨At, ct, rfl, htl, htC⟩ := Kd.R_reads hr; clear hr; have HTC := Aside0.mk (And.intro htl htC); clear htl htC; have HX := Aside0.mk (HX.out.trans (hb.mono HX.out.size)); clear hb k0 k1 k2 k3 k4 k5; obtain ⟨k0, k1, k2, k3, k4, k5⟩ := KX.out _ HX.out) | (go_at_call 34; (with_reducible refine (HWT.out _ _ _ HTC.out.2 HTC.out.1).mono ?_); rintro e w9 ⟨rfl, hb⟩; have HX := Aside0.mk (HX.out.trans (hb.mono HX.out.size)); clear hb k0 k1 k2 k3 k4 k5; obtain ⟨k0, k1, k2, k3, k4, k5⟩ := KX.out _ HX.out) | (go_at_call 13; (with_reducible refine (HN.out _).mono ?_); rintro e w9 ⟨rfl, hb⟩; have HX := Aside0.mk (HX.out.trans (hb.mono HX.out.size)); clear hb k0 k1 k2 k3 k4 k5; obtain ⟨k0, k1, k2, k3, k4, k5⟩ := KX.out _ HX.out))
          go_ret
          exact ⟨by rw [HRES.out]; first | done | rfl, HEND.out _ HX.out⟩
theorem cubbyref07_One.within_l (l : List Int) (m : Int) (hl : l.length < 4611686018427387904) : ∀ (k i : Nat), i ≤ l.length → l.length - i < k → cubbyref07_within.l0 k l m (i : Int) = some ((l.drop i).all (fun x => decide (0 ≤ x ∧ x < m)))
  | 0, i, _, h => absurd h (Nat.not_lt_zero _)
  | k + 1, i, h1, h2 => by
    unfold cubbyref07_within.l0
    by_cases hi : (i : Int) < (l.length : Int)
    · have hi2 : i < l.length := by omega
      have hd : l.drop i = l[i] :: l.drop (i + 1) := List.drop_eq_getElem_cons hi2
      have hr : rd l (i : Int) = l[i] := by
        unfold rd
        rw [Int.toNat_natCast, List.getD_eq_getElem?_getD, List.getElem?_eq_getElem hi2]
        rfl
      rw [if_pos hi, if_pos (by omega), hr, hd, List.all_cons]
      by_cases c1 : l[i] < 0
      · rw [if_pos c1, decide_eq_false (by omega)]
        rfl
      · rw [if_neg c1]
        by_cases c2 : l[i] ≥ m
        · rw [if_pos c2, decide_eq_false (by omega)]
          rfl
        · rw [if_neg c2, decide_eq_true (by omega), Hw.wnat i (by omega), Bool.true_and]
          exact cubbyref07_One.within_l l m hl k (i + 1) (by omega) (by omega)
    · rw [if_neg hi, List.drop_eq_nil_of_le (by omega)]
      rfl
theorem cubbyref07_One.within_f (l : List Int) (m : Int) (hl : l.length < 4611686018427387904) : cubbyref07_within.f (l.length + 1) l m = some (Ir.within l m) := by
  unfold cubbyref07_within.f
  exact cubbyref07_One.within_l l m hl (l.length + 1) 0 (Nat.zero_le _) (by omega)
theorem cubbyref07_One.last_f (op : Int) : cubbyref07_Last.f op = some (Ir.last op) := by
  unfold cubbyref07_Last.f Ir.last
  by_cases h1 : op = 12
  · rw [if_pos h1, decide_eq_true (.inl h1)]
  · rw [if_neg h1]
    by_cases h2 : op = 13
    · rw [if_pos h2, decide_eq_true (.inr (.inl h2))]
    · rw [if_neg h2]
      by_cases h3 : op = 14
      · rw [decide_eq_true (.inr (.inr h3)), h3]
        rfl
      · rw [decide_eq_false (by omega), beq_eq_false_iff_ne.2 h3]
theorem cubbyref07_One.below_drawn {w w' : World} (h : Drawn0 w w') : Below w.heap.size w w' := by
  obtain ⟨n, rfl⟩ := h
  exact pw_below_drewN (Below.refl _ _) n
theorem cubbyref07_One.uses_len (op a b : Int) (args : List Int) (h : args.length ≤ 1000000) : (Ir.uses op a b args).length ≤ 1000000 := by
  unfold Ir.uses
  split
  · simp
  · split
    · simp
    · split
      · exact h
      · simp
theorem cubbyref07_One.targets_len (op d a b : Int) : (Ir.targets op d a b).length ≤ 2 := by
  unfold Ir.targets
  split
  · simp
  · split
    · simp
    · simp
/-- What One answers. -/
def cubbyref07_One.ans (op d a b : Int) (nm : ByteArray) (args : List Int) (regs blocks : Int) (n last : Bool) : Int := cubbyref07_One.g op a args.length (Ir.df op d) regs (Ir.last op) (Ir.bare op d a b nm args) (Ir.within (Ir.uses op a b args) regs) (Ir.within (Ir.targets op d a b) blocks) n last
theorem cubbyref07_One.calls (op d a b : Int) (nm : ByteArray) (args : List Int) (Ag : Option Addr) (cg : Nat) (regs blocks : Int) (last n : Bool) (w : World) (hargs : (Kd.int .i64).C w Ag args.length args) (hcg : args.length ≤ cg) (hal : args.length ≤ 1000000)
    (hN : ∃ k, cubbyref07_Name.f k nm = some n) :
    Calls Try.prog 22 #[.agg #[.int .i64 op, .int .i64 d, .int .i64 a, .int .i64 b, .string nm, .slice Ag args.length cg], .int .i64 regs, .int .i64 blocks, .bool last] w fun e w' => e = .returned (.int .i64 (cubbyref07_One.ans op d a b nm args regs blocks n last)) ∧ Below w.heap.size w w' := by
  have hul := cubbyref07_One.uses_len op a b args hal
  have htl := cubbyref07_One.targets_len op d a b
  obtain ⟨kn, hkn⟩ := hN
  exact cubbyref07_One.walk op d a b nm args Ag cg regs blocks last (Ir.last op) (Ir.bare op d a b nm args) (Ir.within (Ir.uses op a b args) regs) (Ir.within (Ir.targets op d a b) blocks) n (Ir.df op d) (Ir.uses op a b args) (Ir.targets op d a b) w hargs hcg
    (fun W => (cubbyref07_Last.calls op _ W (cubbyref07_One.last_f op)).mono fun e w' h => ⟨h.1, cubbyref07_One.below_drawn h.2⟩)
    (fun h1 h2 W hC => cubbyref07_bare.calls op d a b nm args Ag cg h1 h2 W)
    (fun h1 h2 W hC => cubbyref07_Def.calls op d a b nm args.length Ag cg h1 h2 W)
    (fun h1 h2 W hC => cubbyref07_Uses.calls op d a b nm args Ag cg h1 h2 W hC hal)
    (fun h1 h2 W hC => cubbyref07_Targets.calls op d a b nm args Ag cg h1 h2 W hC hal)
    (fun W A c hC hc => (cubbyref07_within.calls _ A c _ regs _ W hC hc (cubbyref07_One.within_f _ regs (by omega))).mono fun e w' h => ⟨h.1, cubbyref07_One.below_drawn h.2⟩)
    (fun W A c hC hc => (cubbyref07_within.calls _ A c _ blocks _ W hC hc (cubbyref07_One.within_f _ blocks (by omega))).mono fun e w' h => ⟨h.1, cubbyref07_One.below_drawn h.2⟩)
    (fun W => (cubbyref07_Name.calls kn nm n W hkn).mono fun e w' h => ⟨h.1, cubbyref07_One.below_drawn h.2⟩)

/-! ### cubbyref13_one: function 15 (by hand) -/
def cubbyref13_one.inB (n most : Int) : Bool := decide (0 ≤ n ∧ n < most)
theorem cubbyref13_one.in_calls (n most : Int) (W : World) : Calls Try.prog 14 #[.int .i64 n, .int .i64 most] W fun e w' => e = .returned (.bool (cubbyref13_one.inB n most)) ∧ Below W.heap.size W w' := by
  refine (cubbyref13_in.calls n most (cubbyref13_one.inB n most) W ?_).mono fun e w' h => ⟨h.1, cubbyref07_One.below_drawn h.2⟩
  unfold cubbyref13_in.f cubbyref13_one.inB
  by_cases h : n ≥ 0
  · rw [if_pos h]
    congr 1
    by_cases h2 : n < most
    · rw [decide_eq_true h2, decide_eq_true ⟨h, h2⟩]
    · rw [decide_eq_false h2, decide_eq_false (fun q => h2 q.2)]
  · rw [if_neg h, decide_eq_false (fun q => h q.1)]
/-- What one answers to a Fetch or a Save. -/
def cubbyref13_one.gs (op d a b : Int) (nm : ByteArray) (na : Nat) (regs slots : Int) (last : Bool) : Int :=
  if last = true ∨ ¬ b = 0 ∨ ¬ nm = ⟨#[]⟩ ∨ 0 < na then 72
  else if (if op = 21 then cubbyref13_one.inB d regs && cubbyref13_one.inB a slots else cubbyref13_one.inB d slots && cubbyref13_one.inB a regs) = true then 0 else 73
set_option maxHeartbeats 16000000 in
set_option maxRecDepth 100000 in
theorem cubbyref13_one.fs (op d a b : Int) (nm : ByteArray) (na : Nat) (Ag : Option Addr) (cg : Nat) (cn : ByteArray) (cp regs slots : Int) (Ab : Option Addr) (nb cb : Nat) (last : Bool) (w : World) (hop : op = 21 ∨ op = 22) (hgood : last = false ∧ b = 0 ∧ nm = ⟨#[]⟩ ∧ na = 0)
    (h1 : (if op = 21 then cubbyref13_one.inB d regs else cubbyref13_one.inB d slots) = true) (h2 : (if op = 21 then cubbyref13_one.inB a slots else cubbyref13_one.inB a regs) = true) :
    Calls Try.prog 15 #[.agg #[.int .i64 op, .int .i64 d, .int .i64 a, .int .i64 b, .string nm, .slice Ag na cg], .agg #[.string cn, .int .i64 cp, .int .i64 regs, .int .i64 slots, .slice Ab nb cb], .bool last] w fun e w' => e = .returned (.int .i64 0) ∧ Below w.heap.size w w' := by
  obtain ⟨rfl, rfl, rfl, rfl⟩ := hgood
  have HB := Aside0.mk (((Below.refl w.heap.size w).alloc (Nat.le_refl _) (.cells #[] 3)).alloc (by simp) (.cells #[] 3))
  clear HB
  have NXT : True := trivial
  rcases hop with rfl | rfl
  · have HA := Aside0.mk (fun W => cubbyref13_one.in_calls d regs W)
    have HC := Aside0.mk (fun W => cubbyref13_one.in_calls a slots W)
    rw [show cubbyref13_one.inB d regs = true from h1] at HA
    rw [show cubbyref13_one.inB a slots = true from h2] at HC
    clear h1 h2
    obtain ⟨W2, hW2⟩ : ∃ W2, ((w.alloc (.cells #[.int .i64 21, .int .i64 d, .int .i64 a, .int .i64 0, .string ⟨#[]⟩, .slice Ag 0 cg] 28)).alloc (.cells #[.string cn, .int .i64 cp, .int .i64 regs, .int .i64 slots, .slice Ab nb cb] 31)) = W2 := ⟨_, rfl⟩
    have e1 : W2.heap[w.heap.size]? = some (.cells #[.int .i64 21, .int .i64 d, .int .i64 a, .int .i64 0, .string ⟨#[]⟩, .slice Ag 0 cg] 28) := by rw [← hW2]; exact Hw.blk_al (Hw.blk_nw w _) _
    have e2 : W2.heap[w.heap.size + 1]? = some (.cells #[.string cn, .int .i64 cp, .int .i64 regs, .int .i64 slots, .slice Ab nb cb] 31) := by rw [← hW2]; exact Hw.blk_nw1 w _ _
    have HB := Aside0.mk (show Below w.heap.size w W2 by rw [← hW2]; exact ((Below.refl w.heap.size w).alloc (Nat.le_refl _) _).alloc (by simp) _)
    have l1 := (Array.getElem?_eq_some_iff.1 e1).1
    have l2 := (Array.getElem?_eq_some_iff.1 e2).1
    have KX : Aside0 (∀ W3, Below W2.heap.size W2 W3 → W3.cell? ⟨w.heap.size, 0, none⟩ = some (.int .i64 21) ∧ W3.cell? ⟨w.heap.size, 1, none⟩ = some (.int .i64 d) ∧ W3.cell? ⟨w.heap.size, 2, none⟩ = some (.int .i64 a) ∧ W3.cell? ⟨w.heap.size + 1, 2, none⟩ = some (.int .i64 regs) ∧ W3.cell? ⟨w.heap.size + 1, 3, none⟩ = some (.int .i64 slots)) := ⟨fun W3 hb => by
      have f1 := (hb.block _ l1).trans e1
      have f2 := (hb.block _ l2).trans e2
      exact ⟨cell_of_row W3 _ 0 _ _ _ f1, cell_of_row W3 _ 1 _ _ _ f1, cell_of_row W3 _ 2 _ _ _ f1, cell_of_row W3 _ 2 _ _ _ f2, cell_of_row W3 _ 3 _ _ _ f2⟩⟩
    have HW := Lib.hid hW2
    have HX := Aside0.mk (Below.refl W2.heap.size W2)
    clear hW2 e1 e2 l1 l2
    go_enter Try.func15, Try.ntmps15
    go_upto_region 6 with fail
    rw [HW.out]
    obtain ⟨k0, k1, k2, k3, k4⟩ := KX.out _ HX.out
    clear HW
    go_wp2_with (first | (go_at_call 14; (with_reducible refine (HA.out _).mono ?_); rintro e w9 ⟨rfl, hb⟩; have HX := Aside0.mk (HX.out.trans (hb.mono HX.out.size)); clear hb k0 k1 k2 k3 k4; obtain ⟨k0, k1, k2, k3, k4⟩ := KX.out _ HX.out) | (go_at_call 14; (with_reducible refine (HC.out _).mono ?_); rintro e w9 ⟨rfl, hb⟩; have HX := Aside0.mk (HX.out.trans (hb.mono HX.out.size)); clear hb k0 k1 k2 k3 k4; obtain ⟨k0, k1, k2, k3, k4⟩ := KX.out _ HX.out))
    go_ret
    exact ⟨by first | rfl | simp, HB.out.trans (HX.out.mono HB.out.size)⟩
  · have HA := Aside0.mk (fun W => cubbyref13_one.in_calls d slots W)
    have HC := Aside0.mk (fun W => cubbyref13_one.in_calls a regs W)
    rw [show cubbyref13_one.inB d slots = true from h1] at HA
    rw [show cubbyref13_one.inB a regs = true from h2] at HC
    clear h1 h2
    obtain ⟨W2, hW2⟩ : ∃ W2, ((w.alloc (.cells #[.int .i64 22, .int .i64 d, .int .i64 a, .int .i64 0, .string ⟨#[]⟩, .slice Ag 0 cg] 28)).alloc (.cells #[.string cn, .int .i64 cp, .int .i64 regs, .int .i64 slots, .slice Ab nb cb] 31)) = W2 := ⟨_, rfl⟩
    have e1 : W2.heap[w.heap.size]? = some (.cells #[.int .i64 22, .int .i64 d, .int .i64 a, .int .i64 0, .string ⟨#[]⟩, .slice Ag 0 cg] 28) := by rw [← hW2]; exact Hw.blk_al (Hw.blk_nw w _) _
    have e2 : W2.heap[w.heap.size + 1]? = some (.cells #[.string cn, .int .i64 cp, .int .i64 regs, .int .i64 slots, .slice Ab nb cb] 31) := by rw [← hW2]; exact Hw.blk_nw1 w _ _
    have HB := Aside0.mk (show Below w.heap.size w W2 by rw [← hW2]; exact ((Below.refl w.heap.size w).alloc (Nat.le_refl _) _).alloc (by simp) _)
    have l1 := (Array.getElem?_eq_some_iff.1 e1).1
    have l2 := (Array.getElem?_eq_some_iff.1 e2).1
    have KX : Aside0 (∀ W3, Below W2.heap.size W2 W3 → W3.cell? ⟨w.heap.size, 0, none⟩ = some (.int .i64 22) ∧ W3.cell? ⟨w.heap.size, 1, none⟩ = some (.int .i64 d) ∧ W3.cell? ⟨w.heap.size, 2, none⟩ = some (.int .i64 a) ∧ W3.cell? ⟨w.heap.size + 1, 2, none⟩ = some (.int .i64 regs) ∧ W3.cell? ⟨w.heap.size + 1, 3, none⟩ = some (.int .i64 slots)) := ⟨fun W3 hb => by
      have f1 := (hb.block _ l1).trans e1
      have f2 := (hb.block _ l2).trans e2
      exact ⟨cell_of_row W3 _ 0 _ _ _ f1, cell_of_row W3 _ 1 _ _ _ f1, cell_of_row W3 _ 2 _ _ _ f1, cell_of_row W3 _ 2 _ _ _ f2, cell_of_row W3 _ 3 _ _ _ f2⟩⟩
    have HW := Lib.hid hW2
    have HX := Aside0.mk (Below.refl W2.heap.size W2)
    clear hW2 e1 e2 l1 l2
    go_enter Try.func15, Try.ntmps15
    go_upto_region 6 with fail
    rw [HW.out]
    obtain ⟨k0, k1, k2, k3, k4⟩ := KX.out _ HX.out
    clear HW
    go_wp2_with (first | (go_at_call 14; (with_reducible refine (HA.out _).mono ?_); rintro e w9 ⟨rfl, hb⟩; have HX := Aside0.mk (HX.out.trans (hb.mono HX.out.size)); clear hb k0 k1 k2 k3 k4; obtain ⟨k0, k1, k2, k3, k4⟩ := KX.out _ HX.out) | (go_at_call 14; (with_reducible refine (HC.out _).mono ?_); rintro e w9 ⟨rfl, hb⟩; have HX := Aside0.mk (HX.out.trans (hb.mono HX.out.size)); clear hb k0 k1 k2 k3 k4; obtain ⟨k0, k1, k2, k3, k4⟩ := KX.out _ HX.out))
    go_ret
    exact ⟨by first | rfl | simp, HB.out.trans (HX.out.mono HB.out.size)⟩
set_option maxHeartbeats 16000000 in
set_option maxRecDepth 100000 in
theorem cubbyref13_one.ones (op d a b : Int) (nm : ByteArray) (args : List Int) (Ag : Option Addr) (cg : Nat) (cn : ByteArray) (cp regs slots : Int) (Ab : Option Addr) (nb cb : Nat) (last n : Bool) (w : World) (hop : ¬ op = 21 ∧ ¬ op = 22 ∧ ¬ op = 11) (hargs : (Kd.int .i64).C w Ag args.length args) (hcg : args.length ≤ cg) (hal : args.length ≤ 1000000)
    (hN : ∃ k, cubbyref07_Name.f k nm = some n) :
    Calls Try.prog 15 #[.agg #[.int .i64 op, .int .i64 d, .int .i64 a, .int .i64 b, .string nm, .slice Ag args.length cg], .agg #[.string cn, .int .i64 cp, .int .i64 regs, .int .i64 slots, .slice Ab nb cb], .bool last] w fun e w' => e = .returned (.int .i64 (cubbyref07_One.ans op d a b nm args regs (nb : Int) n last)) ∧ Below w.heap.size w w' := by
  obtain ⟨c1, c2, c3⟩ := hop
  have HO := Aside0.mk (fun W (hC : (Kd.int .i64).C W Ag args.length args) => cubbyref07_One.calls op d a b nm args Ag cg regs (nb : Int) last n W hC hcg hal hN)
  have HH := Aside0.mk hargs
  clear hargs hcg hal hN
  generalize cubbyref07_One.ans op d a b nm args regs (nb : Int) n last = r at HO ⊢
  have NXT : True := trivial
  obtain ⟨W2, hW2⟩ : ∃ W2, ((w.alloc (.cells #[.int .i64 op, .int .i64 d, .int .i64 a, .int .i64 b, .string nm, .slice Ag args.length cg] 28)).alloc (.cells #[.string cn, .int .i64 cp, .int .i64 regs, .int .i64 slots, .slice Ab nb cb] 31)) = W2 := ⟨_, rfl⟩
  have e1 : W2.heap[w.heap.size]? = some (.cells #[.int .i64 op, .int .i64 d, .int .i64 a, .int .i64 b, .string nm, .slice Ag args.length cg] 28) := by rw [← hW2]; exact Hw.blk_al (Hw.blk_nw w _) _
  have e2 : W2.heap[w.heap.size + 1]? = some (.cells #[.string cn, .int .i64 cp, .int .i64 regs, .int .i64 slots, .slice Ab nb cb] 31) := by rw [← hW2]; exact Hw.blk_nw1 w _ _
  have HB := Aside0.mk (show Below w.heap.size w W2 by rw [← hW2]; exact ((Below.refl w.heap.size w).alloc (Nat.le_refl _) _).alloc (by simp) _)
  have l1 := (Array.getElem?_eq_some_iff.1 e1).1
  have l2 := (Array.getElem?_eq_some_iff.1 e2).1
  have KX : Aside0 (∀ W3, Below W2.heap.size W2 W3 → W3.cell? ⟨w.heap.size, 0, none⟩ = some (.int .i64 op) ∧ W3.cell? ⟨w.heap.size, 1, none⟩ = some (.int .i64 d) ∧ W3.cell? ⟨w.heap.size, 2, none⟩ = some (.int .i64 a) ∧ W3.cell? ⟨w.heap.size, 3, none⟩ = some (.int .i64 b) ∧ W3.cell? ⟨w.heap.size, 4, none⟩ = some (.string nm) ∧ W3.cell? ⟨w.heap.size, 5, none⟩ = some (.slice Ag args.length cg) ∧ W3.cell? ⟨w.heap.size + 1, 2, none⟩ = some (.int .i64 regs) ∧ W3.cell? ⟨w.heap.size + 1, 4, none⟩ = some (.slice Ab nb cb)) := ⟨fun W3 hb => by
    have f1 := (hb.block _ l1).trans e1
    have f2 := (hb.block _ l2).trans e2
    exact ⟨cell_of_row W3 _ 0 _ _ _ f1, cell_of_row W3 _ 1 _ _ _ f1, cell_of_row W3 _ 2 _ _ _ f1, cell_of_row W3 _ 3 _ _ _ f1, cell_of_row W3 _ 4 _ _ _ f1, cell_of_row W3 _ 5 _ _ _ f1, cell_of_row W3 _ 2 _ _ _ f2, cell_of_row W3 _ 4 _ _ _ f2⟩⟩
  have HW := Lib.hid hW2
  have HX := Aside0.mk (Below.refl W2.heap.size W2)
  clear hW2 e1 e2 l1 l2
  go_enter Try.func15, Try.ntmps15
  go_upto_region 17 with fail
  rw [HW.out]
  obtain ⟨k0, k1, k2, k3, k4, k5, k6, k7⟩ := KX.out _ HX.out
  clear HW
  go_wp2_with (go_at_call 22; (with_reducible refine (HO.out _ (Kd.C_below HH.out (HB.out.trans (HX.out.mono HB.out.size)))).mono ?_); rintro e w9 ⟨rfl, hb⟩; have HX := Aside0.mk (HX.out.trans (hb.mono HX.out.size)); clear hb k0 k1 k2 k3 k4 k5 k6 k7)
  go_ret
  exact ⟨rfl, HB.out.trans (HX.out.mono HB.out.size)⟩

end Go.Proofs.Ytkjflclkjdbmoaa.PExecSlots
