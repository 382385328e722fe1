/- chunk.Cut: a range over a function whose closure turns a variable that it captured; by hand. A library; conditions: none. -/
import Derived.RangeFuncNested
import Derived.RangeFuncBound
import Derived.RangeFuncCalls
import Derived.RangeFuncLeaves
import Derived.RangeFuncBox
import Derived.Shelf.Abstract
import Derived.Shelf.RegionOpen
import Derived.WalkKit
import Derived.OwnWalkIn
import Derived.TacticsInMore
import Derived.LoopNIn
import Derived.LoopIn
import Derived.Maps.AppendAt
import Derived.Test.YtfdccgpbdcdgmaaProg
import Derived.Test.YtfdccgpbdcdgmaaHw
set_option linter.unusedVariables false
namespace Go.Proofs.Ytfdccgpbdcdgmaa.Ct
open Go.RowKit Go.Shelf Go.Proofs.YtfdccgpbdcdgmaaW.PrintWords Go.Proofs.YtfdccgpbdcdgmaaW.PrintLast Go.Proofs.YtfdccgpbdcdgmaaW
attribute [local go_sem] Oper.semAt_some
/-- A text in pieces of 96 bytes, the last one shorter or as long. -/
def pcs (s : ByteArray) : List ByteArray := if h : 96 < s.size then s.extract 0 96 :: pcs (s.extract 96 s.size) else [s]
termination_by s.size
decreasing_by rw [ByteArray.size_extract]; omega
theorem pcs_hi (s : ByteArray) (h : 96 < s.size) : pcs s = s.extract 0 96 :: pcs (s.extract 96 s.size) := by rw [pcs]; exact dif_pos h
theorem pcs_lo (s : ByteArray) (h : ¬ 96 < s.size) : pcs s = [s] := by rw [pcs]; exact dif_neg h
theorem pcs_pos (s : ByteArray) : 0 < (pcs s).length := by
  by_cases h : 96 < s.size
  · rw [pcs_hi s h]; simp
  · rw [pcs_lo s h]; simp
theorem pcs_len (n : Nat) : ∀ s : ByteArray, s.size ≤ n → (pcs s).length ≤ n / 96 + 1 := by
  induction n using Nat.strongRecOn with
  | _ n ih =>
    intro s hs
    by_cases h : 96 < s.size
    · rw [pcs_hi s h, List.length_cons]
      have := ih (n - 96) (by omega) (s.extract 96 s.size) (by rw [ByteArray.size_extract]; omega)
      omega
    · rw [pcs_lo s h]; simp
variable {F : Fence} {n : Nat} {P : Program}
/-- A range over a function that turns one block (B) of its own between the rounds; no round leaves the loop. -/
theorem rangeB {α : Type} {g : Operand} {ps : Array Tmp} {assign body : Code} {Q : Exit → Act → World → Prop} {a : Act} {w : World}
    (hro : F.round = none) (h1 : F.depth.isSome = true → 1 ≤ n) {gf : Nat} {lb : Array Value} (hg : a.eval g = .func (.func gf) #[] lb) (hFg : F.fn gf) (eg : ∀ args w, (callFunc gf args).run P w = .ok (.enter gf args) w)
    {encs : α → Array Value} (hps : ∀ x, (encs x).size = ps.size) (B : Nat) (hB : B < w.heap.size) (S : List α → Prop) (N : Nat)
    (I : List α → World → Prop) (hIs : ∀ s W u, I s W → I s (W.setCell ⟨B, 0, none⟩ u)) (hIp : ∀ s W r (o o' : Obj), I s W → W.heap[r]? = some o → o.isCells = false → w.heap.size ≤ r → I s (W.putObj r o'))
    (hIa : ∀ o : Obj, I [] ((w.alloc (.deferred (some []))).alloc o))
    (hseq : ∀ (l : Nat) (J : List α → World → Prop) (W : World), Below w.heap.size w W → (∀ s W u, J s W → J s (W.setCell ⟨B, 0, none⟩ u)) →
      (∀ pre x W1, J pre W1 → pre.length < N → YieldAt F (n - 1 - 1) P l (encs x) W1 fun e W' => e = .returned (.bool true) ∧ J (pre ++ [x]) W' ∧ W'.heap[B]? = W1.heap[B]?) → J [] W →
      CallsIn F (n - 1) P gf (#[.func (.yield l) #[] #[]] ++ lb) W fun e W' => (∃ v, e = .returned v) ∧ ∃ xs, S xs ∧ J xs W')
    (a₁ : α → Act)
    (hassign : ∀ (l : Nat) (x : α) (W : World) (K : Act → World → Prop), K (a₁ x) W →
      assign.wpIn (F.inRound l) (n - 1 - 1) P (Exit.then K (fun _ _ _ => False)) { tmps := (ps.zip (encs x)).foldl (fun t (p, v) => t.setIfInBounds p v) a.tmps, defers := [] } W)
    (hbody : ∀ (l : Nat) (pre : List α) (x : α) (W : World), I pre W → pre.length < N → body.wpIn (F.inRound l) (n - 1 - 1) P (fun e _ W' => e = .normal ∧ KeepsOthers W W' ∧ I (pre ++ [x]) W' ∧ W'.heap[B]? = W.heap[B]?) (a₁ x) W)
    (hdone : ∀ (D : Nat) (xs : List α) (W : World), w.heap.size ≤ D → S xs → I xs W → W.heap[D]? = some (.deferred (some [])) → Q .normal { a with defers := { target := .collected D, args := #[] } :: a.defers } W) :
    (Code.rangeFunc g ps assign body).wpIn F n P Q a w := by
  refine wpIn_rangeFunc ?_
  intro fn hfn
  rw [hro]
  obtain ⟨rec, hrec⟩ : ∃ rec : LoopState → Option Code → Loop, rec = fun st pe => { state := st, pending := pe, fn, tmps := a.tmps, params := ps, assign, body, defers := w.heap.size } := ⟨_, rfl⟩
  have hI1 := hIa (.loop (rec .ready none))
  obtain ⟨W1, hW1⟩ : ∃ W1, (w.alloc (.deferred (some []))).alloc (.loop (rec .ready none)) = W1 := ⟨_, rfl⟩
  rw [hW1] at hI1
  have hL1 : W1.heap[w.heap.size + 1]? = some (.loop (rec .ready none)) := by
    rw [← hW1]; have := World.alloc_heap_new (w.alloc (.deferred (some []))) (.loop (rec .ready none)); rwa [World.size_alloc] at this
  have hK1 : W1.heap[w.heap.size]? = some (.deferred (some [])) := by
    rw [← hW1]; exact (Below.heap_alloc _ _ _ (by simp)).trans (World.alloc_heap_new w _)
  have hb1 : Below w.heap.size w W1 := by
    rw [← hW1]; exact ((Below.refl _ w).alloc (Nat.le_refl _) _).alloc (by simp) _
  refine ⟨w.heap.size + 1, [{ target := .collected w.heap.size, args := #[] }], W1, { target := .fn (.func gf) lb, args := #[.func (.yield (w.heap.size + 1)) #[] #[]] }, W1, gf,
    #[.func (.yield (w.heap.size + 1)) #[] #[]] ++ lb, W1, ?_, ?_, ?_, ?_, h1, ?_⟩
  · rw [← hW1, hrec]; exact run_enterLoop_outer _ _ _ _ _
  · simp only [resolve, hg]
    simp [go_sem]
  · intro f' hf'; simp [Target.leads] at hf'; subst hf'; exact hFg
  · simp [invoke, go_sem, eg]
  · refine (hseq (w.heap.size + 1)
      (fun pre W => I pre W ∧ W.heap[w.heap.size + 1]? = some (.loop (rec .ready none)) ∧ W.heap[w.heap.size]? = some (.deferred (some [])))
      W1 hb1
      (fun s A u hs => ⟨hIs s A u hs.1, (Below.heap_setCell _ _ _ _ (by simp; omega)).trans hs.2.1, (Below.heap_setCell _ _ _ _ (by simp; omega)).trans hs.2.2⟩)
      ?_ ⟨hI1, hL1, hK1⟩).mono ?_
    · rintro pre x W ⟨hi, hl, hk⟩ hlen
      have hlt : w.heap.size + 1 < W.heap.size := (Array.getElem?_eq_some_iff.1 hl).1
      have hy := run_yield (P := P) (args := encs x) hl (by rw [hrec]; exact hps x)
      rw [hrec] at hy
      refine ⟨fn, _, assign, body, hy, roundIn_of_wpIn hfn (hassign _ x W _ ⟨_, run_beginRound hl (by rw [hrec]), ?_⟩)⟩
      have hl2 : (W.putObj (w.heap.size + 1) (.loop { rec .ready none with state := .busy })).heap[w.heap.size + 1]? = some (.loop { rec .ready none with state := .busy }) := World.putObj_heap_same hlt
      have hk2 : (W.putObj (w.heap.size + 1) (.loop { rec .ready none with state := .busy })).heap[w.heap.size]? = some (.deferred (some [])) := (World.putObj_heap_other (by omega)).trans hk
      refine wpIn_mono (hbody _ pre x _ (hIp _ _ _ _ _ hi hl rfl (by omega)) hlen) ?_
      rintro e a3 W3 ⟨rfl, hk3, hi3, hb3⟩
      have hl3 := hk3.same _ _ hl2 rfl
      have hr := run_endRound (P := P) none hl3
      have hend : (W3.putObj (w.heap.size + 1) (.loop (rec .ready none))).heap[w.heap.size + 1]? = some (.loop (rec .ready none)) := World.putObj_heap_same (Array.getElem?_eq_some_iff.1 hl3).1
      have hke : (W3.putObj (w.heap.size + 1) (.loop (rec .ready none))).heap[w.heap.size]? = some (.deferred (some [])) := (World.putObj_heap_other (by omega)).trans (hk3.same _ _ hk2 rfl)
      have hbe : (W3.putObj (w.heap.size + 1) (.loop (rec .ready none))).heap[B]? = W.heap[B]? := (World.putObj_heap_other (by omega)).trans (hb3.trans (World.putObj_heap_other (by omega)))
      have hie := hIp _ _ _ _ (.loop (rec .ready none)) hi3 hl3 rfl (by omega)
      refine ⟨_, _, hr, rfl, ?_⟩
      have hsame : ({ { rec .ready none with state := LoopState.busy } with state := if (none : Option Code).isNone = true then LoopState.ready else LoopState.done, pending := none } : Loop) = rec .ready none := by rw [hrec]; rfl
      rw [hsame]
      exact ⟨⟨hie, hend, hke⟩, hbe⟩
    · rintro e W2 ⟨⟨v, rfl⟩, xs, hS, hi, hl, hk⟩
      exact ⟨none, _, by have := run_endLoop (P := P) hl (by rw [hrec]; simp); rw [hrec] at this; exact this, hdone _ xs _ (Nat.le_refl _) hS (hIp _ _ _ _ _ hi hl rfl (by omega)) ((World.putObj_heap_other (by omega)).trans hk)⟩
/-- How much of the text is left in the closure's variable. -/
def left (B : Nat) (W : World) : Nat := match W.cell? ⟨B, 0, none⟩ with
  | some (.string x) => x.size
  | _ => 0
theorem left_eq {B : Nat} {W : World} {x : ByteArray} (h : W.cell? ⟨B, 0, none⟩ = some (.string x)) : left B W = x.size := by unfold left; rw [h]
set_option maxRecDepth 100000 in
set_option maxHeartbeats 2000000 in
/-- The closure: it hands on one piece after another, whatever the rounds do. -/
theorem iter (m l B N : Nat) (J : List ByteArray → World → Prop) (hS : ∀ s W u, J s W → J s (W.setCell ⟨B, 0, none⟩ u))
    (hY : ∀ pre x W1, J pre W1 → pre.length < N → YieldAt Fence.wide (m - 1) Try.prog l #[.string x] W1 fun e W' => e = .returned (.bool true) ∧ J (pre ++ [x]) W' ∧ W'.heap[B]? = W1.heap[B]?)
    (W : World) (s : ByteArray) (hc : W.cell? ⟨B, 0, none⟩ = some (.string s)) (hf : W.frozen? ⟨B, 0, none⟩ = false) (hN : (pcs s).length ≤ N) (h0 : J [] W) :
    CallsIn Fence.wide m Try.prog 88 #[.func (.yield l) #[] #[], .pointer (some ⟨B, 0, none⟩)] W fun e W' => (∃ v, e = .returned v) ∧ ∃ xs, xs = pcs s ∧ J xs W' := by
  refine callsIn_of_wp Try.func88 rfl trivial ?_ rfl
  simp only [Try.ntmps88, List.size_toArray, List.length_cons, List.length_nil, Nat.reduceAdd, Nat.reduceSub, Array.replicate_succ, Array.replicate_zero, List.push_toArray, List.append_toArray, List.nil_append, List.cons_append]
  gi_wp2
  gi_loopw [3] (fun _ wr => ∃ (pre : List ByteArray) (x : ByteArray), pcs s = pre ++ pcs x ∧ wr.cell? ⟨B, 0, none⟩ = some (.string x) ∧ wr.frozen? ⟨B, 0, none⟩ = false ∧ J pre wr) (fun _ wr => left B wr)
  case atStart =>
    exact ⟨[], s, rfl, hc, hf, h0⟩
  case round =>
    obtain ⟨pre, x, hx, hcx, hfx, hJ⟩ := hrel
    have hsz := congrArg List.length hx
    rw [List.length_append] at hsz
    have hpos := pcs_pos x
    by_cases h : 96 < x.size
    · have hd : decide (96 < (x.size : Int)) = true := decide_eq_true (by omega)
      have hd2 : decide (96 < x.size) = true := decide_eq_true h
      obtain ⟨fn, tmps, assign, body, hy, hR⟩ := hY pre (x.extract 0 96) wr hJ (by omega)
      gi_wp2
      refine ⟨fun hh => (by cases hh), ?_⟩
      refine hR.mono ?_
      rintro e W3 ⟨rfl, hJ3, hb3⟩
      have hc3 : W3.cell? ⟨B, 0, none⟩ = some (.string x) := (World.cell?_of_block (a := ⟨B, 0, none⟩) hb3).trans hcx
      have hf3 : W3.frozen? ⟨B, 0, none⟩ = false := (World.frozen?_of_block (a := ⟨B, 0, none⟩) hb3).trans hfx
      have hc4 : (W3.setCell ⟨B, 0, none⟩ (.string (x.extract 96 x.size))).cell? ⟨B, 0, none⟩ = some (.string (x.extract 96 x.size)) := World.cell?_setCell_same' _ _ _ (by rw [hc3]; rfl)
      gi_wp2
      go_roundw
      case rel => exact ⟨pre ++ [x.extract 0 96], x.extract 96 x.size, by rw [hx, pcs_hi x h, List.append_assoc]; rfl, hc4, by rw [World.frozen?_setCell]; exact hf3, hS _ _ _ hJ3⟩
      case measure => rw [left_eq hc4, left_eq hcx, ByteArray.size_extract]; omega
    · have hd : decide (96 < (x.size : Int)) = false := decide_eq_false (by omega)
      have hd2 : decide (96 < x.size) = false := decide_eq_false h
      obtain ⟨fn, tmps, assign, body, hy, hR⟩ := hY pre x wr hJ (by omega)
      gi_wp2
      refine ⟨fun hh => (by cases hh), ?_⟩
      refine hR.mono ?_
      rintro e W3 ⟨rfl, hJ3, hb3⟩
      gi_wp2
      go_end0
      exact ⟨⟨_, rfl⟩, _, rfl, by rw [hx, pcs_lo x h]; exact hJ3⟩
set_option maxRecDepth 100000 in
theorem pieces (s : ByteArray) (w : World) : Calls Try.prog 82 #[.string s] w fun e w' => e = .returned (.func (.func 88) #[] #[.pointer (some ⟨w.heap.size, 0, none⟩)]) ∧ w' = w.alloc (.cells #[.string s] 9) := by
  have hmf : ∀ (fn : Fn) (first cap : Array Value) (w : World), (Instr.makeFunc fn first cap).run Try.prog w = .ok (.func fn first cap) w := fun _ _ _ _ => rfl
  go_enter Try.func82, Try.ntmps82
  go_wp2
  go_ret
  exact ⟨rfl, rfl⟩
theorem reps_str (xs : List ByteArray) (w : World) (base : Nat) (ok : Nat → Prop) : Reps (Kd.string.M w base ok) 1 xs (xs.map Value.string) := by
  refine ⟨by simp, fun j p hj => ?_⟩
  show ((xs.map Value.string).drop (j * 1)).take 1 = [.string p]
  have hl : j < xs.length := (List.getElem?_eq_some_iff.1 hj).1
  rw [Nat.mul_one, List.drop_eq_getElem_cons (by simpa using hl), List.getElem_map, (List.getElem?_eq_some_iff.1 hj).2]
  rfl
theorem info_str : (Try.prog.info? 9).map (fun i => (i.zero, i.size, i.bytes)) = some (some (.string ⟨#[]⟩), 1, 16) := by kernel_rfl
/-- Between two rounds of Cut's loop. -/
def I (w : World) (pre : List ByteArray) (W : World) : Prop := ∃ v, Boxed W w.heap.size 35 v ∧ W.ownsRow (w.heap.size + 2) 9 1 v pre.length (pre.map Value.string) ∧ Below w.heap.size w W ∧ w.heap.size + 2 ≤ W.heap.size
theorem own_ne {W : World} {base : Nat} {e : TypeId} {size k : Nat} {v : Value} {xs : List Value} (h : W.ownsRow base e size v k xs) (b : Nat) (hb : b < base) : some b ≠ v.ownBlock := fun he => by have := own_base h b he.symm; omega
set_option maxRecDepth 100000 in
set_option maxHeartbeats 2000000 in
theorem cut (s : ByteArray) (hs : s.size ≤ 140737488355328) (w : World) : Calls Try.prog 66 #[.string s] w fun e w' => ∃ v, e = .returned v ∧ Kd.R Kd.string 9 w' w.heap.size (fun _ => True) v (pcs s) ∧ Below w.heap.size w w' := by
  refine (callsIn_wide (n := 5)).1 ?_
  refine callsIn_of_wp_marks Try.func66 rfl trivial ?_ rfl
  simp only [Try.ntmps66, List.size_toArray, List.length_cons, List.length_nil, Nat.reduceAdd, Nat.reduceSub, Array.replicate_succ, Array.replicate_zero, List.push_toArray, List.append_toArray, List.nil_append, List.cons_append]
  gi_wp2_with (refine ⟨trivial, ?_⟩; gi_at_call 82; refine (callsIn_wide.2 (pieces s _)).mono ?_; rintro e w' ⟨rfl, rfl⟩)
  obtain ⟨W0, hW0⟩ : ∃ W0, (w.alloc (.cells #[.slice none 0 0] 35)).alloc (.cells #[.string s] 9) = W0 := ⟨_, rfl⟩
  have hs0 : W0.heap.size = w.heap.size + 2 := by rw [← hW0]; simp
  have hBo : Boxed W0 w.heap.size 35 (.slice none 0 0) := by rw [← hW0]; exact (Boxed.new w 35 _).alloc _
  have hBs : Boxed W0 (w.heap.size + 1) 9 (.string s) := by
    rw [← hW0]
    have := Boxed.new (w.alloc (.cells #[.slice none 0 0] 35)) 9 (.string s)
    rwa [World.size_alloc] at this
  have hb0 : Below w.heap.size w W0 := by rw [← hW0]; exact ((Below.refl _ w).alloc (Nat.le_refl _) _).alloc (by simp) _
  rw [hW0]
  clear hW0
  obtain ⟨i0, hi, hz0, hz1, hz2⟩ := info_parts info_str
  refine rangeB (n := 5) rfl (fun h => by cases h) (gf := 88) (lb := #[.pointer (some ⟨w.heap.size + 1, 0, none⟩)]) rfl trivial (enters_of Try.func88 (by kernel_rfl) rfl) (encs := fun x => #[.string x]) (fun _ => rfl) (w.heap.size + 1) (by omega) (fun xs => xs = pcs s) (s.size / 96 + 1) (I w) ?hIs ?hIp ?hIa ?hseq
    (fun x => { tmps := #[.string s, undef, .slice none 0 0, .pointer (some ⟨w.heap.size, 0, none⟩), .string x, .string s, .func (.func 88) #[] #[.pointer (some ⟨w.heap.size + 1, 0, none⟩)], .string x, undef, undef, undef, undef, undef], defers := [] }) ?assign ?body ?done
  case hIs =>
    rintro pre W u ⟨v, hv, hr, hb, hsz⟩
    exact ⟨v, hv.kept (grownBy_setCell' W _ u) (by simp), hr.kept (grownBy_setCell' W _ u) (.inr fun e => own_ne hr (w.heap.size + 1) (by omega) e.symm), hb.setCell (p := ⟨w.heap.size + 1, 0, none⟩) (by simp) u, by simpa [World.setCell] using hsz⟩
  case hIp =>
    rintro pre W r o o' ⟨v, hv, hr, hb, hsz⟩ ho hc hle
    have hg := grownBy_putObj' W r o'
    exact ⟨v, hv.kept hg (by intro e; cases e; omega), ownsRow_putObj hr o' ho hc, hb.grown hg hb.size (fun j e => by cases e; omega), Nat.le_trans hsz hg.size⟩
  case hIa =>
    intro o
    exact ⟨_, (hBo.alloc _).alloc _, ⟨rfl, .inl ⟨rfl, rfl⟩⟩, (hb0.alloc hb0.size _).alloc (by simp; omega) _, by simp; omega⟩
  case hseq =>
    intro l J W hW hS hY h0
    exact iter _ l _ _ J hS hY W s ((hW.cell (p := ⟨w.heap.size + 1, 0, none⟩) (by simp; omega)).trans hBs.cell) ((World.frozen?_of_block (a := ⟨w.heap.size + 1, 0, none⟩) (hW.block (w.heap.size + 1) (by omega))).trans hBs.frozen) (pcs_len _ s (Nat.le_refl _)) h0
  case assign =>
    intro l x W K hK
    gi_wp2
    exact hK
  case body =>
    rintro l pre x W ⟨v, hv, hr, hb, hsz⟩ hlen
    have hc1 := hv.cell
    have hf1 := hv.frozen
    have hmx : maxLen = 9223372036854775807 := rfl
    gi_wp2_with (gi_at_builtin; refine wpListIn_append_own _ rfl _ _ 35 rfl (w.heap.size + 2) 9 i0 (.string ⟨#[]⟩) 1 16 Try.underlying35 hi hz0 hz1 hz2 rfl (by decide) _ _ _ rfl (hr.alloc _) ⟨W.heap.size, 0, none⟩ 1 1 [.string x] rfl rfl (cell_one_new _ _ _) (by simp [Value.oneCell']) (by omega) (by omega) (by simp; omega) ?_; intro v' w1 hown' hgrow _; obtain ⟨g', cap', rfl⟩ := ownsRow_succ hown'; have hv1 := (hv.alloc (.cells #[.string x] 9)).kept hgrow (own_ne hr _ (by omega)); have hc2 := hv1.cell; have hf2 := hv1.frozen)
    have hg2 : (W.alloc (.cells #[.string x] 9)).grownBy w1 v.ownBlock := hgrow
    have hg3 := grownBy_setCell' w1 w.heap.size (.slice (some ⟨g', 0, none⟩) (pre.length + 1) cap')
    have hcells : ∀ (j : Nat) (o : Obj), v.ownBlock = some j → (W.alloc (.cells #[.string x] 9)).heap[j]? = some o → o.isCells = true := by
      intro j o ej hj
      rcases (hr.alloc (.cells #[.string x] 9)).2 with ⟨rfl, _⟩ | ⟨g, cap, cur, rfl, _, hgb, _⟩
      · simp [Value.ownBlock] at ej
      · obtain rfl : g = j := by simpa [Value.ownBlock] using ej
        rw [hgb] at hj; cases hj; rfl
    refine ⟨((KeepsOthers.alloc W _).trans (KeepsOthers.of_grownBy hg2 hcells)).trans (KeepsOthers.setCell _ _ _), ⟨_, hv1.set _, ?_, ?_, ?_⟩, ?_⟩
    · rw [List.length_append, List.length_singleton, List.map_append, List.map_cons, List.map_nil]
      exact hown'.kept hg3 (.inr fun e => own_ne hown' w.heap.size (by omega) e.symm)
    · refine ((hb.alloc hb.size _).grown hg2 (by have := hb.size; simp; omega) fun j ej => ?_).setCell (p := ⟨w.heap.size, 0, none⟩) (Nat.le_refl _) _
      have := own_base hr j ej
      omega
    · have h1 := hg2.size
      have h2 := hg3.size
      simp at h1
      omega
    · refine (Below.heap_setCell _ _ _ _ (by simp)).trans ((hg2.block _ (by simp; omega) (own_ne hr _ (by omega))).trans (Below.heap_alloc _ _ _ (by omega)))
  case done =>
    rintro D xs W hD rfl ⟨v, hv, hr, hb, hsz⟩ hK
    have hc1 := hv.cell
    have hf1 := hv.frozen
    gi_wp2
    refine ⟨by simp, .inl ⟨_, _, rfl, run_takeDeferred hK, ?_⟩⟩
    have hg := grownBy_putObj' W D (.deferred none)
    refine ⟨_, results_tmp rfl _ _ _, v, rfl, ⟨fun _ _ => trivial, _, own_weaken (ownsRow_putObj hr _ hK rfl) (by omega), reps_str _ _ _ _⟩, hb.grown hg hb.size (fun j e => by cases e; omega)⟩
end Go.Proofs.Ytfdccgpbdcdgmaa.Ct
