-- By a program of this session (wip/tools/mkprint.py), for this claim.
import Derived.Test.YtjmgfpfdkfelhaaPRunDeepx0
import Derived.Test.YtjmgfpfdkfelhaaPRunDeepx3
namespace Go.Proofs.Ytjmgfpfdkfelhaa.PRunDeep
open Go.RowKit Go.Proofs.YtjmgfpfdkfelhaaW.PrintWords Go.Proofs.YtjmgfpfdkfelhaaW.PrintLast Go.Proofs.YtjmgfpfdkfelhaaW.PrintMore
attribute [local go_sem] max2_int min2_int max_two min_two max_three min_three max_four min_four   -- for this text's walks alone
set_option linter.unusedVariables false
set_option linter.unusedSimpArgs false

/-! ### cubbylaw10_RunDeep: function 6 (by hand) -/
theorem cubbylaw10_RunDeep.flat (sz : Nat) : ∀ (cells : List (List Value)), (∀ c ∈ cells, c.length = sz) → ∀ (j i : Nat) (c : List Value), cells[j]? = some c → i < sz → cells.flatten[j * sz + i]? = c[i]?
  | [], _, j, i, c, hj, _ => by simp at hj
  | a :: l, h, 0, i, c, hj, hi => by
    have e : a = c := by simpa using hj
    subst e
    rw [List.flatten_cons, List.getElem?_append_left (by rw [h a List.mem_cons_self]; omega), Nat.zero_mul, Nat.zero_add]
  | a :: l, h, j + 1, i, c, hj, hi => by
    have hl := h a List.mem_cons_self
    rw [List.flatten_cons, List.getElem?_append_right (by rw [hl, Nat.add_mul]; omega), hl, show (j + 1) * sz + i - sz = j * sz + i by rw [Nat.add_mul]; omega]
    exact cubbylaw10_RunDeep.flat sz l (fun c hc => h c (List.mem_cons_of_mem _ hc)) j i c (by simpa using hj) hi
/-- A row that lies in a block of its own. -/
theorem cubbylaw10_RunDeep.C_block {α : Type} (d : Kd α) {W : World} {b : Nat} {t : TypeId} {xs : List α} (cells : List (List Value)) (h : W.heap[b]? = some (.cells cells.flatten.toArray t (0, 0))) (hl : cells.length = xs.length) (hn : xs.length ≤ 9223372036854775807)
    (hK : ∀ (j : Nat) (x : α) (c : List Value), xs[j]? = some x → cells[j]? = some c → d.K W x c) : d.C W (some ⟨b, 0, none⟩) xs.length xs := by
  have hsz : ∀ c ∈ cells, c.length = d.sz := by
    intro c hc
    obtain ⟨j, hj, rfl⟩ := List.getElem_of_mem hc
    exact d.K_len (hK j (xs[j]'(by omega)) _ (List.getElem?_eq_getElem (by omega)) (List.getElem?_eq_getElem hj))
  refine ⟨rfl, hn, fun _ => ⟨_, rfl, fun j p hj => ?_⟩⟩
  have hjl := (List.getElem?_eq_some_iff.1 hj).1
  have hc : cells[j]? = some (cells[j]'(by omega)) := List.getElem?_eq_getElem (by omega)
  have hk := hK j p _ hj hc
  refine ⟨_, d.K_len hk, hk, fun i u hu => ?_⟩
  have ea : (⟨b, 0, none⟩ : Addr).add (j * d.sz + i) = ⟨b, j * d.sz + i, none⟩ := by unfold Addr.add; split <;> simp_all
  have hil : i < d.sz := by rw [← d.K_len hk]; exact (List.getElem?_eq_some_iff.1 hu).1
  rw [ea, cell_of_row W b _ _ _ _ h, List.getElem?_toArray, cubbylaw10_RunDeep.flat d.sz cells hsz j i _ hc hil]
  exact hu
theorem cubbylaw10_RunDeep.noargs (W : World) : (Kd.int .i64).C W none 0 [] := ⟨rfl, Nat.zero_le _, fun h => absurd h (Nat.lt_irrefl 0)⟩
theorem cubbylaw10_RunDeep.mkI {W : World} (o d a b : Int) (nm : ByteArray) (as_ : List Int) (Ag : Option Addr) (cg : Nat) (hl : as_.length ≤ cg) (h : (Kd.int .i64).C W Ag as_.length as_) : Rn.kI.K W ⟨o, d, a, b, nm, as_⟩ [.int .i64 o, .int .i64 d, .int .i64 a, .int .i64 b, .string nm, .slice Ag as_.length cg] :=
  ⟨[.int .i64 o], [.int .i64 d, .int .i64 a, .int .i64 b, .string nm, .slice Ag as_.length cg], rfl, rfl, ⟨[.int .i64 d], [.int .i64 a, .int .i64 b, .string nm, .slice Ag as_.length cg], rfl, rfl, ⟨[.int .i64 a], [.int .i64 b, .string nm, .slice Ag as_.length cg], rfl, rfl, ⟨[.int .i64 b], [.string nm, .slice Ag as_.length cg], rfl, rfl, ⟨[.string nm], [.slice Ag as_.length cg], rfl, rfl, ⟨Ag, cg, rfl, hl, h⟩⟩⟩⟩⟩⟩
def cubbylaw10_RunDeep.F (v : Int) : Rn.Fn := ⟨⟨#[102]⟩, 1, 4, [[⟨1, 1, 1, 0, ⟨#[]⟩, []⟩, ⟨13, 2, 0, 1, ⟨#[]⟩, []⟩], [⟨4, 2, 0, 1, ⟨#[]⟩, []⟩, ⟨11, 3, 0, 0, ⟨#[102]⟩, [2]⟩, ⟨14, 0, 3, 0, ⟨#[]⟩, []⟩], [⟨1, 3, v, 0, ⟨#[]⟩, []⟩, ⟨14, 0, 3, 0, ⟨#[]⟩, []⟩]]⟩
theorem cubbylaw10_RunDeep.getp {α : Type} (r : List Int) (i : Int) (k : Int → Option α) (h : 0 ≤ i ∧ i < (r.length : Int)) : Rn.get r i k = k (r.getD i.toNat 0) := if_pos h
theorem cubbylaw10_RunDeep.setp {α : Type} (r : List Int) (i v : Int) (k : List Int → Option α) (h : 0 ≤ i ∧ i < (r.length : Int)) : Rn.set r i v k = k (r.set i.toNat v) := if_pos h
theorem cubbylaw10_RunDeep.blkp {α : Type} (bl : List (List Rn.Ins)) (i : Int) (k : List Rn.Ins → Option α) (h : 0 ≤ i ∧ i < (bl.length : Int)) : Rn.blk bl i k = k (bl.getD i.toNat []) := if_pos h
theorem cubbylaw10_RunDeep.l4 (a b c d : Int) : ((([a, b, c, d] : List Int).length : Nat) : Int) = 4 := rfl
theorem cubbylaw10_RunDeep.l3 (v : Int) : (((cubbylaw10_RunDeep.F v).blocks.length : Nat) : Int) = 3 := rfl
theorem cubbylaw10_RunDeep.ix (v : Int) : Rn.ix [cubbylaw10_RunDeep.F v] ⟨#[102]⟩ = 0 := by
  unfold Rn.ix
  simp [cubbylaw10_RunDeep.F]
theorem cubbylaw10_RunDeep.call (v j deep : Int) (g : Nat) (m : Rn.M) (h : deep < 32) : Rn.call [cubbylaw10_RunDeep.F v] 1000 g ⟨#[102]⟩ [j] deep m = Rn.go [cubbylaw10_RunDeep.F v] 1000 g (cubbylaw10_RunDeep.F v).blocks [j, 0, 0, 0] [⟨1, 1, 1, 0, ⟨#[]⟩, []⟩, ⟨13, 2, 0, 1, ⟨#[]⟩, []⟩] deep m := by
  unfold Rn.call
  rw [cubbylaw10_RunDeep.ix]
  have eok : Rn.ok [cubbylaw10_RunDeep.F v] 0 [j].length deep = true := by
    unfold Rn.ok
    exact decide_eq_true ⟨Int.le_refl 0, rfl, h⟩
  simp only [eok]
  rfl
theorem cubbylaw10_RunDeep.call_not (v j deep : Int) (g : Nat) (m : Rn.M) (h : ¬ deep < 32) : Rn.call [cubbylaw10_RunDeep.F v] 1000 g ⟨#[102]⟩ [j] deep m = some (.trap, m) := by
  unfold Rn.call
  rw [cubbylaw10_RunDeep.ix]
  have eok : ¬ Rn.ok [cubbylaw10_RunDeep.F v] 0 [j].length deep = true := by
    unfold Rn.ok
    exact fun q => h (of_decide_eq_true q).2.2
  rw [if_neg eok]
/-- A level at 0. -/
theorem cubbylaw10_RunDeep.base (v deep : Int) (g : Nat) (m : Rn.M) (hd : deep < 32) (hs : 0 ≤ m.steps ∧ m.steps ≤ 900) (mem : List Int) (hm : m = ⟨mem, [], m.steps⟩) : Rn.call [cubbylaw10_RunDeep.F v] 1000 (g + 4) ⟨#[102]⟩ [0] deep m = some (.val v, ⟨mem, [], m.steps + 4⟩) := by
  rw [cubbylaw10_RunDeep.call v 0 deep _ m hd, hm]
  generalize m.steps = s at hs
  rw [Rn.go1 (g := g + 3) (by show ¬ (1000 : Int) ≤ s; omega), cubbylaw10_RunDeep.setp _ _ _ _ (by rw [cubbylaw10_RunDeep.l4]; decide)]
  rw [Rn.go13 (g := g + 2) (by show ¬ (1000 : Int) ≤ s + 1; omega), cubbylaw10_RunDeep.blkp _ _ _ (by rw [cubbylaw10_RunDeep.l3]; decide)]
  show Rn.get [0, 1, 0, 0] 0 _ = _
  rw [cubbylaw10_RunDeep.getp _ _ _ (by rw [cubbylaw10_RunDeep.l4]; decide)]
  show (if (0 : Int) = 0 then Rn.go [cubbylaw10_RunDeep.F v] 1000 (g + 2) (cubbylaw10_RunDeep.F v).blocks [0, 1, 0, 0] [⟨1, 3, v, 0, ⟨#[]⟩, []⟩, ⟨14, 0, 3, 0, ⟨#[]⟩, []⟩] deep ⟨mem, [], s + 1 + 1⟩ else _) = _
  rw [if_pos rfl]
  rw [Rn.go1 (g := g + 1) (by show ¬ (1000 : Int) ≤ s + 1 + 1; omega), cubbylaw10_RunDeep.setp _ _ _ _ (by rw [cubbylaw10_RunDeep.l4]; decide)]
  show Rn.go [cubbylaw10_RunDeep.F v] 1000 (g + 1) (cubbylaw10_RunDeep.F v).blocks [0, 1, 0, v] [⟨14, 0, 3, 0, ⟨#[]⟩, []⟩] deep ⟨mem, [], s + 1 + 1 + 1⟩ = _
  rw [Rn.go14 (g := g) (by show ¬ (1000 : Int) ≤ s + 1 + 1 + 1; omega), cubbylaw10_RunDeep.getp _ _ _ (by rw [cubbylaw10_RunDeep.l4]; decide)]
  show some (Rn.Res.val v, (⟨mem, [], s + 1 + 1 + 1 + 1⟩ : Rn.M)) = _
  rw [show s + 1 + 1 + 1 + 1 = s + 4 by omega]
/-- A level above 0, down to its call. -/
theorem cubbylaw10_RunDeep.step (v j deep : Int) (g : Nat) (mem : List Int) (s : Int) (hd : deep < 32) (hs : 0 ≤ s ∧ s ≤ 900) (hj : 1 ≤ j ∧ j < 65536) :
    Rn.call [cubbylaw10_RunDeep.F v] 1000 (g + 4) ⟨#[102]⟩ [j] deep ⟨mem, [], s⟩ = match Rn.call [cubbylaw10_RunDeep.F v] 1000 g ⟨#[102]⟩ [j - 1] (deep + 1) ⟨mem, [], s + 4⟩ with
      | some (.val z, m') => Rn.go [cubbylaw10_RunDeep.F v] 1000 g (cubbylaw10_RunDeep.F v).blocks [j, 1, j - 1, z] [⟨14, 0, 3, 0, ⟨#[]⟩, []⟩] deep m'
      | q => q := by
  rw [cubbylaw10_RunDeep.call v j deep _ _ hd]
  rw [Rn.go1 (g := g + 3) (by show ¬ (1000 : Int) ≤ s; omega), cubbylaw10_RunDeep.setp _ _ _ _ (by rw [cubbylaw10_RunDeep.l4]; decide)]
  rw [Rn.go13 (g := g + 2) (by show ¬ (1000 : Int) ≤ s + 1; omega), cubbylaw10_RunDeep.blkp _ _ _ (by rw [cubbylaw10_RunDeep.l3]; decide)]
  show Rn.get [j, 1, 0, 0] 0 _ = _
  rw [cubbylaw10_RunDeep.getp _ _ _ (by rw [cubbylaw10_RunDeep.l4]; decide)]
  show (if j = 0 then _ else Rn.blk (cubbylaw10_RunDeep.F v).blocks 1 fun rest => Rn.go [cubbylaw10_RunDeep.F v] 1000 (g + 2) (cubbylaw10_RunDeep.F v).blocks [j, 1, 0, 0] rest deep ⟨mem, [], s + 1 + 1⟩) = _
  rw [if_neg (by omega), cubbylaw10_RunDeep.blkp _ _ _ (by rw [cubbylaw10_RunDeep.l3]; decide)]
  show Rn.go [cubbylaw10_RunDeep.F v] 1000 (g + 2) (cubbylaw10_RunDeep.F v).blocks [j, 1, 0, 0] [⟨4, 2, 0, 1, ⟨#[]⟩, []⟩, ⟨11, 3, 0, 0, ⟨#[102]⟩, [2]⟩, ⟨14, 0, 3, 0, ⟨#[]⟩, []⟩] deep ⟨mem, [], s + 1 + 1⟩ = _
  rw [Rn.goD (g := g + 1) (by show ¬ (1000 : Int) ≤ s + 1 + 1; omega) (by decide) (by decide) (by decide) (by decide) (by decide) (by decide) (by decide) (by decide) (by decide), cubbylaw10_RunDeep.getp _ _ _ (by rw [cubbylaw10_RunDeep.l4]; decide), cubbylaw10_RunDeep.getp _ _ _ (by rw [cubbylaw10_RunDeep.l4]; decide)]
  have eop : Rn.opw 4 (([j, 1, 0, 0] : List Int).getD (0 : Int).toNat 0) (([j, 1, 0, 0] : List Int).getD (1 : Int).toNat 0) = some (j - 1) := by
    show some ((j % 65536 - 1 % 65536) % 65536) = some (j - 1)
    congr 1
    omega
  rw [eop]
  show Rn.set [j, 1, 0, 0] 2 (j - 1) _ = _
  rw [cubbylaw10_RunDeep.setp _ _ _ _ (by rw [cubbylaw10_RunDeep.l4]; decide)]
  show Rn.go [cubbylaw10_RunDeep.F v] 1000 (g + 1) (cubbylaw10_RunDeep.F v).blocks [j, 1, j - 1, 0] [⟨11, 3, 0, 0, ⟨#[102]⟩, [2]⟩, ⟨14, 0, 3, 0, ⟨#[]⟩, []⟩] deep ⟨mem, [], s + 1 + 1 + 1⟩ = _
  rw [Rn.go11 (g := g) (by show ¬ (1000 : Int) ≤ s + 1 + 1 + 1; omega), if_neg (by show ¬ (100000 < 1); decide)]
  have egets : Rn.gets [j, 1, j - 1, 0] [2] = some [j - 1] := rfl
  rw [egets]
  show (match Rn.call [cubbylaw10_RunDeep.F v] 1000 g ⟨#[102]⟩ [j - 1] (deep + 1) ⟨mem, [], s + 1 + 1 + 1 + 1⟩ with
      | some (.val z, m') => Rn.set [j, 1, j - 1, 0] 3 z fun r => Rn.go [cubbylaw10_RunDeep.F v] 1000 g (cubbylaw10_RunDeep.F v).blocks r [⟨14, 0, 3, 0, ⟨#[]⟩, []⟩] deep m'
      | q => q) = _
  rw [show s + 1 + 1 + 1 + 1 = s + 4 by omega]
  cases Rn.call [cubbylaw10_RunDeep.F v] 1000 g ⟨#[102]⟩ [j - 1] (deep + 1) ⟨mem, [], s + 4⟩ with
  | none => rfl
  | some x =>
    obtain ⟨q, m'⟩ := x
    cases q with
    | val z => exact cubbylaw10_RunDeep.setp _ _ _ _ (by rw [cubbylaw10_RunDeep.l4]; decide)
    | trap => rfl
    | out => rfl
theorem cubbylaw10_RunDeep.ends (v : Int) (mem : List Int) : ∀ (j : Nat) (deep s : Int) (g : Nat), 4 * (j + 1) ≤ g → deep + j < 32 → 0 ≤ s → s + 5 * j ≤ 900 → Rn.call [cubbylaw10_RunDeep.F v] 1000 g ⟨#[102]⟩ [(j : Int)] deep ⟨mem, [], s⟩ = some (.val v, ⟨mem, [], s + 5 * j + 4⟩)
  | 0, deep, s, g, hg, hd, hs, hs2 => by
    obtain ⟨g, rfl⟩ : ∃ q, g = q + 4 := ⟨g - 4, by omega⟩
    have e := cubbylaw10_RunDeep.base v deep g ⟨mem, [], s⟩ (by omega) ⟨hs, by show s ≤ 900; omega⟩ mem rfl
    have e2 : s + 5 * ((0 : Nat) : Int) + 4 = s + 4 := by omega
    rw [e2]
    exact e
  | j + 1, deep, s, g, hg, hd, hs, hs2 => by
    obtain ⟨g, rfl⟩ : ∃ q, g = q + 4 := ⟨g - 4, by omega⟩
    rw [cubbylaw10_RunDeep.step v ((j + 1 : Nat) : Int) deep g mem s (by omega) ⟨hs, by omega⟩ ⟨by omega, by omega⟩]
    have ej : ((j + 1 : Nat) : Int) - 1 = (j : Int) := by omega
    rw [ej, cubbylaw10_RunDeep.ends v mem j (deep + 1) (s + 4) g (by omega) (by omega) (by omega) (by omega)]
    obtain ⟨g, rfl⟩ : ∃ q, g = q + 1 := ⟨g - 1, by omega⟩
    show Rn.go [cubbylaw10_RunDeep.F v] 1000 (g + 1) (cubbylaw10_RunDeep.F v).blocks [((j + 1 : Nat) : Int), 1, (j : Int), v] [⟨14, 0, 3, 0, ⟨#[]⟩, []⟩] deep ⟨mem, [], s + 4 + 5 * (j : Int) + 4⟩ = _
    rw [Rn.go14 (g := g) (by show ¬ (1000 : Int) ≤ s + 4 + 5 * (j : Int) + 4; omega), cubbylaw10_RunDeep.getp _ _ _ (by rw [cubbylaw10_RunDeep.l4]; decide)]
    show some (Rn.Res.val v, (⟨mem, [], s + 4 + 5 * (j : Int) + 4 + 1⟩ : Rn.M)) = _
    rw [show s + 4 + 5 * (j : Int) + 4 + 1 = s + 5 * ((j + 1 : Nat) : Int) + 4 by omega]
theorem cubbylaw10_RunDeep.traps (v : Int) (mem : List Int) : ∀ (d : Nat) (j : Nat) (deep s : Int) (g : Nat), 4 * d ≤ g → deep + d = 32 → d ≤ j → j < 65536 → 0 ≤ s → s + 4 * d ≤ 900 → Rn.call [cubbylaw10_RunDeep.F v] 1000 g ⟨#[102]⟩ [(j : Int)] deep ⟨mem, [], s⟩ = some (.trap, ⟨mem, [], s + 4 * d⟩)
  | 0, j, deep, s, g, hg, hd, hj, hj2, hs, hs2 => by
    rw [cubbylaw10_RunDeep.call_not v j deep g _ (by omega), show s + 4 * ((0 : Nat) : Int) = s by omega]
  | d + 1, j, deep, s, g, hg, hd, hj, hj2, hs, hs2 => by
    obtain ⟨g, rfl⟩ : ∃ q, g = q + 4 := ⟨g - 4, by omega⟩
    obtain ⟨j, rfl⟩ : ∃ q, j = q + 1 := ⟨j - 1, by omega⟩
    rw [cubbylaw10_RunDeep.step v ((j + 1 : Nat) : Int) deep g mem s (by omega) ⟨hs, by omega⟩ ⟨by omega, by omega⟩]
    have ej : ((j + 1 : Nat) : Int) - 1 = (j : Int) := by omega
    rw [ej, cubbylaw10_RunDeep.traps v mem d j (deep + 1) (s + 4) g (by omega) (by omega) (by omega) (by omega) (by omega) (by omega)]
    show some (Rn.Res.trap, (⟨mem, [], s + 4 + 4 * (d : Int)⟩ : Rn.M)) = _
    rw [show s + 4 + 4 * (d : Int) = s + 4 * ((d + 1 : Nat) : Int) by omega]
def cubbylaw10_RunDeep.Fit (n v : Int) : Prop := (0 ≤ n ∧ n < 256) ∧ (0 ≤ v ∧ v < 65536)
instance (n v : Int) : Decidable (cubbylaw10_RunDeep.Fit n v) := by unfold cubbylaw10_RunDeep.Fit; infer_instance
def cubbylaw10_RunDeep.f (l0 l1 : Int) : Option Bool := if cubbylaw10_RunDeep.Fit l0 l1 then some true else none
set_option maxHeartbeats 16000000 in
set_option maxRecDepth 100000 in
theorem cubbylaw10_RunDeep.calls (l0 l1 : Int) (r : Bool) (w : World) (h : cubbylaw10_RunDeep.f l0 l1 = some r) :
    Calls Try.prog 6 #[.int .u8 l0, .int .u16 l1] w fun e w' => e = .returned (.bool r) ∧ Below w.heap.size w w' := by
  unfold cubbylaw10_RunDeep.f at h
  by_cases hl : cubbylaw10_RunDeep.Fit l0 l1
  case neg => rw [if_neg hl] at h; cases h
  rw [if_pos hl] at h
  obtain rfl := Option.some.inj h
  unfold cubbylaw10_RunDeep.Fit at hl
  clear h
  obtain ⟨ha, hv⟩ := hl
  obtain ⟨kn, hkn⟩ : ∃ kn : Nat, l0 % 40 = (kn : Int) := ⟨(l0 % 40).toNat, by omega⟩
  have hk40 : kn < 40 := by omega
  obtain ⟨W8, hW8⟩ : ∃ W8, ((((((((w.alloc (.cells #[.int .i64 1, .int .i64 1, .int .i64 1, .int .i64 0, .string ⟨#[]⟩, .slice none 0 0, .int .i64 13, .int .i64 2, .int .i64 0, .int .i64 1, .string ⟨#[]⟩, .slice none 0 0] 30)).alloc (.cells #[.int .i64 2] 3)).alloc (.cells #[.int .i64 4, .int .i64 2, .int .i64 0, .int .i64 1, .string ⟨#[]⟩, .slice none 0 0, .int .i64 11, .int .i64 3, .int .i64 0, .int .i64 0, .string ⟨#[102]⟩, .slice (some ⟨w.heap.size + 1, 0, none⟩) 1 1, .int .i64 14, .int .i64 0, .int .i64 3, .int .i64 0, .string ⟨#[]⟩, .slice none 0 0] 30)).alloc (.cells #[.int .i64 1, .int .i64 3, .int .i64 l1, .int .i64 0, .string ⟨#[]⟩, .slice none 0 0, .int .i64 14, .int .i64 0, .int .i64 3, .int .i64 0, .string ⟨#[]⟩, .slice none 0 0] 30)).alloc (.cells #[.slice (some ⟨w.heap.size, 0, none⟩) 2 2, .slice (some ⟨w.heap.size + 1 + 1, 0, none⟩) 3 3, .slice (some ⟨w.heap.size + 1 + 1 + 1, 0, none⟩) 2 2] 31)).alloc (.cells #[.string ⟨#[102]⟩, .int .i64 1, .int .i64 4, .slice (some ⟨w.heap.size + 1 + 1 + 1 + 1, 0, none⟩) 3 3] 34)).alloc (.cells #[.string ⟨#[102]⟩, .int .i64 1, .int .i64 4, .slice (some ⟨w.heap.size + 1 + 1 + 1 + 1, 0, none⟩) 3 3] 34)).alloc (.cells #[.int .i64 (kn : Int)] 3)) = W8 := ⟨_, rfl⟩
  have z1 : (w.alloc (.cells #[.int .i64 1, .int .i64 1, .int .i64 1, .int .i64 0, .string ⟨#[]⟩, .slice none 0 0, .int .i64 13, .int .i64 2, .int .i64 0, .int .i64 1, .string ⟨#[]⟩, .slice none 0 0] 30)).heap.size = w.heap.size + 1 := by simp
  have z2 : ((w.alloc (.cells #[.int .i64 1, .int .i64 1, .int .i64 1, .int .i64 0, .string ⟨#[]⟩, .slice none 0 0, .int .i64 13, .int .i64 2, .int .i64 0, .int .i64 1, .string ⟨#[]⟩, .slice none 0 0] 30)).alloc (.cells #[.int .i64 2] 3)).heap.size = w.heap.size + 1 + 1 := by simp
  have z3 : (((w.alloc (.cells #[.int .i64 1, .int .i64 1, .int .i64 1, .int .i64 0, .string ⟨#[]⟩, .slice none 0 0, .int .i64 13, .int .i64 2, .int .i64 0, .int .i64 1, .string ⟨#[]⟩, .slice none 0 0] 30)).alloc (.cells #[.int .i64 2] 3)).alloc (.cells #[.int .i64 4, .int .i64 2, .int .i64 0, .int .i64 1, .string ⟨#[]⟩, .slice none 0 0, .int .i64 11, .int .i64 3, .int .i64 0, .int .i64 0, .string ⟨#[102]⟩, .slice (some ⟨w.heap.size + 1, 0, none⟩) 1 1, .int .i64 14, .int .i64 0, .int .i64 3, .int .i64 0, .string ⟨#[]⟩, .slice none 0 0] 30)).heap.size = w.heap.size + 1 + 1 + 1 := by simp
  have z4 : ((((w.alloc (.cells #[.int .i64 1, .int .i64 1, .int .i64 1, .int .i64 0, .string ⟨#[]⟩, .slice none 0 0, .int .i64 13, .int .i64 2, .int .i64 0, .int .i64 1, .string ⟨#[]⟩, .slice none 0 0] 30)).alloc (.cells #[.int .i64 2] 3)).alloc (.cells #[.int .i64 4, .int .i64 2, .int .i64 0, .int .i64 1, .string ⟨#[]⟩, .slice none 0 0, .int .i64 11, .int .i64 3, .int .i64 0, .int .i64 0, .string ⟨#[102]⟩, .slice (some ⟨w.heap.size + 1, 0, none⟩) 1 1, .int .i64 14, .int .i64 0, .int .i64 3, .int .i64 0, .string ⟨#[]⟩, .slice none 0 0] 30)).alloc (.cells #[.int .i64 1, .int .i64 3, .int .i64 l1, .int .i64 0, .string ⟨#[]⟩, .slice none 0 0, .int .i64 14, .int .i64 0, .int .i64 3, .int .i64 0, .string ⟨#[]⟩, .slice none 0 0] 30)).heap.size = w.heap.size + 1 + 1 + 1 + 1 := by simp
  have z5 : (((((w.alloc (.cells #[.int .i64 1, .int .i64 1, .int .i64 1, .int .i64 0, .string ⟨#[]⟩, .slice none 0 0, .int .i64 13, .int .i64 2, .int .i64 0, .int .i64 1, .string ⟨#[]⟩, .slice none 0 0] 30)).alloc (.cells #[.int .i64 2] 3)).alloc (.cells #[.int .i64 4, .int .i64 2, .int .i64 0, .int .i64 1, .string ⟨#[]⟩, .slice none 0 0, .int .i64 11, .int .i64 3, .int .i64 0, .int .i64 0, .string ⟨#[102]⟩, .slice (some ⟨w.heap.size + 1, 0, none⟩) 1 1, .int .i64 14, .int .i64 0, .int .i64 3, .int .i64 0, .string ⟨#[]⟩, .slice none 0 0] 30)).alloc (.cells #[.int .i64 1, .int .i64 3, .int .i64 l1, .int .i64 0, .string ⟨#[]⟩, .slice none 0 0, .int .i64 14, .int .i64 0, .int .i64 3, .int .i64 0, .string ⟨#[]⟩, .slice none 0 0] 30)).alloc (.cells #[.slice (some ⟨w.heap.size, 0, none⟩) 2 2, .slice (some ⟨w.heap.size + 1 + 1, 0, none⟩) 3 3, .slice (some ⟨w.heap.size + 1 + 1 + 1, 0, none⟩) 2 2] 31)).heap.size = w.heap.size + 1 + 1 + 1 + 1 + 1 := by simp
  have z6 : ((((((w.alloc (.cells #[.int .i64 1, .int .i64 1, .int .i64 1, .int .i64 0, .string ⟨#[]⟩, .slice none 0 0, .int .i64 13, .int .i64 2, .int .i64 0, .int .i64 1, .string ⟨#[]⟩, .slice none 0 0] 30)).alloc (.cells #[.int .i64 2] 3)).alloc (.cells #[.int .i64 4, .int .i64 2, .int .i64 0, .int .i64 1, .string ⟨#[]⟩, .slice none 0 0, .int .i64 11, .int .i64 3, .int .i64 0, .int .i64 0, .string ⟨#[102]⟩, .slice (some ⟨w.heap.size + 1, 0, none⟩) 1 1, .int .i64 14, .int .i64 0, .int .i64 3, .int .i64 0, .string ⟨#[]⟩, .slice none 0 0] 30)).alloc (.cells #[.int .i64 1, .int .i64 3, .int .i64 l1, .int .i64 0, .string ⟨#[]⟩, .slice none 0 0, .int .i64 14, .int .i64 0, .int .i64 3, .int .i64 0, .string ⟨#[]⟩, .slice none 0 0] 30)).alloc (.cells #[.slice (some ⟨w.heap.size, 0, none⟩) 2 2, .slice (some ⟨w.heap.size + 1 + 1, 0, none⟩) 3 3, .slice (some ⟨w.heap.size + 1 + 1 + 1, 0, none⟩) 2 2] 31)).alloc (.cells #[.string ⟨#[102]⟩, .int .i64 1, .int .i64 4, .slice (some ⟨w.heap.size + 1 + 1 + 1 + 1, 0, none⟩) 3 3] 34)).heap.size = w.heap.size + 1 + 1 + 1 + 1 + 1 + 1 := by simp
  have z7 : (((((((w.alloc (.cells #[.int .i64 1, .int .i64 1, .int .i64 1, .int .i64 0, .string ⟨#[]⟩, .slice none 0 0, .int .i64 13, .int .i64 2, .int .i64 0, .int .i64 1, .string ⟨#[]⟩, .slice none 0 0] 30)).alloc (.cells #[.int .i64 2] 3)).alloc (.cells #[.int .i64 4, .int .i64 2, .int .i64 0, .int .i64 1, .string ⟨#[]⟩, .slice none 0 0, .int .i64 11, .int .i64 3, .int .i64 0, .int .i64 0, .string ⟨#[102]⟩, .slice (some ⟨w.heap.size + 1, 0, none⟩) 1 1, .int .i64 14, .int .i64 0, .int .i64 3, .int .i64 0, .string ⟨#[]⟩, .slice none 0 0] 30)).alloc (.cells #[.int .i64 1, .int .i64 3, .int .i64 l1, .int .i64 0, .string ⟨#[]⟩, .slice none 0 0, .int .i64 14, .int .i64 0, .int .i64 3, .int .i64 0, .string ⟨#[]⟩, .slice none 0 0] 30)).alloc (.cells #[.slice (some ⟨w.heap.size, 0, none⟩) 2 2, .slice (some ⟨w.heap.size + 1 + 1, 0, none⟩) 3 3, .slice (some ⟨w.heap.size + 1 + 1 + 1, 0, none⟩) 2 2] 31)).alloc (.cells #[.string ⟨#[102]⟩, .int .i64 1, .int .i64 4, .slice (some ⟨w.heap.size + 1 + 1 + 1 + 1, 0, none⟩) 3 3] 34)).alloc (.cells #[.string ⟨#[102]⟩, .int .i64 1, .int .i64 4, .slice (some ⟨w.heap.size + 1 + 1 + 1 + 1, 0, none⟩) 3 3] 34)).heap.size = w.heap.size + 1 + 1 + 1 + 1 + 1 + 1 + 1 := by simp
  have b0 : W8.heap[w.heap.size]? = some (.cells #[.int .i64 1, .int .i64 1, .int .i64 1, .int .i64 0, .string ⟨#[]⟩, .slice none 0 0, .int .i64 13, .int .i64 2, .int .i64 0, .int .i64 1, .string ⟨#[]⟩, .slice none 0 0] 30) := by
    have e := Hw.blk_nw w (.cells #[.int .i64 1, .int .i64 1, .int .i64 1, .int .i64 0, .string ⟨#[]⟩, .slice none 0 0, .int .i64 13, .int .i64 2, .int .i64 0, .int .i64 1, .string ⟨#[]⟩, .slice none 0 0] 30)
    rw [← hW8]
    exact (Hw.blk_al (Hw.blk_al (Hw.blk_al (Hw.blk_al (Hw.blk_al (Hw.blk_al (Hw.blk_al e (.cells #[.int .i64 2] 3)) (.cells #[.int .i64 4, .int .i64 2, .int .i64 0, .int .i64 1, .string ⟨#[]⟩, .slice none 0 0, .int .i64 11, .int .i64 3, .int .i64 0, .int .i64 0, .string ⟨#[102]⟩, .slice (some ⟨w.heap.size + 1, 0, none⟩) 1 1, .int .i64 14, .int .i64 0, .int .i64 3, .int .i64 0, .string ⟨#[]⟩, .slice none 0 0] 30)) (.cells #[.int .i64 1, .int .i64 3, .int .i64 l1, .int .i64 0, .string ⟨#[]⟩, .slice none 0 0, .int .i64 14, .int .i64 0, .int .i64 3, .int .i64 0, .string ⟨#[]⟩, .slice none 0 0] 30)) (.cells #[.slice (some ⟨w.heap.size, 0, none⟩) 2 2, .slice (some ⟨w.heap.size + 1 + 1, 0, none⟩) 3 3, .slice (some ⟨w.heap.size + 1 + 1 + 1, 0, none⟩) 2 2] 31)) (.cells #[.string ⟨#[102]⟩, .int .i64 1, .int .i64 4, .slice (some ⟨w.heap.size + 1 + 1 + 1 + 1, 0, none⟩) 3 3] 34)) (.cells #[.string ⟨#[102]⟩, .int .i64 1, .int .i64 4, .slice (some ⟨w.heap.size + 1 + 1 + 1 + 1, 0, none⟩) 3 3] 34)) (.cells #[.int .i64 (kn : Int)] 3))
  have b1 : W8.heap[w.heap.size + 1]? = some (.cells #[.int .i64 2] 3) := by
    have e := Hw.blk_nw (w.alloc (.cells #[.int .i64 1, .int .i64 1, .int .i64 1, .int .i64 0, .string ⟨#[]⟩, .slice none 0 0, .int .i64 13, .int .i64 2, .int .i64 0, .int .i64 1, .string ⟨#[]⟩, .slice none 0 0] 30)) (.cells #[.int .i64 2] 3)
    rw [z1] at e
    rw [← hW8]
    exact (Hw.blk_al (Hw.blk_al (Hw.blk_al (Hw.blk_al (Hw.blk_al (Hw.blk_al e (.cells #[.int .i64 4, .int .i64 2, .int .i64 0, .int .i64 1, .string ⟨#[]⟩, .slice none 0 0, .int .i64 11, .int .i64 3, .int .i64 0, .int .i64 0, .string ⟨#[102]⟩, .slice (some ⟨w.heap.size + 1, 0, none⟩) 1 1, .int .i64 14, .int .i64 0, .int .i64 3, .int .i64 0, .string ⟨#[]⟩, .slice none 0 0] 30)) (.cells #[.int .i64 1, .int .i64 3, .int .i64 l1, .int .i64 0, .string ⟨#[]⟩, .slice none 0 0, .int .i64 14, .int .i64 0, .int .i64 3, .int .i64 0, .string ⟨#[]⟩, .slice none 0 0] 30)) (.cells #[.slice (some ⟨w.heap.size, 0, none⟩) 2 2, .slice (some ⟨w.heap.size + 1 + 1, 0, none⟩) 3 3, .slice (some ⟨w.heap.size + 1 + 1 + 1, 0, none⟩) 2 2] 31)) (.cells #[.string ⟨#[102]⟩, .int .i64 1, .int .i64 4, .slice (some ⟨w.heap.size + 1 + 1 + 1 + 1, 0, none⟩) 3 3] 34)) (.cells #[.string ⟨#[102]⟩, .int .i64 1, .int .i64 4, .slice (some ⟨w.heap.size + 1 + 1 + 1 + 1, 0, none⟩) 3 3] 34)) (.cells #[.int .i64 (kn : Int)] 3))
  have b2 : W8.heap[w.heap.size + 1 + 1]? = some (.cells #[.int .i64 4, .int .i64 2, .int .i64 0, .int .i64 1, .string ⟨#[]⟩, .slice none 0 0, .int .i64 11, .int .i64 3, .int .i64 0, .int .i64 0, .string ⟨#[102]⟩, .slice (some ⟨w.heap.size + 1, 0, none⟩) 1 1, .int .i64 14, .int .i64 0, .int .i64 3, .int .i64 0, .string ⟨#[]⟩, .slice none 0 0] 30) := by
    have e := Hw.blk_nw ((w.alloc (.cells #[.int .i64 1, .int .i64 1, .int .i64 1, .int .i64 0, .string ⟨#[]⟩, .slice none 0 0, .int .i64 13, .int .i64 2, .int .i64 0, .int .i64 1, .string ⟨#[]⟩, .slice none 0 0] 30)).alloc (.cells #[.int .i64 2] 3)) (.cells #[.int .i64 4, .int .i64 2, .int .i64 0, .int .i64 1, .string ⟨#[]⟩, .slice none 0 0, .int .i64 11, .int .i64 3, .int .i64 0, .int .i64 0, .string ⟨#[102]⟩, .slice (some ⟨w.heap.size + 1, 0, none⟩) 1 1, .int .i64 14, .int .i64 0, .int .i64 3, .int .i64 0, .string ⟨#[]⟩, .slice none 0 0] 30)
    rw [z2] at e
    rw [← hW8]
    exact (Hw.blk_al (Hw.blk_al (Hw.blk_al (Hw.blk_al (Hw.blk_al e (.cells #[.int .i64 1, .int .i64 3, .int .i64 l1, .int .i64 0, .string ⟨#[]⟩, .slice none 0 0, .int .i64 14, .int .i64 0, .int .i64 3, .int .i64 0, .string ⟨#[]⟩, .slice none 0 0] 30)) (.cells #[.slice (some ⟨w.heap.size, 0, none⟩) 2 2, .slice (some ⟨w.heap.size + 1 + 1, 0, none⟩) 3 3, .slice (some ⟨w.heap.size + 1 + 1 + 1, 0, none⟩) 2 2] 31)) (.cells #[.string ⟨#[102]⟩, .int .i64 1, .int .i64 4, .slice (some ⟨w.heap.size + 1 + 1 + 1 + 1, 0, none⟩) 3 3] 34)) (.cells #[.string ⟨#[102]⟩, .int .i64 1, .int .i64 4, .slice (some ⟨w.heap.size + 1 + 1 + 1 + 1, 0, none⟩) 3 3] 34)) (.cells #[.int .i64 (kn : Int)] 3))
  have b3 : W8.heap[w.heap.size + 1 + 1 + 1]? = some (.cells #[.int .i64 1, .int .i64 3, .int .i64 l1, .int .i64 0, .string ⟨#[]⟩, .slice none 0 0, .int .i64 14, .int .i64 0, .int .i64 3, .int .i64 0, .string ⟨#[]⟩, .slice none 0 0] 30) := by
    have e := Hw.blk_nw (((w.alloc (.cells #[.int .i64 1, .int .i64 1, .int .i64 1, .int .i64 0, .string ⟨#[]⟩, .slice none 0 0, .int .i64 13, .int .i64 2, .int .i64 0, .int .i64 1, .string ⟨#[]⟩, .slice none 0 0] 30)).alloc (.cells #[.int .i64 2] 3)).alloc (.cells #[.int .i64 4, .int .i64 2, .int .i64 0, .int .i64 1, .string ⟨#[]⟩, .slice none 0 0, .int .i64 11, .int .i64 3, .int .i64 0, .int .i64 0, .string ⟨#[102]⟩, .slice (some ⟨w.heap.size + 1, 0, none⟩) 1 1, .int .i64 14, .int .i64 0, .int .i64 3, .int .i64 0, .string ⟨#[]⟩, .slice none 0 0] 30)) (.cells #[.int .i64 1, .int .i64 3, .int .i64 l1, .int .i64 0, .string ⟨#[]⟩, .slice none 0 0, .int .i64 14, .int .i64 0, .int .i64 3, .int .i64 0, .string ⟨#[]⟩, .slice none 0 0] 30)
    rw [z3] at e
    rw [← hW8]
    exact (Hw.blk_al (Hw.blk_al (Hw.blk_al (Hw.blk_al e (.cells #[.slice (some ⟨w.heap.size, 0, none⟩) 2 2, .slice (some ⟨w.heap.size + 1 + 1, 0, none⟩) 3 3, .slice (some ⟨w.heap.size + 1 + 1 + 1, 0, none⟩) 2 2] 31)) (.cells #[.string ⟨#[102]⟩, .int .i64 1, .int .i64 4, .slice (some ⟨w.heap.size + 1 + 1 + 1 + 1, 0, none⟩) 3 3] 34)) (.cells #[.string ⟨#[102]⟩, .int .i64 1, .int .i64 4, .slice (some ⟨w.heap.size + 1 + 1 + 1 + 1, 0, none⟩) 3 3] 34)) (.cells #[.int .i64 (kn : Int)] 3))
  have b4 : W8.heap[w.heap.size + 1 + 1 + 1 + 1]? = some (.cells #[.slice (some ⟨w.heap.size, 0, none⟩) 2 2, .slice (some ⟨w.heap.size + 1 + 1, 0, none⟩) 3 3, .slice (some ⟨w.heap.size + 1 + 1 + 1, 0, none⟩) 2 2] 31) := by
    have e := Hw.blk_nw ((((w.alloc (.cells #[.int .i64 1, .int .i64 1, .int .i64 1, .int .i64 0, .string ⟨#[]⟩, .slice none 0 0, .int .i64 13, .int .i64 2, .int .i64 0, .int .i64 1, .string ⟨#[]⟩, .slice none 0 0] 30)).alloc (.cells #[.int .i64 2] 3)).alloc (.cells #[.int .i64 4, .int .i64 2, .int .i64 0, .int .i64 1, .string ⟨#[]⟩, .slice none 0 0, .int .i64 11, .int .i64 3, .int .i64 0, .int .i64 0, .string ⟨#[102]⟩, .slice (some ⟨w.heap.size + 1, 0, none⟩) 1 1, .int .i64 14, .int .i64 0, .int .i64 3, .int .i64 0, .string ⟨#[]⟩, .slice none 0 0] 30)).alloc (.cells #[.int .i64 1, .int .i64 3, .int .i64 l1, .int .i64 0, .string ⟨#[]⟩, .slice none 0 0, .int .i64 14, .int .i64 0, .int .i64 3, .int .i64 0, .string ⟨#[]⟩, .slice none 0 0] 30)) (.cells #[.slice (some ⟨w.heap.size, 0, none⟩) 2 2, .slice (some ⟨w.heap.size + 1 + 1, 0, none⟩) 3 3, .slice (some ⟨w.heap.size + 1 + 1 + 1, 0, none⟩) 2 2] 31)
    rw [z4] at e
    rw [← hW8]
    exact (Hw.blk_al (Hw.blk_al (Hw.blk_al e (.cells #[.string ⟨#[102]⟩, .int .i64 1, .int .i64 4, .slice (some ⟨w.heap.size + 1 + 1 + 1 + 1, 0, none⟩) 3 3] 34)) (.cells #[.string ⟨#[102]⟩, .int .i64 1, .int .i64 4, .slice (some ⟨w.heap.size + 1 + 1 + 1 + 1, 0, none⟩) 3 3] 34)) (.cells #[.int .i64 (kn : Int)] 3))
  have b5 : W8.heap[w.heap.size + 1 + 1 + 1 + 1 + 1]? = some (.cells #[.string ⟨#[102]⟩, .int .i64 1, .int .i64 4, .slice (some ⟨w.heap.size + 1 + 1 + 1 + 1, 0, none⟩) 3 3] 34) := by
    have e := Hw.blk_nw (((((w.alloc (.cells #[.int .i64 1, .int .i64 1, .int .i64 1, .int .i64 0, .string ⟨#[]⟩, .slice none 0 0, .int .i64 13, .int .i64 2, .int .i64 0, .int .i64 1, .string ⟨#[]⟩, .slice none 0 0] 30)).alloc (.cells #[.int .i64 2] 3)).alloc (.cells #[.int .i64 4, .int .i64 2, .int .i64 0, .int .i64 1, .string ⟨#[]⟩, .slice none 0 0, .int .i64 11, .int .i64 3, .int .i64 0, .int .i64 0, .string ⟨#[102]⟩, .slice (some ⟨w.heap.size + 1, 0, none⟩) 1 1, .int .i64 14, .int .i64 0, .int .i64 3, .int .i64 0, .string ⟨#[]⟩, .slice none 0 0] 30)).alloc (.cells #[.int .i64 1, .int .i64 3, .int .i64 l1, .int .i64 0, .string ⟨#[]⟩, .slice none 0 0, .int .i64 14, .int .i64 0, .int .i64 3, .int .i64 0, .string ⟨#[]⟩, .slice none 0 0] 30)).alloc (.cells #[.slice (some ⟨w.heap.size, 0, none⟩) 2 2, .slice (some ⟨w.heap.size + 1 + 1, 0, none⟩) 3 3, .slice (some ⟨w.heap.size + 1 + 1 + 1, 0, none⟩) 2 2] 31)) (.cells #[.string ⟨#[102]⟩, .int .i64 1, .int .i64 4, .slice (some ⟨w.heap.size + 1 + 1 + 1 + 1, 0, none⟩) 3 3] 34)
    rw [z5] at e
    rw [← hW8]
    exact (Hw.blk_al (Hw.blk_al e (.cells #[.string ⟨#[102]⟩, .int .i64 1, .int .i64 4, .slice (some ⟨w.heap.size + 1 + 1 + 1 + 1, 0, none⟩) 3 3] 34)) (.cells #[.int .i64 (kn : Int)] 3))
  have b6 : W8.heap[w.heap.size + 1 + 1 + 1 + 1 + 1 + 1]? = some (.cells #[.string ⟨#[102]⟩, .int .i64 1, .int .i64 4, .slice (some ⟨w.heap.size + 1 + 1 + 1 + 1, 0, none⟩) 3 3] 34) := by
    have e := Hw.blk_nw ((((((w.alloc (.cells #[.int .i64 1, .int .i64 1, .int .i64 1, .int .i64 0, .string ⟨#[]⟩, .slice none 0 0, .int .i64 13, .int .i64 2, .int .i64 0, .int .i64 1, .string ⟨#[]⟩, .slice none 0 0] 30)).alloc (.cells #[.int .i64 2] 3)).alloc (.cells #[.int .i64 4, .int .i64 2, .int .i64 0, .int .i64 1, .string ⟨#[]⟩, .slice none 0 0, .int .i64 11, .int .i64 3, .int .i64 0, .int .i64 0, .string ⟨#[102]⟩, .slice (some ⟨w.heap.size + 1, 0, none⟩) 1 1, .int .i64 14, .int .i64 0, .int .i64 3, .int .i64 0, .string ⟨#[]⟩, .slice none 0 0] 30)).alloc (.cells #[.int .i64 1, .int .i64 3, .int .i64 l1, .int .i64 0, .string ⟨#[]⟩, .slice none 0 0, .int .i64 14, .int .i64 0, .int .i64 3, .int .i64 0, .string ⟨#[]⟩, .slice none 0 0] 30)).alloc (.cells #[.slice (some ⟨w.heap.size, 0, none⟩) 2 2, .slice (some ⟨w.heap.size + 1 + 1, 0, none⟩) 3 3, .slice (some ⟨w.heap.size + 1 + 1 + 1, 0, none⟩) 2 2] 31)).alloc (.cells #[.string ⟨#[102]⟩, .int .i64 1, .int .i64 4, .slice (some ⟨w.heap.size + 1 + 1 + 1 + 1, 0, none⟩) 3 3] 34)) (.cells #[.string ⟨#[102]⟩, .int .i64 1, .int .i64 4, .slice (some ⟨w.heap.size + 1 + 1 + 1 + 1, 0, none⟩) 3 3] 34)
    rw [z6] at e
    rw [← hW8]
    exact (Hw.blk_al e (.cells #[.int .i64 (kn : Int)] 3))
  have b7 : W8.heap[w.heap.size + 1 + 1 + 1 + 1 + 1 + 1 + 1]? = some (.cells #[.int .i64 (kn : Int)] 3) := by
    have e := Hw.blk_nw (((((((w.alloc (.cells #[.int .i64 1, .int .i64 1, .int .i64 1, .int .i64 0, .string ⟨#[]⟩, .slice none 0 0, .int .i64 13, .int .i64 2, .int .i64 0, .int .i64 1, .string ⟨#[]⟩, .slice none 0 0] 30)).alloc (.cells #[.int .i64 2] 3)).alloc (.cells #[.int .i64 4, .int .i64 2, .int .i64 0, .int .i64 1, .string ⟨#[]⟩, .slice none 0 0, .int .i64 11, .int .i64 3, .int .i64 0, .int .i64 0, .string ⟨#[102]⟩, .slice (some ⟨w.heap.size + 1, 0, none⟩) 1 1, .int .i64 14, .int .i64 0, .int .i64 3, .int .i64 0, .string ⟨#[]⟩, .slice none 0 0] 30)).alloc (.cells #[.int .i64 1, .int .i64 3, .int .i64 l1, .int .i64 0, .string ⟨#[]⟩, .slice none 0 0, .int .i64 14, .int .i64 0, .int .i64 3, .int .i64 0, .string ⟨#[]⟩, .slice none 0 0] 30)).alloc (.cells #[.slice (some ⟨w.heap.size, 0, none⟩) 2 2, .slice (some ⟨w.heap.size + 1 + 1, 0, none⟩) 3 3, .slice (some ⟨w.heap.size + 1 + 1 + 1, 0, none⟩) 2 2] 31)).alloc (.cells #[.string ⟨#[102]⟩, .int .i64 1, .int .i64 4, .slice (some ⟨w.heap.size + 1 + 1 + 1 + 1, 0, none⟩) 3 3] 34)).alloc (.cells #[.string ⟨#[102]⟩, .int .i64 1, .int .i64 4, .slice (some ⟨w.heap.size + 1 + 1 + 1 + 1, 0, none⟩) 3 3] 34)) (.cells #[.int .i64 (kn : Int)] 3)
    rw [z7] at e
    rw [← hW8]
    exact e
  have hG : (Kd.int .i64).C W8 (some ⟨w.heap.size + 1, 0, none⟩) 1 [2] := by
    refine cubbylaw10_RunDeep.C_block (Kd.int .i64) (t := 3) (xs := [2]) [[.int .i64 2]] b1 rfl (show (1 : Nat) ≤ 9223372036854775807 by decide) ?_
    intro j x c hj hc
    match j with
    | 0 => cases hj; cases hc; rfl
    | j + 1 => cases hj
  have hI0 : Rn.kI.C W8 (some ⟨w.heap.size, 0, none⟩) 2 [⟨1, 1, 1, 0, ⟨#[]⟩, []⟩, ⟨13, 2, 0, 1, ⟨#[]⟩, []⟩] := by
    refine cubbylaw10_RunDeep.C_block Rn.kI (t := 30) (xs := [⟨1, 1, 1, 0, ⟨#[]⟩, []⟩, ⟨13, 2, 0, 1, ⟨#[]⟩, []⟩]) [[.int .i64 1, .int .i64 1, .int .i64 1, .int .i64 0, .string ⟨#[]⟩, .slice none 0 0], [.int .i64 13, .int .i64 2, .int .i64 0, .int .i64 1, .string ⟨#[]⟩, .slice none 0 0]] b0 rfl (show (2 : Nat) ≤ 9223372036854775807 by decide) ?_
    intro j x c hj hc
    match j with
    | 0 => cases hj; cases hc; exact cubbylaw10_RunDeep.mkI _ _ _ _ _ [] none 0 (Nat.le_refl _) (cubbylaw10_RunDeep.noargs W8)
    | 1 => cases hj; cases hc; exact cubbylaw10_RunDeep.mkI _ _ _ _ _ [] none 0 (Nat.le_refl _) (cubbylaw10_RunDeep.noargs W8)
    | j + 2 => cases hj
  have hI1 : Rn.kI.C W8 (some ⟨w.heap.size + 1 + 1, 0, none⟩) 3 [⟨4, 2, 0, 1, ⟨#[]⟩, []⟩, ⟨11, 3, 0, 0, ⟨#[102]⟩, [2]⟩, ⟨14, 0, 3, 0, ⟨#[]⟩, []⟩] := by
    refine cubbylaw10_RunDeep.C_block Rn.kI (t := 30) (xs := [⟨4, 2, 0, 1, ⟨#[]⟩, []⟩, ⟨11, 3, 0, 0, ⟨#[102]⟩, [2]⟩, ⟨14, 0, 3, 0, ⟨#[]⟩, []⟩]) [[.int .i64 4, .int .i64 2, .int .i64 0, .int .i64 1, .string ⟨#[]⟩, .slice none 0 0], [.int .i64 11, .int .i64 3, .int .i64 0, .int .i64 0, .string ⟨#[102]⟩, .slice (some ⟨w.heap.size + 1, 0, none⟩) 1 1], [.int .i64 14, .int .i64 0, .int .i64 3, .int .i64 0, .string ⟨#[]⟩, .slice none 0 0]] b2 rfl (show (3 : Nat) ≤ 9223372036854775807 by decide) ?_
    intro j x c hj hc
    match j with
    | 0 => cases hj; cases hc; exact cubbylaw10_RunDeep.mkI _ _ _ _ _ [] none 0 (Nat.le_refl _) (cubbylaw10_RunDeep.noargs W8)
    | 1 => cases hj; cases hc; exact cubbylaw10_RunDeep.mkI _ _ _ _ _ [2] (some ⟨w.heap.size + 1, 0, none⟩) 1 (Nat.le_refl 1) hG
    | 2 => cases hj; cases hc; exact cubbylaw10_RunDeep.mkI _ _ _ _ _ [] none 0 (Nat.le_refl _) (cubbylaw10_RunDeep.noargs W8)
    | j + 3 => cases hj
  have hI2 : Rn.kI.C W8 (some ⟨w.heap.size + 1 + 1 + 1, 0, none⟩) 2 [⟨1, 3, l1, 0, ⟨#[]⟩, []⟩, ⟨14, 0, 3, 0, ⟨#[]⟩, []⟩] := by
    refine cubbylaw10_RunDeep.C_block Rn.kI (t := 30) (xs := [⟨1, 3, l1, 0, ⟨#[]⟩, []⟩, ⟨14, 0, 3, 0, ⟨#[]⟩, []⟩]) [[.int .i64 1, .int .i64 3, .int .i64 l1, .int .i64 0, .string ⟨#[]⟩, .slice none 0 0], [.int .i64 14, .int .i64 0, .int .i64 3, .int .i64 0, .string ⟨#[]⟩, .slice none 0 0]] b3 rfl (show (2 : Nat) ≤ 9223372036854775807 by decide) ?_
    intro j x c hj hc
    match j with
    | 0 => cases hj; cases hc; exact cubbylaw10_RunDeep.mkI _ _ _ _ _ [] none 0 (Nat.le_refl _) (cubbylaw10_RunDeep.noargs W8)
    | 1 => cases hj; cases hc; exact cubbylaw10_RunDeep.mkI _ _ _ _ _ [] none 0 (Nat.le_refl _) (cubbylaw10_RunDeep.noargs W8)
    | j + 2 => cases hj
  have hBk : Rn.kB.C W8 (some ⟨w.heap.size + 1 + 1 + 1 + 1, 0, none⟩) 3 (cubbylaw10_RunDeep.F l1).blocks := by
    refine cubbylaw10_RunDeep.C_block Rn.kB (t := 31) (xs := (cubbylaw10_RunDeep.F l1).blocks) [[.slice (some ⟨w.heap.size, 0, none⟩) 2 2], [.slice (some ⟨w.heap.size + 1 + 1, 0, none⟩) 3 3], [.slice (some ⟨w.heap.size + 1 + 1 + 1, 0, none⟩) 2 2]] b4 rfl (show (3 : Nat) ≤ 9223372036854775807 by decide) ?_
    intro j x c hj hc
    match j with
    | 0 => cases hj; cases hc; exact ⟨_, 2, rfl, Nat.le_refl _, hI0⟩
    | 1 => cases hj; cases hc; exact ⟨_, 3, rfl, Nat.le_refl _, hI1⟩
    | 2 => cases hj; cases hc; exact ⟨_, 2, rfl, Nat.le_refl _, hI2⟩
    | j + 3 => cases hj
  have hF : Rn.kF.C W8 (some ⟨w.heap.size + 1 + 1 + 1 + 1 + 1 + 1, 0, none⟩) 1 [cubbylaw10_RunDeep.F l1] := by
    refine cubbylaw10_RunDeep.C_block Rn.kF (t := 34) (xs := [cubbylaw10_RunDeep.F l1]) [[.string ⟨#[102]⟩, .int .i64 1, .int .i64 4, .slice (some ⟨w.heap.size + 1 + 1 + 1 + 1, 0, none⟩) 3 3]] b6 rfl (show (1 : Nat) ≤ 9223372036854775807 by decide) ?_
    intro j x c hj hc
    match j with
    | 0 => cases hj; cases hc; exact Rn.mk_F (x := cubbylaw10_RunDeep.F l1) (Nat.le_refl 3) hBk
    | j + 1 => cases hj
  have hA : (Kd.int .i64).C W8 (some ⟨w.heap.size + 1 + 1 + 1 + 1 + 1 + 1 + 1, 0, none⟩) 1 [(kn : Int)] := by
    refine cubbylaw10_RunDeep.C_block (Kd.int .i64) (t := 3) (xs := [(kn : Int)]) [[.int .i64 (kn : Int)]] b7 rfl (show (1 : Nat) ≤ 9223372036854775807 by decide) ?_
    intro j x c hj hc
    match j with
    | 0 => cases hj; cases hc; rfl
    | j + 1 => cases hj
  have HB : Aside0 (Below w.heap.size w W8) := ⟨by
    rw [← hW8]
    exact ((((((((Below.refl w.heap.size w).alloc (Nat.le_refl _) (.cells #[.int .i64 1, .int .i64 1, .int .i64 1, .int .i64 0, .string ⟨#[]⟩, .slice none 0 0, .int .i64 13, .int .i64 2, .int .i64 0, .int .i64 1, .string ⟨#[]⟩, .slice none 0 0] 30)).alloc (by rw [z1]; omega) (.cells #[.int .i64 2] 3)).alloc (by rw [z2]; omega) (.cells #[.int .i64 4, .int .i64 2, .int .i64 0, .int .i64 1, .string ⟨#[]⟩, .slice none 0 0, .int .i64 11, .int .i64 3, .int .i64 0, .int .i64 0, .string ⟨#[102]⟩, .slice (some ⟨w.heap.size + 1, 0, none⟩) 1 1, .int .i64 14, .int .i64 0, .int .i64 3, .int .i64 0, .string ⟨#[]⟩, .slice none 0 0] 30)).alloc (by rw [z3]; omega) (.cells #[.int .i64 1, .int .i64 3, .int .i64 l1, .int .i64 0, .string ⟨#[]⟩, .slice none 0 0, .int .i64 14, .int .i64 0, .int .i64 3, .int .i64 0, .string ⟨#[]⟩, .slice none 0 0] 30)).alloc (by rw [z4]; omega) (.cells #[.slice (some ⟨w.heap.size, 0, none⟩) 2 2, .slice (some ⟨w.heap.size + 1 + 1, 0, none⟩) 3 3, .slice (some ⟨w.heap.size + 1 + 1 + 1, 0, none⟩) 2 2] 31)).alloc (by rw [z5]; omega) (.cells #[.string ⟨#[102]⟩, .int .i64 1, .int .i64 4, .slice (some ⟨w.heap.size + 1 + 1 + 1 + 1, 0, none⟩) 3 3] 34)).alloc (by rw [z6]; omega) (.cells #[.string ⟨#[102]⟩, .int .i64 1, .int .i64 4, .slice (some ⟨w.heap.size + 1 + 1 + 1 + 1, 0, none⟩) 3 3] 34)).alloc (by rw [z7]; omega) (.cells #[.int .i64 (kn : Int)] 3)⟩
  have ew : run_Run.word [(kn : Int)] = [(kn : Int)] := by
    show [(kn : Int) % 65536] = [(kn : Int)]
    rw [Int.emod_eq_of_lt (by omega) (by omega)]
  have hfl256 : (run_Run.filled [] 0).length = 256 := (run_Run.filled_len [] 0 (by decide)).resolve_right (Nat.not_lt_zero _)
  by_cases hk : kn < 32
  · have hgo : Rn.call [cubbylaw10_RunDeep.F l1] 1000 1000 ⟨#[102]⟩ (run_Run.word [(kn : Int)]) 0 ⟨run_Run.filled [] 0, [], 0⟩ = some (.val l1, ⟨run_Run.filled [] 0, [], 5 * (kn : Int) + 4⟩) := by
      rw [ew, cubbylaw10_RunDeep.ends l1 _ kn 0 0 1000 (by omega) (by omega) (by omega) (by omega), Int.zero_add]
    have hk2 : ¬ (32 : Int) ≤ (kn : Int) := by omega
    have HC : Aside0 (Calls Try.prog 11 #[.slice (some ⟨w.heap.size + 1 + 1 + 1 + 1 + 1 + 1, 0, none⟩) 1 1, .string ⟨#[102]⟩, .slice (some ⟨w.heap.size + 1 + 1 + 1 + 1 + 1 + 1 + 1, 0, none⟩) 1 1, .slice none 0 0, .int .i64 1000] W8 fun e w' => ∃ tv mv, e = .returned (.agg #[.int .i64 1, .int .i64 l1, tv, mv, .int .i64 (5 * (kn : Int) + 4)]) ∧ Kd.R (Kd.int .i64) 3 w' W8.heap.size (fun _ => True) tv [] ∧ Kd.R (Kd.int .i64) 3 w' W8.heap.size (fun _ => True) mv (run_Run.filled [] 0) ∧ Below W8.heap.size W8 w') := ⟨run_Run.calls [cubbylaw10_RunDeep.F l1] ⟨#[102]⟩ [(kn : Int)] [] 1000 1000 (.val l1) _ (some ⟨w.heap.size + 1 + 1 + 1 + 1 + 1 + 1, 0, none⟩) 1 (some ⟨w.heap.size + 1 + 1 + 1 + 1 + 1 + 1 + 1, 0, none⟩) 1 none 0 W8 hF (Nat.le_refl 1) hA (Nat.le_refl 1) (show (1 : Nat) ≤ 100000 by decide) (cubbylaw10_RunDeep.noargs W8) (Nat.le_refl 0) (by decide) hgo⟩
    clear hgo hF hA hBk hG hI0 hI1 hI2
    clear b0 b1 b2 b3 b4 b5 b6 b7 z1 z2 z3 z4 z5 z6 z7
    go_enter Try.func6, Try.ntmps6
    go_upto_region 6 with (go_at_call 11; (with_reducible refine HC.out.mono ?_); rintro e w9 ⟨tv, mv, rfl, htv, hmv, hb9⟩; obtain ⟨Amv, cmv, emv⟩ := Kd.R_slice hmv; obtain ⟨Atv, ctv, etv⟩ := Kd.R_slice htv; rw [hfl256] at emv; subst emv; subst etv; have HB := Aside0.mk (HB.out.trans (hb9.mono HB.out.size)); clear hmv hb9 htv)
    have HB := Aside0.mk (HB.out.alloc HB.out.size (.cells #[.int .i64 1, .int .i64 l1, .slice Atv 0 ctv, .slice Amv 256 cmv, .int .i64 (5 * (kn : Int) + 4)] 37))
    have HO := Aside0.mk (Hw.blk_nw w9 (.cells #[.int .i64 1, .int .i64 l1, .slice Atv 0 ctv, .slice Amv 256 cmv, .int .i64 (5 * (kn : Int) + 4)] 37))
    generalize w9.alloc (.cells #[.int .i64 1, .int .i64 l1, .slice Atv 0 ctv, .slice Amv 256 cmv, .int .i64 (5 * (kn : Int) + 4)] 37) = W10 at HB HO ⊢
    generalize w9.heap.size = ob at HO ⊢
    have o0 : W10.cell? ⟨ob, 0, none⟩ = some (.int .i64 1) := cell_of_row W10 ob 0 _ _ _ HO.out
    have o1 : W10.cell? ⟨ob, 1, none⟩ = some (.int .i64 l1) := cell_of_row W10 ob 1 _ _ _ HO.out
    have o4 : W10.cell? ⟨ob, 4, none⟩ = some (.int .i64 (5 * (kn : Int) + 4)) := cell_of_row W10 ob 4 _ _ _ HO.out
    go_wp2_with (fail)
    go_ret
    exact ⟨by first | rfl | simp, HB.out⟩
  · have hgo : Rn.call [cubbylaw10_RunDeep.F l1] 1000 1000 ⟨#[102]⟩ (run_Run.word [(kn : Int)]) 0 ⟨run_Run.filled [] 0, [], 0⟩ = some (.trap, ⟨run_Run.filled [] 0, [], 128⟩) := by
      rw [ew, cubbylaw10_RunDeep.traps l1 _ 32 kn 0 0 1000 (by decide) (by decide) (by omega) (by omega) (by omega) (by decide)]
      rfl
    have hk2 : (32 : Int) ≤ (kn : Int) := by omega
    have HC : Aside0 (Calls Try.prog 11 #[.slice (some ⟨w.heap.size + 1 + 1 + 1 + 1 + 1 + 1, 0, none⟩) 1 1, .string ⟨#[102]⟩, .slice (some ⟨w.heap.size + 1 + 1 + 1 + 1 + 1 + 1 + 1, 0, none⟩) 1 1, .slice none 0 0, .int .i64 1000] W8 fun e w' => ∃ tv mv, e = .returned (.agg #[.int .i64 2, .int .i64 0, tv, mv, .int .i64 (128)]) ∧ Kd.R (Kd.int .i64) 3 w' W8.heap.size (fun _ => True) tv [] ∧ Kd.R (Kd.int .i64) 3 w' W8.heap.size (fun _ => True) mv (run_Run.filled [] 0) ∧ Below W8.heap.size W8 w') := ⟨run_Run.calls [cubbylaw10_RunDeep.F l1] ⟨#[102]⟩ [(kn : Int)] [] 1000 1000 .trap _ (some ⟨w.heap.size + 1 + 1 + 1 + 1 + 1 + 1, 0, none⟩) 1 (some ⟨w.heap.size + 1 + 1 + 1 + 1 + 1 + 1 + 1, 0, none⟩) 1 none 0 W8 hF (Nat.le_refl 1) hA (Nat.le_refl 1) (show (1 : Nat) ≤ 100000 by decide) (cubbylaw10_RunDeep.noargs W8) (Nat.le_refl 0) (by decide) hgo⟩
    clear hgo hF hA hBk hG hI0 hI1 hI2
    clear b0 b1 b2 b3 b4 b5 b6 b7 z1 z2 z3 z4 z5 z6 z7
    go_enter Try.func6, Try.ntmps6
    go_upto_region 6 with (go_at_call 11; (with_reducible refine HC.out.mono ?_); rintro e w9 ⟨tv, mv, rfl, htv, hmv, hb9⟩; obtain ⟨Amv, cmv, emv⟩ := Kd.R_slice hmv; obtain ⟨Atv, ctv, etv⟩ := Kd.R_slice htv; rw [hfl256] at emv; subst emv; subst etv; have HB := Aside0.mk (HB.out.trans (hb9.mono HB.out.size)); clear hmv hb9 htv)
    have HB := Aside0.mk (HB.out.alloc HB.out.size (.cells #[.int .i64 2, .int .i64 0, .slice Atv 0 ctv, .slice Amv 256 cmv, .int .i64 (128)] 37))
    have HO := Aside0.mk (Hw.blk_nw w9 (.cells #[.int .i64 2, .int .i64 0, .slice Atv 0 ctv, .slice Amv 256 cmv, .int .i64 (128)] 37))
    generalize w9.alloc (.cells #[.int .i64 2, .int .i64 0, .slice Atv 0 ctv, .slice Amv 256 cmv, .int .i64 (128)] 37) = W10 at HB HO ⊢
    generalize w9.heap.size = ob at HO ⊢
    have o0 : W10.cell? ⟨ob, 0, none⟩ = some (.int .i64 2) := cell_of_row W10 ob 0 _ _ _ HO.out
    have o1 : W10.cell? ⟨ob, 1, none⟩ = some (.int .i64 0) := cell_of_row W10 ob 1 _ _ _ HO.out
    have o4 : W10.cell? ⟨ob, 4, none⟩ = some (.int .i64 128) := cell_of_row W10 ob 4 _ _ _ HO.out
    go_wp2_with (fail)
    go_ret
    exact ⟨by first | rfl | simp, HB.out⟩

/-- THE ONE PURE STATEMENT of cubbylaw10_RunDeep: yours. -/
def cubbylaw10_RunDeep.Pure : Prop := ∀ (a0 : Int) (a1 : Int), (Lit.int .u8 a0).wf = true → (Lit.int .u16 a1).wf = true → cubbylaw10_RunDeep.f a0 a1 = some true
theorem cubbylaw10_RunDeep.walk (P : cubbylaw10_RunDeep.Pure) (a0 : Int) (a1 : Int) (w : World) (o0 : (Lit.int .u8 a0).wf = true) (o1 : (Lit.int .u16 a1).wf = true) :
    Calls Try.prog 6 #[.int .u8 a0, .int .u16 a1] w fun e w' => e = .returned (.bool true) ∧ Below w.heap.size w w' := by
  have h := P a0 a1 o0 o1
  refine (cubbylaw10_RunDeep.calls a0 a1 true w h).mono ?_
  rintro e w' ⟨rfl, hd⟩
  exact ⟨rfl, hd⟩

end Go.Proofs.Ytjmgfpfdkfelhaa.PRunDeep
