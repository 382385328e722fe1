/- The machine of run.go: functions as they lie in memory, a plain machine, what its memory is; by hand. A library; conditions: none. -/
import Derived.Test.YtkjflclkjdbmoaaHw
import Derived.Test.YtkjflclkjdbmoaaProg
import Derived.Maps.OwnSet
import Derived.Deep.AppendLies
import Derived.WalkSmall
import Derived.Laws.CopyRow
set_option linter.unusedVariables false
set_option linter.unusedSimpArgs false
namespace Go.Proofs.Ytkjflclkjdbmoaa
open Go.RowKit Go.Proofs.YtkjflclkjdbmoaaW.PrintWords Go.Proofs.YtkjflclkjdbmoaaW.PrintLast Go.Proofs.YtkjflclkjdbmoaaW
structure Rn.Ins where
  op : Int
  d : Int
  a : Int
  b : Int
  name : ByteArray
  args : List Int
structure Rn.Fn where
  name : ByteArray
  params : Int
  regs : Int
  blocks : List (List Rn.Ins)
def Rn.zI : Rn.Ins := ⟨0, 0, 0, 0, ⟨#[]⟩, []⟩
def Rn.zF : Rn.Fn := ⟨⟨#[]⟩, 0, 0, []⟩
def Rn.kI : Kd Rn.Ins := Kd.iso (Kd.pair (Kd.int .i64) (Kd.pair (Kd.int .i64) (Kd.pair (Kd.int .i64) (Kd.pair (Kd.int .i64) (Kd.pair Kd.string (Kd.slice 3 (Kd.int .i64))))))) (fun x : Rn.Ins => (x.op, x.d, x.a, x.b, x.name, x.args))
def Rn.kB : Kd (List Rn.Ins) := Kd.slice 28 Rn.kI
def Rn.kF : Kd Rn.Fn := Kd.iso (Kd.pair Kd.string (Kd.pair (Kd.int .i64) (Kd.pair (Kd.int .i64) (Kd.slice 24 Rn.kB)))) (fun x : Rn.Fn => (x.name, x.params, x.regs, x.blocks))
theorem Rn.at_I {w : World} {A : Option Addr} {n : Nat} {xs : List Rn.Ins} (h : Rn.kI.C w A n xs) (i : Nat) (h1 : i < n) : ∃ ad Ag cg, A = some ad ∧ w.cell? (ad.add (i * 6)) = some (.int .i64 (xs.getD i Rn.zI).op) ∧ w.cell? ⟨(ad.add (i * 6)).block, (ad.add (i * 6)).off + 1, none⟩ = some (.int .i64 (xs.getD i Rn.zI).d) ∧ w.cell? ⟨(ad.add (i * 6)).block, (ad.add (i * 6)).off + 2, none⟩ = some (.int .i64 (xs.getD i Rn.zI).a) ∧ w.cell? ⟨(ad.add (i * 6)).block, (ad.add (i * 6)).off + 3, none⟩ = some (.int .i64 (xs.getD i Rn.zI).b) ∧ w.cell? ⟨(ad.add (i * 6)).block, (ad.add (i * 6)).off + 4, none⟩ = some (.string (xs.getD i Rn.zI).name) ∧ w.cell? ⟨(ad.add (i * 6)).block, (ad.add (i * 6)).off + 5, none⟩ = some (.slice Ag (xs.getD i Rn.zI).args.length cg) ∧ (xs.getD i Rn.zI).args.length ≤ cg ∧ (Kd.int .i64).C w Ag (xs.getD i Rn.zI).args.length (xs.getD i Rn.zI).args := by
  obtain ⟨ad, c, e, _, hK, hc0⟩ := Kd.C_get h Rn.zI (i : Int) (by omega) (by omega)
  rw [Int.toNat_natCast] at hK hc0
  have hc : ∀ j u, c[j]? = some u → w.cell? (ad.add (i * 6 + j)) = some u := hc0
  obtain ⟨_, _, rfl, rfl, ⟨_, _, rfl, rfl, ⟨_, _, rfl, rfl, ⟨_, _, rfl, rfl, ⟨_, _, rfl, rfl, ⟨Ag, cg, rfl, hl, hC⟩⟩⟩⟩⟩⟩ := hK
  exact ⟨ad, Ag, cg, e, hc 0 _ rfl, by rw [← add_field _ _ 1 (by omega)]; exact hc 1 _ rfl, by rw [← add_field _ _ 2 (by omega)]; exact hc 2 _ rfl, by rw [← add_field _ _ 3 (by omega)]; exact hc 3 _ rfl, by rw [← add_field _ _ 4 (by omega)]; exact hc 4 _ rfl, by rw [← add_field _ _ 5 (by omega)]; exact hc 5 _ rfl, hl, hC⟩
theorem Rn.at_F {w : World} {A : Option Addr} {n : Nat} {xs : List Rn.Fn} (h : Rn.kF.C w A n xs) (i : Nat) (h1 : i < n) : ∃ ad Ab cb, A = some ad ∧ w.cell? (ad.add (i * 4)) = some (.string (xs.getD i Rn.zF).name) ∧ w.cell? ⟨(ad.add (i * 4)).block, (ad.add (i * 4)).off + 1, none⟩ = some (.int .i64 (xs.getD i Rn.zF).params) ∧ w.cell? ⟨(ad.add (i * 4)).block, (ad.add (i * 4)).off + 2, none⟩ = some (.int .i64 (xs.getD i Rn.zF).regs) ∧ w.cell? ⟨(ad.add (i * 4)).block, (ad.add (i * 4)).off + 3, none⟩ = some (.slice Ab (xs.getD i Rn.zF).blocks.length cb) ∧ (xs.getD i Rn.zF).blocks.length ≤ cb ∧ Rn.kB.C w Ab (xs.getD i Rn.zF).blocks.length (xs.getD i Rn.zF).blocks := by
  obtain ⟨ad, c, e, _, hK, hc0⟩ := Kd.C_get h Rn.zF (i : Int) (by omega) (by omega)
  rw [Int.toNat_natCast] at hK hc0
  have hc : ∀ j u, c[j]? = some u → w.cell? (ad.add (i * 4 + j)) = some u := hc0
  obtain ⟨_, _, rfl, rfl, ⟨_, _, rfl, rfl, ⟨_, _, rfl, rfl, ⟨Ab, cb, rfl, hl, hC⟩⟩⟩⟩ := hK
  exact ⟨ad, Ab, cb, e, hc 0 _ rfl, by rw [← add_field _ _ 1 (by omega)]; exact hc 1 _ rfl, by rw [← add_field _ _ 2 (by omega)]; exact hc 2 _ rfl, by rw [← add_field _ _ 3 (by omega)]; exact hc 3 _ rfl, hl, hC⟩
theorem Rn.at_B {w : World} {A : Option Addr} {n : Nat} {xs : List (List Rn.Ins)} (h : Rn.kB.C w A n xs) (i : Nat) (h1 : i < n) : ∃ ad Ai ci, A = some ad ∧ w.cell? (ad.add i) = some (.slice Ai (xs.getD i []).length ci) ∧ (xs.getD i []).length ≤ ci ∧ Rn.kI.C w Ai (xs.getD i []).length (xs.getD i []) := by
  obtain ⟨ad, c, e, _, hK, hc0⟩ := Kd.C_get h ([] : List Rn.Ins) (i : Int) (by omega) (by omega)
  rw [Int.toNat_natCast] at hK hc0
  have hc : ∀ j u, c[j]? = some u → w.cell? (ad.add (i * 1 + j)) = some u := hc0
  obtain ⟨Ai, ci, rfl, hl, hC⟩ := hK
  exact ⟨ad, Ai, ci, e, by have := hc 0 _ rfl; rwa [Nat.mul_one, Nat.add_zero] at this, hl, hC⟩
theorem Rn.mk_F {w : World} {x : Rn.Fn} {Ab : Option Addr} {cb : Nat} (hl : x.blocks.length ≤ cb) (hC : Rn.kB.C w Ab x.blocks.length x.blocks) : Rn.kF.K w x [.string x.name, .int .i64 x.params, .int .i64 x.regs, .slice Ab x.blocks.length cb] :=
  ⟨[.string x.name], [.int .i64 x.params, .int .i64 x.regs, .slice Ab x.blocks.length cb], rfl, rfl, ⟨[.int .i64 x.params], [.int .i64 x.regs, .slice Ab x.blocks.length cb], rfl, rfl, ⟨[.int .i64 x.regs], [.slice Ab x.blocks.length cb], rfl, rfl, ⟨Ab, cb, rfl, hl, hC⟩⟩⟩⟩
theorem Rn.open_F {w : World} {x : Rn.Fn} {cs : List Value} (h : Rn.kF.K w x cs) : ∃ Ab cb, cs = [.string x.name, .int .i64 x.params, .int .i64 x.regs, .slice Ab x.blocks.length cb] ∧ x.blocks.length ≤ cb ∧ Rn.kB.C w Ab x.blocks.length x.blocks := by
  obtain ⟨_, _, rfl, rfl, ⟨_, _, rfl, rfl, ⟨_, _, rfl, rfl, ⟨Ab, cb, rfl, hl, hC⟩⟩⟩⟩ := h
  exact ⟨Ab, cb, rfl, hl, hC⟩
/-! ### the plain machine -/
inductive Rn.Res where
  | val (v : Int)
  | trap
  | out
structure Rn.M where
  mem : List Int
  told : List Int
  steps : Int
def Rn.get {α : Type} (r : List Int) (i : Int) (k : Int → Option α) : Option α := if 0 ≤ i ∧ i < (r.length : Int) then k (r.getD i.toNat 0) else none
def Rn.set {α : Type} (r : List Int) (i v : Int) (k : List Int → Option α) : Option α := if 0 ≤ i ∧ i < (r.length : Int) then k (r.set i.toNat v) else none
def Rn.blk {α : Type} (bl : List (List Rn.Ins)) (i : Int) (k : List Rn.Ins → Option α) : Option α := if 0 ≤ i ∧ i < (bl.length : Int) then k (bl.getD i.toNat []) else none
def Rn.gets (r : List Int) : List Int → Option (List Int)
  | [] => some []
  | i :: l => if 0 ≤ i ∧ i < (r.length : Int) then (Rn.gets r l).map (r.getD i.toNat 0 :: ·) else none
/-- The place of the first function of a name; -1. -/
def Rn.ix (mod : List Rn.Fn) (name : ByteArray) : Int := match mod.findIdx? (fun f => decide (f.name = name)) with | some i => (i : Int) | none => -1
def Rn.entry (f : Rn.Fn) (vs : List Int) : List Int := vs.take f.regs.toNat ++ List.replicate (f.regs.toNat - vs.length) 0
def Rn.opw (op a b : Int) : Option Int :=
  if op = 3 then some ((a % 65536 + b % 65536) % 65536) else if op = 4 then some ((a % 65536 - b % 65536) % 65536) else if op = 5 then some ((a % 65536 * (b % 65536)) % 65536)
  else if op = 6 then some (if a % 65536 < b % 65536 then 1 else 0) else if op = 7 ∧ ¬ b % 65536 = 0 then some (a % 65536 / (b % 65536)) else none
/-- May function k be called so? -/
def Rn.ok (mod : List Rn.Fn) (k : Int) (n : Nat) (deep : Int) : Bool := decide (0 ≤ k ∧ (mod.getD k.toNat Rn.zF).params = (n : Int) ∧ deep < 32)
def Rn.go (mod : List Rn.Fn) (fuel : Int) : Nat → List (List Rn.Ins) → List Int → List Rn.Ins → Int → Rn.M → Option (Rn.Res × Rn.M)
  | 0, _, _, _, _, _ => none
  | g + 1, bl, r, rest, deep, m0 =>
    if fuel ≤ m0.steps then some (.out, m0) else
    match rest with
    | [] => none
    | x :: rest =>
      let m : Rn.M := { m0 with steps := m0.steps + 1 }
      if x.op = 1 then Rn.set r x.d x.a fun r => Rn.go mod fuel g bl r rest deep m
      else if x.op = 2 then Rn.get r x.a fun v => Rn.set r x.d v fun r => Rn.go mod fuel g bl r rest deep m
      else if x.op = 8 then Rn.get r x.a fun v => if 0 ≤ v then Rn.set r x.d (m.mem.getD (v % 256).toNat 0) fun r => Rn.go mod fuel g bl r rest deep m else none
      else if x.op = 9 then Rn.get r x.a fun v => Rn.get r x.b fun u => if 0 ≤ v then Rn.go mod fuel g bl r rest deep { m with mem := m.mem.set (v % 256).toNat u } else none
      else if x.op = 10 then none
      else if x.op = 11 then
        if 100000 < x.args.length then none else
        match Rn.gets r x.args with
        | none => none
        | some vs =>
          let k := Rn.ix mod x.name
          if Rn.ok mod k vs.length (deep + 1) = true then
            let f := mod.getD k.toNat Rn.zF
            if 0 ≤ f.regs ∧ f.regs ≤ 100000 then
              Rn.blk f.blocks 0 fun b =>
              match Rn.go mod fuel g f.blocks (Rn.entry f vs) b (deep + 1) m with
              | some (.val v, m') => Rn.set r x.d v fun r => Rn.go mod fuel g bl r rest deep m'
              | q => q
            else none
          else some (.trap, m)
      else if x.op = 12 then Rn.blk bl x.a fun rest => Rn.go mod fuel g bl r rest deep m
      else if x.op = 13 then Rn.blk bl x.d fun rest0 => Rn.get r x.a fun v => if v = 0 then Rn.go mod fuel g bl r rest0 deep m else Rn.blk bl x.b fun rest => Rn.go mod fuel g bl r rest deep m
      else if x.op = 14 then Rn.get r x.a fun v => some (.val v, m)
      else Rn.get r x.a fun a => Rn.get r x.b fun b =>
        match Rn.opw x.op a b with
        | some v => Rn.set r x.d v fun r => Rn.go mod fuel g bl r rest deep m
        | none => some (.trap, m)
/-- A call. -/
def Rn.call (mod : List Rn.Fn) (fuel : Int) (g : Nat) (name : ByteArray) (vs : List Int) (deep : Int) (m : Rn.M) : Option (Rn.Res × Rn.M) :=
  let k := Rn.ix mod name
  if Rn.ok mod k vs.length deep = true then
    let f := mod.getD k.toNat Rn.zF
    if 0 ≤ f.regs ∧ f.regs ≤ 100000 then Rn.blk f.blocks 0 fun b => Rn.go mod fuel g f.blocks (Rn.entry f vs) b deep m else none
  else some (.trap, m)
section
variable {mod : List Rn.Fn} {fuel : Int} {g : Nat} {bl : List (List Rn.Ins)} {r : List Int} {rest : List Rn.Ins} {deep : Int} {m : Rn.M} {d a b : Int} {nm : ByteArray} {args : List Int}
def Rn.tick (m : Rn.M) : Rn.M := { m with steps := m.steps + 1 }
theorem Rn.go_out (h : fuel ≤ m.steps) : Rn.go mod fuel (g + 1) bl r rest deep m = some (.out, m) := by
  unfold Rn.go
  rw [if_pos h]
theorem Rn.go_nil (h : ¬ fuel ≤ m.steps) : Rn.go mod fuel (g + 1) bl r [] deep m = none := by
  unfold Rn.go
  rw [if_neg h]
theorem Rn.go1 (h : ¬ fuel ≤ m.steps) : Rn.go mod fuel (g + 1) bl r (⟨1, d, a, b, nm, args⟩ :: rest) deep m = Rn.set r d a fun r => Rn.go mod fuel g bl r rest deep (Rn.tick m) := by
  rw [Rn.go.eq_def]
  simp only [if_neg h]
  rfl
theorem Rn.go2 (h : ¬ fuel ≤ m.steps) : Rn.go mod fuel (g + 1) bl r (⟨2, d, a, b, nm, args⟩ :: rest) deep m = Rn.get r a fun v => Rn.set r d v fun r => Rn.go mod fuel g bl r rest deep (Rn.tick m) := by
  rw [Rn.go.eq_def]
  simp only [if_neg h]
  rfl
theorem Rn.go8 (h : ¬ fuel ≤ m.steps) : Rn.go mod fuel (g + 1) bl r (⟨8, d, a, b, nm, args⟩ :: rest) deep m = Rn.get r a fun v => if 0 ≤ v then Rn.set r d (m.mem.getD (v % 256).toNat 0) fun r => Rn.go mod fuel g bl r rest deep (Rn.tick m) else none := by
  rw [Rn.go.eq_def]
  simp only [if_neg h]
  rfl
theorem Rn.go9 (h : ¬ fuel ≤ m.steps) : Rn.go mod fuel (g + 1) bl r (⟨9, d, a, b, nm, args⟩ :: rest) deep m = Rn.get r a fun v => Rn.get r b fun u => if 0 ≤ v then Rn.go mod fuel g bl r rest deep { Rn.tick m with mem := m.mem.set (v % 256).toNat u } else none := by
  rw [Rn.go.eq_def]
  simp only [if_neg h]
  rfl
theorem Rn.go10 (h : ¬ fuel ≤ m.steps) : Rn.go mod fuel (g + 1) bl r (⟨10, d, a, b, nm, args⟩ :: rest) deep m = none := by
  rw [Rn.go.eq_def]
  simp only [if_neg h]
  rfl
theorem Rn.go12 (h : ¬ fuel ≤ m.steps) : Rn.go mod fuel (g + 1) bl r (⟨12, d, a, b, nm, args⟩ :: rest) deep m = Rn.blk bl a fun rest => Rn.go mod fuel g bl r rest deep (Rn.tick m) := by
  rw [Rn.go.eq_def]
  simp only [if_neg h]
  rfl
theorem Rn.go13 (h : ¬ fuel ≤ m.steps) : Rn.go mod fuel (g + 1) bl r (⟨13, d, a, b, nm, args⟩ :: rest) deep m = Rn.blk bl d fun rest0 => Rn.get r a fun v => if v = 0 then Rn.go mod fuel g bl r rest0 deep (Rn.tick m) else Rn.blk bl b fun rest => Rn.go mod fuel g bl r rest deep (Rn.tick m) := by
  rw [Rn.go.eq_def]
  simp only [if_neg h]
  rfl
theorem Rn.go14 (h : ¬ fuel ≤ m.steps) : Rn.go mod fuel (g + 1) bl r (⟨14, d, a, b, nm, args⟩ :: rest) deep m = Rn.get r a fun v => some (.val v, Rn.tick m) := by
  rw [Rn.go.eq_def]
  simp only [if_neg h]
  rfl
theorem Rn.goD {op : Int} (h : ¬ fuel ≤ m.steps) (h1 : ¬ op = 1) (h2 : ¬ op = 2) (h8 : ¬ op = 8) (h9 : ¬ op = 9) (h10 : ¬ op = 10) (h11 : ¬ op = 11) (h12 : ¬ op = 12) (h13 : ¬ op = 13) (h14 : ¬ op = 14) :
    Rn.go mod fuel (g + 1) bl r (⟨op, d, a, b, nm, args⟩ :: rest) deep m = Rn.get r a fun x => Rn.get r b fun y => match Rn.opw op x y with | some v => Rn.set r d v fun r => Rn.go mod fuel g bl r rest deep (Rn.tick m) | none => some (.trap, Rn.tick m) := by
  rw [Rn.go.eq_def]
  simp only [if_neg h, if_neg h1, if_neg h2, if_neg h8, if_neg h9, if_neg h10, if_neg h11, if_neg h12, if_neg h13, if_neg h14]
  rfl
theorem Rn.go11 (h : ¬ fuel ≤ m.steps) : Rn.go mod fuel (g + 1) bl r (⟨11, d, a, b, nm, args⟩ :: rest) deep m = if 100000 < args.length then none else match Rn.gets r args with | none => none | some vs => match Rn.call mod fuel g nm vs (deep + 1) (Rn.tick m) with | some (.val v, m') => Rn.set r d v fun r => Rn.go mod fuel g bl r rest deep m' | q => q := by
  rw [Rn.go.eq_def]
  simp only [if_neg h]
  show (if 100000 < args.length then none else _) = _
  by_cases hl : 100000 < args.length
  · rw [if_pos hl, if_pos hl]
  rw [if_neg hl, if_neg hl]
  cases Rn.gets r args with
  | none => rfl
  | some vs =>
    simp only [Rn.call, Rn.blk]
    split
    · split
      · split
        · rfl
        · rfl
      · rfl
    · rfl
end
/-! ### what its memory is -/
def Rn.arr (A : Option Addr) (n c : Nat) (m : Rn.M) (tv : Value) (fuel : Int) : Array Value := (.slice A n c :: (m.mem.map (Value.int .i64) ++ [tv, .int .i64 fuel, .int .i64 m.steps])).toArray
structure Rn.St (W : World) (base gm : Nat) (A : Option Addr) (n c : Nat) (fuel : Int) (m : Rn.M) (tv : Value) : Prop where
  ob : W.heap[gm]? = some (.cells (Rn.arr A n c m tv fuel) 67 (0, 0))
  hm : m.mem.length = 256
  hg : base ≤ gm
  tr : Kd.R (Kd.int .i64) 3 W base (fun _ => True) tv m.told
  hb : base ≤ W.heap.size
  hs : 0 ≤ m.steps ∧ m.steps ≤ 1048576
  hf : 0 ≤ fuel ∧ fuel ≤ 1048576
theorem Rn.arr_get0 (A : Option Addr) (n c : Nat) (m : Rn.M) (tv : Value) (fuel : Int) : (Rn.arr A n c m tv fuel)[0]? = some (.slice A n c) := rfl
theorem Rn.arr_mem (A : Option Addr) (n c : Nat) (m : Rn.M) (tv : Value) (fuel : Int) (hm : m.mem.length = 256) (i : Nat) (hi : i < 256) : (Rn.arr A n c m tv fuel)[1 + i]? = some (.int .i64 (m.mem.getD i 0)) := by
  unfold Rn.arr
  rw [List.getElem?_toArray, Nat.add_comm, List.getElem?_cons_succ, List.getElem?_append_left (by rw [List.length_map]; omega), List.getElem?_map, List.getD_eq_getElem?_getD, List.getElem?_eq_getElem (by omega)]
  rfl
theorem Rn.arr_tl (A : Option Addr) (n c : Nat) (m : Rn.M) (tv : Value) (fuel : Int) (hm : m.mem.length = 256) (i : Nat) : (Rn.arr A n c m tv fuel)[257 + i]? = [tv, .int .i64 fuel, .int .i64 m.steps][i]? := by
  unfold Rn.arr
  rw [List.getElem?_toArray, show 257 + i = (256 + i) + 1 by omega, List.getElem?_cons_succ, List.getElem?_append_right (by rw [List.length_map]; omega), List.length_map, hm, Nat.add_sub_cancel_left]
theorem Rn.arr_setmem (A : Option Addr) (n c : Nat) (m : Rn.M) (tv : Value) (fuel : Int) (hm : m.mem.length = 256) (i : Nat) (hi : i < 256) (v : Int) : (Rn.arr A n c m tv fuel).setIfInBounds (1 + i) (.int .i64 v) = Rn.arr A n c { m with mem := m.mem.set i v } tv fuel := by
  unfold Rn.arr
  rw [List.setIfInBounds_toArray, Nat.add_comm, List.set_cons_succ, List.set_append_left _ _ (by rw [List.length_map]; omega), List.map_set]
theorem Rn.arr_settl (A : Option Addr) (n c : Nat) (m : Rn.M) (tv : Value) (fuel : Int) (hm : m.mem.length = 256) (i : Nat) (v : Value) : (Rn.arr A n c m tv fuel).setIfInBounds (257 + i) v = (.slice A n c :: (m.mem.map (Value.int .i64) ++ [tv, .int .i64 fuel, .int .i64 m.steps].set i v)).toArray := by
  unfold Rn.arr
  rw [List.setIfInBounds_toArray, show 257 + i = (256 + i) + 1 by omega, List.set_cons_succ, List.set_append_right _ _ (by rw [List.length_map]; omega), List.length_map, hm, Nat.add_sub_cancel_left]
section
variable {W : World} {base gm : Nat} {A : Option Addr} {n c : Nat} {fuel : Int} {m : Rn.M} {tv : Value}
theorem Rn.St.at0 (h : Rn.St W base gm A n c fuel m tv) : W.cell? ⟨gm, 0, none⟩ = some (.slice A n c) := cell_of_row W gm 0 _ _ _ h.ob
theorem Rn.St.atm (h : Rn.St W base gm A n c fuel m tv) (i : Nat) (hi : i < 256) : W.cell? ⟨gm, 1 + i, none⟩ = some (.int .i64 (m.mem.getD i 0)) := (cell_of_row W gm _ _ _ _ h.ob).trans (Rn.arr_mem A n c m tv fuel h.hm i hi)
theorem Rn.St.at257 (h : Rn.St W base gm A n c fuel m tv) : W.cell? ⟨gm, 257, none⟩ = some tv := (cell_of_row W gm _ _ _ _ h.ob).trans (Rn.arr_tl A n c m tv fuel h.hm 0)
theorem Rn.St.at258 (h : Rn.St W base gm A n c fuel m tv) : W.cell? ⟨gm, 258, none⟩ = some (.int .i64 fuel) := (cell_of_row W gm _ _ _ _ h.ob).trans (Rn.arr_tl A n c m tv fuel h.hm 1)
theorem Rn.St.at259 (h : Rn.St W base gm A n c fuel m tv) : W.cell? ⟨gm, 259, none⟩ = some (.int .i64 m.steps) := (cell_of_row W gm _ _ _ _ h.ob).trans (Rn.arr_tl A n c m tv fuel h.hm 2)
theorem Rn.St.fz (h : Rn.St W base gm A n c fuel m tv) (k : Nat) : W.frozen? ⟨gm, k, none⟩ = false := by simp [World.frozen?, h.ob]
theorem Rn.ne_machine : ∀ q, q ∈ 3 :: (Kd.int .i64).E → q ≠ 67 := by
  intro q hq
  simp [Kd.int, Kd.scalar] at hq
  omega
/-- A step is counted. -/
theorem Rn.St.tick (h : Rn.St W base gm A n c fuel m tv) (hlt : m.steps < fuel) : Rn.St (W.setCell ⟨gm, 259, none⟩ (.int .i64 (m.steps + 1))) base gm A n c fuel { m with steps := m.steps + 1 } tv := by
  have ob := blk_set h.ob 259 (.int .i64 (m.steps + 1))
  rw [Rn.arr_settl A n c m tv fuel h.hm 2] at ob
  have hf := h.hf
  have hs := h.hs
  exact ⟨ob, h.hm, h.hg, Kd.R_set h.tr h.ob Rn.ne_machine 259 _, by have := h.hb; simpa [World.setCell] using this, by show 0 ≤ m.steps + 1 ∧ m.steps + 1 ≤ 1048576; omega, h.hf⟩
theorem Rn.St.store (h : Rn.St W base gm A n c fuel m tv) (i : Nat) (hi : i < 256) (v : Int) : Rn.St (W.setCell ⟨gm, 1 + i, none⟩ (.int .i64 v)) base gm A n c fuel { m with mem := m.mem.set i v } tv := by
  have ob := blk_set h.ob (1 + i) (.int .i64 v)
  rw [Rn.arr_setmem A n c m tv fuel h.hm i hi v] at ob
  exact ⟨ob, by show (m.mem.set i v).length = 256; rw [List.length_set]; exact h.hm, h.hg, Kd.R_set h.tr h.ob Rn.ne_machine _ _, by have := h.hb; simpa [World.setCell] using this, h.hs, h.hf⟩
/-- What is not the machine's block, nor its row of what was told, stays; and what stood below base. -/
structure Rn.Fr (base gm : Nat) (tv tv' : Value) (w w' : World) : Prop where
  b : Below base w w'
  f : ∀ k, k < w.heap.size → k ≠ gm → some k ≠ tv.ownBlock → w'.heap[k]? = w.heap[k]?
  g : ∀ k, some k = tv'.ownBlock → some k = tv.ownBlock ∨ w.heap.size ≤ k
theorem Rn.Fr.refl (base gm : Nat) (tv : Value) (w : World) : Rn.Fr base gm tv tv w w := ⟨Below.refl _ _, fun _ _ _ _ => rfl, fun _ h => .inl h⟩
theorem Rn.Fr.trans {tv1 tv2 tv3 : Value} {w w1 w2 : World} (h : Rn.Fr base gm tv1 tv2 w w1) (h' : Rn.Fr base gm tv2 tv3 w1 w2) : Rn.Fr base gm tv1 tv3 w w2 := by
  refine ⟨h.b.trans h'.b, fun k hk h1 h2 => ?_, fun k hk => ?_⟩
  · rw [h'.f k (Nat.lt_of_lt_of_le hk h.b.size) h1 (fun e => ?_), h.f k hk h1 h2]
    rcases h.g k e with q | q
    · exact h2 q
    · omega
  · rcases h'.g k hk with q | q
    · exact h.g k q
    · exact .inr (Nat.le_trans h.b.size q)
theorem Rn.Fr.of {w w' : World} (h : Below w.heap.size w w') (hb : base ≤ w.heap.size) : Rn.Fr base gm tv tv w w' := ⟨h.mono hb, fun k hk _ _ => h.block k hk, fun _ e => .inl e⟩
theorem Rn.Fr.drew {tv' : Value} {w w' : World} (h : Rn.Fr base gm tv tv' w w') : Rn.Fr base gm tv tv' w w'.drew := ⟨h.b.drew, h.f, h.g⟩
theorem Rn.Fr.drewN {tv' : Value} {w w' : World} (h : Rn.Fr base gm tv tv' w w') (k : Nat) : Rn.Fr base gm tv tv' w (w'.drewN k) := ⟨pw_below_drewN h.b k, h.f, h.g⟩
theorem Rn.Fr.alloc {tv' : Value} {w w' : World} (h : Rn.Fr base gm tv tv' w w') (hb : base ≤ w'.heap.size) (o : Obj) : Rn.Fr base gm tv tv' w (w'.alloc o) := h.trans (Rn.Fr.of ((Below.refl _ _).alloc (Nat.le_refl _) o) hb)
theorem Rn.Fr.mset {tv' : Value} {w w' : World} (h : Rn.Fr base gm tv tv' w w') (hg : base ≤ gm) (i : Nat) (v : Value) : Rn.Fr base gm tv tv' w (w'.setCell ⟨gm, i, none⟩ v) :=
  ⟨h.b.setCell (p := ⟨gm, i, none⟩) hg v, fun k hk h1 h2 => (Below.heap_setCell _ _ _ _ h1).trans (h.f k hk h1 h2), h.g⟩
/-- A cell of a newer block. -/
theorem Rn.Fr.nset {tv' : Value} {w w' : World} (h : Rn.Fr base gm tv tv' w w') (b i : Nat) (hb : w.heap.size ≤ b) (hbb : base ≤ b) (v : Value) : Rn.Fr base gm tv tv' w (w'.setCell ⟨b, i, none⟩ v) :=
  ⟨h.b.setCell (p := ⟨b, i, none⟩) hbb v, fun k hk h1 h2 => (Below.heap_setCell _ _ _ _ (by show k ≠ b; omega)).trans (h.f k hk h1 h2), h.g⟩
theorem Rn.Fr.blk {tv' : Value} {w w' : World} (h : Rn.Fr base gm tv tv' w w') {k : Nat} {o : Obj} (hk : w.heap[k]? = some o) (h1 : k ≠ gm) (h2 : some k ≠ tv.ownBlock) : w'.heap[k]? = some o := (h.f k (Array.getElem?_eq_some_iff.1 hk).1 h1 h2).trans hk
theorem Rn.St.drew (h : Rn.St W base gm A n c fuel m tv) : Rn.St W.drew base gm A n c fuel m tv := ⟨h.ob, h.hm, h.hg, Kd.R_drew h.tr, h.hb, h.hs, h.hf⟩
theorem Rn.St.drewN (h : Rn.St W base gm A n c fuel m tv) (k : Nat) : Rn.St (W.drewN k) base gm A n c fuel m tv := ⟨h.ob, h.hm, h.hg, Kd.R_drewN h.tr k, h.hb, h.hs, h.hf⟩
/-- Nothing of it was written. -/
theorem Rn.St.below {w' : World} (h : Rn.St W base gm A n c fuel m tv) (hb : Below W.heap.size W w') : Rn.St w' base gm A n c fuel m tv :=
  ⟨(hb.block gm (Array.getElem?_eq_some_iff.1 h.ob).1).trans h.ob, h.hm, h.hg, Kd.R_below h.tr hb, Nat.le_trans h.hb hb.size, h.hs, h.hf⟩
theorem Rn.St.alloc (h : Rn.St W base gm A n c fuel m tv) (o : Obj) : Rn.St (W.alloc o) base gm A n c fuel m tv := h.below ((Below.refl _ _).alloc (Nat.le_refl _) o)
/-- A cell of another block than its own two. -/
theorem Rn.St.nset (h : Rn.St W base gm A n c fuel m tv) (b i : Nat) (h1 : b ≠ gm) (h2 : some b ≠ tv.ownBlock) (v : Value) : Rn.St (W.setCell ⟨b, i, none⟩ v) base gm A n c fuel m tv := by
  refine ⟨(Below.heap_setCell _ _ _ _ (fun e => h1 e.symm)).trans h.ob, h.hm, h.hg, ?_, by have := h.hb; simpa [World.setCell] using this, h.hs, h.hf⟩
  obtain ⟨_, inner, ho, hr⟩ := h.tr
  have hK : ∀ p c, (Kd.int .i64).M W base (fun k => True ∧ some k ≠ tv.ownBlock) p c → (Kd.int .i64).M (W.setCell ⟨b, i, none⟩ v) base (fun k => True ∧ some k ≠ tv.ownBlock) p c := fun _ _ q => q
  exact ⟨fun _ _ => trivial, inner, own_move ho (fun k hk => Below.heap_setCell _ _ _ _ (fun e => h2 (by have e' : k = b := e; rw [← e']; exact hk.symm))), hr.imp_ hK⟩
end
theorem Rn.Fr.grown {base gm : Nat} {tv tv' : Value} {w w' w2 : World} (h : Rn.Fr base gm tv tv' w w') {b : Nat} (hg : w'.grownBy w2 (some b)) (hb : w.heap.size ≤ b) (h1 : base ≤ b) (h2 : base ≤ w'.heap.size) : Rn.Fr base gm tv tv' w w2 :=
  ⟨h.b.grown hg h2 (fun k e => by cases e; exact h1), fun k hk q1 q2 => (hg.block k (Nat.lt_of_lt_of_le hk h.b.size) (fun e => by injection e with e; omega)).trans (h.f k hk q1 q2), h.g⟩
theorem Rn.St.grown {W w' : World} {base gm : Nat} {A : Option Addr} {n c : Nat} {fuel : Int} {m : Rn.M} {tv : Value} (h : Rn.St W base gm A n c fuel m tv) {b : Nat} (hg : W.grownBy w' (some b)) (h1 : b ≠ gm) (h2 : some b ≠ tv.ownBlock) : Rn.St w' base gm A n c fuel m tv := by
  refine ⟨(hg.block gm (Array.getElem?_eq_some_iff.1 h.ob).1 (fun e => by injection e with e; exact h1 e.symm)).trans h.ob, h.hm, h.hg, ?_, Nat.le_trans h.hb hg.size, h.hs, h.hf⟩
  obtain ⟨_, inner, ho, hr⟩ := h.tr
  have hK : ∀ p c, (Kd.int .i64).M W base (fun k => True ∧ some k ≠ tv.ownBlock) p c → (Kd.int .i64).M w' base (fun k => True ∧ some k ≠ tv.ownBlock) p c := fun _ _ q => q
  exact ⟨fun _ _ => trivial, inner, own_move ho (fun k hk => hg.block k (own_lt ho k hk) (fun e => h2 (by rw [← e]; exact hk.symm))), hr.imp_ hK⟩
/-- Block b is a row of whole numbers. -/
def Rn.Row (W : World) (b : Nat) (xs : List Int) : Prop := W.heap[b]? = some (.cells (xs.map (Value.int .i64)).toArray 3 (0, 0))
theorem Rn.Row.cell {W : World} {b : Nat} {xs : List Int} (h : Rn.Row W b xs) (i : Nat) (hi : i < xs.length) : W.cell? ⟨b, i, none⟩ = some (.int .i64 (xs.getD i 0)) ∧ W.frozen? ⟨b, i, none⟩ = false := by
  refine ⟨?_, by simp only [World.frozen?]; rw [show W.heap[b]? = _ from h]; rfl⟩
  rw [cell_of_row W b i _ _ _ h, List.getElem?_toArray, List.getElem?_map, List.getD_eq_getElem?_getD, List.getElem?_eq_getElem hi]
  rfl
theorem Rn.Row.set {W : World} {b : Nat} {xs : List Int} (h : Rn.Row W b xs) (i : Nat) (v : Int) : Rn.Row (W.setCell ⟨b, i, none⟩ (.int .i64 v)) b (xs.set i v) := by
  have := blk_set h i (.int .i64 v)
  unfold Rn.Row
  rw [this, List.setIfInBounds_toArray, List.map_set]
theorem Rn.Row.keep {W w' : World} {b : Nat} {xs : List Int} (h : Rn.Row W b xs) (hb : w'.heap[b]? = W.heap[b]?) : Rn.Row w' b xs := hb.trans h
theorem Rn.Row.C {W : World} {b : Nat} {xs : List Int} (h : Rn.Row W b xs) (hl : xs.length ≤ 9223372036854775807) : (Kd.int .i64).C W (some ⟨b, 0, none⟩) xs.length xs := by
  refine ⟨rfl, hl, fun _ => ⟨_, rfl, fun j p hj => ⟨[.int .i64 p], rfl, rfl, fun i u hu => ?_⟩⟩⟩
  have e : (Kd.int .i64).sz = 1 := rfl
  have hjl := (List.getElem?_eq_some_iff.1 hj).1
  cases i with
  | zero =>
    rw [e, Nat.mul_one, Nat.add_zero]
    have ea : (⟨b, 0, none⟩ : Addr).add j = ⟨b, j, none⟩ := by unfold Addr.add; split <;> simp_all
    rw [ea, (h.cell j hjl).1, List.getD_eq_getElem?_getD, hj]
    exact hu
  | succ i => cases hu
theorem Rn.Row.lt {W : World} {b : Nat} {xs : List Int} (h : Rn.Row W b xs) : b < W.heap.size := (Array.getElem?_eq_some_iff.1 h).1
theorem Rn.str_eq (a b : ByteArray) : (a.toList == b.toList) = decide (a = b) := by
  by_cases h : a = b
  · subst h
    simp
  · rw [decide_eq_false h]
    refine beq_eq_false_iff_ne.2 (fun e => h ?_)
    rw [ByteArray.toList_eq, ByteArray.toList_eq] at e
    exact ByteArray.ext (Array.toList_inj.1 e)
theorem Rn.ix_cases (mod : List Rn.Fn) (nm : ByteArray) : Rn.ix mod nm = -1 ∨ ∃ i : Nat, i < mod.length ∧ Rn.ix mod nm = (i : Int) := by
  unfold Rn.ix
  cases h : mod.findIdx? (fun f => decide (f.name = nm)) with
  | none => exact .inl rfl
  | some i => exact .inr ⟨i, (List.findIdx?_eq_some_iff_getElem.1 h).1, rfl⟩
theorem Rn.made (W : World) (R : Nat) : (Instr.makeSlice 26 (.int .i64 (R : Int)) (.int .i64 (R : Int))).run Try.prog W = .ok (.slice (some ⟨W.heap.size, 0, none⟩) R R) (W.alloc (.cells ((List.replicate R (0 : Int)).map (Value.int .i64)).toArray 3)) ∨ 100000 < R := by
  by_cases h : 100000 < R
  · exact .inr h
  · left
    rw [print_make (P := Try.prog) 26 3 .i64 8 (by kernel_rfl) (by kernel_rfl) (by decide) R (by omega) W]
    congr 4
    apply Array.ext'
    apply List.ext_getElem
    · simp [madeCells]
    · intro i h1 h2
      simp [madeCells, Nat.mod_one]
theorem Rn.copied {W : World} {rb R : Nat} (h : Rn.Row W rb (List.replicate R 0)) {Av : Option Addr} {vs : List Int} {cv : Nat} (hv : (Kd.int .i64).C W Av vs.length vs) :
    ∃ W' v, (∀ ty, (Builtin.copy_ #[26, 26] ty #[.slice (some ⟨rb, 0, none⟩) R R, .slice Av vs.length cv]).run Try.prog W = .ok v W') ∧ Rn.Row W' rb (vs.take R ++ List.replicate (R - vs.length) 0) ∧ W.grownBy W' (some rb) := by
  by_cases h0 : Nat.min vs.length R = 0
  · refine ⟨W, _, fun ty => run_copy_none (P := Try.prog) W _ _ ty 3 (some ⟨rb, 0, none⟩) Av R R vs.length cv (by kernel_rfl) (by kernel_rfl) h0, ?_, World.grownBy.refl _ _⟩
    have : vs.take R ++ List.replicate (R - vs.length) 0 = List.replicate R (0 : Int) := by
      rcases (show vs.length = 0 ∨ R = 0 by simp only [Nat.min_def] at h0; split at h0 <;> omega) with q | q
      · rw [List.eq_nil_of_length_eq_zero q]
        simp
      · subst q
        simp
    rw [this]
    exact h
  · obtain ⟨ad, rfl, _⟩ := hv.2.2 (by simp only [Nat.min_def] at h0; split at h0 <;> omega)
    have hc : ∀ j v, ((vs.take R).map (Value.int .i64))[j]? = some v → W.cell? (ad.add j) = some v := by
      intro j v hj
      rw [List.getElem?_map, List.getElem?_take] at hj
      obtain ⟨ad', e, q⟩ := Kd.at_int hv (j : Int) (by omega) (by
        have : j < vs.length := by
          by_cases hjr : j < R
          · rw [if_pos hjr] at hj
            cases hq : vs[j]? with
            | none => rw [hq] at hj; cases hj
            | some u => exact (List.getElem?_eq_some_iff.1 hq).1
          · rw [if_neg hjr] at hj
            cases hj
        omega)
      cases e
      rw [Int.toNat_natCast] at q
      rw [q]
      by_cases hjr : j < R
      · rw [if_pos hjr] at hj
        rw [← hj]
        unfold rd
        rw [Int.toNat_natCast, List.getD_eq_getElem?_getD]
        cases hq : vs[j]? with
        | none => rw [hq] at hj; cases hj
        | some u => rfl
      · rw [if_neg hjr] at hj
        cases hj
    have hl : ((vs.take R).map (Value.int .i64)).length = Nat.min vs.length R := by rw [List.length_map, List.length_take]; exact Nat.min_comm _ _
    have hrun := fun ty => run_copy_row (P := Try.prog) W 26 26 ty 3 rb 0 R R ad vs.length cv _ 3 ((vs.take R).map (Value.int .i64)) (by kernel_rfl) (by kernel_rfl) h hl hc (by
      rw [hl]
      simp only [List.size_toArray, List.length_map, List.length_replicate]
      have := Nat.min_le_right vs.length R
      show 0 + min vs.length R ≤ R
      omega) (by
      intro v hv
      obtain ⟨x, _, rfl⟩ := List.mem_map.1 hv
      rfl)
    refine ⟨_, _, hrun, ?_, ?_⟩
    · have e : (((List.replicate R (0 : Int)).map (Value.int .i64)).toArray.toList.take 0 ++ (vs.take R).map (Value.int .i64) ++ ((List.replicate R (0 : Int)).map (Value.int .i64)).toArray.toList.drop (0 + ((vs.take R).map (Value.int .i64)).length)) = (vs.take R ++ List.replicate (R - vs.length) 0).map (Value.int .i64) := by
        rw [List.take_zero, List.nil_append, Nat.zero_add, List.length_map, List.map_append]
        congr 1
        simp only [List.map_replicate, List.drop_replicate, List.length_take]
        congr 1
        omega
      unfold Rn.Row
      rw [e, setRow_heap W rb _ _ 3 _ h]
    · have h' := h
      refine ⟨rfl, rfl, rfl, ?_, fun k hk hne => ?_⟩
      · simp [World.setRow]
      · simp only [World.setRow]
        rw [Array.getElem?_modify, if_neg (fun e => hne (by rw [e]))]
/-- Within a call: the machine, the frame, the registers' row (block fb + 1), the function's copy (block fb). -/
structure Rn.Lp (W wq : World) (base gm : Nat) (A : Option Addr) (n c : Nat) (fuel : Int) (tv tq : Value) (fb : Nat) (FC : Array Value) (mm : Rn.M) (r : List Int) : Prop where
  st : Rn.St wq base gm A n c fuel mm tq
  fr : Rn.Fr base gm tv tq W wq
  row : Rn.Row wq (fb + 1) r
  hk : wq.heap[fb]? = some (.cells FC 42 (0, 0))
  t1 : some (fb + 1) ≠ tq.ownBlock
  t2 : some fb ≠ tq.ownBlock
  n1 : gm < W.heap.size
  n2 : W.heap.size ≤ fb
  hb : base ≤ W.heap.size
section
variable {W wq : World} {base gm : Nat} {A : Option Addr} {n c : Nat} {fuel : Int} {tv tq : Value} {fb : Nat} {FC : Array Value} {mm : Rn.M} {r : List Int}
theorem Rn.Lp.setr (h : Rn.Lp W wq base gm A n c fuel tv tq fb FC mm r) (d : Nat) (v : Int) : Rn.Lp W (wq.setCell ⟨fb + 1, d, none⟩ (.int .i64 v)) base gm A n c fuel tv tq fb FC mm (r.set d v) := by
  have n1 := h.n1
  have n2 := h.n2
  have hb := h.hb
  exact ⟨h.st.nset (fb + 1) d (by omega) h.t1 _, h.fr.nset (fb + 1) d (by omega) (by omega) _, h.row.set d v, (Below.heap_setCell _ _ _ fb (by show fb ≠ fb + 1; omega)).trans h.hk, h.t1, h.t2, n1, n2, hb⟩
theorem Rn.Lp.alloc (h : Rn.Lp W wq base gm A n c fuel tv tq fb FC mm r) (o : Obj) : Rn.Lp W (wq.alloc o) base gm A n c fuel tv tq fb FC mm r :=
  ⟨h.st.alloc o, h.fr.alloc h.st.hb o, Hw.blk_al h.row o, Hw.blk_al h.hk o, h.t1, h.t2, h.n1, h.n2, h.hb⟩
theorem Rn.Lp.drew (h : Rn.Lp W wq base gm A n c fuel tv tq fb FC mm r) : Rn.Lp W wq.drew base gm A n c fuel tv tq fb FC mm r := ⟨h.st.drew, h.fr.drew, h.row, h.hk, h.t1, h.t2, h.n1, h.n2, h.hb⟩
theorem Rn.Lp.drewN (h : Rn.Lp W wq base gm A n c fuel tv tq fb FC mm r) (k : Nat) : Rn.Lp W (wq.drewN k) base gm A n c fuel tv tq fb FC mm r := ⟨h.st.drewN k, h.fr.drewN k, h.row, h.hk, h.t1, h.t2, h.n1, h.n2, h.hb⟩
theorem Rn.Lp.store (h : Rn.Lp W wq base gm A n c fuel tv tq fb FC mm r) (i : Nat) (hi : i < 256) (v : Int) : Rn.Lp W (wq.setCell ⟨gm, 1 + i, none⟩ (.int .i64 v)) base gm A n c fuel tv tq fb FC { mm with mem := mm.mem.set i v } r := by
  have n1 := h.n1
  have n2 := h.n2
  exact ⟨h.st.store i hi v, h.fr.mset h.st.hg _ _, (Below.heap_setCell _ _ _ (fb + 1) (by show fb + 1 ≠ gm; omega)).trans h.row, (Below.heap_setCell _ _ _ fb (by show fb ≠ gm; omega)).trans h.hk, h.t1, h.t2, n1, n2, h.hb⟩
/-- Behind a callee. -/
theorem Rn.Lp.call {w6 : World} {tq' : Value} {mm' : Rn.M} (h : Rn.Lp W wq base gm A n c fuel tv tq fb FC mm r) (hs : Rn.St w6 base gm A n c fuel mm' tq') (hf : Rn.Fr base gm tq tq' wq w6) : Rn.Lp W w6 base gm A n c fuel tv tq' fb FC mm' r := by
  have n1 := h.n1
  have n2 := h.n2
  have hlt := h.row.lt
  refine ⟨hs, h.fr.trans hf, (hf.f (fb + 1) hlt (by omega) h.t1).trans h.row, (hf.f fb (by omega) (by omega) h.t2).trans h.hk, fun e => ?_, fun e => ?_, n1, n2, h.hb⟩
  · rcases hf.g _ e with q | q
    · exact h.t1 q
    · omega
  · rcases hf.g _ e with q | q
    · exact h.t2 q
    · omega
/-- A cell of a newer block than these. -/
theorem Rn.Lp.nset (h : Rn.Lp W wq base gm A n c fuel tv tq fb FC mm r) (b i : Nat) (hb : fb + 1 < b) (ht : some b ≠ tq.ownBlock) (v : Value) : Rn.Lp W (wq.setCell ⟨b, i, none⟩ v) base gm A n c fuel tv tq fb FC mm r := by
  have n1 := h.n1
  have n2 := h.n2
  have h0 := h.hb
  exact ⟨h.st.nset b i (by omega) ht _, h.fr.nset b i (by omega) (by omega) _, (Below.heap_setCell _ _ _ (fb + 1) (by show fb + 1 ≠ b; omega)).trans h.row, (Below.heap_setCell _ _ _ fb (by show fb ≠ b; omega)).trans h.hk, h.t1, h.t2, n1, n2, h0⟩
end
theorem Rn.St.tlt {W : World} {base gm : Nat} {A : Option Addr} {n c : Nat} {fuel : Int} {m : Rn.M} {tv : Value} (h : Rn.St W base gm A n c fuel m tv) (k : Nat) (hk : some k = tv.ownBlock) : k < W.heap.size := by
  obtain ⟨_, ho⟩ := Kd.R_own h.tr
  exact own_lt ho k hk.symm
theorem Rn.rest (W : World) (Ar : Option Addr) (k cr : Nat) : (Instr.slice 24 (.slice Ar (k + 1) cr) (some (.int .i64 1)) none none).run Try.prog W = .ok (.slice (if cr = 1 then Ar else Ar.map (·.add 6)) k (cr - 1)) W := by
  obtain ⟨i, hi, hs⟩ := Option.map_eq_some_iff.1 (show (Try.prog.info? 28).map (·.size) = some 6 by kernel_rfl)
  have h := cut_from (P := Try.prog) 24 28 .i64 (by kernel_rfl) hi 6 hs Ar (k + 1) cr 1 (by decide) (by omega) W
  simpa using h
theorem Rn.rest_C {W : World} {Ar : Option Addr} {x : Rn.Ins} {rest : List Rn.Ins} {cr : Nat} (h : Rn.kI.C W Ar (x :: rest).length (x :: rest)) (hc : (x :: rest).length ≤ cr) : Rn.kI.C W (if cr = 1 then Ar else Ar.map (·.add 6)) rest.length rest := Kd.C_drop (m := 1) h (by simp) hc
theorem Rn.gets_at (r : List Int) : ∀ (args us : List Int), Rn.gets r args = some us → us.length = args.length ∧ ∀ k, k < args.length → (0 ≤ args.getD k 0 ∧ args.getD k 0 < (r.length : Int)) ∧ us.getD k 0 = r.getD (args.getD k 0).toNat 0
  | [], us, h => by
    cases h
    exact ⟨rfl, fun k hk => absurd hk (Nat.not_lt_zero k)⟩
  | i :: l, us, h => by
    rw [Rn.gets] at h
    by_cases hi : 0 ≤ i ∧ i < (r.length : Int)
    · rw [if_pos hi] at h
      obtain ⟨us', h1, rfl⟩ := Option.map_eq_some_iff.1 h
      obtain ⟨h2, h3⟩ := Rn.gets_at r l us' h1
      refine ⟨by rw [List.length_cons, List.length_cons, h2], fun k hk => ?_⟩
      cases k with
      | zero => exact ⟨hi, rfl⟩
      | succ k => exact h3 k (by simpa using hk)
    · rw [if_neg hi] at h
      cases h
theorem Rn.fill (us : List Int) (L k : Nat) (hL : us.length = L) (hk : k < L) : (us.take k ++ List.replicate (L - k) 0).set k (us.getD k 0) = us.take (k + 1) ++ List.replicate (L - (k + 1)) 0 := by
  have e : L - k = (L - (k + 1)) + 1 := by omega
  have hl : (us.take k).length = k := by rw [List.length_take]; omega
  rw [e, List.replicate_succ, List.set_append_right _ _ (by omega), hl, Nat.sub_self, List.set_cons_zero, List.take_succ_eq_append_getElem (by omega), List.append_assoc, List.getD_eq_getElem?_getD, List.getElem?_eq_getElem (by omega)]
  rfl
end Go.Proofs.Ytkjflclkjdbmoaa
