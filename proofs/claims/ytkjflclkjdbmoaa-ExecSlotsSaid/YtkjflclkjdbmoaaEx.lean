/- The machine of exec.go: code as it lies in memory, a plain machine, what its memory is; by hand. A library; conditions: none. -/
import Derived.Test.YtkjflclkjdbmoaaRn
import Derived.Deep.MidRow
import Derived.Deep.WholeRow
import Derived.Maps.AppendAt
set_option linter.unusedVariables false
set_option linter.unusedSimpArgs false
namespace Go.Proofs.Ytkjflclkjdbmoaa
open Go.RowKit Go.Proofs.YtkjflclkjdbmoaaW.PrintWords Go.Proofs.YtkjflclkjdbmoaaW.PrintLast Go.Proofs.YtkjflclkjdbmoaaW
structure Ex.Cd where
  name : ByteArray
  params : Int
  regs : Int
  slots : Int
  blocks : List (List Rn.Ins)
def Ex.zC : Ex.Cd := ⟨⟨#[]⟩, 0, 0, 0, []⟩
def Ex.kC : Kd Ex.Cd := Kd.iso (Kd.pair Kd.string (Kd.pair (Kd.int .i64) (Kd.pair (Kd.int .i64) (Kd.pair (Kd.int .i64) (Kd.slice 24 Rn.kB))))) (fun x : Ex.Cd => (x.name, x.params, x.regs, x.slots, x.blocks))
theorem Ex.at_C {w : World} {A : Option Addr} {n : Nat} {xs : List Ex.Cd} (h : Ex.kC.C w A n xs) (i : Nat) (h1 : i < n) : ∃ ad Ab cb, A = some ad ∧ w.cell? (ad.add (i * 5)) = some (.string (xs.getD i Ex.zC).name) ∧ w.cell? ⟨(ad.add (i * 5)).block, (ad.add (i * 5)).off + 1, none⟩ = some (.int .i64 (xs.getD i Ex.zC).params) ∧ w.cell? ⟨(ad.add (i * 5)).block, (ad.add (i * 5)).off + 2, none⟩ = some (.int .i64 (xs.getD i Ex.zC).regs) ∧ w.cell? ⟨(ad.add (i * 5)).block, (ad.add (i * 5)).off + 3, none⟩ = some (.int .i64 (xs.getD i Ex.zC).slots) ∧ w.cell? ⟨(ad.add (i * 5)).block, (ad.add (i * 5)).off + 4, none⟩ = some (.slice Ab (xs.getD i Ex.zC).blocks.length cb) ∧ (xs.getD i Ex.zC).blocks.length ≤ cb ∧ Rn.kB.C w Ab (xs.getD i Ex.zC).blocks.length (xs.getD i Ex.zC).blocks := by
  obtain ⟨ad, c, e, _, hK, hc0⟩ := Kd.C_get h Ex.zC (i : Int) (by omega) (by omega)
  rw [Int.toNat_natCast] at hK hc0
  have hc : ∀ j u, c[j]? = some u → w.cell? (ad.add (i * 5 + j)) = some u := hc0
  obtain ⟨_, _, rfl, rfl, ⟨_, _, rfl, rfl, ⟨_, _, rfl, rfl, ⟨_, _, rfl, rfl, ⟨Ab, cb, rfl, hl, hC⟩⟩⟩⟩⟩ := hK
  exact ⟨ad, Ab, cb, e, hc 0 _ rfl, by rw [← add_field _ _ 1 (by omega)]; exact hc 1 _ rfl, by rw [← add_field _ _ 2 (by omega)]; exact hc 2 _ rfl, by rw [← add_field _ _ 3 (by omega)]; exact hc 3 _ rfl, by rw [← add_field _ _ 4 (by omega)]; exact hc 4 _ rfl, hl, hC⟩
theorem Ex.mk_C {w : World} {x : Ex.Cd} {Ab : Option Addr} {cb : Nat} (hl : x.blocks.length ≤ cb) (hC : Rn.kB.C w Ab x.blocks.length x.blocks) : Ex.kC.K w x [.string x.name, .int .i64 x.params, .int .i64 x.regs, .int .i64 x.slots, .slice Ab x.blocks.length cb] :=
  ⟨[.string x.name], [.int .i64 x.params, .int .i64 x.regs, .int .i64 x.slots, .slice Ab x.blocks.length cb], rfl, rfl, ⟨[.int .i64 x.params], [.int .i64 x.regs, .int .i64 x.slots, .slice Ab x.blocks.length cb], rfl, rfl, ⟨[.int .i64 x.regs], [.int .i64 x.slots, .slice Ab x.blocks.length cb], rfl, rfl, ⟨[.int .i64 x.slots], [.slice Ab x.blocks.length cb], rfl, rfl, ⟨Ab, cb, rfl, hl, hC⟩⟩⟩⟩⟩
theorem Ex.open_C {w : World} {x : Ex.Cd} {cs : List Value} (h : Ex.kC.K w x cs) : ∃ Ab cb, cs = [.string x.name, .int .i64 x.params, .int .i64 x.regs, .int .i64 x.slots, .slice Ab x.blocks.length cb] ∧ x.blocks.length ≤ cb ∧ Rn.kB.C w Ab x.blocks.length x.blocks := by
  obtain ⟨_, _, rfl, rfl, ⟨_, _, rfl, rfl, ⟨_, _, rfl, rfl, ⟨_, _, rfl, rfl, ⟨Ab, cb, rfl, hl, hC⟩⟩⟩⟩⟩ := h
  exact ⟨Ab, cb, rfl, hl, hC⟩
/-! ### the plain machine -/
/-- The place of the first code of a name; -1. -/
def Ex.ix (mod : List Ex.Cd) (name : ByteArray) : Int := match mod.findIdx? (fun f => decide (f.name = name)) with | some i => (i : Int) | none => -1
def Ex.pr : List Int := List.replicate 16 48879
def Ex.ps : List Int := List.replicate 64 48879
def Ex.entry (vs : List Int) : List Int := vs.take 16 ++ List.replicate (16 - vs.length) 48879
def Ex.ok (mod : List Ex.Cd) (k : Int) (n : Nat) (deep : Int) : Bool := decide (0 ≤ k ∧ (mod.getD k.toNat Ex.zC).params = (n : Int) ∧ deep < 32)
/-- An instruction that neither calls nor goes elsewhere: nothing known; a trap; what there is behind it. -/
def Ex.plain (x : Rn.Ins) (r s : List Int) (m : Rn.M) : Option (Option (List Int × List Int × Rn.M)) :=
  if x.op = 1 then Rn.set r x.d x.a fun r => some (some (r, s, m))
  else if x.op = 2 then Rn.get r x.a fun v => Rn.set r x.d v fun r => some (some (r, s, m))
  else if x.op = 21 then Rn.get s x.a fun v => Rn.set r x.d v fun r => some (some (r, s, m))
  else if x.op = 22 then Rn.get r x.a fun v => Rn.set s x.d v fun s => some (some (r, s, m))
  else if x.op = 8 then Rn.get r x.a fun v => if 0 ≤ v then Rn.set r x.d (m.mem.getD (v % 256).toNat 0) fun r => some (some (r, s, m)) else none
  else if x.op = 9 then Rn.get r x.a fun v => Rn.get r x.b fun u => if 0 ≤ v then some (some (r, s, { m with mem := m.mem.set (v % 256).toNat u })) else none
  else if x.op = 10 then Rn.get r x.a fun v => some (some (r, s, { m with told := m.told ++ [v] }))
  else Rn.get r x.a fun a => Rn.get r x.b fun b =>
    match Rn.opw x.op a b with
    | some v => Rn.set r x.d v fun r => some (some (r, s, m))
    | none => some none
def Ex.go (mod : List Ex.Cd) (fuel : Int) : Nat → List (List Rn.Ins) → List Int → List Int → List Rn.Ins → Int → Rn.M → Option (Rn.Res × Rn.M)
  | 0, _, _, _, _, _, _ => none
  | g + 1, bl, r, s, rest, deep, m0 =>
    if fuel ≤ m0.steps then some (.out, m0) else
    match rest with
    | [] => none
    | x :: rest =>
      let m : Rn.M := { m0 with steps := m0.steps + 1 }
      if x.op = 11 then
        if 0 ≤ x.a ∧ x.a ≤ 16 then
          let vs := r.take x.a.toNat
          let k := Ex.ix mod x.name
          if Ex.ok mod k vs.length (deep + 1) = true then
            Rn.blk (mod.getD k.toNat Ex.zC).blocks 0 fun b =>
            match Ex.go mod fuel g (mod.getD k.toNat Ex.zC).blocks (Ex.entry vs) Ex.ps b (deep + 1) m with
            | some (.val v, m') => Ex.go mod fuel g bl (Ex.pr.set 0 v) s rest deep m'
            | q => q
          else some (.trap, m)
        else none
      else if x.op = 12 then Rn.blk bl x.a fun rest => Ex.go mod fuel g bl r s rest deep m
      else if x.op = 13 then Rn.blk bl x.d fun rest0 => Rn.get r x.a fun v => if v = 0 then Ex.go mod fuel g bl r s rest0 deep m else Rn.blk bl x.b fun rest => Ex.go mod fuel g bl r s rest deep m
      else if x.op = 14 then Rn.get r x.a fun v => some (.val v, m)
      else match Ex.plain x r s m with
        | none => none
        | some none => some (.trap, m)
        | some (some (r', s', m')) => Ex.go mod fuel g bl r' s' rest deep m'
/-- A call. -/
def Ex.call (mod : List Ex.Cd) (fuel : Int) (g : Nat) (name : ByteArray) (vs : List Int) (deep : Int) (m : Rn.M) : Option (Rn.Res × Rn.M) :=
  if Ex.ok mod (Ex.ix mod name) vs.length deep = true then
    Rn.blk (mod.getD (Ex.ix mod name).toNat Ex.zC).blocks 0 fun b => Ex.go mod fuel g (mod.getD (Ex.ix mod name).toNat Ex.zC).blocks (Ex.entry vs) Ex.ps b deep m
  else some (.trap, m)
section
variable {mod : List Ex.Cd} {fuel : Int} {g : Nat} {bl : List (List Rn.Ins)} {r s : List Int} {rest : List Rn.Ins} {deep : Int} {m : Rn.M} {d a b : Int} {nm : ByteArray} {args : List Int}
theorem Ex.go_out (h : fuel ≤ m.steps) : Ex.go mod fuel (g + 1) bl r s rest deep m = some (.out, m) := by
  unfold Ex.go
  rw [if_pos h]
theorem Ex.go_nil (h : ¬ fuel ≤ m.steps) : Ex.go mod fuel (g + 1) bl r s [] deep m = none := by
  unfold Ex.go
  rw [if_neg h]
theorem Ex.go12 (h : ¬ fuel ≤ m.steps) : Ex.go mod fuel (g + 1) bl r s (⟨12, d, a, b, nm, args⟩ :: rest) deep m = Rn.blk bl a fun rest => Ex.go mod fuel g bl r s rest deep (Rn.tick m) := by
  rw [Ex.go.eq_def]
  simp only [if_neg h]
  rfl
theorem Ex.go13 (h : ¬ fuel ≤ m.steps) : Ex.go mod fuel (g + 1) bl r s (⟨13, d, a, b, nm, args⟩ :: rest) deep m = Rn.blk bl d fun rest0 => Rn.get r a fun v => if v = 0 then Ex.go mod fuel g bl r s rest0 deep (Rn.tick m) else Rn.blk bl b fun rest => Ex.go mod fuel g bl r s rest deep (Rn.tick m) := by
  rw [Ex.go.eq_def]
  simp only [if_neg h]
  rfl
theorem Ex.go14 (h : ¬ fuel ≤ m.steps) : Ex.go mod fuel (g + 1) bl r s (⟨14, d, a, b, nm, args⟩ :: rest) deep m = Rn.get r a fun v => some (.val v, Rn.tick m) := by
  rw [Ex.go.eq_def]
  simp only [if_neg h]
  rfl
theorem Ex.goP {op : Int} (h : ¬ fuel ≤ m.steps) (h11 : ¬ op = 11) (h12 : ¬ op = 12) (h13 : ¬ op = 13) (h14 : ¬ op = 14) :
    Ex.go mod fuel (g + 1) bl r s (⟨op, d, a, b, nm, args⟩ :: rest) deep m = match Ex.plain ⟨op, d, a, b, nm, args⟩ r s (Rn.tick m) with | none => none | some none => some (.trap, Rn.tick m) | some (some (r', s', m')) => Ex.go mod fuel g bl r' s' rest deep m' := by
  rw [Ex.go.eq_def]
  simp only [if_neg h, if_neg h11, if_neg h12, if_neg h13, if_neg h14]
  rfl
theorem Ex.go11 (h : ¬ fuel ≤ m.steps) : Ex.go mod fuel (g + 1) bl r s (⟨11, d, a, b, nm, args⟩ :: rest) deep m = if 0 ≤ a ∧ a ≤ 16 then (match Ex.call mod fuel g nm (r.take a.toNat) (deep + 1) (Rn.tick m) with | some (.val v, m') => Ex.go mod fuel g bl (Ex.pr.set 0 v) s rest deep m' | q => q) else none := by
  rw [Ex.go.eq_def]
  simp only [if_neg h]
  show (if 0 ≤ a ∧ a ≤ 16 then _ else none) = _
  by_cases hl : 0 ≤ a ∧ a ≤ 16
  · rw [if_pos hl, if_pos hl]
    simp only [Ex.call, Rn.blk]
    split
    · split
      · rfl
      · rfl
    · rfl
  · rw [if_neg hl, if_neg hl]
end
/-! ### what its memory is -/
structure Ex.St (W : World) (base gm : Nat) (A : Option Addr) (n c : Nat) (fuel : Int) (m : Rn.M) (tv : Value) : Prop where
  ob : W.heap[gm]? = some (.cells (Rn.arr A n c m tv fuel) 54 (0, 0))
  hm : m.mem.length = 256
  hg : base ≤ gm
  tr : Kd.R (Kd.int .i64) 3 W base (fun _ => True) tv m.told
  hb : base ≤ W.heap.size
  hs : 0 ≤ m.steps ∧ m.steps ≤ 8388608
  hf : 0 ≤ fuel ∧ fuel ≤ 8388608
  ht : (m.told.length : Int) ≤ m.steps
section
variable {W : World} {base gm : Nat} {A : Option Addr} {n c : Nat} {fuel : Int} {m : Rn.M} {tv : Value}
theorem Ex.St.at0 (h : Ex.St W base gm A n c fuel m tv) : W.cell? ⟨gm, 0, none⟩ = some (.slice A n c) := cell_of_row W gm 0 _ _ _ h.ob
theorem Ex.St.atm (h : Ex.St W base gm A n c fuel m tv) (i : Nat) (hi : i < 256) : W.cell? ⟨gm, 1 + i, none⟩ = some (.int .i64 (m.mem.getD i 0)) := (cell_of_row W gm _ _ _ _ h.ob).trans (Rn.arr_mem A n c m tv fuel h.hm i hi)
theorem Ex.St.at257 (h : Ex.St W base gm A n c fuel m tv) : W.cell? ⟨gm, 257, none⟩ = some tv := (cell_of_row W gm _ _ _ _ h.ob).trans (Rn.arr_tl A n c m tv fuel h.hm 0)
theorem Ex.St.at258 (h : Ex.St W base gm A n c fuel m tv) : W.cell? ⟨gm, 258, none⟩ = some (.int .i64 fuel) := (cell_of_row W gm _ _ _ _ h.ob).trans (Rn.arr_tl A n c m tv fuel h.hm 1)
theorem Ex.St.at259 (h : Ex.St W base gm A n c fuel m tv) : W.cell? ⟨gm, 259, none⟩ = some (.int .i64 m.steps) := (cell_of_row W gm _ _ _ _ h.ob).trans (Rn.arr_tl A n c m tv fuel h.hm 2)
theorem Ex.St.fz (h : Ex.St W base gm A n c fuel m tv) (k : Nat) : W.frozen? ⟨gm, k, none⟩ = false := by simp [World.frozen?, h.ob]
theorem Ex.ne_machine : ∀ q, q ∈ 3 :: (Kd.int .i64).E → q ≠ 54 := by
  intro q hq
  simp [Kd.int, Kd.scalar] at hq
  omega
/-- A step is counted. -/
theorem Ex.St.tick (h : Ex.St W base gm A n c fuel m tv) (hlt : m.steps < fuel) : Ex.St (W.setCell ⟨gm, 259, none⟩ (.int .i64 (m.steps + 1))) base gm A n c fuel { m with steps := m.steps + 1 } tv := by
  have ob := blk_set h.ob 259 (.int .i64 (m.steps + 1))
  rw [Rn.arr_settl A n c m tv fuel h.hm 2] at ob
  have hf := h.hf
  have hs := h.hs
  exact ⟨ob, h.hm, h.hg, Kd.R_set h.tr h.ob Ex.ne_machine 259 _, by have := h.hb; simpa [World.setCell] using this, by show 0 ≤ m.steps + 1 ∧ m.steps + 1 ≤ 8388608; omega, h.hf, by have := h.ht; show (m.told.length : Int) ≤ m.steps + 1; omega⟩
theorem Ex.St.store (h : Ex.St W base gm A n c fuel m tv) (i : Nat) (hi : i < 256) (v : Int) : Ex.St (W.setCell ⟨gm, 1 + i, none⟩ (.int .i64 v)) base gm A n c fuel { m with mem := m.mem.set i v } tv := by
  have ob := blk_set h.ob (1 + i) (.int .i64 v)
  rw [Rn.arr_setmem A n c m tv fuel h.hm i hi v] at ob
  exact ⟨ob, by show (m.mem.set i v).length = 256; rw [List.length_set]; exact h.hm, h.hg, Kd.R_set h.tr h.ob Ex.ne_machine _ _, by have := h.hb; simpa [World.setCell] using this, h.hs, h.hf, h.ht⟩
theorem Ex.St.drew (h : Ex.St W base gm A n c fuel m tv) : Ex.St W.drew base gm A n c fuel m tv := ⟨h.ob, h.hm, h.hg, Kd.R_drew h.tr, h.hb, h.hs, h.hf, h.ht⟩
theorem Ex.St.drewN (h : Ex.St W base gm A n c fuel m tv) (k : Nat) : Ex.St (W.drewN k) base gm A n c fuel m tv := ⟨h.ob, h.hm, h.hg, Kd.R_drewN h.tr k, h.hb, h.hs, h.hf, h.ht⟩
/-- Nothing of it was written. -/
theorem Ex.St.below {w' : World} (h : Ex.St W base gm A n c fuel m tv) (hb : Below W.heap.size W w') : Ex.St w' base gm A n c fuel m tv :=
  ⟨(hb.block gm (Array.getElem?_eq_some_iff.1 h.ob).1).trans h.ob, h.hm, h.hg, Kd.R_below h.tr hb, Nat.le_trans h.hb hb.size, h.hs, h.hf, h.ht⟩
theorem Ex.St.alloc (h : Ex.St W base gm A n c fuel m tv) (o : Obj) : Ex.St (W.alloc o) base gm A n c fuel m tv := h.below ((Below.refl _ _).alloc (Nat.le_refl _) o)
/-- A cell of another block than its own two. -/
theorem Ex.St.nset (h : Ex.St W base gm A n c fuel m tv) (b i : Nat) (h1 : b ≠ gm) (h2 : some b ≠ tv.ownBlock) (v : Value) : Ex.St (W.setCell ⟨b, i, none⟩ v) base gm A n c fuel m tv := by
  refine ⟨(Below.heap_setCell _ _ _ _ (fun e => h1 e.symm)).trans h.ob, h.hm, h.hg, ?_, by have := h.hb; simpa [World.setCell] using this, h.hs, h.hf, h.ht⟩
  obtain ⟨_, inner, ho, hr⟩ := h.tr
  have hK : ∀ p c, (Kd.int .i64).M W base (fun k => True ∧ some k ≠ tv.ownBlock) p c → (Kd.int .i64).M (W.setCell ⟨b, i, none⟩ v) base (fun k => True ∧ some k ≠ tv.ownBlock) p c := fun _ _ q => q
  exact ⟨fun _ _ => trivial, inner, own_move ho (fun k hk => Below.heap_setCell _ _ _ _ (fun e => h2 (by have e' : k = b := e; rw [← e']; exact hk.symm))), hr.imp_ hK⟩
end
theorem Ex.St.grown {W w' : World} {base gm : Nat} {A : Option Addr} {n c : Nat} {fuel : Int} {m : Rn.M} {tv : Value} (h : Ex.St W base gm A n c fuel m tv) {b : Nat} (hg : W.grownBy w' (some b)) (h1 : b ≠ gm) (h2 : some b ≠ tv.ownBlock) : Ex.St w' base gm A n c fuel m tv := by
  refine ⟨(hg.block gm (Array.getElem?_eq_some_iff.1 h.ob).1 (fun e => by injection e with e; exact h1 e.symm)).trans h.ob, h.hm, h.hg, ?_, Nat.le_trans h.hb hg.size, h.hs, h.hf, h.ht⟩
  obtain ⟨_, inner, ho, hr⟩ := h.tr
  have hK : ∀ p c, (Kd.int .i64).M W base (fun k => True ∧ some k ≠ tv.ownBlock) p c → (Kd.int .i64).M w' base (fun k => True ∧ some k ≠ tv.ownBlock) p c := fun _ _ q => q
  exact ⟨fun _ _ => trivial, inner, own_move ho (fun k hk => hg.block k (own_lt ho k hk) (fun e => h2 (by rw [← e]; exact hk.symm))), hr.imp_ hK⟩
/-- Block b is a frame: its registers, its slots. -/
structure Ex.Fm (W : World) (b : Nat) (r s : List Int) : Prop where
  ob : W.heap[b]? = some (.cells ((r ++ s).map (Value.int .i64)).toArray 77 (0, 0))
  hr : r.length = 16
  hs : s.length = 64
section
variable {W : World} {b : Nat} {r s : List Int}
theorem Ex.Fm.fz (h : Ex.Fm W b r s) (k : Nat) : W.frozen? ⟨b, k, none⟩ = false := by simp [World.frozen?, h.ob]
theorem Ex.Fm.cell (h : Ex.Fm W b r s) (i : Nat) (hi : i < 80) : W.cell? ⟨b, i, none⟩ = some (.int .i64 ((r ++ s).getD i 0)) := by
  have hl : (r ++ s).length = 80 := by rw [List.length_append, h.hr, h.hs]
  rw [cell_of_row W b i _ _ _ h.ob, List.getElem?_toArray, List.getElem?_map, List.getD_eq_getElem?_getD, List.getElem?_eq_getElem (by omega)]
  rfl
theorem Ex.Fm.cr (h : Ex.Fm W b r s) (i : Nat) (hi : i < 16) : W.cell? ⟨b, i, none⟩ = some (.int .i64 (r.getD i 0)) := by
  rw [h.cell i (by omega), List.getD_eq_getElem?_getD, List.getElem?_append_left (by rw [h.hr]; exact hi), List.getD_eq_getElem?_getD]
theorem Ex.Fm.cs (h : Ex.Fm W b r s) (i : Nat) (hi : i < 64) : W.cell? ⟨b, 16 + i, none⟩ = some (.int .i64 (s.getD i 0)) := by
  rw [h.cell (16 + i) (by omega), List.getD_eq_getElem?_getD, List.getElem?_append_right (by rw [h.hr]; omega), h.hr, Nat.add_sub_cancel_left, List.getD_eq_getElem?_getD]
theorem Ex.Fm.setr (h : Ex.Fm W b r s) (i : Nat) (hi : i < 16) (v : Int) : Ex.Fm (W.setCell ⟨b, i, none⟩ (.int .i64 v)) b (r.set i v) s := by
  have e := blk_set h.ob i (.int .i64 v)
  rw [List.setIfInBounds_toArray, ← List.map_set, List.set_append_left _ _ (by rw [h.hr]; exact hi)] at e
  exact ⟨e, by rw [List.length_set]; exact h.hr, h.hs⟩
theorem Ex.Fm.sets (h : Ex.Fm W b r s) (i : Nat) (hi : i < 64) (v : Int) : Ex.Fm (W.setCell ⟨b, 16 + i, none⟩ (.int .i64 v)) b r (s.set i v) := by
  have e := blk_set h.ob (16 + i) (.int .i64 v)
  rw [List.setIfInBounds_toArray, ← List.map_set, List.set_append_right _ _ (by rw [h.hr]; omega), h.hr, Nat.add_sub_cancel_left] at e
  exact ⟨e, h.hr, by rw [List.length_set]; exact h.hs⟩
theorem Ex.Fm.keep {w' : World} (h : Ex.Fm W b r s) (hb : w'.heap[b]? = W.heap[b]?) : Ex.Fm w' b r s := ⟨hb.trans h.ob, h.hr, h.hs⟩
theorem Ex.Fm.lt (h : Ex.Fm W b r s) : b < W.heap.size := (Array.getElem?_eq_some_iff.1 h.ob).1
/-- The registers as a row. -/
theorem Ex.Fm.C (h : Ex.Fm W b r s) (n : Nat) (hn : n ≤ 16) : (Kd.int .i64).C W (some ⟨b, 0, none⟩) n (r.take n) := by
  have hl : (r.take n).length = n := by rw [List.length_take, h.hr]; omega
  refine ⟨hl, by omega, fun _ => ⟨_, rfl, fun j p hj => ⟨[.int .i64 p], rfl, rfl, fun i u hu => ?_⟩⟩⟩
  have e : (Kd.int .i64).sz = 1 := rfl
  have hjl := (List.getElem?_eq_some_iff.1 hj).1
  cases i with
  | zero =>
    rw [e, Nat.mul_one, Nat.add_zero]
    have ea : (⟨b, 0, none⟩ : Addr).add j = ⟨b, j, none⟩ := by unfold Addr.add; split <;> simp_all
    rw [List.getElem?_take_of_lt (by omega)] at hj
    rw [ea, h.cr j (by omega), List.getD_eq_getElem?_getD, hj]
    exact hu
  | succ i => cases hu
end
/-- append of one number, which lies in block gb, onto a row of the call's own. -/
theorem Ex.app_step {ops : Array Oper} {o : Oper} {a : Act} {Q : Exit → Act → World → Prop} {K : Act → World → Prop} {E : Prop} {W : World} (base : Nat) (hw : Region.wanted o (yielded ops a.tmps) = true) (s x : Operand)
    (ho : o.op = .call { callee := .builtin .append, args := #[s, x], argTypes := #[26, 26] })
    (v : Value) (xs : List Int) (p : Int) (gb : Nat) (hs : a.eval s = v) (hx : a.eval x = .slice (some ⟨gb, 0, none⟩) 1 1)
    (hblk : W.heap[gb]? = some (.cells #[.int .i64 p] 3 (0, 0)))
    (HO : Kd.R (Kd.int .i64) 3 W base (fun _ => True) v xs) (hbase : base ≤ W.heap.size) (hl : xs.length + 1 ≤ 100000000)
    (h : ∀ v1 w1, Kd.R (Kd.int .i64) 3 w1 base (fun _ => True) v1 (xs ++ [p]) → W.grownBy w1 v.ownBlock → (v1.ownBlock = v.ownBlock ∨ v1.ownBlock = some W.heap.size) → K (a.put o.dst v1) w1) :
    if Region.wanted o (yielded ops a.tmps) = true then Oper.wp Try.prog o a W K Q else E := by
  obtain ⟨i0, hi, hzz⟩ := Option.map_eq_some_iff.1 (show (Try.prog.info? 3).map (fun i => (i.zero, i.size, i.bytes)) = some (some (.int .i64 0), 1, 8) by kernel_rfl)
  simp only [Prod.mk.injEq] at hzz
  obtain ⟨hz0, hz1, hz2⟩ := hzz
  obtain ⟨h0, inner, hown, hr⟩ := HO
  have hp : (Kd.int .i64).M W base (fun _ => False) p [.int .i64 p] := rfl
  rw [if_pos hw]
  obtain ⟨v1, w1, hrun, hown1, hg, _, hat⟩ := run_append_own_at (P := Try.prog) W base 26 o.type 3 i0 (.int .i64 0) 1 8 (by kernel_rfl) hi hz0 hz1 hz2 rfl (by decide) v xs.length inner hown ⟨gb, 0, none⟩ 1 1 [.int .i64 p] rfl
    (by simpa using World.news_of_block (cs := #[.int .i64 p]) (t := 3) (fr := (0, 0)) hblk) (by simp [Value.oneCell']) (by simp only [maxLen]; omega) (by omega) hbase
  unfold Oper.wp execOp
  simp only [ho, resolve, invoke, builtin, Sem.run_bind, Sem.run_pure, Result.andThen_ok, List.map_toArray, List.map_cons, List.map_nil, hs, hx, hrun]
  refine h v1 w1 (Kd.R_appended h0 hr hp (fun _ hk => hk.elim) (fun _ _ => trivial) hown1 hg ?_) hg hat
  rcases hat with hat | hat
  · exact .inl hat
  · exact .inr ⟨_, hat, Nat.le_refl _⟩
/-- Within plain: the machine, the frame. -/
structure Ex.P (W : World) (base gm fb : Nat) (A : Option Addr) (n c : Nat) (fuel : Int) (tv : Value) (m : Rn.M) (r s : List Int) : Prop where
  st : Ex.St W base gm A n c fuel m tv
  fm : Ex.Fm W fb r s
  ne : fb ≠ gm
  nt : some fb ≠ tv.ownBlock
  hb : base ≤ fb
/-- What is neither the machine's block, nor its row of what was told, nor the frame, stays; and what stood below base. -/
structure Ex.F2 (base gm fb : Nat) (tv tv' : Value) (w w' : World) : Prop where
  b : Below base w w'
  f : ∀ k, k < w.heap.size → k ≠ gm → k ≠ fb → some k ≠ tv.ownBlock → w'.heap[k]? = w.heap[k]?
  g : ∀ k, some k = tv'.ownBlock → some k = tv.ownBlock ∨ w.heap.size ≤ k
section
variable {base gm fb : Nat} {tv tv' : Value} {w w' : World}
theorem Ex.F2.refl (base gm fb : Nat) (tv : Value) (w : World) : Ex.F2 base gm fb tv tv w w := ⟨Below.refl _ _, fun _ _ _ _ _ => rfl, fun _ h => .inl h⟩
theorem Ex.F2.drewN (h : Ex.F2 base gm fb tv tv' w w') (k : Nat) : Ex.F2 base gm fb tv tv' w (w'.drewN k) := ⟨pw_below_drewN h.b k, h.f, h.g⟩
theorem Ex.F2.drew (h : Ex.F2 base gm fb tv tv' w w') : Ex.F2 base gm fb tv tv' w w'.drew := ⟨h.b.drew, h.f, h.g⟩
theorem Ex.F2.alloc (h : Ex.F2 base gm fb tv tv' w w') (hb : base ≤ w'.heap.size) (o : Obj) : Ex.F2 base gm fb tv tv' w (w'.alloc o) :=
  ⟨h.b.alloc hb o, fun k hk h1 h2 h3 => (Below.heap_alloc w' o k (Nat.lt_of_lt_of_le hk h.b.size)).trans (h.f k hk h1 h2 h3), h.g⟩
theorem Ex.F2.fset (h : Ex.F2 base gm fb tv tv' w w') (hb : base ≤ fb) (i : Nat) (v : Value) : Ex.F2 base gm fb tv tv' w (w'.setCell ⟨fb, i, none⟩ v) :=
  ⟨h.b.setCell (p := ⟨fb, i, none⟩) hb v, fun k hk h1 h2 h3 => (Below.heap_setCell _ _ _ _ h2).trans (h.f k hk h1 h2 h3), h.g⟩
theorem Ex.F2.mset (h : Ex.F2 base gm fb tv tv' w w') (hb : base ≤ gm) (i : Nat) (v : Value) : Ex.F2 base gm fb tv tv' w (w'.setCell ⟨gm, i, none⟩ v) :=
  ⟨h.b.setCell (p := ⟨gm, i, none⟩) hb v, fun k hk h1 h2 h3 => (Below.heap_setCell _ _ _ _ h1).trans (h.f k hk h1 h2 h3), h.g⟩
/-- The row of what was told has grown. -/
theorem Ex.F2.told {tv1 : Value} {w1 : World} (h : Ex.F2 base gm fb tv tv w w') (hb : base ≤ w'.heap.size) (hbt : ∀ k, tv.ownBlock = some k → base ≤ k) (hg : w'.grownBy w1 tv.ownBlock) (hat : tv1.ownBlock = tv.ownBlock ∨ tv1.ownBlock = some w'.heap.size) : Ex.F2 base gm fb tv tv1 w w1 := by
  refine ⟨h.b.grown hg hb hbt, fun k hk h1 h2 h3 => (hg.block k (Nat.lt_of_lt_of_le hk h.b.size) h3).trans (h.f k hk h1 h2 h3), fun k hk => ?_⟩
  rcases hat with hat | hat
  · exact .inl (hk.trans hat)
  · rw [hat] at hk
    injection hk with hk
    exact .inr (by rw [hk]; exact h.b.size)
end
section
variable {W : World} {base gm fb : Nat} {A : Option Addr} {n c : Nat} {fuel : Int} {tv : Value} {m : Rn.M} {r s : List Int}
theorem Ex.P.drew (h : Ex.P W base gm fb A n c fuel tv m r s) : Ex.P W.drew base gm fb A n c fuel tv m r s := ⟨h.st.drew, h.fm.keep rfl, h.ne, h.nt, h.hb⟩
theorem Ex.P.drewN (h : Ex.P W base gm fb A n c fuel tv m r s) (k : Nat) : Ex.P (W.drewN k) base gm fb A n c fuel tv m r s := ⟨h.st.drewN k, h.fm.keep rfl, h.ne, h.nt, h.hb⟩
theorem Ex.P.alloc (h : Ex.P W base gm fb A n c fuel tv m r s) (o : Obj) : Ex.P (W.alloc o) base gm fb A n c fuel tv m r s := ⟨h.st.alloc o, ⟨Hw.blk_al h.fm.ob o, h.fm.hr, h.fm.hs⟩, h.ne, h.nt, h.hb⟩
theorem Ex.P.setr (h : Ex.P W base gm fb A n c fuel tv m r s) (i : Nat) (hi : i < 16) (v : Int) : Ex.P (W.setCell ⟨fb, i, none⟩ (.int .i64 v)) base gm fb A n c fuel tv m (r.set i v) s := ⟨h.st.nset fb i h.ne h.nt _, h.fm.setr i hi v, h.ne, h.nt, h.hb⟩
theorem Ex.P.sets (h : Ex.P W base gm fb A n c fuel tv m r s) (i : Nat) (hi : i < 64) (v : Int) : Ex.P (W.setCell ⟨fb, 16 + i, none⟩ (.int .i64 v)) base gm fb A n c fuel tv m r (s.set i v) := ⟨h.st.nset fb (16 + i) h.ne h.nt _, h.fm.sets i hi v, h.ne, h.nt, h.hb⟩
theorem Ex.P.store (h : Ex.P W base gm fb A n c fuel tv m r s) (i : Nat) (hi : i < 256) (v : Int) : Ex.P (W.setCell ⟨gm, 1 + i, none⟩ (.int .i64 v)) base gm fb A n c fuel tv { m with mem := m.mem.set i v } r s := ⟨h.st.store i hi v, h.fm.keep (Below.heap_setCell _ _ _ _ h.ne), h.ne, h.nt, h.hb⟩
theorem Ex.P.told {tv1 : Value} {w1 : World} {v : Int} (h : Ex.P W base gm fb A n c fuel tv m r s) (hlt : (m.told.length : Int) < m.steps) (hr : Kd.R (Kd.int .i64) 3 w1 base (fun _ => True) tv1 (m.told ++ [v])) (hg : W.grownBy w1 tv.ownBlock) (hat : tv1.ownBlock = tv.ownBlock ∨ tv1.ownBlock = some W.heap.size) : (∃ cs, w1.heap[gm]? = some (.cells cs 54 (0, 0)) ∧ cs[257]? = some tv) ∧ Ex.P (w1.setCell ⟨gm, 257, none⟩ tv1) base gm fb A n c fuel tv1 { m with told := m.told ++ [v] } r s := by
  have hgt : some gm ≠ tv.ownBlock := by
    intro e
    obtain ⟨cs, hcs⟩ := Kd.R_typed h.st.tr gm e.symm
    rw [h.st.ob] at hcs
    injection hcs with hcs
    injection hcs with _ hcs
    revert hcs
    decide
  have ob := (hg.block gm (Array.getElem?_eq_some_iff.1 h.st.ob).1 hgt).trans h.st.ob
  have ob2 := blk_set ob 257 tv1
  rw [Rn.arr_settl A n c m tv fuel h.st.hm 0] at ob2
  have hsz : w1.heap.size ≤ (w1.setCell ⟨gm, 257, none⟩ tv1).heap.size := by simp [World.setCell]
  refine ⟨⟨_, ob, Rn.arr_tl A n c m tv fuel h.st.hm 0⟩, ⟨ob2, h.st.hm, h.st.hg, Kd.R_set hr ob Ex.ne_machine 257 _, Nat.le_trans (Nat.le_trans h.st.hb hg.size) hsz, h.st.hs, h.st.hf, ?_⟩, h.fm.keep ((Below.heap_setCell _ _ _ _ h.ne).trans (hg.block fb h.fm.lt h.nt)), h.ne, ?_, h.hb⟩
  · show ((m.told ++ [v]).length : Int) ≤ m.steps
    rw [List.length_append, List.length_singleton]
    omega
  · rcases hat with hat | hat
    · rw [hat]; exact h.nt
    · rw [hat]
      intro e
      injection e with e
      have := h.fm.lt
      omega
end
theorem Ex.gsetRow (W : World) (b : Nat) (cs : Array Value) : W.grownBy (W.setRow b cs) (some b) := by
  refine ⟨rfl, rfl, rfl, ?_, fun k hk hne => ?_⟩
  · simp [World.setRow]
  · simp only [World.setRow]
    rw [Array.getElem?_modify, if_neg (fun e => hne (by rw [e]))]
theorem Ex.run_store_mid (w : World) (g o : Nat) (ty t : TypeId) (cur cells : Array Value) (hg : w.heap[g]? = some (.cells cur t (0, 0))) (hi : (Try.prog.info? ty).map (·.size) = some cells.size) (hfit : o + cells.size ≤ cur.size) (h1 : cells.all (·.oneCell') = true) :
    (storeVar ty ⟨g, o, none⟩ (.agg cells)).run Try.prog w = .ok () (w.setRow g (cur.toList.take o ++ cells.toList ++ cur.toList.drop (o + cells.toList.length)).toArray) := by
  have := run_storeCells_at Try.prog g o t cells.toList 0 cur w hg (by simpa using hfit) (fun v hv => (Array.all_eq_true_iff_forall_mem.1 h1) v (by simpa using hv))
  cases hq : Try.prog.info? ty with
  | none => simp [hq] at hi
  | some i =>
    have hs : cells.size = i.size := by simp [hq] at hi; omega
    simp only [Nat.add_zero] at this
    simp [storeVar, sizeOf, typeInfo, hq, Value.cells, hs, this]
theorem Ex.wpList_store_mid {ops : Array Oper} {rest : List Oper} {o : Oper} {a : Act} {w : World} {Q : Exit → Act → World → Prop} (hgd : o.guard = none) (ty : TypeId) (x y : Operand) (ho : o.op = .store ty x y)
    (g n : Nat) (cells : Array Value) (hx : a.eval x = .pointer (some ⟨g, n, none⟩)) (hy : a.eval y = .agg cells) (t : TypeId) (cur : Array Value) (hg : w.heap[g]? = some (.cells cur t (0, 0)))
    (hi : (Try.prog.info? ty).map (·.size) = some cells.size) (hfit : n + cells.size ≤ cur.size) (h1 : cells.all (·.oneCell') = true)
    (h : wpList Try.prog ops Q rest (a.put o.dst undef) (w.setRow g (cur.toList.take n ++ cells.toList ++ cur.toList.drop (n + cells.toList.length)).toArray)) : wpList Try.prog ops Q (o :: rest) a w :=
  wpList_plain hgd fun K hK => by
    unfold Oper.wp execOp
    simp only [ho, hx, hy, Instr.storeAt, Instr.sureAddr, Sem.run_bind, Sem.run_pure, Result.andThen_ok, Ex.run_store_mid w g n ty t cur cells hg hi hfit h1]
    exact hK _ _ h
theorem Ex.ints_one (l : List Int) : ((l.map (Value.int .i64)).toArray).all (·.oneCell') = true := by
  refine all_oneCell_toArray (fun v hv => ?_)
  obtain ⟨x, _, rfl⟩ := List.mem_map.1 hv
  rfl
section
variable {W : World} {b : Nat} {r s : List Int}
theorem Ex.Fm.size (h : Ex.Fm W b r s) : ((r ++ s).map (Value.int .i64)).toArray.size = 80 := by rw [List.size_toArray, List.length_map, List.length_append, h.hr, h.hs]
/-- The whole frame is put anew. -/
theorem Ex.Fm.all (h : Ex.Fm W b r s) (r' s' : List Int) (hr : r'.length = 16) (hs : s'.length = 64) : Ex.Fm (W.setRow b ((r' ++ s').map (Value.int .i64)).toArray) b r' s' := ⟨setRow_heap W b _ _ _ _ h.ob, hr, hs⟩
/-- The slots are put anew. -/
theorem Ex.Fm.slots (h : Ex.Fm W b r s) (s' : List Int) (hs : s'.length = 64) : Ex.Fm (W.setRow b (((r ++ s).map (Value.int .i64)).toArray.toList.take 16 ++ (s'.map (Value.int .i64)).toArray.toList ++ ((r ++ s).map (Value.int .i64)).toArray.toList.drop (16 + (s'.map (Value.int .i64)).toArray.toList.length)).toArray) b r s' := by
  refine ⟨?_, h.hr, hs⟩
  rw [setRow_heap W b _ _ _ _ h.ob]
  congr 3
  have e1 : ((r ++ s).map (Value.int .i64)).take 16 = r.map (Value.int .i64) := by rw [List.map_append, List.take_append_of_le_length (by rw [List.length_map, h.hr]; exact Nat.le_refl _), List.take_of_length_le (by rw [List.length_map, h.hr]; exact Nat.le_refl _)]
  have e2 : ((r ++ s).map (Value.int .i64)).drop (16 + (s'.map (Value.int .i64)).length) = [] := by
    refine List.drop_eq_nil_of_le ?_
    rw [List.length_map, List.length_append, List.length_map, h.hr, h.hs, hs]
    exact Nat.le_refl _
  rw [e1, e2, List.append_nil, List.map_append]
/-- Values are copied into the registers. -/
theorem Ex.copied (h : Ex.Fm W b Ex.pr s) {Av : Option Addr} {vs : List Int} {cv : Nat} (hv : (Kd.int .i64).C W Av vs.length vs) :
    ∃ W' v, (∀ ty, (Builtin.copy_ #[26, 26] ty #[.slice (some ⟨b, 0, none⟩) 16 16, .slice Av vs.length cv]).run Try.prog W = .ok v W') ∧ Ex.Fm W' b (Ex.entry vs) s ∧ W.grownBy W' (some b) := by
  have hle : (Ex.entry vs).length = 16 := by
    unfold Ex.entry
    rw [List.length_append, List.length_take, List.length_replicate]
    omega
  by_cases h0 : Nat.min vs.length 16 = 0
  · have hz : vs.length = 0 := by simp only [Nat.min_def] at h0; split at h0 <;> omega
    refine ⟨W, _, fun ty => run_copy_none (P := Try.prog) W _ _ ty 3 (some ⟨b, 0, none⟩) Av 16 16 vs.length cv (by kernel_rfl) (by kernel_rfl) h0, ?_, World.grownBy.refl _ _⟩
    have : Ex.entry vs = Ex.pr := by
      rw [List.eq_nil_of_length_eq_zero hz]
      rfl
    rw [this]
    exact h
  · obtain ⟨ad, rfl, _⟩ := hv.2.2 (by simp only [Nat.min_def] at h0; split at h0 <;> omega)
    have hc : ∀ j v, ((vs.take 16).map (Value.int .i64))[j]? = some v → W.cell? (ad.add j) = some v := by
      intro j v hj
      rw [List.getElem?_map, List.getElem?_take] at hj
      by_cases hjr : j < 16
      · rw [if_pos hjr] at hj
        cases hq : vs[j]? with
        | none => rw [hq] at hj; cases hj
        | some u =>
          obtain ⟨ad', e, q⟩ := Kd.at_int hv (j : Int) (by omega) (by have := (List.getElem?_eq_some_iff.1 hq).1; omega)
          cases e
          rw [Int.toNat_natCast] at q
          rw [q, ← hj, hq]
          unfold rd
          rw [Int.toNat_natCast, List.getD_eq_getElem?_getD, hq]
          rfl
      · rw [if_neg hjr] at hj
        cases hj
    have hl : ((vs.take 16).map (Value.int .i64)).length = Nat.min vs.length 16 := by rw [List.length_map, List.length_take]; exact Nat.min_comm _ _
    have hsz := h.size
    have hrun := fun ty => run_copy_row (P := Try.prog) W 26 26 ty 3 b 0 16 16 ad vs.length cv _ 77 ((vs.take 16).map (Value.int .i64)) (by kernel_rfl) (by kernel_rfl) h.ob hl hc (by
      rw [hl, hsz]
      have := Nat.min_le_right vs.length 16
      show 0 + min vs.length 16 ≤ 80
      omega) (by
      intro v hv
      obtain ⟨x, _, rfl⟩ := List.mem_map.1 hv
      rfl)
    refine ⟨_, _, hrun, ⟨?_, hle, h.hs⟩, Ex.gsetRow W b _⟩
    rw [setRow_heap W b _ _ _ _ h.ob]
    congr 3
    rw [List.take_zero, List.nil_append, Nat.zero_add, List.length_map]
    show (vs.take 16).map (Value.int .i64) ++ ((Ex.pr ++ s).map (Value.int .i64)).drop (vs.take 16).length = (Ex.entry vs ++ s).map (Value.int .i64)
    unfold Ex.entry Ex.pr
    rw [← List.map_drop, ← List.map_append, List.drop_append_of_le_length (by rw [List.length_take, List.length_replicate]; omega), List.drop_replicate, ← List.append_assoc, List.length_take]
    congr 4
    omega
end
/-- How a call goes on: with what it hands back; with what it panics with. -/
def Ex.Up (next : Value → World → Prop) (pan : List PanicEntry → World → Prop) : Ending → World → Prop
  | .returned v, w => next v w
  | .panicked ch, w => pan ch w
  | .outgrown, _ => False
theorem Ex.goesP_ {Q : Exit → Act → World → Prop} {ops : Array Oper} {oi : Oper} {N : Option Tmp} {a : Act} {w : World} {K : Act → World → Prop} {f : FuncId} {fn : Func} {ars : Array Operand} {ts : Array TypeId} (hf : Try.prog.funcs[f]? = some fn) (hname : (fn.name == "runtime.NumGoroutine") = false) (hb : fn.body.isSome = true) (args : Array Value)
    (hw : Region.wanted oi (yielded ops a.tmps) = true) (hN : oi.dst = N) (hop : oi.op = .call { callee := .value (.func f), args := ars, argTypes := ts }) (hargs : ars.map a.eval = args)
    (h : Calls Try.prog f args w (Ex.Up (fun v w' => K (a.put N v) w') (fun ch w' => Q (.panic ch) a w'))) : if Region.wanted oi (yielded ops a.tmps) = true then Oper.wp Try.prog oi a w K Q else K (a.put N undef) w := by
  rw [if_pos hw]
  subst hN
  have hrun : (execOp a.eval oi).run Try.prog w = .ok (.enter f args) w := by
    have he := enters_ hf hname hb args w
    unfold execOp
    simp [hop, resolve, Deferred.ofValue, invoke, Act.eval, hargs, he]
  unfold Oper.wp
  rw [hrun, Oper.upon_enter]
  refine h.mono fun e w'' hh => ?_
  cases e with
  | returned v => exact hh
  | panicked ch => exact hh
  | outgrown => exact hh.elim
/-- Within a call: the machine, the frame, the code's copy (block kb). -/
structure Ex.Lp (W wq : World) (base gm : Nat) (A : Option Addr) (n c : Nat) (fuel : Int) (tv tq : Value) (kb fb : Nat) (KC : Array Value) (mm : Rn.M) (r s : List Int) : Prop where
  p : Ex.P wq base gm fb A n c fuel tq mm r s
  fr : Rn.Fr base gm tv tq W wq
  hk : wq.heap[kb]? = some (.cells KC 31 (0, 0))
  t2 : some kb ≠ tq.ownBlock
  n1 : gm < W.heap.size
  n2 : W.heap.size ≤ kb
  n3 : kb < fb
  hb : base ≤ W.heap.size
section
variable {W wq : World} {base gm : Nat} {A : Option Addr} {n c : Nat} {fuel : Int} {tv tq : Value} {kb fb : Nat} {KC : Array Value} {mm : Rn.M} {r s : List Int}
theorem Ex.Lp.alloc (h : Ex.Lp W wq base gm A n c fuel tv tq kb fb KC mm r s) (o : Obj) : Ex.Lp W (wq.alloc o) base gm A n c fuel tv tq kb fb KC mm r s :=
  ⟨h.p.alloc o, h.fr.alloc h.p.st.hb o, Hw.blk_al h.hk o, h.t2, h.n1, h.n2, h.n3, h.hb⟩
theorem Ex.Lp.drew (h : Ex.Lp W wq base gm A n c fuel tv tq kb fb KC mm r s) : Ex.Lp W wq.drew base gm A n c fuel tv tq kb fb KC mm r s := ⟨h.p.drew, h.fr.drew, h.hk, h.t2, h.n1, h.n2, h.n3, h.hb⟩
theorem Ex.Lp.drewN (h : Ex.Lp W wq base gm A n c fuel tv tq kb fb KC mm r s) (k : Nat) : Ex.Lp W (wq.drewN k) base gm A n c fuel tv tq kb fb KC mm r s := ⟨h.p.drewN k, h.fr.drewN k, h.hk, h.t2, h.n1, h.n2, h.n3, h.hb⟩
theorem Ex.Lp.tick (h : Ex.Lp W wq base gm A n c fuel tv tq kb fb KC mm r s) (hlt : mm.steps < fuel) : Ex.Lp W (wq.setCell ⟨gm, 259, none⟩ (.int .i64 (mm.steps + 1))) base gm A n c fuel tv tq kb fb KC (Rn.tick mm) r s := by
  have n1 := h.n1
  have n2 := h.n2
  have n3 := h.n3
  exact ⟨⟨h.p.st.tick hlt, h.p.fm.keep (Below.heap_setCell _ _ _ _ h.p.ne), h.p.ne, h.p.nt, h.p.hb⟩, h.fr.mset h.p.st.hg _ _, (Below.heap_setCell _ _ _ kb (by show kb ≠ gm; omega)).trans h.hk, h.t2, n1, n2, n3, h.hb⟩
theorem Ex.Lp.setr (h : Ex.Lp W wq base gm A n c fuel tv tq kb fb KC mm r s) (i : Nat) (hi : i < 16) (v : Int) : Ex.Lp W (wq.setCell ⟨fb, i, none⟩ (.int .i64 v)) base gm A n c fuel tv tq kb fb KC mm (r.set i v) s := by
  have n2 := h.n2
  have n3 := h.n3
  have hb := h.hb
  exact ⟨h.p.setr i hi v, h.fr.nset fb i (by omega) (by omega) _, (Below.heap_setCell _ _ _ kb (by show kb ≠ fb; omega)).trans h.hk, h.t2, h.n1, n2, n3, hb⟩
/-- The frame has been put anew. -/
theorem Ex.Lp.grown {w' : World} {r' s' : List Int} (h : Ex.Lp W wq base gm A n c fuel tv tq kb fb KC mm r s) (hg : wq.grownBy w' (some fb)) (hf : Ex.Fm w' fb r' s') : Ex.Lp W w' base gm A n c fuel tv tq kb fb KC mm r' s' := by
  have n2 := h.n2
  have n3 := h.n3
  have hb := h.hb
  exact ⟨⟨h.p.st.grown hg h.p.ne h.p.nt, hf, h.p.ne, h.p.nt, h.p.hb⟩, h.fr.grown hg (by omega) (by omega) h.p.st.hb, (hg.block kb (Array.getElem?_eq_some_iff.1 h.hk).1 (fun e => by injection e with e; omega)).trans h.hk, h.t2, h.n1, n2, n3, hb⟩
/-- Behind a callee. -/
theorem Ex.Lp.call {w6 : World} {tq' : Value} {mm' : Rn.M} (h : Ex.Lp W wq base gm A n c fuel tv tq kb fb KC mm r s) (hs : Ex.St w6 base gm A n c fuel mm' tq') (hf : Rn.Fr base gm tq tq' wq w6) : Ex.Lp W w6 base gm A n c fuel tv tq' kb fb KC mm' r s := by
  have n1 := h.n1
  have n2 := h.n2
  have n3 := h.n3
  have hlt := h.p.fm.lt
  refine ⟨⟨hs, h.p.fm.keep (hf.f fb hlt h.p.ne h.p.nt), h.p.ne, fun e => ?_, h.p.hb⟩, h.fr.trans hf, (hf.f kb (by omega) (by omega) h.t2).trans h.hk, fun e => ?_, n1, n2, n3, h.hb⟩
  · rcases hf.g _ e with q | q
    · exact h.p.nt q
    · omega
  · rcases hf.g _ e with q | q
    · exact h.t2 q
    · omega
/-- Behind plain. -/
theorem Ex.Lp.plain {w6 : World} {tq' : Value} {mm' : Rn.M} {r' s' : List Int} (h : Ex.Lp W wq base gm A n c fuel tv tq kb fb KC mm r s) (hp : Ex.P w6 base gm fb A n c fuel tq' mm' r' s') (hf : Ex.F2 base gm fb tq tq' wq w6) : Ex.Lp W w6 base gm A n c fuel tv tq' kb fb KC mm' r' s' := by
  have n1 := h.n1
  have n2 := h.n2
  have n3 := h.n3
  have hlt := h.p.fm.lt
  have hsz := h.fr.b.size
  refine ⟨hp, ⟨h.fr.b.trans hf.b, fun k hk h1 h2 => ?_, fun k hk => ?_⟩, (hf.f kb (by omega) (by omega) (by omega) h.t2).trans h.hk, fun e => ?_, n1, n2, n3, h.hb⟩
  · rw [hf.f k (by omega) h1 (by omega) (fun e => ?_), h.fr.f k hk h1 h2]
    rcases h.fr.g k e with q | q
    · exact h2 q
    · omega
  · rcases hf.g k hk with q | q
    · exact h.fr.g k q
    · exact .inr (Nat.le_trans hsz q)
  · rcases hf.g _ e with q | q
    · exact h.t2 q
    · omega
end
theorem Ex.wpList_alloc {ops : Array Oper} {rest : List Oper} {o : Oper} {a : Act} {w : World} {Q : Exit → Act → World → Prop} (hgd : o.guard = none) (t : TypeId) (ho : o.op = .alloc t) (Z : Array Value) (hz : ∀ w : World, (zeroValue t).run Try.prog w = .ok (.agg Z) w)
    (h : wpList Try.prog ops Q rest (a.put o.dst (.pointer (some ⟨w.heap.size, 0, none⟩))) (w.alloc (.cells Z t))) : wpList Try.prog ops Q (o :: rest) a w :=
  wpList_plain hgd fun K hK => by
    have hr : (execOp a.eval o).run Try.prog w = .ok (.value (.pointer (some ⟨w.heap.size, 0, none⟩))) (w.alloc (.cells Z t)) := by
      unfold execOp
      simp [ho, Instr.alloc, hz, newVar, Value.cells, newRow]
    unfold Oper.wp
    rw [hr]
    exact hK _ _ h
theorem Ex.ix_cases (mod : List Ex.Cd) (nm : ByteArray) : Ex.ix mod nm = -1 ∨ ∃ i : Nat, i < mod.length ∧ Ex.ix mod nm = (i : Int) := by
  unfold Ex.ix
  cases h : mod.findIdx? (fun f => decide (f.name = nm)) with
  | none => exact .inl rfl
  | some i => exact .inr ⟨i, (List.findIdx?_eq_some_iff_getElem.1 h).1, rfl⟩
theorem Ex.Fm.range {W : World} {b : Nat} {r s : List Int} (h : Ex.Fm W b r s) : W.rangeAt b 16 (s.map (Value.int .i64)) := fun j v hv => by
  rw [List.getElem?_map] at hv
  cases hq : s[j]? with
  | none => rw [hq] at hv; cases hv
  | some u =>
    rw [hq] at hv
    have hj := (List.getElem?_eq_some_iff.1 hq).1
    rw [h.hs] at hj
    rw [h.cs j hj, List.getD_eq_getElem?_getD, hq]
    exact hv
theorem Ex.wpList_go {ops : Array Oper} {rest : List Oper} {o : Oper} {a : Act} {w : World} {Q : Exit → Act → World → Prop} (hg : o.guard = none) (dst : Option Tmp) (hdst : o.dst = dst) (v : Value) (hrun : (execOp a.eval o).run Try.prog w = .ok (.value v) w)
    (h : wpList Try.prog ops Q rest (a.put dst v) w) : wpList Try.prog ops Q (o :: rest) a w := wpList_plain hg fun K hK => by
  unfold Oper.wp
  rw [hrun]
  subst hdst
  exact hK _ _ h
/-- A clean frame's cells. -/
def Ex.F0 : Array Value := ((Ex.pr ++ Ex.ps).map (Value.int .i64)).toArray
theorem Ex.F0_size : Ex.F0.size = 80 := rfl
theorem Ex.F0_all : Ex.F0.all (·.oneCell') = true := Ex.ints_one _
theorem Ex.Fm.fresh {W : World} {b : Nat} (h : W.heap[b]? = some (.cells Ex.F0 77 (0, 0))) : Ex.Fm W b Ex.pr Ex.ps := ⟨h, rfl, rfl⟩
theorem Ex.Fm.clean {W : World} {b : Nat} {r s : List Int} (h : Ex.Fm W b r s) : Ex.Fm (W.setRow b Ex.F0) b Ex.pr Ex.ps := h.all Ex.pr Ex.ps rfl rfl
theorem Ex.wpList_norm {ops : Array Oper} {rest : List Oper} {a a' : Act} {w : World} {Q : Exit → Act → World → Prop} (ha : a = a') (h : wpList Try.prog ops Q rest a' w) : wpList Try.prog ops Q rest a w := by
  subst ha
  exact h
section
variable {ops : Array Oper} {rest : List Oper} {o : Oper} {a : Act} {w : World} {Q : Exit → Act → World → Prop}
theorem Ex.w_load_mid (dst : Option Tmp) (hdst : o.dst = dst) (hgd : o.guard = none) (ty : TypeId) (x : Operand) (ho : o.op = .load ty x)
    (b n : Nat) (hx : a.eval x = .pointer (some ⟨b, n, none⟩)) (cs : List Value) (d : TypeDesc) (hc : w.rangeAt b n cs)
    (hu : Try.prog.underlying ty = some d) (hd : d.isRow = true) (hi : (Try.prog.info? ty).map (·.size) = some cs.length)
    (h : wpList Try.prog ops Q rest (a.put dst (.agg cs.toArray)) w) : wpList Try.prog ops Q (o :: rest) a w := by
  subst hdst
  exact wpList_load_mid hgd ty x ho b n hx cs d hc hu hd hi h
theorem Ex.w_load_row (dst : Option Tmp) (hdst : o.dst = dst) (hgd : o.guard = none) (ty : TypeId) (x : Operand) (ho : o.op = .load ty x)
    (g : Nat) (hx : a.eval x = .pointer (some ⟨g, 0, none⟩)) (t : TypeId) (cs : Array Value) (fr : Nat × Nat) (d : TypeDesc) (hg : w.heap[g]? = some (.cells cs t fr))
    (hu : Try.prog.underlying ty = some d) (hd : d.isRow = true) (hi : (Try.prog.info? ty).map (·.size) = some cs.size)
    (h : wpList Try.prog ops Q rest (a.put dst (.agg cs)) w) : wpList Try.prog ops Q (o :: rest) a w := by
  subst hdst
  refine wpList_load_row hgd ty x ho g hx t cs fr d hg hu ?_ hi h
  cases d <;> first | rfl | exact hd
theorem Ex.w_alloc (dst : Option Tmp) (hdst : o.dst = dst) (hgd : o.guard = none) (t : TypeId) (ho : o.op = .alloc t) (Z : Array Value) (hz : ∀ w : World, (zeroValue t).run Try.prog w = .ok (.agg Z) w)
    (h : wpList Try.prog ops Q rest (a.put dst (.pointer (some ⟨w.heap.size, 0, none⟩))) (w.alloc (.cells Z t))) : wpList Try.prog ops Q (o :: rest) a w := by
  subst hdst
  exact Ex.wpList_alloc hgd t ho Z hz h
theorem Ex.w_store_row (hdst : o.dst = none) (hgd : o.guard = none) (ty : TypeId) (x y : Operand) (ho : o.op = .store ty x y)
    (g : Nat) (cells : Array Value) (hx : a.eval x = .pointer (some ⟨g, 0, none⟩)) (hy : a.eval y = .agg cells)
    (t : TypeId) (old : Array Value) (hg : w.heap[g]? = some (.cells old t (0, 0))) (hi : (Try.prog.info? ty).map (·.size) = some cells.size)
    (hold : old.size = cells.size) (h1 : cells.all (·.oneCell') = true)
    (h : wpList Try.prog ops Q rest a (w.setRow g cells)) : wpList Try.prog ops Q (o :: rest) a w := by
  refine wpList_store_row hgd ty x y ho g cells hx hy t old hg hi hold h1 ?_
  rw [hdst]
  exact h
theorem Ex.w_store_mid (hdst : o.dst = none) (hgd : o.guard = none) (ty : TypeId) (x y : Operand) (ho : o.op = .store ty x y)
    (g n : Nat) (cells : Array Value) (hx : a.eval x = .pointer (some ⟨g, n, none⟩)) (hy : a.eval y = .agg cells) (t : TypeId) (cur : Array Value) (hg : w.heap[g]? = some (.cells cur t (0, 0)))
    (hi : (Try.prog.info? ty).map (·.size) = some cells.size) (hfit : n + cells.size ≤ cur.size) (h1 : cells.all (·.oneCell') = true)
    (h : wpList Try.prog ops Q rest a (w.setRow g (cur.toList.take n ++ cells.toList ++ cur.toList.drop (n + cells.toList.length)).toArray)) : wpList Try.prog ops Q (o :: rest) a w := by
  refine Ex.wpList_store_mid hgd ty x y ho g n cells hx hy t cur hg hi hfit h1 ?_
  rw [hdst]
  exact h
end
/-! ### behind a recover: two cells are put -/
structure Ex.Off2 (vb kb : Nat) (w w' : World) : Prop where
  os : w'.os = w.os
  tape : w'.tape = w.tape
  output : w'.output = w.output
  size : w.heap.size ≤ w'.heap.size
  block : ∀ k, k < w.heap.size → k ≠ vb → k ≠ kb → w'.heap[k]? = w.heap[k]?
def Ex.Int1 (W : World) (b : Nat) (v : Int) : Prop := W.heap[b]? = some (.cells #[.int .i64 v] 3 (0, 0))
theorem Ex.Int1.cell {W : World} {b : Nat} {v : Int} (h : Ex.Int1 W b v) : W.cell? ⟨b, 0, none⟩ = some (.int .i64 v) ∧ W.frozen? ⟨b, 0, none⟩ = false := ⟨cell_of_row W b 0 _ _ _ h, by simp only [World.frozen?]; rw [show W.heap[b]? = _ from h]; rfl⟩
theorem Ex.Int1.set {W : World} {b : Nat} {v : Int} (h : Ex.Int1 W b v) (u : Int) : Ex.Int1 (W.setCell ⟨b, 0, none⟩ (.int .i64 u)) b u := blk_set h 0 (.int .i64 u)
theorem Ex.Int1.far {W : World} {b b' : Nat} {v : Int} (h : Ex.Int1 W b v) (hne : b ≠ b') (u : Value) : Ex.Int1 (W.setCell ⟨b', 0, none⟩ u) b v := (Below.heap_setCell _ _ _ _ hne).trans h
theorem Ex.Off2.refl (vb kb : Nat) (w : World) : Ex.Off2 vb kb w w := ⟨rfl, rfl, rfl, Nat.le_refl _, fun _ _ _ _ => rfl⟩
theorem Ex.Off2.drewN {vb kb : Nat} {w w' : World} (h : Ex.Off2 vb kb w w') (n : Nat) : Ex.Off2 vb kb w (w'.drewN n) := ⟨h.os, h.tape, h.output, h.size, h.block⟩
theorem Ex.Off2.drew {vb kb : Nat} {w w' : World} (h : Ex.Off2 vb kb w w') : Ex.Off2 vb kb w w'.drew := ⟨h.os, h.tape, h.output, h.size, h.block⟩
theorem Ex.Off2.setv {vb kb : Nat} {w w' : World} (h : Ex.Off2 vb kb w w') (v : Value) : Ex.Off2 vb kb w (w'.setCell ⟨vb, 0, none⟩ v) :=
  ⟨h.os, h.tape, h.output, by have := h.size; simpa [World.setCell] using this, fun k hk h1 h2 => (Below.heap_setCell _ _ _ _ h1).trans (h.block k hk h1 h2)⟩
theorem Ex.Off2.setk {vb kb : Nat} {w w' : World} (h : Ex.Off2 vb kb w w') (v : Value) : Ex.Off2 vb kb w (w'.setCell ⟨kb, 0, none⟩ v) :=
  ⟨h.os, h.tape, h.output, by have := h.size; simpa [World.setCell] using this, fun k hk h1 h2 => (Below.heap_setCell _ _ _ _ h2).trans (h.block k hk h1 h2)⟩
theorem Ex.St.off2 {W w' : World} {base gm vb kb : Nat} {A : Option Addr} {n c : Nat} {fuel : Int} {m : Rn.M} {tv : Value} (h : Ex.St W base gm A n c fuel m tv) (hg : Ex.Off2 vb kb W w') (h1 : vb ≠ gm) (h2 : kb ≠ gm) (h3 : some vb ≠ tv.ownBlock) (h4 : some kb ≠ tv.ownBlock) : Ex.St w' base gm A n c fuel m tv := by
  refine ⟨(hg.block gm (Array.getElem?_eq_some_iff.1 h.ob).1 (fun e => h1 e.symm) (fun e => h2 e.symm)).trans h.ob, h.hm, h.hg, ?_, Nat.le_trans h.hb hg.size, h.hs, h.hf, h.ht⟩
  obtain ⟨_, inner, ho, hr⟩ := h.tr
  have hK : ∀ p c, (Kd.int .i64).M W base (fun k => True ∧ some k ≠ tv.ownBlock) p c → (Kd.int .i64).M w' base (fun k => True ∧ some k ≠ tv.ownBlock) p c := fun _ _ q => q
  exact ⟨fun _ _ => trivial, inner, own_move ho (fun k hk => hg.block k (own_lt ho k hk) (fun e => h3 (by rw [← e]; exact hk.symm)) (fun e => h4 (by rw [← e]; exact hk.symm))), hr.imp_ hK⟩
theorem Ex.Fr.off2 {base gm vb kb : Nat} {tv tv' : Value} {w w1 w' : World} (h : Rn.Fr base gm tv tv' w w1) (hg : Ex.Off2 vb kb w1 w') (h1 : w.heap.size ≤ vb) (h2 : w.heap.size ≤ kb) (h3 : base ≤ vb) (h4 : base ≤ kb) (hb : base ≤ w1.heap.size) : Rn.Fr base gm tv tv' w w' := by
  refine ⟨⟨hg.os.trans h.b.os, hg.tape.trans h.b.tape, hg.output.trans h.b.output, Nat.le_trans h.b.size hg.size, fun k hk => (hg.block k (by omega) (by omega) (by omega)).trans (h.b.block k hk)⟩, fun k hk q1 q2 => (hg.block k (Nat.lt_of_lt_of_le hk h.b.size) (by omega) (by omega)).trans (h.f k hk q1 q2), h.g⟩
/-! ### Run: its variables -/
def Ex.filled (mem : List Int) (k : Nat) : List Int := (mem.take k).map (· % 65536) ++ List.replicate (256 - k) 0
def Ex.word (args : List Int) : List Int := args.map (· % 65536)
theorem Ex.filled_len (mem : List Int) (k : Nat) (hk : k ≤ 256) : (Ex.filled mem k).length = 256 ∨ mem.length < k := by
  unfold Ex.filled
  by_cases h : mem.length < k
  · exact .inr h
  · left
    rw [List.length_append, List.length_map, List.length_take, List.length_replicate]
    omega
theorem Ex.filled_set (mem : List Int) (k : Nat) (hk : k < 256) (hl : k < mem.length) : (Ex.filled mem k).set k (mem.getD k 0 % 65536) = Ex.filled mem (k + 1) := by
  unfold Ex.filled
  have e : 256 - k = (256 - (k + 1)) + 1 := by omega
  have hl2 : ((mem.take k).map (· % 65536)).length = k := by rw [List.length_map, List.length_take]; omega
  rw [e, List.replicate_succ, List.set_append_right _ _ (by omega), hl2, Nat.sub_self, List.set_cons_zero, List.take_succ_eq_append_getElem hl, List.map_append, List.map_cons, List.map_nil, List.append_assoc, List.getD_eq_getElem?_getD, List.getElem?_eq_getElem hl]
  rfl
structure Ex.Sx (w wq : World) (nb ob gm pb vb : Nat) (name : ByteArray) (A : Option Addr) (n c : Nat) (fuel : Int) (m : Rn.M) (vv : Value) (xs : List Int) : Prop where
  st : Ex.St wq w.heap.size gm A n c fuel m (.slice none 0 0)
  hn : wq.heap[nb]? = some (.cells #[.string name] 9 (0, 0))
  ho : wq.heap[ob]? = some (.cells #[.int .i64 0, .int .i64 0, .slice none 0 0, .slice none 0 0, .int .i64 0] 36 (0, 0))
  hp : wq.heap[pb]? = some (.cells #[.pointer (some ⟨gm, 0, none⟩)] 51 (0, 0))
  hv : wq.heap[vb]? = some (.cells #[vv] 26 (0, 0))
  rv : Kd.R (Kd.int .i64) 3 wq (vb + 1) (fun _ => True) vv xs
  hb : Below w.heap.size w wq
  ne : nb < vb ∧ ob < vb ∧ gm < vb ∧ pb < vb ∧ w.heap.size ≤ vb ∧ vb < wq.heap.size
section
variable {w wq : World} {nb ob gm pb vb : Nat} {name : ByteArray} {A : Option Addr} {n c : Nat} {fuel : Int} {m : Rn.M} {vv : Value} {xs : List Int}
theorem Ex.Sx.drewN (h : Ex.Sx w wq nb ob gm pb vb name A n c fuel m vv xs) (k : Nat) : Ex.Sx w (wq.drewN k) nb ob gm pb vb name A n c fuel m vv xs := ⟨h.st.drewN k, h.hn, h.ho, h.hp, h.hv, Kd.R_drewN h.rv k, pw_below_drewN h.hb k, h.ne⟩
theorem Ex.Sx.alloc (h : Ex.Sx w wq nb ob gm pb vb name A n c fuel m vv xs) (o : Obj) : Ex.Sx w (wq.alloc o) nb ob gm pb vb name A n c fuel m vv xs :=
  ⟨h.st.alloc o, Hw.blk_al h.hn o, Hw.blk_al h.ho o, Hw.blk_al h.hp o, Hw.blk_al h.hv o, Kd.R_alloc h.rv o, h.hb.alloc h.st.hb o, ⟨h.ne.1, h.ne.2.1, h.ne.2.2.1, h.ne.2.2.2.1, h.ne.2.2.2.2.1, by have := h.ne.2.2.2.2.2; simp; omega⟩⟩
theorem Ex.ne_slices : ∀ q, q ∈ 3 :: (Kd.int .i64).E → q ≠ 26 := by
  intro q hq
  simp [Kd.int, Kd.scalar] at hq
  omega
theorem Ex.Sx.push {w1 : World} {v1 : Value} {x : Int} (h : Ex.Sx w wq nb ob gm pb vb name A n c fuel m vv xs) (hr : Kd.R (Kd.int .i64) 3 w1 (vb + 1) (fun _ => True) v1 (xs ++ [x])) (hg : wq.grownBy w1 vv.ownBlock) :
    w1.heap[vb]? = some (.cells #[vv] 26 (0, 0)) ∧ Ex.Sx w (w1.setCell ⟨vb, 0, none⟩ v1) nb ob gm pb vb name A n c fuel m v1 (xs ++ [x]) := by
  obtain ⟨e1, e2, e3, e4, e5, e6⟩ := h.ne
  have hlow := Kd.R_base h.rv
  have hrow : ∀ k, k ≤ vb → some k ≠ vv.ownBlock := fun k hk e => by have := hlow k e.symm; omega
  have hv1 := (hg.block vb e6 (hrow vb (Nat.le_refl _))).trans h.hv
  have hkeep : ∀ k, k < vb → (w1.setCell ⟨vb, 0, none⟩ v1).heap[k]? = wq.heap[k]? := fun k hk => (Below.heap_setCell _ _ _ _ (by show k ≠ vb; omega)).trans (hg.block k (by omega) (hrow k (by omega)))
  have hbw := h.st.hb
  refine ⟨hv1, ⟨⟨(hkeep gm e3).trans h.st.ob, h.st.hm, h.st.hg, ?_, ?_, h.st.hs, h.st.hf, h.st.ht⟩, (hkeep nb e1).trans h.hn, (hkeep ob e2).trans h.ho, (hkeep pb e4).trans h.hp, ?_, Kd.R_set hr hv1 Ex.ne_slices 0 v1, ?_, ⟨e1, e2, e3, e4, e5, ?_⟩⟩⟩
  · have hnil : m.told = [] := List.eq_nil_of_length_eq_zero (Kd.R_reads' h.st.tr).1.symm
    rw [hnil]
    exact Kd.R_nil _ _ _ _ _
  · have := hg.size
    simp [World.setCell]
    omega
  · exact blk_set hv1 0 v1
  · exact (h.hb.grown hg hbw (fun k e => by have := hlow k e; omega)).setCell (p := ⟨vb, 0, none⟩) e5 v1
  · have := hg.size
    simp [World.setCell]
    omega
end
def Ex.stopP (k : Int) : List PanicEntry := [{ v := .iface 71 (.int .i64 k), recovered := false }]
def Ex.ending : Rn.Res → Ending
  | .val v => .returned (.int .i64 v)
  | .trap => .panicked (Ex.stopP 2)
  | .out => .panicked (Ex.stopP 3)
end Go.Proofs.Ytkjflclkjdbmoaa
