/- The pure law behind ChunkCuts: for every input that its bounds let in, the law's function answers true. Conditions: none. -/
import Derived.Test.YtndmfbaffkekgaaPChunkCutsx1
set_option linter.unusedVariables false
namespace Go.Proofs.Ytndmfbaffkekgaa.Pure
open Go.RowKit Go.Proofs.Ytndmfbaffkekgaa.PChunkCuts Go.Proofs.YtndmfbaffkekgaaW.PrintWords Go.Proofs.YtndmfbaffkekgaaW.PrintLast

theorem wrap64_in (n : Int) (h : -9223372036854775808 ≤ n) (h2 : n < 9223372036854775808) : wrap64 n = n := by unfold wrap64; omega
/-- With fuel enough it answers v. -/
def Ev {α : Type} (g : Nat → Option α) (v : α) : Prop := ∃ k0, ∀ k, k0 ≤ k → g k = some v
theorem Ev.succ {α : Type} {g : Nat → Option α} {v : α} (h : Ev (fun k => g (k + 1)) v) : Ev g v := by
  obtain ⟨k0, h⟩ := h
  refine ⟨k0 + 1, fun k hk => ?_⟩
  obtain ⟨k, rfl⟩ : ∃ m, k = m + 1 := ⟨k - 1, by omega⟩
  exact h k (by omega)
theorem Ev.bind {α β : Type} {g : Nat → Option α} {f : Nat → α → Option β} {a : α} {v : β} (h1 : Ev g a) (h2 : Ev (fun k => f k a) v) : Ev (fun k => (g k).bind (f k)) v := by
  obtain ⟨k1, h1⟩ := h1
  obtain ⟨k2, h2⟩ := h2
  refine ⟨k1 + k2, fun k hk => ?_⟩
  show (g k).bind (f k) = some v
  rw [h1 k (by omega)]
  exact h2 k (by omega)
theorem Ev.const {α : Type} (v : α) : Ev (fun _ => some v) v := ⟨0, fun _ _ => rfl⟩
theorem Ev.get {α : Type} {g : Nat → Option α} {v : α} (h : Ev g v) : ∃ k, g k = some v := by
  obtain ⟨k0, h⟩ := h
  exact ⟨k0, h k0 (Nat.le_refl _)⟩
theorem Ev.of {α : Type} {g g' : Nat → Option α} {v : α} (h : Ev g v) (e : ∀ k, g' k = g k) : Ev g' v := by
  obtain ⟨k0, h⟩ := h
  exact ⟨k0, fun k hk => (e k).trans (h k hk)⟩
theorem wnat (i : Nat) (h : i < 9223372036854775807) : wrap64 ((i : Int) + 1) = ((i + 1 : Nat) : Int) := by rw [wrap64_in _ (by omega) (by omega)]; omega

open Ct in
theorem rcut_l0 (n : Nat) : ∀ (s : ByteArray) (acc : List ByteArray), s.size ≤ n → acc.length + n / 96 ≤ 1000 → Ev (fun k => cubbyref04_Cut.l0 k s acc) (acc ++ pcs s) := by
  induction n using Nat.strongRecOn with
  | _ n ih =>
    intro s acc hs ha
    refine Ev.succ ?_
    simp only [cubbyref04_Cut.l0]
    by_cases h : 96 < s.size
    · have h2 := ih (n - 96) (by omega) (s.extract 96 s.size) (acc ++ [s.extract 0 96]) (by rw [ByteArray.size_extract]; omega) (by rw [List.length_append, List.length_singleton]; omega)
      rw [List.append_assoc, List.singleton_append, ← pcs_hi s h] at h2
      exact h2.of fun k => by rw [if_pos (by omega), if_pos (by omega), if_pos (by omega), if_pos (by omega)]
    · rw [pcs_lo s h]
      exact (Ev.const _).of fun k => by rw [if_neg (by omega), if_pos (by omega)]
theorem rd_app (A B : List ByteArray) (x : ByteArray) : rdOf ByteArray.empty (A ++ x :: B) (A.length : Int) = x := by unfold rdOf; simp
theorem cut_two (u : ByteArray) (h : 96 < u.size) : u.extract 0 96 ++ u.extract 96 u.size = u := by
  apply ByteArray.ext
  rw [ByteArray.data_append, ByteArray.data_extract, ByteArray.data_extract]
  have hz : u.size = u.data.size := rfl
  rw [Array.extract_append_extract, hz]
  simp
  exact .inr (by omega)
open Ct in
theorem law_l0 (s : ByteArray) (hs : s.size ≤ 4096) (n : Nat) : ∀ (u t : ByteArray) (A L : List ByteArray), u.size ≤ n → L = A ++ pcs u → L.length ≤ 1000 → t ++ u = s → Ev (fun k => cubbylaw04_ChunkCuts.l0 k s L L t (A.length : Int)) true := by
  induction n using Nat.strongRecOn with
  | _ n ih =>
    intro u t A L hu hL hl ht
    have hz : t.size + u.size = s.size := by rw [← ht, ByteArray.size_append]
    refine Ev.succ ?_
    simp only [cubbylaw04_ChunkCuts.l0]
    have hw : wrap64 ((A.length : Int) + 1) = ((A.length + 1 : Nat) : Int) := by
      refine wnat _ ?_
      have := congrArg List.length hL
      rw [List.length_append] at this
      omega
    have hlen := congrArg List.length hL
    rw [List.length_append] at hlen
    have hp := pcs_pos u
    by_cases h : 96 < u.size
    · have h2 := ih (n - 96) (by omega) (u.extract 96 u.size) (t ++ u.extract 0 96) (A ++ [u.extract 0 96]) L (by rw [ByteArray.size_extract]; omega) (by rw [hL, pcs_hi u h, List.append_assoc, List.singleton_append]) hl (by rw [ByteArray.append_assoc, cut_two u h, ht])
      rw [List.length_append, List.length_singleton] at h2
      have hrd : rdOf ByteArray.empty L (A.length : Int) = u.extract 0 96 := by rw [hL, pcs_hi u h, rd_app]
      have hp2 := pcs_pos (u.extract 96 u.size)
      have hl2 : (pcs u).length = (pcs (u.extract 96 u.size)).length + 1 := by rw [pcs_hi u h, List.length_cons]
      have hs2 : (u.extract 0 96).size = 96 := by rw [ByteArray.size_extract]; omega
      refine h2.of fun k => ?_
      rw [hrd, hw, if_pos (by omega), if_pos (by omega), if_pos (by omega), if_pos trivial, if_pos (by omega), if_pos (by omega), if_neg (by omega), if_pos (by omega)]
    · have hrd : rdOf ByteArray.empty L (A.length : Int) = u := by rw [hL, pcs_lo u h, rd_app]
      have hl2 : (pcs u).length = 1 := by rw [pcs_lo u h]; rfl
      refine Ev.of (g := fun k => cubbylaw04_ChunkCuts.l0 k s L L s ((A.length + 1 : Nat) : Int)) ?_ fun k => ?_
      · refine Ev.succ ((Ev.const _).of fun k => ?_)
        simp only [cubbylaw04_ChunkCuts.l0]
        rw [if_neg (by omega)]
        simp
      · rw [hrd, hw, if_pos (by omega), if_pos (by omega), if_pos (by omega), if_pos trivial, if_neg (by omega), if_neg (by omega), if_pos (by omega), ht]
open Ct in
theorem ChunkCuts : cubbylaw04_ChunkCuts.Pure := by
  intro s _
  by_cases h : (s.size : Int) > 4096
  · exact ⟨0, by unfold cubbylaw04_ChunkCuts.f; rw [if_pos h]⟩
  · refine Ev.get (g := fun k => cubbylaw04_ChunkCuts.f k s) ?_
    unfold cubbylaw04_ChunkCuts.f
    refine Ev.of ?_ fun k => if_neg h
    have h1 : Ev (fun _ : Nat => chunk_Cut.f s) (pcs s) := (Ev.const _).of fun k => by unfold chunk_Cut.f; rw [if_pos (by omega)]
    have h2 : Ev (fun k => cubbyref04_Cut.f k s) (pcs s) := rcut_l0 s.size s [] (Nat.le_refl _) (by simp; omega)
    refine Ev.bind h1 (Ev.bind h2 ?_)
    have hp := pcs_pos s
    have hl := pcs_len s.size s (Nat.le_refl _)
    have h3 := law_l0 s (by omega) s.size s ByteArray.empty [] (pcs s) (Nat.le_refl _) rfl (by omega) ByteArray.empty_append
    refine Ev.of (g := fun k => cubbylaw04_ChunkCuts.j0 k s (pcs s) (pcs s) false) ?_ fun k => ?_
    · refine Ev.succ ?_
      simp only [cubbylaw04_ChunkCuts.j0]
      exact h3.of fun k => by rw [if_neg (by decide)]; rfl
    · rw [if_pos rfl, show (((pcs s).length : Int) == 0) = false by simp; intro hh; rw [hh] at hp; simp at hp]

end Go.Proofs.Ytndmfbaffkekgaa.Pure
