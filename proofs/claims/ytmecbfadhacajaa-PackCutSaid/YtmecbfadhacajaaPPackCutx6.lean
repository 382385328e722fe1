-- By a program of this session (wip/tools/mkprint.py), for this claim.
import Derived.Test.YtmecbfadhacajaaPPackCutx0
import Derived.Test.YtmecbfadhacajaaPPackCutx3
import Derived.Test.YtmecbfadhacajaaPPackCutx4
import Derived.Test.YtmecbfadhacajaaPPackCutx5
namespace Go.Proofs.Ytmecbfadhacajaa.PPackCut
open Go.RowKit Go.Proofs.YtmecbfadhacajaaW.PrintWords Go.Proofs.YtmecbfadhacajaaW.PrintLast Go.Proofs.YtmecbfadhacajaaW.PrintMore
attribute [local go_sem] max2_int min2_int max_two min_two max_three min_three max_four min_four   -- for this text's walks alone
set_option linter.unusedVariables false
set_option linter.unusedSimpArgs false

/-! ### pack_Unrecord: function 20 (by hand) -/
/-- Unrecord's own variables, as they stand: the reader g, the result's variable b0, the reader's variable br, the record bx, the error be. -/
structure pack_Unrecord.Loc (w0 : World) (s : ByteArray) (g b0 br bx be : Nat) (a kd : Int) (key val : ByteArray) (e : Int) (W : World) : Prop where
  rd : IsS60 w0 W g s a
  bl : Below w0.heap.size w0 W
  h0 : W.heap[b0]? = some (.cells #[.int .i64 0, .string ⟨#[]⟩, .string ⟨#[]⟩] 48 (0, 0))
  hr : W.heap[br]? = some (.cells #[.pointer (some ⟨g, 0, none⟩)] 39 (0, 0))
  hx : W.heap[bx]? = some (.cells #[.int .i64 kd, .string key, .string val] 48 (0, 0))
  he : W.heap[be]? = some (.cells #[.int .i64 e] 41 (0, 0))
  lo : w0.heap.size ≤ b0 ∧ w0.heap.size ≤ br ∧ w0.heap.size ≤ bx ∧ w0.heap.size ≤ be
  ne : b0 ≠ br ∧ b0 ≠ bx ∧ b0 ≠ be ∧ br ≠ bx ∧ br ≠ be ∧ bx ≠ be ∧ g ≠ b0 ∧ g ≠ br ∧ g ≠ bx ∧ g ≠ be
section
variable {w0 : World} {s : ByteArray} {g b0 br bx be : Nat} {a kd : Int} {key val : ByteArray} {e : Int} {W : World}
theorem pack_Unrecord.Loc.setE (h : pack_Unrecord.Loc w0 s g b0 br bx be a kd key val e W) (e' : Int) : pack_Unrecord.Loc w0 s g b0 br bx be a kd key val e' (W.setCell ⟨be, 0, none⟩ (.int .i64 e')) := by
  obtain ⟨h1, h2, h3, h4, h5, h6, h7, h8⟩ := h
  exact ⟨h1.far (by show g ≠ be; omega) _, h2.setCell (by show _ ≤ be; omega) _, blk_far h3 (by show b0 ≠ be; omega) _, blk_far h4 (by show br ≠ be; omega) _, blk_far h5 (by show bx ≠ be; omega) _, blk_set h6 0 _, h7, h8⟩
theorem pack_Unrecord.Loc.setKd (h : pack_Unrecord.Loc w0 s g b0 br bx be a kd key val e W) (x : Int) : pack_Unrecord.Loc w0 s g b0 br bx be a x key val e (W.setCell ⟨bx, 0, none⟩ (.int .i64 x)) := by
  obtain ⟨h1, h2, h3, h4, h5, h6, h7, h8⟩ := h
  exact ⟨h1.far (by show g ≠ bx; omega) _, h2.setCell (by show _ ≤ bx; omega) _, blk_far h3 (by show b0 ≠ bx; omega) _, blk_far h4 (by show br ≠ bx; omega) _, blk_set h5 0 _, blk_far h6 (by show be ≠ bx; omega) _, h7, h8⟩
theorem pack_Unrecord.Loc.setKey (h : pack_Unrecord.Loc w0 s g b0 br bx be a kd key val e W) (x : ByteArray) : pack_Unrecord.Loc w0 s g b0 br bx be a kd x val e (W.setCell ⟨bx, 1, none⟩ (.string x)) := by
  obtain ⟨h1, h2, h3, h4, h5, h6, h7, h8⟩ := h
  exact ⟨h1.far (by show g ≠ bx; omega) _, h2.setCell (by show _ ≤ bx; omega) _, blk_far h3 (by show b0 ≠ bx; omega) _, blk_far h4 (by show br ≠ bx; omega) _, blk_set h5 1 _, blk_far h6 (by show be ≠ bx; omega) _, h7, h8⟩
theorem pack_Unrecord.Loc.setVal (h : pack_Unrecord.Loc w0 s g b0 br bx be a kd key val e W) (x : ByteArray) : pack_Unrecord.Loc w0 s g b0 br bx be a kd key x e (W.setCell ⟨bx, 2, none⟩ (.string x)) := by
  obtain ⟨h1, h2, h3, h4, h5, h6, h7, h8⟩ := h
  exact ⟨h1.far (by show g ≠ bx; omega) _, h2.setCell (by show _ ≤ bx; omega) _, blk_far h3 (by show b0 ≠ bx; omega) _, blk_far h4 (by show br ≠ bx; omega) _, blk_set h5 2 _, blk_far h6 (by show be ≠ bx; omega) _, h7, h8⟩
theorem pack_Unrecord.Loc.step (h : pack_Unrecord.Loc w0 s g b0 br bx be a kd key val e W) {W' : World} {a' : Int} (hi : IsS60 w0 W' g s a') (hb : Below w0.heap.size w0 W') (hk : KeepBut W W' g none) : pack_Unrecord.Loc w0 s g b0 br bx be a' kd key val e W' := by
  obtain ⟨h1, h2, h3, h4, h5, h6, h7, h8⟩ := h
  exact ⟨hi, hb, hk.blk h3 (by omega) (by simp), hk.blk h4 (by omega) (by simp), hk.blk h5 (by omega) (by simp), hk.blk h6 (by omega) (by simp), h7, h8⟩
theorem pack_Unrecord.Loc.cells (h : pack_Unrecord.Loc w0 s g b0 br bx be a kd key val e W) : W.cell? ⟨b0, 0, none⟩ = some (.int .i64 0) ∧ W.cell? ⟨b0, 1, none⟩ = some (.string ⟨#[]⟩) ∧ W.cell? ⟨b0, 2, none⟩ = some (.string ⟨#[]⟩) ∧ W.frozen? ⟨b0, 0, none⟩ = false ∧ W.frozen? ⟨b0, 1, none⟩ = false ∧ W.frozen? ⟨b0, 2, none⟩ = false ∧ W.cell? ⟨br, 0, none⟩ = some (.pointer (some ⟨g, 0, none⟩)) ∧
    W.cell? ⟨bx, 0, none⟩ = some (.int .i64 kd) ∧ W.cell? ⟨bx, 1, none⟩ = some (.string key) ∧ W.cell? ⟨bx, 2, none⟩ = some (.string val) ∧ W.frozen? ⟨bx, 0, none⟩ = false ∧ W.frozen? ⟨bx, 1, none⟩ = false ∧ W.frozen? ⟨bx, 2, none⟩ = false ∧ W.cell? ⟨be, 0, none⟩ = some (.int .i64 e) ∧ W.frozen? ⟨be, 0, none⟩ = false :=
  ⟨blk_cell h.h0 0, blk_cell h.h0 1, blk_cell h.h0 2, blk_frozen h.h0 0, blk_frozen h.h0 1, blk_frozen h.h0 2, blk_cell h.hr 0, blk_cell h.hx 0, blk_cell h.hx 1, blk_cell h.hx 2, blk_frozen h.hx 0, blk_frozen h.hx 1, blk_frozen h.hx 2, blk_cell h.he 0, blk_frozen h.he 0⟩
theorem pack_Unrecord.Loc.dist (h : pack_Unrecord.Loc w0 s g b0 br bx be a kd key val e W) : ¬ b0 = br ∧ ¬ b0 = bx ∧ ¬ b0 = be ∧ ¬ br = bx ∧ ¬ br = be ∧ ¬ bx = be ∧ ¬ g = b0 ∧ ¬ g = br ∧ ¬ g = bx ∧ ¬ g = be ∧ ¬ be = b0 ∧ ¬ bx = b0 ∧ ¬ be = bx ∧ ¬ be = br ∧ ¬ bx = br ∧ ¬ br = b0 := by have := h.ne; omega
theorem pack_Unrecord.Loc.first {w w1 w4 : World} {u : Int} (hG : w1.heap[w.heap.size]? = some (.cells #[.int .i64 0, .string ⟨#[]⟩, .string ⟨#[]⟩] 48 (0, 0))) (hR : IsS60 w w1 g s a) (hB : Below w.heap.size w w1)
    (hi : IsS60 w w4 g s u) (hb : Below w.heap.size w w4) (hk : KeepBut (((w1.alloc (.cells #[.pointer (some ⟨g, 0, none⟩)] 39)).alloc (.cells #[.int .i64 0, .string ⟨#[]⟩, .string ⟨#[]⟩] 48)).alloc (.cells #[.int .i64 0] 41)) w4 g none) :
    pack_Unrecord.Loc w s g w.heap.size w1.heap.size (w1.heap.size + 1) (w1.heap.size + 1 + 1) u 0 ⟨#[]⟩ ⟨#[]⟩ 0 w4 := by
  have h1 := hR.lt
  have h2 : w.heap.size < w1.heap.size := blk_lt hG
  have h3 : g ≠ w.heap.size := hR.ne_blk hG (by decide)
  exact ⟨hi, hb, hk.blk (Hw.blk_al (Hw.blk_al (Hw.blk_al hG _) _) _) (by omega) (by simp), hk.blk (Hw.blk_al (Hw.blk_al (Hw.blk_nw w1 _) _) _) (by omega) (by simp), hk.blk (Hw.blk_al (Hw.blk_nw1 w1 _ _) _) (by omega) (by simp), hk.blk (Hw.blk_nw2 w1 _ _ _) (by omega) (by simp), by omega, by omega⟩
theorem pack_Unrecord.Loc.fin (h : pack_Unrecord.Loc w0 s g b0 br bx be a kd key val e W) (x : Int) (y z : ByteArray) : (((W.setCell ⟨b0, 0, none⟩ (.int .i64 x)).setCell ⟨b0, 1, none⟩ (.string y)).setCell ⟨b0, 2, none⟩ (.string z)).heap[b0]? = some (.cells #[.int .i64 x, .string y, .string z] 48 (0, 0)) ∧ Below w0.heap.size w0 (((W.setCell ⟨b0, 0, none⟩ (.int .i64 x)).setCell ⟨b0, 1, none⟩ (.string y)).setCell ⟨b0, 2, none⟩ (.string z)) := by
  refine ⟨(blk_set (blk_set (blk_set h.h0 0 _) 1 _) 2 _).trans rfl, ((h.bl.setCell ?_ _).setCell ?_ _).setCell ?_ _⟩ <;> exact h.lo.1
set_option maxRecDepth 100000 in
theorem pack_Unrecord.d_skip (j : Nat) (h : pack_Unrecord.Loc w0 s g b0 br bx be a kd key val e W) (he : (e == 0) = false) :
    Calls Try.prog 25 #[.pointer (some ⟨bx, j, none⟩), .pointer (some ⟨be, 0, none⟩), .pointer (some ⟨br, 0, none⟩)] W fun r W' => r = .returned (.tuple #[]) ∧ W' = W := by
  have c1 := h.cells.2.2.2.2.2.2.2.2.2.2.2.2.2.1
  clear h
  go_enter Try.func25, Try.ntmps25
  go_wp2
  go_end0
  exact ⟨rfl, rfl⟩
/-- What a reader that stands at a reads as a text. -/
def pack_Unrecord.tx (s : ByteArray) (a : Nat) : List UInt8 × Int × Nat := Hw.rtext (s.data.toList.drop a)
theorem pack_Unrecord.tx_call (hs : s.size ≤ 140737488355328) (A : Nat) (hA : A ≤ s.size) (hi : IsS60 w0 W g s (A : Int)) (hb : Below w0.heap.size w0 W) :
    Calls Try.prog 15 #[.pointer (some ⟨g, 0, none⟩)] W fun r W' => r = .returned (.tuple #[.string ⟨(pack_Unrecord.tx s A).1.toArray⟩, .int .i64 (pack_Unrecord.tx s A).2.1]) ∧ IsS60 w0 W' g s ((A + (pack_Unrecord.tx s A).2.2 : Nat) : Int) ∧ Below w0.heap.size w0 W' ∧ KeepBut W W' g none := by
  obtain ⟨k, hk⟩ := (pack_Reader_Text.text_ev s A hs hA).rounds
  exact pack_Reader_Text.calls k g _ _ _ _ _ _ w0 W hi hb hk
set_option maxRecDepth 100000 in
theorem pack_Unrecord.d_key (hs : s.size ≤ 140737488355328) (A : Nat) (hA : A ≤ s.size) (h : pack_Unrecord.Loc w0 s g b0 br bx be (A : Int) kd key val 0 W) :
    Calls Try.prog 25 #[.pointer (some ⟨bx, 1, none⟩), .pointer (some ⟨be, 0, none⟩), .pointer (some ⟨br, 0, none⟩)] W fun r W' => r = .returned (.tuple #[]) ∧ pack_Unrecord.Loc w0 s g b0 br bx be ((A + (pack_Unrecord.tx s A).2.2 : Nat) : Int) kd ⟨(pack_Unrecord.tx s A).1.toArray⟩ val (pack_Unrecord.tx s A).2.1 W' := by
  have HT := Aside0.mk (pack_Unrecord.tx_call hs A hA h.rd h.bl)
  obtain ⟨_, _, _, _, _, _, c1, _, _, _, _, _, _, c2, _⟩ := h.cells
  have hne : ¬ be = bx := fun q => h.ne.2.2.2.2.2.1 q.symm
  have HH := Aside0.mk h
  clear h hs hA
  generalize pack_Unrecord.tx s A = T at *
  obtain ⟨t, e', u⟩ := T
  simp only at HT ⊢
  go_enter Try.func25, Try.ntmps25
  go_wp2_with (go_at_call 15; refine HT.out.mono ?_; rintro r w4 ⟨rfl, hi4, hb4, hk4⟩; have L4 := Aside0.mk (HH.out.step hi4 hb4 hk4); obtain ⟨_, _, _, _, _, _, _, _, c3, _, _, f3, _, c4, f4⟩ := L4.out.cells; clear hi4 hb4 hk4)
  go_end0
  exact ⟨rfl, (L4.out.setKey _).setE _⟩
set_option maxRecDepth 100000 in
theorem pack_Unrecord.d_val (hs : s.size ≤ 140737488355328) (A : Nat) (hA : A ≤ s.size) (h : pack_Unrecord.Loc w0 s g b0 br bx be (A : Int) kd key val 0 W) :
    Calls Try.prog 25 #[.pointer (some ⟨bx, 2, none⟩), .pointer (some ⟨be, 0, none⟩), .pointer (some ⟨br, 0, none⟩)] W fun r W' => r = .returned (.tuple #[]) ∧ pack_Unrecord.Loc w0 s g b0 br bx be ((A + (pack_Unrecord.tx s A).2.2 : Nat) : Int) kd key ⟨(pack_Unrecord.tx s A).1.toArray⟩ (pack_Unrecord.tx s A).2.1 W' := by
  have HT := Aside0.mk (pack_Unrecord.tx_call hs A hA h.rd h.bl)
  obtain ⟨_, _, _, _, _, _, c1, _, _, _, _, _, _, c2, _⟩ := h.cells
  have hne : ¬ be = bx := fun q => h.ne.2.2.2.2.2.1 q.symm
  have HH := Aside0.mk h
  clear h hs hA
  generalize pack_Unrecord.tx s A = T at *
  obtain ⟨t, e', u⟩ := T
  simp only at HT ⊢
  go_enter Try.func25, Try.ntmps25
  go_wp2_with (go_at_call 15; refine HT.out.mono ?_; rintro r w4 ⟨rfl, hi4, hb4, hk4⟩; have L4 := Aside0.mk (HH.out.step hi4 hb4 hk4); obtain ⟨_, _, _, _, _, _, _, _, _, c3, _, _, f3, c4, f4⟩ := L4.out.cells; clear hi4 hb4 hk4)
  go_end0
  exact ⟨rfl, (L4.out.setVal _).setE _⟩
end
set_option maxHeartbeats 4000000 in
set_option maxRecDepth 100000 in
theorem pack_Unrecord.calls (s : ByteArray) (w : World) (hs : s.size ≤ 140737488355328) :
    Calls Try.prog 20 #[.string s] w fun e w' => e = .returned (.tuple #[.agg #[.int .i64 (Hw.unrec s.data.toList).1, .string ⟨(Hw.unrec s.data.toList).2.1.toArray⟩, .string ⟨(Hw.unrec s.data.toList).2.2.1.toArray⟩], .int .i64 (Hw.unrec s.data.toList).2.2.2]) ∧ Below w.heap.size w w' := by
  have HR : Aside0 (Below w.heap.size w (w.alloc (.cells #[.int .i64 0, .string ⟨#[]⟩, .string ⟨#[]⟩] 48))) := ⟨below_alloc (Below.refl _ _) _⟩
  have HN : Aside0 (∀ (g : Nat) (W : World), IsS60 w W g s 0 → Below w.heap.size w W → Calls Try.prog 16 #[.pointer (some ⟨g, 0, none⟩)] W fun r W' => r = .returned (.tuple #[.int .i64 ((Hw.rnum s.data.toList 0 0).1 : Int), .int .i64 (Hw.rnum s.data.toList 0 0).2.1]) ∧ IsS60 w W' g s ((Hw.rnum s.data.toList 0 0).2.2 : Int) ∧ Below w.heap.size w W' ∧ KeepBut W W' g none) := ⟨fun g W h1 h2 => by
    obtain ⟨k, hk⟩ := (pack_Reader_Text.num_ev s 0 hs (Nat.zero_le _)).rounds
    rw [List.drop_zero, Nat.zero_add] at hk
    exact pack_Reader_Number.calls k g _ _ _ _ _ _ w W h1 h2 hk⟩
  have HK : Aside0 (∀ (b0 g br bx be : Nat) (kd : Int) (val : ByteArray) (A : Nat) (W : World), A ≤ s.size → pack_Unrecord.Loc w s g b0 br bx be (A : Int) kd ⟨#[]⟩ val 0 W → Calls Try.prog 25 #[.pointer (some ⟨bx, 1, none⟩), .pointer (some ⟨be, 0, none⟩), .pointer (some ⟨br, 0, none⟩)] W fun r W' => r = .returned (.tuple #[]) ∧ pack_Unrecord.Loc w s g b0 br bx be ((A + (pack_Unrecord.tx s A).2.2 : Nat) : Int) kd ⟨(pack_Unrecord.tx s A).1.toArray⟩ val (pack_Unrecord.tx s A).2.1 W') := ⟨fun b0 g br bx be kd val A W h1 h2 => pack_Unrecord.d_key hs A h1 h2⟩
  have HV : Aside0 (∀ (b0 g br bx be : Nat) (kd : Int) (key : ByteArray) (A : Nat) (W : World), A ≤ s.size → pack_Unrecord.Loc w s g b0 br bx be (A : Int) kd key ⟨#[]⟩ 0 W → Calls Try.prog 25 #[.pointer (some ⟨bx, 2, none⟩), .pointer (some ⟨be, 0, none⟩), .pointer (some ⟨br, 0, none⟩)] W fun r W' => r = .returned (.tuple #[]) ∧ pack_Unrecord.Loc w s g b0 br bx be ((A + (pack_Unrecord.tx s A).2.2 : Nat) : Int) kd key ⟨(pack_Unrecord.tx s A).1.toArray⟩ (pack_Unrecord.tx s A).2.1 W') := ⟨fun b0 g br bx be kd key A W h1 h2 => pack_Unrecord.d_val hs A h1 h2⟩
  have HE : Aside0 (∀ (g : Nat) (a e : Int) (W : World), (if a < (s.size : Int) then 21 else 0) = e → IsS60 w W g s a → Below w.heap.size w W → Calls Try.prog 17 #[.pointer (some ⟨g, 0, none⟩)] W fun r W' => r = .returned (.int .i64 e) ∧ IsS60 w W' g s a ∧ Below w.heap.size w W' ∧ KeepBut W W' g none) := ⟨fun g a e W he h1 h2 => by
    refine (pack_Reader_End.calls g _ _ e s a w W h1 h2 ?_)
    unfold pack_Reader_End.f
    rw [← he]
    split <;> rfl⟩
  have hu := Hw.rnum_used s.data.toList 0 0
  have HU : Aside0 (Hw.unrec s.data.toList = Hw.unrec s.data.toList) := ⟨rfl⟩
  rw [data_length] at hu
  have hl := data_length s
  unfold Hw.unrec
  generalize hR : Hw.rnum s.data.toList 0 0 = R at *
  obtain ⟨n, e0, u⟩ := R
  simp only at *
  have hmf : ∀ (fn : Fn) (first cap : Array Value) (w : World), (Instr.makeFunc fn first cap).run Try.prog w = .ok (.func fn first cap) w := fun _ _ _ _ => rfl
  have hul : u ≤ s.size := by omega
  have hn0 : e0 ≠ 0 → n = 0 := fun h => (hu.2.1 h).1
  clear hu hR HU hl
  by_cases he : e0 = 0
  · subst he
    rw [if_pos rfl]
    clear hn0
    have HK1 := Aside0.mk (fun b0 g br bx be kd val W h => HK.out b0 g br bx be kd val u W hul h)
    have hu1 := Hw.rtext_used (s.data.toList.drop u)
    rw [List.length_drop, data_length] at hu1
    have hul2 : u + (pack_Unrecord.tx s u).2.2 ≤ s.size := by have : (pack_Unrecord.tx s u).2.2 = (Hw.rtext (s.data.toList.drop u)).2.2 := rfl; omega
    have HV1 := Aside0.mk (fun b0 g br bx be kd key W h => HV.out b0 g br bx be kd key (u + (pack_Unrecord.tx s u).2.2) W hul2 h)
    have hu2 := Hw.rtext_used (s.data.toList.drop (u + (pack_Unrecord.tx s u).2.2))
    clear hul hul2 HK HV
    have hlen : s.data.toList.length = s.size := data_length s
    by_cases hk : n = 1 ∨ n = 2
    · rw [if_pos hk]
      change Calls _ _ _ _ (fun e w' => e = .returned (.tuple #[.agg #[.int .i64 (Hw.unrec1 n (pack_Unrecord.tx s u) (pack_Unrecord.tx s (u + (pack_Unrecord.tx s u).2.2)) u s.data.toList.length).1, .string ⟨(Hw.unrec1 n (pack_Unrecord.tx s u) (pack_Unrecord.tx s (u + (pack_Unrecord.tx s u).2.2)) u s.data.toList.length).2.1.toArray⟩, .string ⟨(Hw.unrec1 n (pack_Unrecord.tx s u) (pack_Unrecord.tx s (u + (pack_Unrecord.tx s u).2.2)) u s.data.toList.length).2.2.1.toArray⟩], .int .i64 (Hw.unrec1 n (pack_Unrecord.tx s u) (pack_Unrecord.tx s (u + (pack_Unrecord.tx s u).2.2)) u s.data.toList.length).2.2.2]) ∧ Below w.heap.size w w')
      clear hu1 hu2
      generalize pack_Unrecord.tx s (u + (pack_Unrecord.tx s u).2.2) = V at *
      generalize pack_Unrecord.tx s u = T at *
      obtain ⟨t, e1, u1⟩ := T
      obtain ⟨v, e2, u2⟩ := V
      unfold Hw.unrec1
      rw [hlen]
      clear hlen
      simp only at *
      by_cases h1 : e1 = 0
      · rw [if_pos h1]
        subst h1
        rcases hk with rfl | rfl
        · rw [if_pos rfl]
          by_cases h2 : e2 = 0
          · rw [if_pos h2]
            subst h2
            by_cases h3 : u + u1 + u2 < s.size
            · rw [if_pos h3]
              have HEE := Aside0.mk (show (if ((u + u1 + u2 : Nat) : Int) < (s.size : Int) then (21 : Int) else 0) = 21 from if_pos (by omega))
              clear h3
              go_enter Try.func20, Try.ntmps20
              go_wp2_with (first | (go_at_call 14; refine (pack_Read.calls s s 0 w _ HR.out rfl).mono ?_; rintro r w1 ⟨g, rfl, h1, b1, b1'⟩; have G1 := Aside0.mk ((b1'.block w.heap.size (by simp)).trans (Hw.blk_nw w _)); have R1 := Aside0.mk h1; have B1 := Aside0.mk b1; clear h1 b1 b1') | (go_at_call 16; refine (HN.out g _ (by repeat' (first | exact R1.out | apply IsS60.alloc)) (by repeat' (first | exact B1.out | apply below_alloc))).mono ?_; rintro r w4 ⟨rfl, hi4, hb4, hk4⟩; have L0 := pack_Unrecord.Loc.first G1.out R1.out B1.out hi4 hb4 hk4; have L := Aside0.mk ((L0.setKd 1).setE 0); have D := L0.dist; obtain ⟨c0, c1, c2, f0, f1, f2, c3, c4, c5, c6, f4, f5, f6, c7, f7⟩ := L0.cells; clear L0 hi4 hb4 hk4) | (go_at_call 25; refine (HV1.out _ _ _ _ _ _ _ _ L5.out).mono ?_; rintro r w6 ⟨rfl, h6⟩; have L6 := Aside0.mk h6; obtain ⟨c0, c1, c2, f0, f1, f2, c3, c4, c5, c6, f4, f5, f6, c7, f7⟩ := h6.cells; clear h6) | (go_at_call 25; refine (HK1.out _ _ _ _ _ _ _ _ L.out).mono ?_; rintro r w5 ⟨rfl, h5⟩; have L5 := Aside0.mk h5; obtain ⟨c0, c1, c2, f0, f1, f2, c3, c4, c5, c6, f4, f5, f6, c7, f7⟩ := h5.cells; clear h5) | (go_at_call 17; refine (HE.out g _ _ _ HEE.out L6.out.rd L6.out.bl).mono ?_; rintro r w7 ⟨rfl, hi7, hb7, hk7⟩; have L7 := Aside0.mk (L6.out.step hi7 hb7 hk7); obtain ⟨c0, c1, c2, f0, f1, f2, c3, c4, c5, c6, f4, f5, f6, c7, f7⟩ := L7.out.cells; clear hi7 hb7 hk7))
              go_region
              all_goals go_wp2
              all_goals
                have F := (L7.out.setE 21).fin 0 ⟨#[]⟩ ⟨#[]⟩
                exact bodyPost_ret (results_ct rfl _ _ _ _ _ (0, 0) _ rfl F.1 Try.underlying48 rfl (by kernel_rfl)) rfl ⟨rfl, by first | exact F.2 | exact Below.drew F.2⟩

            · rw [if_neg h3]
              have HEE := Aside0.mk (show (if ((u + u1 + u2 : Nat) : Int) < (s.size : Int) then (21 : Int) else 0) = 0 from if_neg (by omega))
              clear h3
              go_enter Try.func20, Try.ntmps20
              go_wp2_with (first | (go_at_call 14; refine (pack_Read.calls s s 0 w _ HR.out rfl).mono ?_; rintro r w1 ⟨g, rfl, h1, b1, b1'⟩; have G1 := Aside0.mk ((b1'.block w.heap.size (by simp)).trans (Hw.blk_nw w _)); have R1 := Aside0.mk h1; have B1 := Aside0.mk b1; clear h1 b1 b1') | (go_at_call 16; refine (HN.out g _ (by repeat' (first | exact R1.out | apply IsS60.alloc)) (by repeat' (first | exact B1.out | apply below_alloc))).mono ?_; rintro r w4 ⟨rfl, hi4, hb4, hk4⟩; have L0 := pack_Unrecord.Loc.first G1.out R1.out B1.out hi4 hb4 hk4; have L := Aside0.mk ((L0.setKd 1).setE 0); have D := L0.dist; obtain ⟨c0, c1, c2, f0, f1, f2, c3, c4, c5, c6, f4, f5, f6, c7, f7⟩ := L0.cells; clear L0 hi4 hb4 hk4) | (go_at_call 25; refine (HV1.out _ _ _ _ _ _ _ _ L5.out).mono ?_; rintro r w6 ⟨rfl, h6⟩; have L6 := Aside0.mk h6; obtain ⟨c0, c1, c2, f0, f1, f2, c3, c4, c5, c6, f4, f5, f6, c7, f7⟩ := h6.cells; clear h6) | (go_at_call 25; refine (HK1.out _ _ _ _ _ _ _ _ L.out).mono ?_; rintro r w5 ⟨rfl, h5⟩; have L5 := Aside0.mk h5; obtain ⟨c0, c1, c2, f0, f1, f2, c3, c4, c5, c6, f4, f5, f6, c7, f7⟩ := h5.cells; clear h5) | (go_at_call 17; refine (HE.out g _ _ _ HEE.out L6.out.rd L6.out.bl).mono ?_; rintro r w7 ⟨rfl, hi7, hb7, hk7⟩; have L7 := Aside0.mk (L6.out.step hi7 hb7 hk7); obtain ⟨c0, c1, c2, f0, f1, f2, c3, c4, c5, c6, f4, f5, f6, c7, f7⟩ := L7.out.cells; clear hi7 hb7 hk7))
              all_goals
                have F := (L7.out.setE 0).fin 1 ⟨t.toArray⟩ ⟨v.toArray⟩
                exact bodyPost_ret (results_ct rfl _ _ _ _ _ (0, 0) _ rfl F.1 Try.underlying48 rfl (by kernel_rfl)) rfl ⟨rfl, by first | exact F.2 | exact Below.drew F.2⟩

          · rw [if_neg h2]
            have he1 : (e2 == 0) = false := by simpa using h2
            have he2 : (e2 != 0) = true := by simpa using h2
            clear h2
            go_enter Try.func20, Try.ntmps20
            go_wp2_with (first | (go_at_call 14; refine (pack_Read.calls s s 0 w _ HR.out rfl).mono ?_; rintro r w1 ⟨g, rfl, h1, b1, b1'⟩; have G1 := Aside0.mk ((b1'.block w.heap.size (by simp)).trans (Hw.blk_nw w _)); have R1 := Aside0.mk h1; have B1 := Aside0.mk b1; clear h1 b1 b1') | (go_at_call 16; refine (HN.out g _ (by repeat' (first | exact R1.out | apply IsS60.alloc)) (by repeat' (first | exact B1.out | apply below_alloc))).mono ?_; rintro r w4 ⟨rfl, hi4, hb4, hk4⟩; have L0 := pack_Unrecord.Loc.first G1.out R1.out B1.out hi4 hb4 hk4; have L := Aside0.mk ((L0.setKd 1).setE 0); have D := L0.dist; obtain ⟨c0, c1, c2, f0, f1, f2, c3, c4, c5, c6, f4, f5, f6, c7, f7⟩ := L0.cells; clear L0 hi4 hb4 hk4) | (go_at_call 25; refine (HV1.out _ _ _ _ _ _ _ _ L5.out).mono ?_; rintro r w6 ⟨rfl, h6⟩; have L6 := Aside0.mk h6; obtain ⟨c0, c1, c2, f0, f1, f2, c3, c4, c5, c6, f4, f5, f6, c7, f7⟩ := h6.cells; clear h6) | (go_at_call 25; refine (HK1.out _ _ _ _ _ _ _ _ L.out).mono ?_; rintro r w5 ⟨rfl, h5⟩; have L5 := Aside0.mk h5; obtain ⟨c0, c1, c2, f0, f1, f2, c3, c4, c5, c6, f4, f5, f6, c7, f7⟩ := h5.cells; clear h5))
            go_region
            all_goals go_wp2
            all_goals
              have F := L6.out.fin 0 ⟨#[]⟩ ⟨#[]⟩
              exact bodyPost_ret (results_ct rfl _ _ _ _ _ (0, 0) _ rfl F.1 Try.underlying48 rfl (by kernel_rfl)) rfl ⟨rfl, by first | exact F.2 | exact Below.drew F.2⟩

        · rw [if_neg (by decide)]
          by_cases h3 : u + u1 < s.size
          · rw [if_pos h3]
            have HEE := Aside0.mk (show (if ((u + u1 : Nat) : Int) < (s.size : Int) then (21 : Int) else 0) = 21 from if_pos (by omega))
            clear h3
            go_enter Try.func20, Try.ntmps20
            go_wp2_with (first | (go_at_call 14; refine (pack_Read.calls s s 0 w _ HR.out rfl).mono ?_; rintro r w1 ⟨g, rfl, h1, b1, b1'⟩; have G1 := Aside0.mk ((b1'.block w.heap.size (by simp)).trans (Hw.blk_nw w _)); have R1 := Aside0.mk h1; have B1 := Aside0.mk b1; clear h1 b1 b1') | (go_at_call 16; refine (HN.out g _ (by repeat' (first | exact R1.out | apply IsS60.alloc)) (by repeat' (first | exact B1.out | apply below_alloc))).mono ?_; rintro r w4 ⟨rfl, hi4, hb4, hk4⟩; have L0 := pack_Unrecord.Loc.first G1.out R1.out B1.out hi4 hb4 hk4; have L := Aside0.mk ((L0.setKd 2).setE 0); have D := L0.dist; obtain ⟨c0, c1, c2, f0, f1, f2, c3, c4, c5, c6, f4, f5, f6, c7, f7⟩ := L0.cells; clear L0 hi4 hb4 hk4) | (go_at_call 25; refine (HK1.out _ _ _ _ _ _ _ _ L.out).mono ?_; rintro r w5 ⟨rfl, h5⟩; have L5 := Aside0.mk h5; obtain ⟨c0, c1, c2, f0, f1, f2, c3, c4, c5, c6, f4, f5, f6, c7, f7⟩ := h5.cells; clear h5) | (go_at_call 17; refine (HE.out g _ _ _ HEE.out L5.out.rd L5.out.bl).mono ?_; rintro r w7 ⟨rfl, hi7, hb7, hk7⟩; have L7 := Aside0.mk (L5.out.step hi7 hb7 hk7); obtain ⟨c0, c1, c2, f0, f1, f2, c3, c4, c5, c6, f4, f5, f6, c7, f7⟩ := L7.out.cells; clear hi7 hb7 hk7))
            go_region
            all_goals go_wp2
            all_goals
              have F := (L7.out.setE 21).fin 0 ⟨#[]⟩ ⟨#[]⟩
              exact bodyPost_ret (results_ct rfl _ _ _ _ _ (0, 0) _ rfl F.1 Try.underlying48 rfl (by kernel_rfl)) rfl ⟨rfl, by first | exact F.2 | exact Below.drew F.2⟩

          · rw [if_neg h3]
            have HEE := Aside0.mk (show (if ((u + u1 : Nat) : Int) < (s.size : Int) then (21 : Int) else 0) = 0 from if_neg (by omega))
            clear h3
            go_enter Try.func20, Try.ntmps20
            go_wp2_with (first | (go_at_call 14; refine (pack_Read.calls s s 0 w _ HR.out rfl).mono ?_; rintro r w1 ⟨g, rfl, h1, b1, b1'⟩; have G1 := Aside0.mk ((b1'.block w.heap.size (by simp)).trans (Hw.blk_nw w _)); have R1 := Aside0.mk h1; have B1 := Aside0.mk b1; clear h1 b1 b1') | (go_at_call 16; refine (HN.out g _ (by repeat' (first | exact R1.out | apply IsS60.alloc)) (by repeat' (first | exact B1.out | apply below_alloc))).mono ?_; rintro r w4 ⟨rfl, hi4, hb4, hk4⟩; have L0 := pack_Unrecord.Loc.first G1.out R1.out B1.out hi4 hb4 hk4; have L := Aside0.mk ((L0.setKd 2).setE 0); have D := L0.dist; obtain ⟨c0, c1, c2, f0, f1, f2, c3, c4, c5, c6, f4, f5, f6, c7, f7⟩ := L0.cells; clear L0 hi4 hb4 hk4) | (go_at_call 25; refine (HK1.out _ _ _ _ _ _ _ _ L.out).mono ?_; rintro r w5 ⟨rfl, h5⟩; have L5 := Aside0.mk h5; obtain ⟨c0, c1, c2, f0, f1, f2, c3, c4, c5, c6, f4, f5, f6, c7, f7⟩ := h5.cells; clear h5) | (go_at_call 17; refine (HE.out g _ _ _ HEE.out L5.out.rd L5.out.bl).mono ?_; rintro r w7 ⟨rfl, hi7, hb7, hk7⟩; have L7 := Aside0.mk (L5.out.step hi7 hb7 hk7); obtain ⟨c0, c1, c2, f0, f1, f2, c3, c4, c5, c6, f4, f5, f6, c7, f7⟩ := L7.out.cells; clear hi7 hb7 hk7))
            all_goals
              have F := (L7.out.setE 0).fin 2 ⟨t.toArray⟩ ⟨#[]⟩
              exact bodyPost_ret (results_ct rfl _ _ _ _ _ (0, 0) _ rfl F.1 Try.underlying48 rfl (by kernel_rfl)) rfl ⟨rfl, by first | exact F.2 | exact Below.drew F.2⟩

      · rw [if_neg h1]
        have he1 : (e1 == 0) = false := by simpa using h1
        have he2 : (e1 != 0) = true := by simpa using h1
        clear h1
        rcases hk with rfl | rfl
        ·
          go_enter Try.func20, Try.ntmps20
          go_wp2_with (first | (go_at_call 14; refine (pack_Read.calls s s 0 w _ HR.out rfl).mono ?_; rintro r w1 ⟨g, rfl, h1, b1, b1'⟩; have G1 := Aside0.mk ((b1'.block w.heap.size (by simp)).trans (Hw.blk_nw w _)); have R1 := Aside0.mk h1; have B1 := Aside0.mk b1; clear h1 b1 b1') | (go_at_call 16; refine (HN.out g _ (by repeat' (first | exact R1.out | apply IsS60.alloc)) (by repeat' (first | exact B1.out | apply below_alloc))).mono ?_; rintro r w4 ⟨rfl, hi4, hb4, hk4⟩; have L0 := pack_Unrecord.Loc.first G1.out R1.out B1.out hi4 hb4 hk4; have L := Aside0.mk ((L0.setKd 1).setE 0); have D := L0.dist; obtain ⟨c0, c1, c2, f0, f1, f2, c3, c4, c5, c6, f4, f5, f6, c7, f7⟩ := L0.cells; clear L0 hi4 hb4 hk4) | (go_at_call 25; refine (pack_Unrecord.d_skip 2 L5.out (by first | assumption | decide)).mono ?_; rintro r w5 ⟨rfl, rfl⟩) | (go_at_call 25; refine (HK1.out _ _ _ _ _ _ _ _ L.out).mono ?_; rintro r w5 ⟨rfl, h5⟩; have L5 := Aside0.mk h5; obtain ⟨c0, c1, c2, f0, f1, f2, c3, c4, c5, c6, f4, f5, f6, c7, f7⟩ := h5.cells; clear h5))
          go_region
          all_goals go_wp2
          all_goals
            have F := L5.out.fin 0 ⟨#[]⟩ ⟨#[]⟩
            exact bodyPost_ret (results_ct rfl _ _ _ _ _ (0, 0) _ rfl F.1 Try.underlying48 rfl (by kernel_rfl)) rfl ⟨rfl, by first | exact F.2 | exact Below.drew F.2⟩

        ·
          go_enter Try.func20, Try.ntmps20
          go_wp2_with (first | (go_at_call 14; refine (pack_Read.calls s s 0 w _ HR.out rfl).mono ?_; rintro r w1 ⟨g, rfl, h1, b1, b1'⟩; have G1 := Aside0.mk ((b1'.block w.heap.size (by simp)).trans (Hw.blk_nw w _)); have R1 := Aside0.mk h1; have B1 := Aside0.mk b1; clear h1 b1 b1') | (go_at_call 16; refine (HN.out g _ (by repeat' (first | exact R1.out | apply IsS60.alloc)) (by repeat' (first | exact B1.out | apply below_alloc))).mono ?_; rintro r w4 ⟨rfl, hi4, hb4, hk4⟩; have L0 := pack_Unrecord.Loc.first G1.out R1.out B1.out hi4 hb4 hk4; have L := Aside0.mk ((L0.setKd 2).setE 0); have D := L0.dist; obtain ⟨c0, c1, c2, f0, f1, f2, c3, c4, c5, c6, f4, f5, f6, c7, f7⟩ := L0.cells; clear L0 hi4 hb4 hk4) | (go_at_call 25; refine (HK1.out _ _ _ _ _ _ _ _ L.out).mono ?_; rintro r w5 ⟨rfl, h5⟩; have L5 := Aside0.mk h5; obtain ⟨c0, c1, c2, f0, f1, f2, c3, c4, c5, c6, f4, f5, f6, c7, f7⟩ := h5.cells; clear h5))
          go_region
          all_goals go_wp2
          all_goals
            have F := L5.out.fin 0 ⟨#[]⟩ ⟨#[]⟩
            exact bodyPost_ret (results_ct rfl _ _ _ _ _ (0, 0) _ rfl F.1 Try.underlying48 rfl (by kernel_rfl)) rfl ⟨rfl, by first | exact F.2 | exact Below.drew F.2⟩

    · rw [if_neg hk]
      clear hu1 hu2 hlen HK1 HV1
      have hk1 : ((n : Int) == 1) = false := by simp; omega
      have hk2 : ((n : Int) != 1) = true := by simp; omega
      have hk3 : ((n : Int) != 2) = true := by simp; omega
      clear hk
      go_enter Try.func20, Try.ntmps20
      go_wp2_with (first | (go_at_call 14; refine (pack_Read.calls s s 0 w _ HR.out rfl).mono ?_; rintro r w1 ⟨g, rfl, h1, b1, b1'⟩; have G1 := Aside0.mk ((b1'.block w.heap.size (by simp)).trans (Hw.blk_nw w _)); have R1 := Aside0.mk h1; have B1 := Aside0.mk b1; clear h1 b1 b1') | (go_at_call 16; refine (HN.out g _ (by repeat' (first | exact R1.out | apply IsS60.alloc)) (by repeat' (first | exact B1.out | apply below_alloc))).mono ?_; rintro r w4 ⟨rfl, hi4, hb4, hk4⟩; have L0 := pack_Unrecord.Loc.first G1.out R1.out B1.out hi4 hb4 hk4; have L := Aside0.mk ((L0.setKd n).setE 0); have D := L0.dist; obtain ⟨c0, c1, c2, f0, f1, f2, c3, c4, c5, c6, f4, f5, f6, c7, f7⟩ := L0.cells; clear L0 hi4 hb4 hk4; have Z := (L.out.setE 21).cells.2.2.2.2.2.2.2.2.2.2.2.2.2.1) | (go_at_call 25; refine (pack_Unrecord.d_skip 1 (L.out.setE 21) (by first | assumption | decide)).mono ?_; rintro r w5 ⟨rfl, rfl⟩))
      clear c0 c1 c2 f0 f1 f2 c3 c4 c5 c6 f4 f5 f6 c7 f7 Z
      obtain ⟨W5, hW5⟩ : ∃ W5 : World, W5 = ((w4.setCell ⟨w1.heap.size + 1, 0, none⟩ (.int .i64 (n : Int))).setCell ⟨w1.heap.size + 1 + 1, 0, none⟩ (.int .i64 0)).setCell ⟨w1.heap.size + 1 + 1, 0, none⟩ (.int .i64 21) := ⟨_, rfl⟩
      have LL := L.out.setE 21
      rw [← hW5] at LL ⊢
      clear hW5
      obtain ⟨c0, c1, c2, f0, f1, f2, c3, c4, c5, c6, f4, f5, f6, c7, f7⟩ := LL.cells
      go_region
      all_goals go_wp2
      all_goals
        have F := LL.fin 0 ⟨#[]⟩ ⟨#[]⟩
        exact bodyPost_ret (results_ct rfl _ _ _ _ _ (0, 0) _ rfl F.1 Try.underlying48 rfl (by kernel_rfl)) rfl ⟨rfl, by first | exact F.2 | exact Below.drew F.2⟩

  · rw [if_neg he]
    simp only
    obtain rfl := hn0 he
    have he1 : (e0 == 0) = false := by simpa using he
    have he2 : (e0 != 0) = true := by simpa using he
    have HX := Aside0.mk hn0
    clear he hn0 HK HV
    go_enter Try.func20, Try.ntmps20
    go_wp2_with (first | (go_at_call 14; refine (pack_Read.calls s s 0 w _ HR.out rfl).mono ?_; rintro r w1 ⟨g, rfl, h1, b1, b1'⟩; have G1 := Aside0.mk ((b1'.block w.heap.size (by simp)).trans (Hw.blk_nw w _)); have R1 := Aside0.mk h1; have B1 := Aside0.mk b1; clear h1 b1 b1') | (go_at_call 16; refine (HN.out g _ (by repeat' (first | exact R1.out | apply IsS60.alloc)) (by repeat' (first | exact B1.out | apply below_alloc))).mono ?_; rintro r w4 ⟨rfl, hi4, hb4, hk4⟩; have L0 := pack_Unrecord.Loc.first G1.out R1.out B1.out hi4 hb4 hk4; have L := Aside0.mk ((L0.setKd 0).setE e0); have D := L0.dist; obtain ⟨c0, c1, c2, f0, f1, f2, c3, c4, c5, c6, f4, f5, f6, c7, f7⟩ := L0.cells; clear L0 hi4 hb4 hk4) | (go_at_call 25; refine (pack_Unrecord.d_skip 1 L.out (by assumption)).mono ?_; rintro r w5 ⟨rfl, rfl⟩))
    go_region
    all_goals go_wp2
    all_goals
      have F := L.out.fin 0 ⟨#[]⟩ ⟨#[]⟩
      exact bodyPost_ret (results_ct rfl _ _ _ _ _ (0, 0) _ rfl F.1 Try.underlying48 rfl (by kernel_rfl)) rfl ⟨rfl, by first | exact F.2 | exact Below.drew F.2⟩

end Go.Proofs.Ytmecbfadhacajaa.PPackCut
