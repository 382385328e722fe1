/- Readings of rows' arguments, kind by kind: what a row's data say of an argument is told in the words of a printed walk (a kind's K), with the bounds of whole numbers, texts and slices. A library of lemmas; conditions: none. -/
import Derived.Test.YtfdccgpbdcdgmaaWWords
import Derived.Test.YtfdccgpbdcdgmaaWZeros
import Derived.Deep.Slices
import Derived.ChangeArms
import Derived.SizedLaws
import Derived.WideShapes
set_option linter.unusedVariables false
namespace Go.Proofs.Ytfdccgpbdcdgmaa.Rd
open Go.Deep Go.WideShapes Go.ChangeShapes Go.Proofs.YtfdccgpbdcdgmaaW.PrintWords

/-- Whatever reads at type T is told by the kind d, and 'ok' of it. -/
structure Opens {α : Type} (P : Program) (T : TypeId) (d : Kd α) (ok : α → Prop) : Prop where
  of : ∀ {H : Type} (enc : TypeId × Value → H) (w : World) (base : Nat) (spare : Nat → Bool) (held : Bool) (fuel : Nat) (cs : List Value) (x : DataW H × List MemPlace),
    DataW.trod enc P w base spare held fuel T cs = some x → (∀ n ∈ x.1.weights P T, n ≤ reachBytes) → ∃ a : α, d.K w a cs ∧ ok a

theorem opens_int {P : Program} {T : TypeId} {k : IntKind} (hT : P.underlying T = some (.int k)) : Opens P T (Kd.int k) (fun n => (Lit.int k n).wf = true) := by
  constructor
  intro H enc w base spare held fuel cs x h _
  obtain ⟨n, rfl, rfl, hn⟩ := DataW.trod_int hT h
  exact ⟨n, rfl, hn⟩
theorem opens_bool {P : Program} {T : TypeId} (hT : P.underlying T = some .bool) : Opens P T Kd.bool (fun _ => True) := by
  constructor
  intro H enc w base spare held fuel cs x h _
  obtain ⟨n, rfl, rfl⟩ := DataW.trod_bool hT h
  exact ⟨n, rfl, trivial⟩
theorem opens_string {P : Program} {T : TypeId} (hT : P.underlying T = some .string) : Opens P T Kd.string (fun s => s.size ≤ 140737488351232) := by
  constructor
  intro H enc w base spare held fuel cs x h hw
  obtain ⟨s, rfl, rfl, hs⟩ := DataW.trod_string hT h
  refine ⟨s, rfl, ?_⟩
  have := hw s.data.toList.length (by simp [DataW.weights])
  rw [Array.length_toList] at this
  exact this
theorem weightsAll_mem {H : Type} {P : Program} {e : TypeId} : ∀ (ds : List (DataW H)) (d : DataW H), d ∈ ds → ∀ n ∈ d.weights P e, n ∈ DataW.weightsAll P e ds
  | [], _, h, _, _ => by cases h
  | d0 :: ds, d, h, n, hn => by
    simp only [DataW.weightsAll, List.mem_append]
    rcases List.mem_cons.1 h with rfl | h
    · exact .inl hn
    · exact .inr (weightsAll_mem ds d h n hn)
theorem cells_get {w : World} {base : Nat} {a : Addr} {n : Nat} {cs : List Value} (h : w.cells? base a n = some cs) : cs.length = n ∧ ∀ j u, cs[j]? = some u → w.cell? (a.add j) = some u := by
  obtain ⟨_, hl, hc⟩ := World.cells?_some h
  refine ⟨hl, fun j u hu => ?_⟩
  have hj : j < n := by
    rcases Nat.lt_or_ge j n with h1 | h1
    · exact h1
    · rw [List.getElem?_eq_none (by omega)] at hu; cases hu
  rw [hc j hj, hu]
theorem opens_slice {α : Type} {P : Program} {T E : TypeId} {d : Kd α} {ok : α → Prop} {B : Nat} (hT : P.underlying T = some (.slice E)) (hsz : P.cellsOf E = d.sz) (hB : P.bytesOf E = B) (ho : Opens P E d ok) :
    Opens P T (Kd.slice E d) (fun l => l.length ≤ maxLen ∧ l.length * B ≤ 140737488351232 ∧ ∀ x ∈ l, ok x) := by
  constructor
  intro H enc w base spare held fuel cs x h hw
  rcases open_slice hT h with ⟨rfl, rfl⟩ | ⟨a, len, cap, m, n, D, Pl, rfl, hb, hl, hm, hmm, rfl, hx⟩
  · refine ⟨[], ⟨none, 0, rfl, Nat.le_refl _, ?_⟩, by simp [maxLen], by simp, by simp⟩
    exact Kd.C_nil d w
  · have hle : len ≤ m := by rw [hmm]; split <;> omega
    simp only [DataW.weights, hT] at hw
    have hz : len * B ≤ 140737488351232 := by
      have h1 := hw _ List.mem_cons_self
      rw [hB] at h1
      simp only [List.length_map, List.length_range] at h1
      have h2 : reachBytes = 140737488351232 := rfl
      refine Nat.le_trans (Nat.mul_le_mul_right _ ?_) (h2 ▸ h1)
      omega
    have hel : ∀ i, i < len → ∃ y : α, (∃ c, d.K w y c ∧ w.cells? base (a.add (i * P.cellsOf E)) (P.cellsOf E) = some c) ∧ ok y := by
      intro i hi
      obtain ⟨c, h1, h2⟩ := hx i (by omega)
      obtain ⟨y, hy, hok⟩ := ho.of enc w base spare held n c _ h2 (fun q hq => hw q (List.mem_cons_of_mem _ (List.mem_append_left _ (weightsAll_mem _ _ (List.mem_map.2 ⟨i, List.mem_range.2 hi, rfl⟩) q hq))))
      exact ⟨y, ⟨c, hy, h1⟩, hok⟩
    have hall : ∀ m' : Nat, m' ≤ len → ∃ l : List α, l.length = m' ∧ (∀ i, i < m' → ∃ y c, l[i]? = some y ∧ d.K w y c ∧ w.cells? base (a.add (i * P.cellsOf E)) (P.cellsOf E) = some c) ∧ ∀ y ∈ l, ok y := by
      intro m'
      induction m' with
      | zero => intro _; exact ⟨[], rfl, fun i hi => by omega, by simp⟩
      | succ m' ih =>
        intro hm'
        obtain ⟨l, h1, h2, h3⟩ := ih (by omega)
        obtain ⟨y, ⟨c, hy, hc⟩, hok⟩ := hel m' (by omega)
        refine ⟨l ++ [y], by simp [h1], fun i hi => ?_, ?_⟩
        · rcases Nat.lt_or_ge i m' with hlt | hge
          · obtain ⟨y', c', h4, h5⟩ := h2 i hlt
            exact ⟨y', c', by rw [List.getElem?_append_left (by omega)]; exact h4, h5⟩
          · obtain rfl : i = m' := by omega
            exact ⟨y, c, by rw [List.getElem?_append_right (by omega)]; simp [h1], hy, hc⟩
        · intro z hz
          rcases List.mem_append.1 hz with hz | hz
          · exact h3 z hz
          · rw [List.mem_singleton.1 hz]; exact hok
    obtain ⟨l, hlen, hget, hokl⟩ := hall len (Nat.le_refl _)
    refine ⟨l, ⟨some a, cap, by rw [hlen], by omega, ?_⟩, by omega, by rw [hlen]; exact hz, hokl⟩
    rw [hlen]
    refine ⟨hlen, by simp only [maxLen] at hm; omega, fun _ => ⟨a, rfl, fun j p hj => ?_⟩⟩
    have hj' : j < len := by
      rcases Nat.lt_or_ge j len with h1 | h1
      · exact h1
      · rw [List.getElem?_eq_none (by omega)] at hj; cases hj
    obtain ⟨y, c, h4, h5, h6⟩ := hget j hj'
    rw [h4] at hj
    obtain rfl : y = p := by simpa using hj
    obtain ⟨h7, h8⟩ := cells_get h6
    refine ⟨c, by rw [h7, hsz], h5, fun i u hu => ?_⟩
    have := h8 i u hu
    rw [Go.Deep.add_add, hsz] at this
    exact this

/-- Fields from the cell 'off' on. -/
structure OpensFs {β : Type} (P : Program) (off : Nat) (fs : List Field) (d : Kd β) (ok : β → Prop) : Prop where
  of : ∀ {H : Type} (enc : TypeId × Value → H) (w : World) (base : Nat) (spare : Nat → Bool) (held : Bool) (n : Nat) (cs : List Value) (xs : List (DataW H × List MemPlace)),
    cs.length = off + d.sz → xs.length = fs.length →
    (∀ (i : Nat) (f : Field), fs[i]? = some f → DataW.trod enc P w base spare held n f.type ((cs.drop f.offset).take (P.cellsOf f.type)) = xs[i]?) →
    (∀ q ∈ DataW.weightsEach P (fs.map (·.type)) (xs.map (·.1)), q ≤ reachBytes) → ∃ b : β, d.K w b (cs.drop off) ∧ ok b
theorem fs_last {α : Type} {P : Program} {off : Nat} {f : Field} {d : Kd α} {ok : α → Prop} (ho : f.offset = off) (hs : P.cellsOf f.type = d.sz) (h : Opens P f.type d ok) : OpensFs P off [f] d ok := by
  constructor
  intro H enc w base spare held n cs xs hc hx hf hw
  match xs, hx with
  | [x], _ =>
    have h0 := hf 0 f rfl
    rw [ho, hs, List.take_of_length_le (by rw [List.length_drop, hc]; omega)] at h0
    exact h.of enc w base spare held n _ x h0 (fun q hq => hw q (by simp [DataW.weightsEach, hq]))
theorem fs_cons {α β : Type} {P : Program} {off : Nat} {f : Field} {fs : List Field} {a : Kd α} {b : Kd β} {oka : α → Prop} {okb : β → Prop} (ho : f.offset = off) (hs : P.cellsOf f.type = a.sz) (ha : Opens P f.type a oka) (hb : OpensFs P (off + a.sz) fs b okb) :
    OpensFs P off (f :: fs) (Kd.pair a b) (fun x => oka x.1 ∧ okb x.2) := by
  constructor
  intro H enc w base spare held n cs xs hc hx hf hw
  match xs, hx with
  | x :: xs, hx =>
    have hc' : cs.length = off + (a.sz + b.sz) := hc
    have h0 := hf 0 f rfl
    rw [ho, hs] at h0
    obtain ⟨y, hy, hok⟩ := ha.of enc w base spare held n _ x h0 (fun q hq => hw q (by simp [DataW.weightsEach, hq]))
    obtain ⟨z, hz, hokz⟩ := hb.of enc w base spare held n cs xs (by omega) (by simpa using hx) (fun i g hg => hf (i + 1) g (by simpa using hg)) (fun q hq => hw q (by simp [DataW.weightsEach, hq]))
    refine ⟨(y, z), ⟨(cs.drop off).take a.sz, cs.drop (off + a.sz), ?_, hy, hz⟩, hok, hokz⟩
    rw [← List.drop_drop, List.take_append_drop]
theorem opens_struct {α β : Type} {P : Program} {T : TypeId} {fs : Array Field} {d : Kd β} {ok : β → Prop} {f : α → β} (g : β → α) (hg : ∀ b, f (g b) = b) (hT : P.underlying T = some (.struct fs)) (hs : P.cellsOf T = d.sz) (h : OpensFs P 0 fs.toList d ok) :
    Opens P T (Kd.iso d f) (fun x => ok (f x)) := by
  constructor
  intro H enc w base spare held fuel cs x hx hw
  obtain ⟨xs, n, _, rfl, hl, hxl, hfs⟩ := DataW.trod_struct hT hx
  simp only [DataW.weights, hT] at hw
  obtain ⟨b, hb, hok⟩ := h.of enc w base spare held n cs xs (by omega) (by simpa using hxl) (fun i f' hf' => hfs i f' (by simpa using hf')) hw
  rw [List.drop_zero] at hb
  exact ⟨g b, by show d.K w (f (g b)) cs; rw [hg]; exact hb, by show ok (f (g b)); rw [hg]; exact hok⟩
/-- At a row's place. -/
theorem opens_at {α : Type} {P : Program} {T : TypeId} {d : Kd α} {ok : α → Prop} (h : Opens P T d ok) {H : Type} {enc : TypeId × Value → H} {W : World} {base : Nat} {spare : Nat → Bool} {held : Bool} {v : Value} {x : DataW H} {p : List MemPlace} {ts : List TypeId} {ds : List (DataW H)} {j : Nat}
    (hsz : (DataW.weightsEach P ts ds).all (· ≤ reachBytes) = true) (ht : ts[j]? = some T) (hd : ds[j]? = some x) (hx : DataW.Trod enc P W base spare held T v x p) : ∃ a : α, d.K W a v.cells.toList ∧ ok a := by
  obtain ⟨fuel, hf⟩ := hx
  exact h.of enc W base spare held fuel _ _ hf (fun q hq => by simpa using List.all_eq_true.1 hsz q (DataW.weights_mem_each ht hd q hq))
theorem slice_of_K {α : Type} {d : Kd α} {E : Nat} {W : World} {l : List α} {A : Option Addr} {len cap : Nat} (h : (Kd.slice E d).K W l (Value.slice A len cap).cells.toList) : len = l.length ∧ l.length ≤ cap ∧ d.C W A l.length l := by
  obtain ⟨A', c, e, hl, hc⟩ := h
  simp [Value.cells] at e
  obtain ⟨rfl, rfl, rfl⟩ := e
  exact ⟨rfl, hl, hc⟩
theorem agg_cells (cs : Array Value) : (Value.agg cs).cells.toList = cs.toList := by simp [Value.cells]
end Go.Proofs.Ytfdccgpbdcdgmaa.Rd
