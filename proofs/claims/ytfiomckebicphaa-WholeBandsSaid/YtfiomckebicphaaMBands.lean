/- A slice of structs of three whole numbers that came in, as the reader reads it: the list of its elements. -/
import Derived.Test.YtfiomckebicphaaB0
import Derived.Deep.Slices
import Derived.Deep.Fields
import Derived.ChangeSame
import Derived.OpenShut
namespace Go.Proofs.Ytfiomckebicphaa.RdB
open Go Go.ChangeShapes Go.WideShapes Go.Deep Go.Proofs.Ytfiomckebicphaa.B Go.Proofs.YtfiomckebicphaaW.PrintWords
section
variable {H : Type} {enc : TypeId × Value → H} {P : Program} {w : World} {base : Nat} {spare : Nat → Bool} {held : Bool}
theorem open_slice_fields {t e : TypeId} {fs : Array Field} {fuel : Nat} {cs : List Value} {x : DataW H × List MemPlace} (ht : P.underlying t = some (.slice e)) (he : P.underlying e = some (.struct fs))
    (hone : oneCellFields P fs = true) (hC : P.cellsOf e = fs.size) (h : DataW.trod enc P w base spare held fuel t cs = some x) :
    (cs = [.slice none 0 0] ∧ x = (.nil, [])) ∨
    ∃ (a : Addr) (len cap m : Nat) (D : Nat → DataW H) (Pl : Nat → List MemPlace), cs = [.slice (some a) len cap] ∧ base ≤ a.block ∧ len ≤ cap ∧ cap ≤ maxLen ∧ m = (if spare a.block then cap else len) ∧
      x = (.slice ((List.range len).map D) ((List.range (m - len)).map fun j => D (len + j)), MemPlace.row a (m * fs.size) ++ (List.range m).flatMap Pl) ∧
      ∀ i, i < m → ∃ (ys : List (DataW H × List MemPlace)) (n : Nat), D i = .agg (ys.map (·.1)) ∧ Pl i = ys.flatMap (·.2) ∧ ys.length = fs.size ∧
        ∀ (j : Nat) (f : Field), fs[j]? = some f → ∃ (v : Value) (y : DataW H × List MemPlace), w.cell? (a.add (i * fs.size + j)) = some v ∧ ys[j]? = some y ∧ DataW.trod enc P w base spare held n f.type [v] = some y := by
  rcases open_slice ht h with h0 | ⟨a, len, cap, m, n, D, Pl, hcs, hb, hl, hm, hmm, hx, hi⟩
  · exact .inl h0
  · refine .inr ⟨a, len, cap, m, D, Pl, hcs, hb, hl, hm, hmm, by rw [hC] at hx; exact hx, fun i him => ?_⟩
    obtain ⟨cs', hc, ht'⟩ := hi i him
    rw [hC] at hc
    obtain ⟨ys, n', hn', hy, hlen, hyl, hf⟩ := DataW.trod_struct he ht'
    obtain ⟨_, hcl, hat⟩ := World.cells?_some hc
    simp only [Prod.mk.injEq] at hy
    refine ⟨ys, n', hy.1, hy.2, hyl, fun j f hj => ?_⟩
    obtain ⟨ho, hk⟩ := hone_of hone j f hj
    have hjl : j < fs.size := (Array.getElem?_eq_some_iff.1 hj).1
    have hcell := hat j hjl
    have hv : cs'[j]? = some (cs'[j]'(by omega)) := List.getElem?_eq_getElem (by omega)
    have h1 := hf j f hj
    rw [ho, hk] at h1
    have hone' : (cs'.drop j).take 1 = [cs'[j]'(by omega)] := by
      rw [List.drop_eq_getElem_cons (by omega)]
      rfl
    rw [hone'] at h1
    have hys : ys[j]? = some (ys[j]'(by omega)) := List.getElem?_eq_getElem (by omega)
    refine ⟨_, _, ?_, hys, h1.trans hys⟩
    rw [← Go.Deep.add_add, hcell, hv]
/-- A row of three cells each, by its elements. -/
theorem row3 {α : Type} (K : Kd α) (hsz : K.sz = 3) {A : Addr} {len : Nat} (hl : len ≤ 9223372036854775807) (h : ∀ i, i < len → ∃ (x : α) (c0 c1 c2 : Value), K.K w x [c0, c1, c2] ∧ w.cell? (A.add (i * 3)) = some c0 ∧ w.cell? (A.add (i * 3 + 1)) = some c1 ∧ w.cell? (A.add (i * 3 + 2)) = some c2) :
    ∃ l : List α, len = l.length ∧ Kd.C K w (some A) l.length l := by
  obtain ⟨l, hll, hle⟩ : ∃ l : List α, l.length = len ∧ ∀ i x, l[i]? = some x → ∃ (c0 c1 c2 : Value), K.K w x [c0, c1, c2] ∧ w.cell? (A.add (i * 3)) = some c0 ∧ w.cell? (A.add (i * 3 + 1)) = some c1 ∧ w.cell? (A.add (i * 3 + 2)) = some c2 := by
    clear hl
    induction len with
    | zero => exact ⟨[], rfl, fun i x hx => by simp at hx⟩
    | succ n ih =>
      obtain ⟨l, hl, hle⟩ := ih (fun i hi => h i (by omega))
      obtain ⟨x, c0, c1, c2, hx⟩ := h n (by omega)
      refine ⟨l ++ [x], by simp [hl], fun i y hy => ?_⟩
      by_cases hi : i < n
      · rw [List.getElem?_append_left (by omega)] at hy
        exact hle i y hy
      · have hin : i = n := by
          have := (List.getElem?_eq_some_iff.1 hy).1
          simp [hl] at this
          omega
        subst hin
        rw [List.getElem?_append_right (by omega), hl] at hy
        simp at hy
        subst hy
        exact ⟨c0, c1, c2, hx⟩
  refine ⟨l, hll.symm, rfl, by omega, fun _ => ⟨A, rfl, fun j p hj => ?_⟩⟩
  obtain ⟨c0, c1, c2, hK, h0, h1, h2⟩ := hle j p hj
  refine ⟨[c0, c1, c2], by rw [hsz]; rfl, hK, fun i u hu => ?_⟩
  rw [hsz]
  match i, hu with
  | 0, hu => simp at hu; subst hu; exact h0
  | 1, hu => simp at hu; subst hu; exact h1
  | 2, hu => simp at hu; subst hu; exact h2
end
/-- Bands: where they begin, and both rates. -/
theorem read30 {H : Type} {enc : TypeId × Value → H} {w : World} {base : Nat} {spare : Nat → Bool} {held : Bool} {t e : TypeId} {f0 f1 f2 : Field} {a : Option Addr} {len cap : Nat} {d : DataW H} {p : List MemPlace}
    (ht : Try.prog.underlying t = some (.slice e)) (he : Try.prog.underlying e = some (.struct #[f0, f1, f2])) (hone : oneCellFields Try.prog #[f0, f1, f2] = true) (hC : Try.prog.cellsOf e = 3)
    (u0 : Try.prog.underlying f0.type = some (.int .i64)) (u1 : Try.prog.underlying f1.type = some (.int .i64)) (u2 : Try.prog.underlying f2.type = some (.int .i64))
    (h : DataW.Trod enc Try.prog w base spare held t (.slice a len cap) d p) : ∃ l : List S30, len = l.length ∧ Kd.C k30 w a l.length l ∧ l.length ≤ cap := by
  obtain ⟨fuel, hf⟩ := h
  rcases open_slice_fields ht he hone hC hf with ⟨hcs, _⟩ | ⟨x, len', cap', m, D, Pl, hcs, _, hl, hm, hmm, _, hi⟩
  · simp [Value.cells] at hcs
    obtain ⟨rfl, rfl, rfl⟩ := hcs
    exact ⟨[], rfl, Kd.C_nil _ _, Nat.le_refl _⟩
  · simp [Value.cells] at hcs
    obtain ⟨rfl, rfl, rfl⟩ := hcs
    obtain ⟨l, e1, e2⟩ := row3 (w := w) k30 rfl (A := x) (len := len) (by unfold maxLen at hm; omega) (fun i hil => by
      obtain ⟨ys, n, _, _, _, hfi⟩ := hi i (by rw [hmm]; split <;> omega)
      obtain ⟨v0, y0, c0, _, t0⟩ := hfi 0 f0 rfl
      obtain ⟨v1, y1, c1, _, t1⟩ := hfi 1 f1 rfl
      obtain ⟨v2, y2, c2, _, t2⟩ := hfi 2 f2 rfl
      obtain ⟨n0, e0, _, _⟩ := DataW.trod_int u0 t0
      obtain ⟨n1, e1, _, _⟩ := DataW.trod_int u1 t1
      obtain ⟨b2, e2, _, _⟩ := DataW.trod_int u2 t2
      simp at e0 e1 e2
      subst e0 e1 e2
      exact ⟨⟨n0, n1, b2⟩, _, _, _, k30_mk _ _, c0, c1, c2⟩)
    exact ⟨l, e1, e2, by omega⟩
end Go.Proofs.Ytfiomckebicphaa.RdB
