/- An array of two whole numbers, by value, as the reader reads it: taken apart, and put together. -/
import Derived.ChangeSame
import Derived.WideShapes
import Derived.OpenShut
import Derived.ProofKit
namespace Go.Proofs.YtfiomckebicphaaArr
open Go Go.ChangeShapes Go.WideShapes
variable {H : Type} {enc : TypeId × Value → H} {P : Program} {w : World} {base : Nat} {spare : Nat → Bool} {held : Bool}

theorem okWide_arr {n : Nat} {e t : TypeId} {r : Reach} {b0 : Nat} {v : Value} (ht : P.underlying t = some (.array n e)) (h : Value.okWide P w r b0 t v) : ∃ cs, v = .agg cs ∧ cs.size = P.cellsOf t := by
  simp only [Value.okWide, ht] at h
  obtain ⟨cs, h1, h2, _⟩ := h
  exact ⟨cs, h1, h2⟩
theorem open_arr2 {t e : TypeId} {k : IntKind} {r : Reach} {b0 : Nat} {v : Value} {d : DataW H} {p : List MemPlace} (ht : P.underlying t = some (.array 2 e)) (he : P.underlying e = some (.int k)) (hce : P.cellsOf e = 1) (hct : P.cellsOf t = 2)
    (hv : Value.okWide P w r b0 t v) (h : DataW.Trod enc P w base spare held t v d p) :
    ∃ a b, v = .agg #[.int k a, .int k b] ∧ d = .agg [.lit (.int k a), .lit (.int k b)] ∧ p = [] ∧ (Lit.int k a).wf = true ∧ (Lit.int k b).wf = true := by
  obtain ⟨cs, rfl, hsz⟩ := okWide_arr ht hv
  rw [hct] at hsz
  obtain ⟨c0, c1, rfl⟩ : ∃ c0 c1, cs = #[c0, c1] := by
    obtain ⟨l⟩ := cs
    match l, hsz with
    | [c0, c1], _ => exact ⟨c0, c1, rfl⟩
  obtain ⟨fuel, hf⟩ := h
  cases fuel with
  | zero => simp [DataW.trod] at hf
  | succ n =>
    unfold DataW.trod at hf
    rw [ht] at hf
    have r2 : List.range 2 = [0, 1] := rfl
    simp [r2, hce, Value.cells] at hf
    obtain ⟨_, hf⟩ := hf
    cases h0 : DataW.trod enc P w base spare held n e [c0] with
    | none => simp [h0] at hf
    | some y0 =>
      cases h1 : DataW.trod enc P w base spare held n e [c1] with
      | none => simp [h0, h1] at hf
      | some y1 =>
        simp [h0, h1] at hf
        obtain ⟨a, ea, rfl, wa⟩ := DataW.trod_int he h0
        obtain ⟨b, eb, rfl, wb⟩ := DataW.trod_int he h1
        simp at ea eb
        subst ea eb
        obtain ⟨rfl, rfl⟩ := hf
        exact ⟨a, b, rfl, rfl, rfl, wa, wb⟩
theorem shut_arr2 {t e : TypeId} {k : IntKind} {a b : Int} (ht : P.underlying t = some (.array 2 e)) (he : P.underlying e = some (.int k)) (hce : P.cellsOf e = 1) (hct : P.cellsOf t = 2)
    (wa : (Lit.int k a).wf = true) (wb : (Lit.int k b).wf = true) :
    DataW.Trod enc P w base spare held t (.agg #[.int k a, .int k b]) (.agg [.lit (.int k a), .lit (.int k b)]) [] := by
  obtain ⟨n0, t0⟩ := shut_int (enc := enc) (w := w) (base := base) (spare := spare) (held := held) he wa
  obtain ⟨n1, t1⟩ := shut_int (enc := enc) (w := w) (base := base) (spare := spare) (held := held) he wb
  have t0 := DataW.trod_le (show n0 ≤ n0 + n1 by omega) t0
  have t1 := DataW.trod_le (show n1 ≤ n0 + n1 by omega) t1
  refine ⟨n0 + n1 + 1, ?_⟩
  unfold DataW.trod
  rw [ht]
  have r2 : List.range 2 = [0, 1] := rfl
  simp [Value.cells] at t0 t1
  simp [r2, hce, hct, Value.cells, t0, t1]
end Go.Proofs.YtfiomckebicphaaArr
