/- The law HoldRecoups of the package stipendlaw14 holds for every input: a shortfall is made good as soon as may be: in each period of the plan but the last the limit is withheld; all of them and what is left are what was carried. No condition. -/
import Derived.Test.YtfiomckebicphaaX0
import Derived.Test.YtfiomckebicphaaXmoneyRight
import Derived.Test.YtfiomckebicphaaXholdStateDue
import Derived.Test.YtfiomckebicphaaXholdRecoup
import Derived.Test.YtfiomckebicphaaXstipendlaw14HoldRecoups
import Derived.Test.YtfiomckebicphaaMHold
import Derived.Test.YtfiomckebicphaaMLaw14
namespace Go.Proofs.Ytfiomckebicphaa.Pure
open Go Go.RowKit Go.Proofs.Ytfiomckebicphaa.X Go.Proofs.YtfiomckebicphaaW.PrintWords Go.Proofs.YtfiomckebicphaaW.PrintLast Go.Proofs.YtfiomckebicphaaW.PrintMore

/-- The less of the limit and of what is carried. -/
def lo (L s : Int) : Int := if L < s then L else s
/-- The plan of what is carried: at most so many periods. -/
def pl (L : Int) : Nat → Int → List Int × Int
  | 0, s => ([], s)
  | n + 1, s => if 0 < s then (if lo L s = 0 then ([0], s) else (lo L s :: (pl L n (s - lo L s)).1, (pl L n (s - lo L s)).2)) else ([], s)

theorem pl_facts {L : Int} (hL : 0 ≤ L) : ∀ (n : Nat) (s : Int), 0 ≤ s →
    (∀ x ∈ (pl L n s).1, 0 ≤ x ∧ x ≤ L) ∧ (∀ i, i + 1 < (pl L n s).1.length → (pl L n s).1[i]? = some L) ∧ (pl L n s).1.sum + (pl L n s).2 = s ∧ 0 ≤ (pl L n s).2 ∧ (pl L n s).1.length ≤ n ∧ ((pl L n s).2 = 0 ∨ (pl L n s).1.length = n ∨ L = 0) := by
  intro n
  induction n with
  | zero => intro s hs; simp [pl, hs]
  | succ n ih =>
    intro s hs
    by_cases h0 : 0 < s
    · by_cases h1 : lo L s = 0
      · have hL0 : L = 0 := by unfold lo at h1; split at h1 <;> omega
        simp only [pl, if_pos h0, if_pos h1]
        refine ⟨by simp [hL], fun i hi => by simp at hi, by simp, hs, by simp, .inr (.inr hL0)⟩
      · have hb : 0 ≤ lo L s ∧ lo L s ≤ L ∧ lo L s ≤ s := by unfold lo; split <;> omega
        obtain ⟨a1, a2, a3, a4, a5, a6⟩ := ih (s - lo L s) (by omega)
        simp only [pl, if_pos h0, if_neg h1]
        refine ⟨?_, ?_, ?_, a4, by simpa using a5, ?_⟩
        · intro x hx
          rcases List.mem_cons.1 hx with rfl | hx
          · exact ⟨hb.1, hb.2.1⟩
          · exact a1 x hx
        · intro i hi
          cases i with
          | zero =>
            simp only [List.length_cons] at hi
            have hlt : L < s := by
              refine Classical.byContradiction fun hc => ?_
              have he : s - lo L s = 0 := by unfold lo; rw [if_neg hc]; omega
              rw [he] at hi
              cases n with
              | zero => simp [pl] at hi
              | succ m => simp [pl] at hi
            simp only [List.getElem?_cons_zero]
            unfold lo
            rw [if_pos hlt]
          | succ i =>
            simp only [List.getElem?_cons_succ]
            exact a2 i (by simp only [List.length_cons] at hi; omega)
        · simp only [List.sum_cons]; omega
        · rcases a6 with a6 | a6 | a6
          · exact .inl a6
          · exact .inr (.inl (by simpa using a6))
          · exact .inr (.inr a6)
    · simp only [pl, if_neg h0]
      refine ⟨by simp, fun i hi => by simp at hi, by simp, hs, by simp, .inl (by omega)⟩

theorem recoup_l0 (a : List (List S30)) (b : List S130) (c : List S132) {r z cash D many : Int} (hr : 0 ≤ r ∧ r ≤ 10000) (hc : okM cash) (hD : okM D) (hm : many ≤ 600) :
    ∀ (n : Nat) (out : List Int) (W S : Int) (k : Nat), (out.length : Int) + n = many → W + S = D → okM W → okM S → 63 + 2 * n ≤ k →
    hold_Recoup.l0 k cash many D a b c r z W S out 0 = some (out ++ (pl (lim r cash) n S).1, (pl (lim r cash) n S).2, 0) := by
  have hl := lim_bd (pos_ok hc) hr
  have dbd := okM_bd hD
  intro n
  induction n with
  | zero =>
    intro out W S k hn _ _ _ hk
    obtain ⟨k, rfl⟩ : ∃ m, k = m + 2 := ⟨k - 2, by omega⟩
    simp only [hold_Recoup.l0, hold_Recoup.j3, pl]
    rw [if_neg (by omega)]
    simp
  | succ n ih =>
    intro out W S k hn hs hW hS hk
    obtain ⟨k, rfl⟩ : ∃ m, k = m + 2 := ⟨k - 2, by omega⟩
    have wbd := okM_bd hW
    have sbd := okM_bd hS
    simp only [hold_Recoup.l0, hold_Recoup.j3]
    rw [if_pos (by omega)]
    by_cases h0 : 0 < S
    · rw [decide_eq_true h0, if_pos rfl, step_ok a b c (by omega)]
      have hb : 0 ≤ lo (lim r cash) S ∧ lo (lim r cash) S ≤ S := by unfold lo; split <;> omega
      have hst : step r W S cash D true = (lo (lim r cash) S, W + lo (lim r cash) S, S - lo (lim r cash) S, 0) := by
        have hh : held (D - W) (lim r cash) true = lo (lim r cash) S := by rw [held_cases, if_pos rfl, show D - W = S by omega]; rfl
        unfold step
        rw [if_pos ⟨hW, hS, hc, hD⟩, if_pos hr, hh, if_pos, show D - W = S by omega]
        exact ⟨by unfold okM; omega, by unfold okM; omega, by unfold okM; omega⟩
      rw [hst]
      simp only [Option.bind_some, if_true, pl, if_pos h0]
      rw [if_pos (by omega)]
      by_cases h1 : lo (lim r cash) S = 0
      · rw [if_pos h1, if_pos h1, h1, Int.sub_zero]
      · rw [if_neg h1, if_neg h1, ih (out ++ [lo (lim r cash) S]) _ _ k (by simp; omega) (by omega) (by unfold okM; omega) (by unfold okM; omega) (by omega)]
        simp
    · rw [decide_eq_false h0]
      simp [pl, h0]

/-- The law's own look at the plan. -/
theorem look_l0 {many L W S left : Int} {out : List Int} (hL : 0 ≤ L) (h2 : ∀ i, i + 1 < out.length → out[i]? = some L) (h4 : 0 ≤ left) (h5 : (out.length : Int) ≤ many) (h6 : left = 0 ∨ (out.length : Int) = many ∨ L = 0) (hlen : out.length ≤ 600) (hS : S ≤ 100000000000) :
    ∀ (ps : List Int) (i : Nat) (sum : Int) (k : Nat), out.drop i = ps → i + ps.length = out.length → (∀ x ∈ ps, 0 ≤ x ∧ x ≤ L) → 0 ≤ sum → sum + ps.sum + left = S → 3 + 2 * ps.length ≤ k →
    stipendlaw14_HoldRecoups.l0 k many L sum out (out.length : Int) (i : Int) W S out left = some true := by
  intro ps
  induction ps with
  | nil =>
    intro i sum k hd hi hx h0 hs hk
    obtain ⟨k, rfl⟩ : ∃ m, k = m + 2 := ⟨k - 2, by simp at hk; omega⟩
    simp only [List.length_nil, Nat.add_zero, List.sum_nil, Int.add_zero] at hi hs
    unfold stipendlaw14_HoldRecoups.l0
    rw [if_neg (by omega), w64 (x := sum + left) (by omega), if_pos hs, if_neg (by omega), if_neg (by omega)]
    by_cases hl : left = 0
    · rw [if_pos hl]
    · rw [if_neg hl]
      by_cases hm : (out.length : Int) = many
      · rw [if_pos hm]
      · rw [if_neg hm]
        have : L = 0 := by omega
        simp [this]
  | cons p ps ih =>
    intro i sum k hd hi hx h0 hs hk
    simp only [List.length_cons, List.sum_cons] at hi hs hk
    obtain ⟨k, rfl⟩ : ∃ m, k = m + 2 := ⟨k - 2, by omega⟩
    have hp := hx p List.mem_cons_self
    have hps : 0 ≤ ps.sum := by
      have : ∀ (l : List Int), (∀ x ∈ l, 0 ≤ x ∧ x ≤ L) → 0 ≤ l.sum := by
        intro l
        induction l with
        | nil => intro _; simp
        | cons y l ihl => intro h; have h1 := h y List.mem_cons_self; have h2 := ihl (fun x hx => h x (List.mem_cons_of_mem _ hx)); simp only [List.sum_cons]; omega
      exact this ps (fun x hx' => hx x (List.mem_cons_of_mem _ hx'))
    have hg : out[i]? = some p := by
      have h0 : (out.drop i)[0]? = out[i + 0]? := List.getElem?_drop
      rw [hd] at h0
      simpa using h0.symm
    have hrd : rd out (i : Int) = p := by
      unfold rd
      rw [Int.toNat_natCast, List.getD_eq_getElem?_getD, hg]
      rfl
    have go : stipendlaw14_HoldRecoups.l0 (k + 1) many L (wrap64 (sum + p)) out (out.length : Int) ((i : Int) + 1) W S out left = some true := by
      rw [w64 (x := sum + p) (by omega), show (i : Int) + 1 = ((i + 1 : Nat) : Int) by omega]
      exact ih (i + 1) (sum + p) (k + 1) (by rw [← List.drop_drop, hd]; rfl) (by omega) (fun x hx' => hx x (List.mem_cons_of_mem _ hx')) (by omega) (by omega) (by omega)
    unfold stipendlaw14_HoldRecoups.l0
    rw [if_pos (by omega), if_pos (by omega), if_pos (by omega), hrd, if_neg (by omega), if_neg (by omega), w64 (x := (i : Int) + 1) (by omega)]
    by_cases hn : (i : Int) + 1 < (out.length : Int)
    · have := h2 i (by omega)
      rw [hg] at this
      obtain rfl := Option.some.inj this
      rw [if_pos hn, if_pos rfl]
      exact go
    · rw [if_neg hn]
      exact go

theorem recoup_ok (a : List (List S30)) (b : List S130) (c : List S132) {r z cash W S many : Int} {k : Nat} (hk : 3000 ≤ k) (hr : 0 ≤ r ∧ r ≤ 10000) (hc : okM cash) (hW : okM W) (hS : okM S) :
    hold_Recoup.f k a b c r z W S cash many = some (if many < 0 ∨ many > 600 then ([], 0, 2) else if okM (W + S) then ((pl (lim r cash) many.toNat S).1, (pl (lim r cash) many.toNat S).2, 0) else ([], 0, 10)) := by
  obtain ⟨k, rfl⟩ : ∃ n, k = n + 2 := ⟨k - 2, by omega⟩
  have wbd := okM_bd hW
  have sbd := okM_bd hS
  unfold hold_Recoup.f
  by_cases h1 : many < 0
  · rw [if_pos h1, if_pos (.inl h1)]
    simp [hold_Recoup.j0]
  rw [if_neg h1]
  by_cases h2 : many > 600
  · rw [decide_eq_true h2, if_pos (.inr h2)]
    simp [hold_Recoup.j0]
  rw [decide_eq_false h2, if_neg (by omega)]
  have hr2 := right2 W S (k := k + 1) (by omega)
  have hr1 : money_Right.f (k + 1) [W + S] = some (decide (okM (W + S))) := by
    obtain ⟨m, hm⟩ : ∃ n, k + 1 = n + 61 := ⟨k + 1 - 61, by omega⟩
    rw [hm, right_ok [W + S] (by simp)]
    simp
  simp only [hold_Recoup.j0, Bool.false_eq_true, if_false, hr2, Option.bind_some, hW, hS, and_self, decide_true, if_true, hold_State_Due.f, w64 (x := W + S) (by omega), hr1]
  by_cases h3 : okM (W + S)
  · rw [if_pos h3, decide_eq_true h3]
    simp only [Bool.not_true, hold_Recoup.j1, Bool.false_eq_true, if_false, hold_State_Due.f, Option.bind_some, w64 (x := W + S) (by omega)]
    rw [recoup_l0 a b c hr hc h3 (by omega) many.toNat [] W S k (by simp; omega) rfl hW hS (by omega)]
    simp
  · rw [if_neg h3, decide_eq_false h3]
    simp [hold_Recoup.j1]

theorem HoldRecoups : stipendlaw14_HoldRecoups.Pure := by
  intro r W S cash many hr hW hS hc hm
  obtain ⟨K, hK⟩ : ∃ K : Nat, 3009 ≤ K := ⟨3009, Nat.le_refl _⟩
  refine ⟨K + 2, ?_⟩
  have out : stipendlaw14_HoldRecoups.j0 (K + 2) r cash many true W S = some true := by
    simp only [stipendlaw14_HoldRecoups.j0, if_true]
  unfold stipendlaw14_HoldRecoups.f
  rw [holds_ok (by omega), lright_ok _ (by simp) (by omega)]
  simp only [Option.bind_some, if_true]
  by_cases h1 : many < -1000
  · rw [if_pos h1]; exact out
  rw [if_neg h1]
  by_cases h2 : many > 1000
  · rw [if_pos h2]; exact out
  rw [if_neg h2]
  by_cases h3 : okM W ∧ okM S ∧ okM cash
  case neg =>
    rw [if_neg (by simpa using h3)]; exact out
  obtain ⟨kW, kS, kc⟩ := h3
  rw [if_pos (by simp [kW, kS, kc])]
  by_cases h4 : r < 0
  · rw [if_pos h4]; exact out
  rw [if_neg h4]
  by_cases h5 : r > 10000
  · rw [decide_eq_true h5]; exact out
  rw [decide_eq_false h5]
  have hrr : 0 ≤ r ∧ r ≤ 10000 := by omega
  have wbd := okM_bd kW
  have sbd := okM_bd kS
  have hl := lim_bd (pos_ok kc) hrr
  simp only [stipendlaw14_HoldRecoups.j0, Bool.false_eq_true, if_false]
  rw [recoup_ok _ _ _ (by omega) hrr kc kW kS]
  simp only [Option.bind_some]
  by_cases h6 : many < 0
  · rw [if_pos h6, if_pos (.inl h6)]
    simp [stipendlaw14_HoldRecoups.j1]
  rw [if_neg h6]
  by_cases h7 : many > 600
  · rw [decide_eq_true h7, if_pos (.inr h7)]
    simp [stipendlaw14_HoldRecoups.j1]
  rw [decide_eq_false h7, if_neg (by omega)]
  simp only [stipendlaw14_HoldRecoups.j1, Bool.false_eq_true, if_false]
  rw [lright_ok _ (by simp) (by omega), w64 (x := W + S) (by omega)]
  simp only [Option.bind_some, List.mem_singleton, forall_eq, decide_eq_true_eq]
  by_cases h8 : okM (W + S)
  case neg =>
    rw [if_neg h8, if_neg h8]
    simp
  rw [if_pos h8, if_pos h8, if_pos rfl]
  by_cases h9 : S ≤ 0
  · rw [if_pos h9]
    have : pl (lim r cash) many.toNat S = ([], S) := by
      cases many.toNat with
      | zero => rfl
      | succ n => unfold pl; rw [if_neg (by omega)]
    rw [this]
    simp
  · rw [if_neg h9, limit_any _ _ _ (by omega)]
    simp only [pos_ok kc, if_true, hrr, and_self, Option.bind_some]
    obtain ⟨a1, a2, a3, a4, a5, a6⟩ := pl_facts hl.1 many.toNat S (by omega)
    generalize pl (lim r cash) many.toNat S = q at *
    obtain ⟨o, left⟩ := q
    simp only [] at a1 a2 a3 a4 a5 a6 ⊢
    exact look_l0 hl.1 a2 a4 (by omega) (by omega) (by omega) (by omega) o 0 0 K rfl (by omega) a1 (by omega) (by omega) (by omega)

end Go.Proofs.Ytfiomckebicphaa.Pure
