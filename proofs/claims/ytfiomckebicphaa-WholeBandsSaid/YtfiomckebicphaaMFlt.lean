/- What the operations on floats and complex numbers come to, of whole numbers from 0 up to 2 ^ 53. -/
import Derived.Test.YtfiomckebicphaaMFloat
import Derived.Tactics
namespace Go.Proofs.Ytfiomckebicphaa.Flt
open Go Go.Op

/-- The word of a whole number, not below 0. -/
def FI (n : Int) : Nat := F n.toNat
def FOk (x : Int) : Prop := 0 ≤ x ∧ x < 9007199254740992
instance (x : Int) : Decidable (FOk x) := by unfold FOk; exact inferInstance
def FMul (a c d : Int) : Prop := FOk a ∧ FOk c ∧ FOk d ∧ a * c < 9007199254740992 ∧ a * d < 9007199254740992
instance (a c d : Int) : Decidable (FMul a c d) := by unfold FMul; exact inferInstance
def FAdd (a b c d : Int) : Prop := FOk a ∧ FOk b ∧ FOk c ∧ FOk d ∧ a + c < 9007199254740992 ∧ b + d < 9007199254740992
instance (a b c d : Int) : Decidable (FAdd a b c d) := by unfold FAdd; exact inferInstance
def FEq (a b c d : Int) : Prop := FOk a ∧ FOk b ∧ FOk c ∧ FOk d
instance (a b c d : Int) : Decidable (FEq a b c d) := by unfold FEq; exact inferInstance
def fok (x : Int) : Bool := decide (FOk x)
def fmul (a c d : Int) : Bool := decide (FMul a c d)
def fadd (a b c d : Int) : Bool := decide (FAdd a b c d)
def feq (a b c d : Int) : Bool := decide (FEq a b c d)
theorem nat53 {x : Int} (h : FOk x) : x.toNat ≤ 2 ^ 53 := by
  have := h.2
  omega
theorem FI_0 : FI 0 = 0 := by decide +kernel
theorem nearest_I {x : Int} (h : FOk x) : FloatKind.f64.nearest x = FI x := by
  obtain ⟨n, rfl⟩ : ∃ n : Nat, x = n := ⟨x.toNat, by have := h.1; omega⟩
  unfold FI F FloatKind.nearest FloatKind.encode
  have : decide ((n : Int) < 0) = false := by simp
  rw [this]
  rfl
theorem conv_if {P : Program} {s t : TypeId} (hs : P.underlying s = some (.int .i64)) (ht : P.underlying t = some (.float .f64)) {x : Int} (h : FOk x) (W : World) :
    Sem.run P (convert s t (.int .i64 x)) W = .ok (.float .f64 (FI x)) W := by
  simp [convert, run_underlying hs, run_underlying ht, Conv.intToFloat, nearest_I h]
theorem conv_fi {P : Program} {s t : TypeId} (hs : P.underlying s = some (.float .f64)) (ht : P.underlying t = some (.int .i64)) {x : Int} (h : FOk x) (W : World) :
    Sem.run P (convert s t (.float .f64 (FI x))) W = .ok (.int .i64 x) W := by
  have hx : floatToIntVal .f64 (FI x) .i64 = some x := by
    have h1 : (FloatKind.f64.decode (FI x)).toInt .zero = some ((x.toNat : Nat) : Int) := toInt_F (nat53 h)
    have h2 : ((x.toNat : Nat) : Int) = x := by have := h.1; omega
    rw [h2] at h1
    have h3 : IntKind.i64.min ≤ x ∧ x ≤ IntKind.i64.max := by
      have := h.1
      have := h.2
      simp [IntKind.min, IntKind.max, IntKind.signed, IntKind.bits]
      omega
    unfold floatToIntVal
    rw [h1]
    simp only [h3, and_self, if_true]
  exact run_convert_float_int W s t .f64 .i64 (FI x) x (by rw [hs]; rfl) ht hx
theorem order_most {x : Int} (h : FOk x) : FloatKind.f64.format.order (FI x) 4845873199050653696 = some .lt := by
  have hc : (4845873199050653696 : Nat) = F (2 ^ 53) := by decide +kernel
  have ho : FloatKind.f64.format.order (FI x) 4845873199050653696 = some (compare x.toNat (2 ^ 53)) := by
    rw [hc]
    exact order_F (nat53 h) (Nat.le_refl _)
  have h1 := h.1
  have h2 := h.2
  rw [ho, Nat.compare_eq_lt.mpr (by omega)]
theorem order_least_I {x : Int} (h : FOk x) : FloatKind.f64.format.order (FI x) 14069245235905429504 = some .gt := order_least (nat53 h)
theorem order_same {x y : Int} (h : FOk x) (h' : FOk y) : (FloatKind.f64.format.order (FI x) (FI y) == some .eq) = (x == y) := by
  have ho : FloatKind.f64.format.order (FI x) (FI y) = some (compare x.toNat y.toNat) := order_F (nat53 h) (nat53 h')
  rw [ho]
  by_cases e : x = y
  · subst e
    rw [Nat.compare_eq_eq.mpr rfl]
    simp
  · have h1 := h.1
    have h2 := h'.1
    have : x.toNat ≠ y.toNat := by omega
    have hc : compare x.toNat y.toNat ≠ .eq := fun hc => this (Nat.compare_eq_eq.mp hc)
    rw [show (x == y) = false by simpa using e]
    simpa using hc
theorem mul_I {x y : Int} (h : FOk x) (h' : FOk y) (hm : x * y ≤ 9007199254740992) : FloatKind.f64.format.mul (FI x) (FI y) = some (FI (x * y)) := by
  obtain ⟨m, rfl⟩ : ∃ n : Nat, x = n := ⟨x.toNat, by have := h.1; omega⟩
  obtain ⟨n, rfl⟩ : ∃ n : Nat, y = n := ⟨y.toNat, by have := h'.1; omega⟩
  have := h.2
  have := h'.2
  have e : ((m : Int) * n).toNat = m * n := by rw [← Int.natCast_mul]; exact Int.toNat_natCast _
  unfold FI
  rw [e]
  refine mul_F (a := m) (b := n) (by omega) (by omega) ?_
  rw [← Int.natCast_mul] at hm
  omega
theorem add_I {x y : Int} (h : FOk x) (h' : FOk y) (hm : x + y ≤ 9007199254740992) : FloatKind.f64.format.add (FI x) (FI y) = some (FI (x + y)) := by
  obtain ⟨m, rfl⟩ : ∃ n : Nat, x = n := ⟨x.toNat, by have := h.1; omega⟩
  obtain ⟨n, rfl⟩ : ∃ n : Nat, y = n := ⟨y.toNat, by have := h'.1; omega⟩
  have e : ((m : Int) + n).toNat = m + n := by omega
  unfold FI
  rw [e]
  exact add_F (a := m) (b := n) (by omega)
theorem sub0_I {x : Int} (h : FOk x) : FloatKind.f64.format.sub (FI x) (FI 0) = some (FI x) := sub0_F (nat53 h)
theorem FOk_0 : FOk 0 := by decide
theorem mul_c {P : Program} {t : TypeId} {a c d : Int} (h : FMul a c d) (W : World) :
    Sem.run P (Go.binOp .mul t (.complex .f64 (FI a) 0) (.complex .f64 (FI c) (FI d))) W = .ok (.complex .f64 (FI (a * c)) (FI (a * d))) W := by
  obtain ⟨ha, hc, hd, h1, h2⟩ := h
  have hac : FOk (a * c) := ⟨Int.mul_nonneg ha.1 hc.1, h1⟩
  have had : FOk (a * d) := ⟨Int.mul_nonneg ha.1 hd.1, h2⟩
  have e1 := mul_I ha hc (Int.le_of_lt h1)
  have e2 := mul_I ha hd (Int.le_of_lt h2)
  have e3 := mul_I FOk_0 hd (by omega)
  have e4 := mul_I FOk_0 hc (by omega)
  rw [Int.zero_mul] at e3 e4
  have e5 := sub0_I hac
  have e6 := add_I had FOk_0 (by rw [Int.add_zero]; exact Int.le_of_lt h2)
  rw [Int.add_zero] at e6
  rw [← FI_0]
  simp [Go.binOp, complexOp, Complex.product, Complex.conv, Complex.mul, Complex.sub, Complex.add, Complex.arith, floatArith, e1, e2, e3, e4, e5, e6]
theorem add_c {P : Program} {t : TypeId} {a b c d : Int} (h : FAdd a b c d) (W : World) :
    Sem.run P (Go.binOp .add t (.complex .f64 (FI a) (FI b)) (.complex .f64 (FI c) (FI d))) W = .ok (.complex .f64 (FI (a + c)) (FI (b + d))) W := by
  obtain ⟨ha, hb, hc, hd, h1, h2⟩ := h
  have e1 := add_I ha hc (Int.le_of_lt h1)
  have e2 := add_I hb hd (Int.le_of_lt h2)
  simp [Go.binOp, complexOp, Complex.arith, floatArith, e1, e2]
theorem order_self {x : Int} (h : FOk x) : FloatKind.f64.format.order (FI x) (FI x) = some .eq := by
  have := order_same h h
  simpa using this
theorem neq_c {P : Program} {t : TypeId} {a b c d : Int} (h : FEq a b c d) (W : World) :
    Sem.run P (Go.binOp .neq t (.complex .f64 (FI a) (FI b)) (.complex .f64 (FI c) (FI d))) W = .ok (.bool (!(a == c && b == d))) W := by
  obtain ⟨ha, hb, hc, hd⟩ := h
  have e1 := order_same ha hc
  have e2 := order_same hb hd
  simp [Go.binOp, complexOp, Complex.cmp, floatCmp, asBool, e1, e2]
theorem run_complex {P : Program} (ts : Array TypeId) (t : TypeId) (x y : Nat) (W : World) : Sem.run P (Builtin.complex_ ts t #[.float .f64 x, .float .f64 y]) W = .ok (.complex .f64 x y) W := by
  rfl
theorem run_real {P : Program} (ts : Array TypeId) (t : TypeId) (x y : Nat) (W : World) : Sem.run P (Builtin.real_ ts t #[.complex .f64 x y]) W = .ok (.float .f64 x) W := by
  rfl
theorem run_imag {P : Program} (ts : Array TypeId) (t : TypeId) (x y : Nat) (W : World) : Sem.run P (Builtin.imag_ ts t #[.complex .f64 x y]) W = .ok (.float .f64 y) W := by
  rfl
end Go.Proofs.Ytfiomckebicphaa.Flt
