/- Plain facts on the sum of a text, on natural numbers alone: no program in it. -/
import Derived.RowKit
import Derived.Laws.BitsLemmas
import Derived.Laws.Entries
namespace Go.HashMath
open Go
def step (h c : Nat) : Nat := ((h ^^^ c) * 1099511628211) % 18446744073709551616
def sums (h : Nat) (l : List UInt8) : Nat := l.foldl (fun h c => step h c.toNat) h
theorem u64_wrap (n : Int) : IntKind.u64.wrap n = n % 18446744073709551616 := by
  simp [IntKind.wrap, IntKind.bits, IntKind.signed]
theorem u64_wrap_nat (n : Nat) (h : n < 18446744073709551616) : IntKind.u64.wrap (n : Int) = n := by
  rw [u64_wrap]; omega
theorem xor_lt (a b : Nat) (ha : a < 18446744073709551616) (hb : b < 18446744073709551616) : a ^^^ b < 18446744073709551616 :=
  Nat.xor_lt_two_pow (n := 64) ha hb
theorem bits_xor (a b : Nat) (ha : a < 18446744073709551616) (hb : b < 18446744073709551616) :
    Go.bits .xor .u64 (a : Int) (b : Int) = ((a ^^^ b : Nat) : Int) := by
  have h := xor_lt a b ha hb
  have e : (2 : Nat) ^ IntKind.u64.bits = 18446744073709551616 := by decide
  simp only [Go.bits, BitVec.ofInt_natCast, BitVec.toNat_xor, BitVec.toNat_ofNat, e, Nat.mod_eq_of_lt ha, Nat.mod_eq_of_lt hb]
  exact u64_wrap_nat _ h
theorem step_lt (h c : Nat) : step h c < 18446744073709551616 := Nat.mod_lt _ (by decide)
theorem sums_lt : ∀ (l : List UInt8) (h : Nat), h < 18446744073709551616 → sums h l < 18446744073709551616
  | [], _, hh => hh
  | c :: l, h, _ => sums_lt l _ (step_lt h c.toNat)
theorem step_eq (a b : Nat) (ha : a < 18446744073709551616) (hb : b < 256) :
    IntKind.u64.wrap ((Go.bits .xor .u64 (a : Int) (IntKind.u64.wrap (b : Int))) * 1099511628211) = (step a b : Nat) := by
  rw [u64_wrap_nat b (by omega), bits_xor a b ha (by omega), u64_wrap]
  unfold step
  omega
theorem pq : 1099511628211 * 14886173955864302971 % 18446744073709551616 = 1 := by decide
theorem mul_back (z : Nat) (hz : z < 18446744073709551616) : (z * 1099511628211) % 18446744073709551616 * 14886173955864302971 % 18446744073709551616 = z := by
  rw [Nat.mul_mod, Nat.mod_mod, ← Nat.mul_mod, Nat.mul_assoc, Nat.mul_mod, pq, Nat.mul_one, Nat.mod_mod, Nat.mod_eq_of_lt hz]
theorem mul_cancel (x y : Nat) (hx : x < 18446744073709551616) (hy : y < 18446744073709551616)
    (h : (x * 1099511628211) % 18446744073709551616 = (y * 1099511628211) % 18446744073709551616) : x = y := by
  rw [← mul_back x hx, ← mul_back y hy, h]
theorem step_inj (a b c : Nat) (ha : a < 18446744073709551616) (hb : b < 18446744073709551616) (hc : c < 256) (h : step a c = step b c) : a = b := by
  have := mul_cancel _ _ (xor_lt a c ha (by omega)) (xor_lt b c hb (by omega)) h
  have q := congrArg (· ^^^ c) this
  simpa [Nat.xor_assoc] using q
theorem step_inj' (a c d : Nat) (ha : a < 18446744073709551616) (hc : c < 256) (hd : d < 256) (h : step a c = step a d) : c = d := by
  have := mul_cancel _ _ (xor_lt a c ha (by omega)) (xor_lt a d ha (by omega)) h
  have q := congrArg (a ^^^ ·) this
  simpa [← Nat.xor_assoc] using q
theorem low_xor (h c : Nat) (hc : c < 256) : h - h % 256 + ((h % 256) ^^^ c) = h ^^^ c := by
  have e1 : (h ^^^ c) / 2 ^ 8 = h / 2 ^ 8 ^^^ c / 2 ^ 8 := Nat.xor_div_two_pow
  have e2 : (h ^^^ c) % 2 ^ 8 = h % 2 ^ 8 ^^^ c % 2 ^ 8 := Nat.xor_mod_two_pow
  have e3 : c / 2 ^ 8 = 0 := Nat.div_eq_of_lt hc
  have e4 : c % 2 ^ 8 = c := Nat.mod_eq_of_lt hc
  rw [e3, Nat.xor_zero] at e1
  rw [e4] at e2
  simp only [show (2 : Nat) ^ 8 = 256 from rfl] at e1 e2
  rw [← e2]
  omega
end Go.HashMath
