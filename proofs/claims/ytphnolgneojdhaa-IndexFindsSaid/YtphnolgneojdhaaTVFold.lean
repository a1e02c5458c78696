/- The plain law of numbers with a sign, turned into numbers without one. -/
import Derived.Test.YtphnolgneojdhaaTVVarint
import Derived.Test.YtphnolgneojdhaaVx1
import Derived.Test.YtphnolgneojdhaaVx6
import Derived.Test.YtphnolgneojdhaaVx9
import Derived.Test.YtphnolgneojdhaaVx12
namespace Go.Proofs.Ytphnolgneojdhaa.TV
open Go.RowKit Go.Proofs.Ytphnolgneojdhaa.V Go.Proofs.YtphnolgneojdhaaW.PrintWords Go.Proofs.YtphnolgneojdhaaW.PrintLast Go.Proofs.YtphnolgneojdhaaW.PrintMore
set_option linter.unusedVariables false
set_option linter.unusedSimpArgs false

/-- a number of any sign, as one without -/
def foldN (n : Int) : Nat := if n < 0 then (-2 * n - 1).toNat else (2 * n).toNat
def unfoldN (x : Nat) : Int := if x % 2 = 1 then -((x / 2 : Nat) : Int) - 1 else ((x / 2 : Nat) : Int)
theorem fold_lt {n : Int} (h0 : -9223372036854775808 ≤ n) (h1 : n < 9223372036854775808) : foldN n < 2 ^ 64 := by unfold foldN; split <;> omega
theorem unfold_fold (n : Int) : unfoldN (foldN n) = n := by unfold unfoldN foldN; split <;> split <;> omega
theorem fold_unfold (x : Nat) : foldN (unfoldN x) = x := by unfold unfoldN foldN; split <;> split <;> omega
theorem unfold_in {x : Nat} (h : x < 2 ^ 64) : -9223372036854775808 ≤ unfoldN x ∧ unfoldN x < 9223372036854775808 := by unfold unfoldN; split <;> omega
theorem not_u64 {v : Nat} (h : v < 2 ^ 64) : Go.bits .xor .u64 18446744073709551615 (v : Int) = ((2 ^ 64 - 1 - v : Nat) : Int) := by
  change IntKind.u64.wrap (((BitVec.ofInt 64 18446744073709551615 ^^^ BitVec.ofInt 64 (v : Int)).toNat : Nat) : Int) = _
  rw [show BitVec.ofInt 64 18446744073709551615 = BitVec.allOnes 64 from by decide, BitVec.allOnes_xor, BitVec.toNat_not, BitVec.toNat_ofInt]
  rw [show ((v : Int) % ((2 ^ 64 : Nat) : Int)).toNat = v from by omega]
  rw [wrap_u64 _ (by omega) (by omega)]
theorem not_i64 {n : Int} (h0 : -9223372036854775808 ≤ n) (h1 : n < 9223372036854775808) : Go.bits .xor .i64 (-1) n = -n - 1 := by
  change IntKind.i64.wrap (((BitVec.ofInt 64 (-1) ^^^ BitVec.ofInt 64 n).toNat : Nat) : Int) = _
  rw [show BitVec.ofInt 64 (-1) = BitVec.allOnes 64 from by decide, BitVec.allOnes_xor, BitVec.toNat_not, BitVec.toNat_ofInt]
  rw [i64_w]
  unfold wrap64
  omega
theorem and1_u64 {v : Nat} (h : v < 2 ^ 64) : Go.bits .and .u64 (v : Int) 1 = ((v % 2 : Nat) : Int) := by
  change IntKind.u64.wrap (((BitVec.ofInt 64 (v : Int) &&& BitVec.ofInt 64 1).toNat : Nat) : Int) = _
  rw [BitVec.toNat_and, show (BitVec.ofInt 64 1).toNat = 2 ^ 1 - 1 from by decide, Nat.and_two_pow_sub_one_eq_mod, BitVec.toNat_ofInt]
  rw [show ((v : Int) % ((2 ^ 64 : Nat) : Int)).toNat = v from by omega]
  rw [wrap_u64 _ (by omega) (by omega)]
theorem wrap_u64' (n : Int) : IntKind.u64.wrap n = n % 18446744073709551616 := by simp [IntKind.wrap, IntKind.bits, IntKind.signed]
theorem Fold_some {n : Int} (h0 : -9223372036854775808 ≤ n) (h1 : n < 9223372036854775808) : varint_Fold.f n = some (foldN n : Int) := by
  unfold varint_Fold.f foldN
  by_cases c : n < 0
  · rw [if_pos c, if_pos c]
    have e : IntKind.u64.wrap (IntKind.u64.wrap n * 2) = (((2 * n + 18446744073709551616).toNat : Nat) : Int) := by rw [wrap_u64', wrap_u64']; omega
    rw [e, not_u64 (by omega)]
    congr 1; omega
  · rw [if_neg c, if_neg c]
    congr 1
    rw [wrap_u64', wrap_u64']; omega
theorem rFold_some {n : Int} (h0 : -9223372036854775808 ≤ n) (h1 : n < 9223372036854775808) : cooperageref1_Fold.f n = some (foldN n : Int) := by
  unfold cooperageref1_Fold.f foldN
  by_cases c : n < 0
  · rw [if_pos c, if_pos c]
    congr 1
    rw [wrap_u64', wrap_u64', wrap_u64']; unfold wrap64; omega
  · rw [if_neg c, if_neg c]
    congr 1
    rw [wrap_u64', wrap_u64']; omega
theorem Unfold_some {x : Nat} (h : x < 2 ^ 64) : varint_Unfold.f (x : Int) = some (unfoldN x) := by
  unfold varint_Unfold.f unfoldN
  rw [and1_u64 h, w64 (n := (x : Int) / 2) (by omega) (by omega)]
  by_cases c : x % 2 = 1
  · rw [if_pos c, if_pos (by omega), not_i64 (by omega) (by omega)]; congr 1
  · rw [if_neg c, if_neg (by omega)]; congr 1
theorem rUnfold_some {x : Nat} (h : x < 2 ^ 64) : cooperageref1_Unfold.f (x : Int) = some (unfoldN x) := by
  unfold cooperageref1_Unfold.f unfoldN
  rw [and1_u64 h, w64 (n := (x : Int) / 2) (by omega) (by omega)]
  by_cases c : x % 2 = 1
  · rw [if_pos c, if_pos (by omega)]; congr 1; unfold wrap64; omega
  · rw [if_neg c, if_neg (by omega)]; congr 1
end Go.Proofs.Ytphnolgneojdhaa.TV
