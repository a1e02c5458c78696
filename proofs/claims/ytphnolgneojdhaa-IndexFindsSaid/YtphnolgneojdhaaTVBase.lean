/- Bytes, numbers and their wraps. -/
import Derived.Test.YtphnolgneojdhaaYVW
namespace Go.Proofs.Ytphnolgneojdhaa.TV
open Go.RowKit Go.Proofs.YtphnolgneojdhaaW.PrintWords Go.Proofs.YtphnolgneojdhaaW.PrintLast Go.Proofs.YtphnolgneojdhaaW.PrintMore
set_option linter.unusedVariables false
set_option linter.unusedSimpArgs false

/-- what a number in the range of bytes is -/
def IsB (c : Int) : Prop := 0 ≤ c ∧ c ≤ 255
def Bytes (b : List Int) : Prop := ∀ c ∈ b, IsB c
theorem wrap_u32 (n : Int) (h0 : 0 ≤ n) (h1 : n < 4294967296) : IntKind.u32.wrap n = n := by
  simp [IntKind.wrap, IntKind.bits, IntKind.signed]; omega
theorem w64 {n : Int} (h0 : -9223372036854775808 ≤ n) (h1 : n < 9223372036854775808) : wrap64 n = n := by unfold wrap64; omega
theorem rd_get {b : List Int} {i : Nat} (h : i < b.length) : rd b (i : Int) = b[i] := by
  simp [rd, List.getD_eq_getElem?_getD, List.getElem?_eq_getElem h]

theorem wf_u8 {l : List Int} (h : ∀ x ∈ l, (Lit.int .u8 x).wf = true) : Bytes l := by
  intro c hc
  have := h c hc
  simp [Lit.wf, IntKind.min, IntKind.max, IntKind.signed, IntKind.bits] at this
  exact this
theorem wf_i64 {x : Int} (h : (Lit.int .i64 x).wf = true) : -9223372036854775808 ≤ x ∧ x < 9223372036854775808 := by
  simp [Lit.wf, IntKind.min, IntKind.max, IntKind.signed, IntKind.bits] at h
  omega
theorem wf_u64 {x : Int} (h : (Lit.int .u64 x).wf = true) : 0 ≤ x ∧ x < 18446744073709551616 := by
  simp [Lit.wf, IntKind.min, IntKind.max, IntKind.signed, IntKind.bits] at h
  omega
theorem wf_u32 {x : Int} (h : (Lit.int .u32 x).wf = true) : 0 ≤ x ∧ x < 4294967296 := by
  simp [Lit.wf, IntKind.min, IntKind.max, IntKind.signed, IntKind.bits] at h
  omega
theorem Bytes.append {a b : List Int} (h : Bytes a) (k : Bytes b) : Bytes (a ++ b) := fun c hc => (List.mem_append.1 hc).elim (h c) (k c)
theorem Bytes.nil : Bytes [] := fun c hc => by simp at hc
theorem Bytes.take {a : List Int} (h : Bytes a) (n : Nat) : Bytes (a.take n) := fun c hc => h c (List.mem_of_mem_take hc)
theorem Bytes.drop {a : List Int} (h : Bytes a) (n : Nat) : Bytes (a.drop n) := fun c hc => h c (List.mem_of_mem_drop hc)
theorem Bytes.set {a : List Int} (h : Bytes a) (n : Nat) {y : Int} (hy : IsB y) : Bytes (a.set n y) := fun c hc => (List.mem_or_eq_of_mem_set hc).elim (h c) (fun e => e ▸ hy)

/-- a bit of a byte turned -/
theorem wrap_u8 (n : Int) (h0 : 0 ≤ n) (h1 : n < 256) : IntKind.u8.wrap n = n := by
  simp [IntKind.wrap, IntKind.bits, IntKind.signed]; omega
theorem wrap_u64 (n : Int) (h0 : 0 ≤ n) (h1 : n < 18446744073709551616) : IntKind.u64.wrap n = n := by
  simp [IntKind.wrap, IntKind.bits, IntKind.signed]; omega
theorem wrap_i64 (n : Int) (h0 : -9223372036854775808 ≤ n) (h1 : n < 9223372036854775808) : IntKind.i64.wrap n = n := by
  simp [IntKind.wrap, IntKind.bits, IntKind.signed]; omega
theorem and7 (z : Int) : ∃ m : Nat, m ≤ 7 ∧ IntKind.u64.wrap (Go.bits .and .i64 z 7) = (m : Int) := by
  refine ⟨(BitVec.ofInt 64 z &&& 7#64).toNat, ?_, ?_⟩
  · rw [BitVec.toNat_and]
    exact Nat.le_trans Nat.and_le_right (by decide)
  · have hle : (BitVec.ofInt 64 z &&& 7#64).toNat ≤ 7 := by rw [BitVec.toNat_and]; exact Nat.le_trans Nat.and_le_right (by decide)
    change IntKind.u64.wrap (IntKind.i64.wrap (((BitVec.ofInt 64 z &&& BitVec.ofInt 64 7).toNat : Nat) : Int)) = _
    rw [show BitVec.ofInt 64 7 = 7#64 from by decide]
    generalize (BitVec.ofInt 64 z &&& 7#64).toNat = m at hle ⊢
    rw [wrap_i64 _ (by omega) (by omega), wrap_u64 _ (by omega) (by omega)]
theorem xor_u8 (a b : BitVec 8) : Go.bits .xor .u8 (a.toNat : Int) (b.toNat : Int) = ((a ^^^ b).toNat : Int) := by
  have ho : ∀ a : BitVec 8, BitVec.ofInt 8 (a.toNat : Int) = a := fun a => by
    apply BitVec.eq_of_toNat_eq
    rw [BitVec.toNat_ofInt]
    have := a.isLt
    omega
  unfold Go.bits
  simp only [IntKind.bits]
  rw [ho, ho]
  have h1 := (a ^^^ b).isLt
  exact wrap_u8 _ (by omega) (by omega)
/-- a byte, one of whose bits is turned -/
def turn (x : Int) (m : Nat) : Int := ((BitVec.ofInt 8 x ^^^ BitVec.ofNat 8 (2 ^ m)).toNat : Int)
theorem turn_is {x : Int} {m : Nat} : IsB (turn x m) := by
  unfold turn IsB; have := (BitVec.ofInt 8 x ^^^ BitVec.ofNat 8 (2 ^ m)).isLt; omega
theorem turn_ne {x : Int} {m : Nat} (hx : IsB x) (hm : m ≤ 7) : turn x m ≠ x := by
  intro h
  have hx2 : ((BitVec.ofInt 8 x).toNat : Int) = x := by unfold IsB at hx; rw [BitVec.toNat_ofInt]; omega
  unfold turn at h
  rw [← hx2] at h
  have h2 : BitVec.ofInt 8 (((BitVec.ofInt 8 x).toNat : Nat) : Int) ^^^ BitVec.ofNat 8 (2 ^ m) = BitVec.ofInt 8 x := by
    apply BitVec.eq_of_toNat_eq
    omega
  rw [hx2] at h2
  have h3 := congrArg (BitVec.ofInt 8 x ^^^ ·) h2
  simp [← BitVec.xor_assoc] at h3
  have h4 := congrArg BitVec.toNat h3
  have : ∀ m : Nat, m ≤ 7 → (BitVec.ofNat 8 (2 ^ m)).toNat ≠ 0 := by decide
  exact this m hm h4
theorem turned {x z : Int} (hx : IsB x) : ∃ m : Nat, m ≤ 7 ∧ IntKind.u64.wrap (Go.bits .and .i64 z 7) = (m : Int) ∧ Go.bits .xor .u8 x (shl .u8 1 (m : Int)) = turn x m := by
  obtain ⟨m, hm, he⟩ := and7 z
  refine ⟨m, hm, he, ?_⟩
  have hs : shl .u8 1 (m : Int) = ((BitVec.ofNat 8 (2 ^ m)).toNat : Int) := by
    have : ∀ m : Nat, m ≤ 7 → shl .u8 1 (m : Int) = ((BitVec.ofNat 8 (2 ^ m)).toNat : Int) := by decide
    exact this m hm
  have hx2 : ((BitVec.ofInt 8 x).toNat : Int) = x := by unfold IsB at hx; rw [BitVec.toNat_ofInt]; omega
  rw [hs]
  conv => lhs; rw [← hx2]
  rw [xor_u8]; rfl
end Go.Proofs.Ytphnolgneojdhaa.TV
