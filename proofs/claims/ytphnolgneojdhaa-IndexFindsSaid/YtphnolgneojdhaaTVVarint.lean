/- The plain law of numbers in few bytes: what Put appends, what Get tells, and how the two go together. -/
import Derived.Test.YtphnolgneojdhaaTVBase
import Derived.Test.YtphnolgneojdhaaVx1
import Derived.Test.YtphnolgneojdhaaVx6
import Derived.Test.YtphnolgneojdhaaVx8
import Derived.Test.YtphnolgneojdhaaVx12
namespace Go.Proofs.Ytphnolgneojdhaa.TV
open Go.RowKit Go.Proofs.Ytphnolgneojdhaa.V Go.Proofs.YtphnolgneojdhaaW.PrintWords Go.Proofs.YtphnolgneojdhaaW.PrintLast Go.Proofs.YtphnolgneojdhaaW.PrintMore
set_option linter.unusedVariables false
set_option linter.unusedSimpArgs false

/-- the bytes of a number -/
def enc (n : Nat) : List Int := if n < 128 then [(n : Int)] else ((n % 128 + 128 : Nat) : Int) :: enc (n / 128)
termination_by n
theorem enc_small {n : Nat} (h : n < 128) : enc n = [(n : Int)] := by rw [enc, if_pos h]
theorem enc_big {n : Nat} (h : 128 ≤ n) : enc n = ((n % 128 + 128 : Nat) : Int) :: enc (n / 128) := by rw [enc, if_neg (by omega)]
theorem enc_pos (n : Nat) : 1 ≤ (enc n).length := by
  rcases Nat.lt_or_ge n 128 with h | h
  · rw [enc_small h]; simp
  · rw [enc_big h]; simp
theorem enc_len : ∀ (j n : Nat), n < 128 ^ (j + 1) → (enc n).length ≤ j + 1 := by
  intro j
  induction j with
  | zero => intro n h; rw [enc_small (by simpa using h)]; simp
  | succ j ih =>
    intro n h
    rcases Nat.lt_or_ge n 128 with h2 | h2
    · rw [enc_small h2]; simp
    · rw [enc_big h2, List.length_cons]
      have := ih (n / 128) (by rw [Nat.pow_succ] at h; omega)
      omega
theorem enc_ten {n : Nat} (h : n < 2 ^ 64) : (enc n).length ≤ 10 := enc_len 9 n (by omega)
theorem enc_bytes (n : Nat) : Bytes (enc n) := by
  induction n using Nat.strongRecOn with
  | ind n ih =>
    rcases Nat.lt_or_ge n 128 with h | h
    · rw [enc_small h]; intro c hc; rw [List.mem_singleton] at hc; subst hc; unfold IsB; omega
    · rw [enc_big h]; intro c hc
      rcases List.mem_cons.1 hc with rfl | hc
      · unfold IsB; omega
      · exact ih (n / 128) (by omega) c hc
theorem or128_all : ∀ m : Fin 256, Go.bits .or .u8 ((m.val : Nat) : Int) 128 = ((m.val % 128 + 128 : Nat) : Int) := by decide +kernel
theorem or128 (n : Nat) : Go.bits .or .u8 ((n : Int) % 256) 128 = ((n % 128 + 128 : Nat) : Int) := by
  have h := or128_all ⟨n % 256, Nat.mod_lt _ (by decide)⟩
  simp only at h
  rw [show ((n : Int) % 256) = ((n % 256 : Nat) : Int) from by omega, h]
  omega
theorem or128' (n : Nat) : Go.bits .or .u8 (((n % 128 : Nat) : Int) % 256) 128 = ((n % 128 + 128 : Nat) : Int) := by
  rw [or128]; omega
theorem and127 (n : Nat) (h : n < 2 ^ 64) : Go.bits .and .u64 (n : Int) 127 = ((n % 128 : Nat) : Int) := by
  change IntKind.u64.wrap (((BitVec.ofInt 64 (n : Int) &&& BitVec.ofInt 64 127).toNat : Nat) : Int) = _
  rw [BitVec.toNat_and, show (BitVec.ofInt 64 127).toNat = 2 ^ 7 - 1 from by decide, Nat.and_two_pow_sub_one_eq_mod, BitVec.toNat_ofInt]
  have : ((n : Int) % ((2 ^ 64 : Nat) : Int)).toNat = n := by omega
  rw [this, wrap_u64 _ (by omega) (by omega)]
theorem put_loop (n : Nat) : ∀ b : List Int, b.length + (enc n).length ≤ 140737488355328 → Ev (fun k => varint_Put.l0 k (n : Int) b) (b ++ enc n) := by
  induction n using Nat.strongRecOn with
  | ind n ih =>
    intro b hb
    have hp := enc_pos n
    rcases Nat.lt_or_ge n 128 with h | h
    · refine Ev.step (fun k => ?_) (Ev.now _)
      simp only [varint_Put.l0]
      rw [if_neg (by omega), if_pos (by omega), enc_small h, show ((n : Int) % 256) = (n : Int) from by omega]
    · rw [enc_big h, List.length_cons] at hb
      have := ih (n / 128) (by omega) (b ++ [((n % 128 + 128 : Nat) : Int)]) (by simp; omega)
      rw [List.append_assoc] at this
      rw [enc_big h]
      refine Ev.step (fun k => ?_) this
      simp only [varint_Put.l0]
      rw [if_pos (by omega), if_pos (by omega), or128, show ((n : Int) / 128) = ((n / 128 : Nat) : Int) from by omega]
theorem rput_loop (n : Nat) (hn : n < 2 ^ 64) : ∀ b : List Int, b.length + (enc n).length ≤ 140737488355328 → Ev (fun k => cooperageref1_Put.l0 k b (n : Int)) (b ++ enc n) := by
  induction n using Nat.strongRecOn with
  | ind n ih =>
    intro b hb
    have hp := enc_pos n
    rcases Nat.lt_or_ge n 128 with h | h
    · refine Ev.step (fun k => ?_) (Ev.now _)
      simp only [cooperageref1_Put.l0]
      rw [if_neg (by omega), if_pos (by omega), enc_small h, show ((n : Int) % 256) = (n : Int) from by omega]
    · rw [enc_big h, List.length_cons] at hb
      have := ih (n / 128) (by omega) (by omega) (b ++ [((n % 128 + 128 : Nat) : Int)]) (by simp; omega)
      rw [List.append_assoc] at this
      rw [enc_big h]
      refine Ev.step (fun k => ?_) this
      simp only [cooperageref1_Put.l0]
      rw [if_pos (by omega), if_pos (by omega), and127 n hn, or128', show ((n : Int) / 128) = ((n / 128 : Nat) : Int) from by omega]
theorem put_ev (b : List Int) (n : Nat) (hb : b.length + (enc n).length ≤ 140737488355328) : Ev (fun k => varint_Put.f k b (n : Int)) (b ++ enc n) := by
  have hp := enc_pos n
  refine Ev.congr (fun k => ?_) (put_loop n b hb)
  unfold varint_Put.f
  rw [if_pos (by simp; omega), List.nil_append]
theorem rput_ev (b : List Int) (n : Nat) (hn : n < 2 ^ 64) (hb : b.length + (enc n).length ≤ 140737488355328) : Ev (fun k => cooperageref1_Put.f k b (n : Int)) (b ++ enc n) := by
  have hp := enc_pos n
  refine Ev.congr (fun k => ?_) (rput_loop n hn b hb)
  unfold cooperageref1_Put.f
  rw [if_pos (by simp; omega), List.nil_append]

/-- what Get tells from place i on -/
def getL (i acc : Nat) : List Int → Int × Int × Int
  | [] => (0, 0, 4)
  | c :: t => if i = 9 ∧ c > 1 then (0, 0, 3) else if c ≥ 128 then getL (i + 1) (acc + (c - 128).toNat * 128 ^ i) t else if c = 0 ∧ i > 0 then (0, 0, 2) else (((acc + c.toNat * 128 ^ i : Nat) : Int), (i : Int) + 1, 0)
theorem pow128 (i : Nat) : 2 ^ (7 * i) = 128 ^ i := by rw [Nat.pow_mul]
theorem pow_le_nine {i : Nat} (h : i ≤ 9) : 128 ^ i ≤ 2 ^ 63 := by
  calc 128 ^ i ≤ 128 ^ 9 := Nat.pow_le_pow_right (by decide) h
    _ = 2 ^ 63 := by decide
theorem or_u64 {a y s : Nat} (ha : a < 2 ^ s) (hy : y * 2 ^ s < 2 ^ 64) (hs : s ≤ 63) : Go.bits .or .u64 (a : Int) ((y * 2 ^ s : Nat) : Int) = ((a + y * 2 ^ s : Nat) : Int) := by
  have hlt : a < 2 ^ 64 := Nat.lt_of_lt_of_le ha (Nat.pow_le_pow_right (by decide) (by omega))
  change IntKind.u64.wrap (((BitVec.ofInt 64 (a : Int) ||| BitVec.ofInt 64 ((y * 2 ^ s : Nat) : Int)).toNat : Nat) : Int) = _
  have e : ∀ n : Nat, n < 2 ^ 64 → (BitVec.ofInt 64 (n : Int)).toNat = n := fun n h => by rw [BitVec.toNat_ofInt]; omega
  have hor : a ||| (y * 2 ^ s) = a + y * 2 ^ s := by
    rw [Nat.or_comm, ← Nat.shiftLeft_eq, ← Nat.shiftLeft_add_eq_or_of_lt ha, Nat.add_comm]
  rw [BitVec.toNat_or, e a hlt, e _ hy, hor]
  have h2 : a + y * 2 ^ s < 2 ^ 64 := by
    rw [← hor]; exact Nat.or_lt_two_pow hlt hy
  rw [wrap_u64 _ (by omega) (by omega)]
theorem shl_u64 {y s : Nat} (hs : s ≤ 63) (hy : y * 2 ^ s < 2 ^ 64) : shl .u64 (y : Int) (s : Int) = ((y * 2 ^ s : Nat) : Int) := by
  unfold shl
  rw [Int.toNat_natCast, show min s IntKind.u64.bits = s from by simp only [IntKind.bits]; omega]
  rw [show ((y : Int) * 2 ^ s) = ((y * 2 ^ s : Nat) : Int) from by push_cast; rfl]
  rw [wrap_u64 _ (by omega) (by omega)]
theorem term_lt {i y : Nat} (hi : i ≤ 9) (hy : y < 128) (h9 : i = 9 → y ≤ 1) : y * 2 ^ (7 * i) < 2 ^ 64 := by
  rcases Nat.lt_or_ge i 9 with h | h
  · have h1 : 2 ^ (7 * i) ≤ 2 ^ 56 := Nat.pow_le_pow_right (by decide) (by omega)
    have h2 : y * 2 ^ (7 * i) ≤ 127 * 2 ^ 56 := Nat.mul_le_mul (by omega) h1
    omega
  · obtain rfl : i = 9 := by omega
    have := h9 rfl
    have h2 : y * 2 ^ 63 ≤ 1 * 2 ^ 63 := Nat.mul_le_mul_right _ this
    show y * 2 ^ 63 < 2 ^ 64
    omega
theorem and127_u8_all : ∀ m : Fin 256, Go.bits .and .u8 ((m.val : Nat) : Int) 127 = ((m.val % 128 : Nat) : Int) := by decide +kernel
theorem and127_u8 {c : Int} (hc : IsB c) : Go.bits .and .u8 c 127 = ((c.toNat % 128 : Nat) : Int) := by
  unfold IsB at hc
  have h := and127_u8_all ⟨c.toNat, by omega⟩
  simp only at h
  rwa [show ((c.toNat : Nat) : Int) = c from by omega] at h
theorem acc_next {i acc y : Nat} (h : acc < 128 ^ i) (hy : y < 128) : acc + y * 128 ^ i < 128 ^ (i + 1) := by
  rw [Nat.pow_succ]
  have : y * 128 ^ i ≤ 127 * 128 ^ i := Nat.mul_le_mul_right _ (by omega)
  omega
theorem get_loop (b : List Int) (hb : Bytes b) (hl : b.length ≤ 140737488355328) : ∀ (d i acc : Nat), i + d = b.length → i ≤ 9 → acc < 128 ^ i →
    Ev (fun k => varint_Get.l0 k (acc : Int) b (b.length : Int) (i : Int)) (getL i acc (b.drop i)) := by
  intro d
  induction d with
  | zero =>
    intro i acc h h9 ha
    refine Ev.step (fun k => ?_) (Ev.now _)
    simp only [varint_Get.l0]
    rw [if_neg (by omega), List.drop_of_length_le (by omega)]
    rfl
  | succ d ih =>
    intro i acc h h9 ha
    have hi : i < b.length := by omega
    have hc := hb _ (List.getElem_mem hi)
    rw [List.drop_eq_getElem_cons hi, getL]
    generalize hce : b[i] = c at hc ⊢
    have hrd : rd b (i : Int) = c := by rw [rd_get hi, hce]
    have hc2 := hc
    unfold IsB at hc2
    by_cases c9 : i = 9 ∧ c > 1
    · rw [if_pos c9]
      refine Ev.step (f := fun k => varint_Get.j1 k (acc : Int) (i : Int) c b (b.length : Int) (i : Int) true) (fun k => ?_) ?_
      · simp only [varint_Get.l0]
        rw [if_pos (by omega), if_pos (by omega), if_pos (by omega), if_pos (by omega), hrd, decide_eq_true c9.2]
      · exact Ev.step (fun k => by simp only [varint_Get.j1, if_true]) (Ev.now _)
    · rw [if_neg c9]
      refine Ev.step (f := fun k => varint_Get.j1 k (acc : Int) (i : Int) c b (b.length : Int) (i : Int) false) (fun k => ?_) ?_
      · simp only [varint_Get.l0]
        rw [if_pos (by omega), if_pos (by omega), if_pos (by omega), hrd]
        by_cases e9 : (i : Int) = 9
        · rw [if_pos e9, decide_eq_false (by omega)]
        · rw [if_neg e9]
      have hw7 : wrap64 (7 * (i : Int)) = ((7 * i : Nat) : Int) := by rw [w64 (by omega) (by omega)]; omega
      by_cases c128 : c ≥ 128
      · rw [if_pos c128]
        have hy : (c - 128).toNat < 128 := by omega
        have ht := term_lt (i := i) (y := (c - 128).toNat) h9 hy (by omega)
        refine Ev.step (f := fun k => varint_Get.l0 k ((acc + (c - 128).toNat * 128 ^ i : Nat) : Int) b (b.length : Int) ((i + 1 : Nat) : Int)) (fun k => ?_) ?_
        · simp only [varint_Get.j1]
          rw [if_neg (by simp), if_pos c128, hw7, if_pos (by omega), show ((c - 128) % 256) = (((c - 128).toNat : Nat) : Int) from by omega, shl_u64 (by omega) ht, or_u64 (by rw [pow128]; exact ha) ht (by omega), pow128, w64 (by omega) (by omega)]
          rfl
        · exact ih (i + 1) _ (by omega) (by omega) (acc_next ha hy)
      · rw [if_neg c128]
        by_cases c0 : c = 0 ∧ i > 0
        · rw [if_pos c0]
          refine Ev.step (fun k => ?_) (Ev.now _)
          simp only [varint_Get.j1]
          rw [if_neg (by simp), if_neg c128, if_pos c0.1, if_pos (by omega)]
        · rw [if_neg c0]
          have ht := term_lt (i := i) (y := c.toNat) h9 (by omega) (by omega)
          have hval : Go.bits .or .u64 (acc : Int) (shl .u64 (IntKind.u64.wrap c) ((7 * i : Nat) : Int)) = ((acc + c.toNat * 128 ^ i : Nat) : Int) := by
            rw [wrap_u64 c (by omega) (by omega)]
            conv => lhs; rw [show c = ((c.toNat : Nat) : Int) from by omega]
            rw [shl_u64 (by omega) ht, or_u64 (by rw [pow128]; exact ha) ht (by omega), pow128]
          refine Ev.step (fun k => ?_) (Ev.now _)
          simp only [varint_Get.j1]
          rw [if_neg (by simp), if_neg c128, hw7, hval, w64 (by omega) (by omega)]
          by_cases e0 : c = 0
          · rw [if_pos e0, if_neg (by omega), if_pos (by omega)]
          · rw [if_neg e0, if_pos (by omega)]
theorem rget_loop (b : List Int) (hb : Bytes b) (hl : b.length ≤ 140737488355328) : ∀ (d i acc : Nat), i + d = b.length → i ≤ 9 → acc < 128 ^ i →
    Ev (fun k => cooperageref1_Get.l0 k b (acc : Int) (i : Int)) (getL i acc (b.drop i)) := by
  intro d
  induction d with
  | zero =>
    intro i acc h h9 ha
    refine Ev.step (fun k => ?_) (Ev.now _)
    simp only [cooperageref1_Get.l0]
    rw [if_neg (by omega), List.drop_of_length_le (by omega)]
    rfl
  | succ d ih =>
    intro i acc h h9 ha
    have hi : i < b.length := by omega
    have hc := hb _ (List.getElem_mem hi)
    rw [List.drop_eq_getElem_cons hi, getL]
    generalize hce : b[i] = c at hc ⊢
    have hrd : rd b (i : Int) = c := by rw [rd_get hi, hce]
    have hc2 := hc
    unfold IsB at hc2
    by_cases c9 : i = 9 ∧ c > 1
    · rw [if_pos c9]
      refine Ev.step (f := fun k => cooperageref1_Get.j1 k b (acc : Int) (i : Int) c true) (fun k => ?_) ?_
      · simp only [cooperageref1_Get.l0]
        rw [if_pos (by omega), if_pos (by omega), if_pos (by omega), hrd, decide_eq_true c9.2]
      · exact Ev.step (fun k => by simp only [cooperageref1_Get.j1, if_true]) (Ev.now _)
    · rw [if_neg c9]
      refine Ev.step (f := fun k => cooperageref1_Get.j1 k b (acc : Int) (i : Int) c false) (fun k => ?_) ?_
      · simp only [cooperageref1_Get.l0]
        rw [if_pos (by omega), if_pos (by omega), hrd]
        by_cases e9 : (i : Int) = 9
        · rw [if_pos e9, decide_eq_false (by omega)]
        · rw [if_neg e9]
      have hw7 : IntKind.u64.wrap (wrap64 (7 * (i : Int))) = ((7 * i : Nat) : Int) := by rw [w64 (by omega) (by omega), wrap_u64 _ (by omega) (by omega)]; omega
      have ht := term_lt (i := i) (y := c.toNat % 128) h9 (by omega) (by omega)
      have hval : Go.bits .or .u64 (acc : Int) (shl .u64 (IntKind.u64.wrap (Go.bits .and .u8 c 127)) ((7 * i : Nat) : Int)) = ((acc + c.toNat % 128 * 128 ^ i : Nat) : Int) := by
        rw [and127_u8 hc, wrap_u64 _ (by omega) (by omega), shl_u64 (by omega) ht, or_u64 (by rw [pow128]; exact ha) ht (by omega), pow128]
      by_cases c128 : c ≥ 128
      · rw [if_pos c128]
        have hy : (c - 128).toNat < 128 := by omega
        refine Ev.step (f := fun k => cooperageref1_Get.l0 k b ((acc + (c - 128).toNat * 128 ^ i : Nat) : Int) ((i + 1 : Nat) : Int)) (fun k => ?_) ?_
        · simp only [cooperageref1_Get.j1]
          rw [if_neg (by simp), hw7, if_pos (by omega), if_neg (by omega), hval, w64 (by omega) (by omega), show c.toNat % 128 = (c - 128).toNat from by omega]
          rfl
        · exact ih (i + 1) _ (by omega) (by omega) (acc_next ha hy)
      · rw [if_neg c128]
        by_cases c0 : c = 0 ∧ i > 0
        · rw [if_pos c0]
          refine Ev.step (fun k => ?_) (Ev.now _)
          simp only [cooperageref1_Get.j1]
          rw [if_neg (by simp), hw7, if_pos (by omega), if_pos (by omega), if_pos c0.1, if_pos (by omega)]
        · rw [if_neg c0]
          refine Ev.step (fun k => ?_) (Ev.now _)
          simp only [cooperageref1_Get.j1]
          rw [if_neg (by simp), hw7, if_pos (by omega), if_pos (by omega), hval, w64 (by omega) (by omega), show c.toNat % 128 = c.toNat from by omega]
          by_cases e0 : c = 0
          · rw [if_pos e0, if_neg (by omega)]
          · rw [if_neg e0]
def getB (b : List Int) : Int × Int × Int := getL 0 0 b
theorem get_ev (b : List Int) (hb : Bytes b) (hl : b.length ≤ 140737488355328) : Ev (fun k => varint_Get.f k b) (getB b) := by
  have h := get_loop b hb hl b.length 0 0 (by omega) (by omega) (by decide)
  exact Ev.congr (fun k => by unfold varint_Get.f; rfl) h
theorem rget_ev (b : List Int) (hb : Bytes b) (hl : b.length ≤ 140737488355328) : Ev (fun k => cooperageref1_Get.f k b) (getB b) := by
  have h := rget_loop b hb hl b.length 0 0 (by omega) (by omega) (by decide)
  exact Ev.congr (fun k => by unfold cooperageref1_Get.f; rfl) h

/-- what was written is read, whatever stands behind -/
theorem getL_enc (n : Nat) : ∀ (i acc : Nat) (more : List Int), n * 128 ^ i < 2 ^ 64 → (i > 0 → n > 0) → i ≤ 9 → getL i acc (enc n ++ more) = (((acc + n * 128 ^ i : Nat) : Int), (i : Int) + (enc n).length, 0) := by
  induction n using Nat.strongRecOn with
  | ind n ih =>
    intro i acc more hlt hpos h9
    have h9' : i = 9 → n ≤ 1 := by
      rintro rfl
      rw [show (128 : Nat) ^ 9 = 2 ^ 63 from by decide] at hlt
      omega
    rcases Nat.lt_or_ge n 128 with h | h
    · rw [enc_small h, List.singleton_append, getL, if_neg (by omega), if_neg (by omega), if_neg (by omega)]
      simp
    · have hi9 : i ≠ 9 := by intro e; have := h9' e; omega
      rw [enc_big h, List.cons_append, getL, if_neg (by omega), if_pos (by omega)]
      have e1 : ((((n % 128 + 128 : Nat) : Int)) - 128).toNat = n % 128 := by omega
      have e2 : n / 128 * 128 ^ (i + 1) ≤ n * 128 ^ i := by
        rw [Nat.pow_succ, Nat.mul_comm (128 ^ i), ← Nat.mul_assoc]
        exact Nat.mul_le_mul_right _ (Nat.div_mul_le_self n 128)
      rw [e1, ih (n / 128) (by omega) (i + 1) _ more (by omega) (by omega) (by omega)]
      have e3 : acc + n % 128 * 128 ^ i + n / 128 * 128 ^ (i + 1) = acc + n * 128 ^ i := by
        rw [Nat.pow_succ, Nat.mul_comm (128 ^ i), ← Nat.mul_assoc, Nat.add_assoc, ← Nat.add_mul, show n % 128 + n / 128 * 128 = n from by omega]
      rw [e3, List.length_cons]
      simp only [Prod.mk.injEq, and_true, true_and]
      omega
theorem getB_enc {n : Nat} (hn : n < 2 ^ 64) (more : List Int) : getB (enc n ++ more) = ((n : Int), ((enc n).length : Int), 0) := by
  unfold getB; rw [getL_enc n 0 0 more (by simpa using hn) (by omega) (by omega)]; simp
/-- a part of what was written is too short -/
theorem getL_short (n : Nat) : ∀ (i acc j : Nat), n * 128 ^ i < 2 ^ 64 → i ≤ 9 → j < (enc n).length → getL i acc ((enc n).take j) = (0, 0, 4) := by
  induction n using Nat.strongRecOn with
  | ind n ih =>
    intro i acc j hlt h9 hj
    rcases j with _ | j
    · rfl
    rcases Nat.lt_or_ge n 128 with h | h
    · rw [enc_small h] at hj; simp at hj
    · have hi9 : i ≠ 9 := by
        rintro rfl
        rw [show (128 : Nat) ^ 9 = 2 ^ 63 from by decide] at hlt
        omega
      rw [enc_big h, List.length_cons] at hj
      rw [enc_big h, List.take_succ_cons, getL, if_neg (by omega), if_pos (by omega)]
      have e2 : n / 128 * 128 ^ (i + 1) ≤ n * 128 ^ i := by
        rw [Nat.pow_succ, Nat.mul_comm (128 ^ i), ← Nat.mul_assoc]
        exact Nat.mul_le_mul_right _ (Nat.div_mul_le_self n 128)
      exact ih (n / 128) (by omega) (i + 1) _ j (by omega) (by omega) (by omega)
theorem getB_short {n j : Nat} (hn : n < 2 ^ 64) (hj : j < (enc n).length) : getB ((enc n).take j) = (0, 0, 4) :=
  getL_short n 0 0 j (by simpa using hn) (by omega) hj
/-- what is read was written so, and in no other way; an error tells nothing else -/
theorem getL_cases (l : List Int) : ∀ (i acc : Nat), Bytes l → i ≤ 9 → acc < 128 ^ i →
    (∃ n, l.take (enc n).length = enc n ∧ (enc n).length ≤ l.length ∧ (i > 0 → n > 0) ∧ acc + n * 128 ^ i < 2 ^ 64 ∧ getL i acc l = (((acc + n * 128 ^ i : Nat) : Int), (i : Int) + (enc n).length, 0)) ∨
    getL i acc l = (0, 0, 2) ∨ getL i acc l = (0, 0, 3) ∨ getL i acc l = (0, 0, 4) := by
  induction l with
  | nil => intro i acc _ _ _; exact .inr (.inr (.inr rfl))
  | cons c t ih =>
    intro i acc hb h9 ha
    have hc := hb c List.mem_cons_self
    have ht : Bytes t := fun x hx => hb x (List.mem_cons_of_mem _ hx)
    unfold IsB at hc
    rw [getL]
    by_cases c9 : i = 9 ∧ c > 1
    · rw [if_pos c9]; exact .inr (.inr (.inl rfl))
    rw [if_neg c9]
    by_cases c128 : c ≥ 128
    · rw [if_pos c128]
      have hy : (c - 128).toNat < 128 := by omega
      rcases ih (i + 1) (acc + (c - 128).toNat * 128 ^ i) ht (by omega) (acc_next ha hy) with ⟨n, h1, h2, h3, h4, h5⟩ | h
      · have hn : n > 0 := h3 (by omega)
        have e : enc ((c - 128).toNat + 128 * n) = c :: enc n := by
          rw [enc_big (by omega)]
          rw [show ((c - 128).toNat + 128 * n) / 128 = n from by omega]
          congr 1; omega
        have e3 : acc + (c - 128).toNat * 128 ^ i + n * 128 ^ (i + 1) = acc + ((c - 128).toNat + 128 * n) * 128 ^ i := by
          rw [Nat.pow_succ, Nat.add_assoc, Nat.add_mul, Nat.mul_comm (128 ^ i), ← Nat.mul_assoc, Nat.mul_comm n]
        refine .inl ⟨(c - 128).toNat + 128 * n, ?_, ?_, by omega, by rw [← e3]; exact h4, ?_⟩
        · rw [e, List.length_cons, List.take_succ_cons, h1]
        · rw [e]; simp only [List.length_cons]; omega
        · rw [h5, e3, e, List.length_cons]
          simp only [Prod.mk.injEq, and_true, true_and]
          omega
      · exact .inr h
    rw [if_neg c128]
    by_cases c0 : c = 0 ∧ i > 0
    · rw [if_pos c0]; exact .inr (.inl rfl)
    rw [if_neg c0]
    refine .inl ⟨c.toNat, ?_, ?_, by omega, ?_, ?_⟩
    · rw [enc_small (by omega)]; simp; omega
    · rw [enc_small (by omega)]; simp
    · have h1 := term_lt (i := i) (y := c.toNat) h9 (by omega) (by omega)
      rw [pow128] at h1
      rcases Nat.lt_or_ge i 9 with h | h
      · have h2 := acc_next (i := i) (y := c.toNat) ha (by omega)
        have h3 : 128 ^ (i + 1) ≤ 2 ^ 63 := pow_le_nine (by omega)
        omega
      · obtain rfl : i = 9 := by omega
        have h3 : (128 : Nat) ^ 9 = 2 ^ 63 := by decide
        rw [h3] at ha ⊢
        have : c.toNat ≤ 1 := by omega
        have h4 : c.toNat * 2 ^ 63 ≤ 1 * 2 ^ 63 := Nat.mul_le_mul_right _ this
        omega
    · rw [enc_small (by omega)]; simp
theorem getB_cases {l : List Int} (hb : Bytes l) : (∃ n, l.take (enc n).length = enc n ∧ (enc n).length ≤ l.length ∧ n < 2 ^ 64 ∧ getB l = ((n : Int), ((enc n).length : Int), 0)) ∨ getB l = (0, 0, 2) ∨ getB l = (0, 0, 3) ∨ getB l = (0, 0, 4) := by
  rcases getL_cases l 0 0 hb (by omega) (by decide) with ⟨n, h1, h2, _, h4, h5⟩ | h
  · refine .inl ⟨n, h1, h2, by simpa using h4, ?_⟩
    unfold getB; rw [h5]; simp
  · exact .inr h
end Go.Proofs.Ytphnolgneojdhaa.TV
