/- The plain law of the checksum: what More and Sum come to, as a linear map on 32 bits. -/
import Derived.Test.YtphnolgneojdhaaTVBase
import Derived.Test.YtphnolgneojdhaaVx1
import Derived.Test.YtphnolgneojdhaaVx6
namespace Go.Proofs.Ytphnolgneojdhaa.TV
open Go.RowKit Go.Proofs.Ytphnolgneojdhaa.V Go.Proofs.YtphnolgneojdhaaW.PrintWords Go.Proofs.YtphnolgneojdhaaW.PrintLast
set_option linter.unusedVariables false
set_option linter.unusedSimpArgs false

abbrev B32 := BitVec 32
/-- one step of eight -/
def st (x : B32) : B32 := (x >>> 1) ^^^ (if x.getLsbD 0 then 0xEDB88320#32 else 0#32)
def st8 (x : B32) : B32 := st (st (st (st (st (st (st (st x)))))))
theorem mask_xor (p q : Bool) : (if (p ^^ q) then 0xEDB88320#32 else 0#32) = (if p then 0xEDB88320#32 else 0#32) ^^^ (if q then 0xEDB88320#32 else 0#32) := by
  cases p <;> cases q <;> decide
theorem st_xor (a b : B32) : st (a ^^^ b) = st a ^^^ st b := by
  unfold st
  rw [BitVec.getLsbD_xor, mask_xor, BitVec.ushiftRight_xor_distrib]
  simp only [BitVec.xor_assoc]
  congr 1
  rw [← BitVec.xor_assoc, BitVec.xor_comm (b >>> 1), BitVec.xor_assoc]
theorem st_eq_zero (x : B32) (h : st x = 0) : x = 0 := by
  have h31 : (st x).getLsbD 31 = false := by rw [h]; simp
  have h0 : x.getLsbD 0 = false := by
    unfold st at h31
    rw [BitVec.getLsbD_xor, BitVec.getLsbD_ushiftRight, BitVec.getLsbD_of_ge x (1+31) (by omega)] at h31
    cases hx : x.getLsbD 0 with
    | false => rfl
    | true => rw [hx] at h31; revert h31; decide
  have hs : x >>> 1 = 0 := by
    unfold st at h; rw [h0] at h; simpa using h
  apply BitVec.eq_of_getLsbD_eq
  intro i hi
  cases i with
  | zero => rw [h0]; rfl
  | succ i =>
    have := congrArg (fun v => v.getLsbD i) hs
    simp [BitVec.getLsbD_ushiftRight] at this
    rw [Nat.add_comm] at this; simp [this]
theorem st8_xor (a b : B32) : st8 (a ^^^ b) = st8 a ^^^ st8 b := by simp only [st8, st_xor]
theorem st8_eq_zero (x : B32) (h : st8 x = 0) : x = 0 := by
  unfold st8 at h
  exact st_eq_zero _ (st_eq_zero _ (st_eq_zero _ (st_eq_zero _ (st_eq_zero _ (st_eq_zero _ (st_eq_zero _ (st_eq_zero _ h)))))))
theorem xor_eq_zero {a b : B32} : a ^^^ b = 0 ↔ a = b := by
  constructor
  · intro h
    have : a ^^^ (a ^^^ b) = a := by rw [h]; simp
    rw [← BitVec.xor_assoc] at this; simp at this; exact this.symm
  · rintro rfl; simp
theorem st8_inj {a b : B32} (h : st8 a = st8 b) : a = b := by
  apply xor_eq_zero.1
  apply st8_eq_zero
  rw [st8_xor, h]; simp
theorem st8_fix : ∀ d : BitVec 8, st8 (d.setWidth 32) = d.setWidth 32 → d = 0 := by decide

/-- a byte, as 32 bits -/
abbrev by32 (c : Int) : B32 := BitVec.ofInt 32 c
def crcB (s : B32) (b : List Int) : B32 := b.foldl (fun s c => st8 (s ^^^ by32 c)) s
def moreB (s : B32) (b : List Int) : B32 := ~~~ (crcB (~~~ s) b)
theorem crcB_append (s : B32) (a b : List Int) : crcB s (a ++ b) = crcB (crcB s a) b := by simp [crcB]
theorem crcB_cons (s : B32) (c : Int) (b : List Int) : crcB s (c :: b) = crcB (st8 (s ^^^ by32 c)) b := rfl
theorem crcB_inj {b : List Int} : ∀ {s t : B32}, crcB s b = crcB t b → s = t := by
  induction b with
  | nil => intro s t h; exact h
  | cons c b ih =>
    intro s t h
    rw [crcB_cons, crcB_cons] at h
    have h2 := st8_inj (ih h)
    have h3 : (s ^^^ by32 c) ^^^ by32 c = (t ^^^ by32 c) ^^^ by32 c := by rw [h2]
    rw [BitVec.xor_assoc, BitVec.xor_assoc] at h3; simpa using h3

theorem by32_inj {c d : Int} (hc : IsB c) (hd : IsB d) (h : by32 c = by32 d) : c = d := by
  have h2 := congrArg BitVec.toNat h
  simp only [by32, BitVec.toNat_ofInt] at h2
  unfold IsB at hc hd
  omega

theorem ofInt_nat (a : B32) : BitVec.ofInt 32 (a.toNat : Int) = a := by
  apply BitVec.eq_of_toNat_eq
  rw [BitVec.toNat_ofInt]
  have := a.isLt
  omega
theorem bits_of (a b : B32) : Go.bits .xor .u32 (a.toNat : Int) (b.toNat : Int) = ((a ^^^ b).toNat : Int) ∧ Go.bits .and .u32 (a.toNat : Int) (b.toNat : Int) = ((a &&& b).toNat : Int) := by
  unfold Go.bits
  simp only [IntKind.bits]
  rw [ofInt_nat, ofInt_nat]
  have h1 := (a ^^^ b).isLt
  have h2 := (a &&& b).isLt
  exact ⟨wrap_u32 _ (by omega) (by omega), wrap_u32 _ (by omega) (by omega)⟩
theorem not_of (a : B32) : Go.bits .xor .u32 4294967295 (a.toNat : Int) = ((~~~ a).toNat : Int) := by
  have h := (bits_of (BitVec.allOnes 32) a).1
  rw [show ((BitVec.allOnes 32).toNat : Int) = 4294967295 from by decide] at h
  rw [h]
  congr 2
theorem by32_nat {c : Int} (hc : IsB c) : c % 4294967296 = ((by32 c).toNat : Int) := by
  unfold IsB at hc; unfold by32; rw [BitVec.toNat_ofInt]; omega
theorem half_of (a : B32) : (a.toNat : Int) / (2 : Int) = ((a >>> 1).toNat : Int) := by
  rw [BitVec.toNat_ushiftRight, Nat.shiftRight_eq_div_pow]; omega
theorem low_of (a : B32) : Go.bits .and .u32 (a.toNat : Int) 1 = if a.getLsbD 0 then 1 else 0 := by
  have h := (bits_of a 1#32).2
  rw [show (((1#32 : B32).toNat : Nat) : Int) = 1 from by decide] at h
  rw [h, BitVec.toNat_and, show (1#32 : B32).toNat = 1 from rfl, Nat.and_one_is_mod]
  have hm : a.getLsbD 0 = decide (a.toNat % 2 = 1) := by simp [BitVec.getLsbD, Nat.testBit_zero]
  rw [hm]
  by_cases h2 : a.toNat % 2 = 1
  · simp [h2]
  · have : a.toNat % 2 = 0 := by omega
    simp [this]
theorem step_a (a : B32) : Go.bits .xor .u32 ((a.toNat : Int) / 2) (Go.bits .and .u32 3988292384 ((-(Go.bits .and .u32 (a.toNat : Int) 1)) % 4294967296)) = ((st a).toNat : Int) := by
  rw [low_of, half_of]
  unfold st
  cases a.getLsbD 0
  · have h := (bits_of 0xEDB88320#32 0#32).2
    rw [show (((0xEDB88320#32 : B32).toNat : Nat) : Int) = 3988292384 from by decide, show (((0#32 : B32).toNat : Nat) : Int) = 0 from by decide] at h
    simp only [Bool.false_eq_true, if_false]
    rw [show (-(0:Int)) % 4294967296 = 0 from by decide, h]
    exact (bits_of _ _).1
  · have h := (bits_of 0xEDB88320#32 0xFFFFFFFF#32).2
    rw [show (((0xEDB88320#32 : B32).toNat : Nat) : Int) = 3988292384 from by decide, show (((0xFFFFFFFF#32 : B32).toNat : Nat) : Int) = 4294967295 from by decide] at h
    simp only [if_true]
    rw [show (-(1:Int)) % 4294967296 = 4294967295 from by decide, h]
    exact (bits_of _ _).1
theorem step_b1 (a : B32) (h : a.getLsbD 0 = true) : Go.bits .xor .u32 ((a.toNat : Int) / 2) 3988292384 = ((st a).toNat : Int) := by
  rw [half_of]; unfold st; rw [if_pos h]
  exact (bits_of (a >>> 1) 0xEDB88320#32).1
theorem step_b0 (a : B32) (h : a.getLsbD 0 = false) : (a.toNat : Int) / 2 = ((st a).toNat : Int) := by
  rw [half_of]; unfold st; rw [h]; simp
theorem more_round {b : List Int} {n i : Int} {r : Int} (a : B32) (h : Ev (fun k => crc_More.l0 k ((st8 a).toNat : Int) b n (wrap64 (i + 1))) r) :
    Ev (fun k => crc_More.l1 k (a.toNat : Int) b n i 0) r := by
  have one : ∀ (j : Int) (a : B32), 0 ≤ j → j < 8 → Ev (fun k => crc_More.l1 k ((st a).toNat : Int) b n i (j + 1)) r → Ev (fun k => crc_More.l1 k (a.toNat : Int) b n i j) r := by
    intro j a h0 h1 h
    refine Ev.step (fun k => ?_) h
    simp only [crc_More.l1]
    rw [if_pos h1, step_a, w64 (by omega) (by omega)]
  refine one 0 a (by omega) (by omega) (one 1 _ (by omega) (by omega) (one 2 _ (by omega) (by omega) (one 3 _ (by omega) (by omega) (one 4 _ (by omega) (by omega) (one 5 _ (by omega) (by omega) (one 6 _ (by omega) (by omega) (one 7 _ (by omega) (by omega) ?_)))))))
  refine Ev.step (fun k => ?_) h
  simp only [crc_More.l1]
  rw [if_neg (by decide)]
  rfl
theorem rmore_round {b : List Int} {i : Int} {r : Int} (a : B32) (h : Ev (fun k => cooperageref1_More.l0 k b ((st8 a).toNat : Int) (wrap64 (i + 1))) r) :
    Ev (fun k => cooperageref1_More.l1 k b (a.toNat : Int) i 0) r := by
  have one : ∀ (j : Int) (a : B32), 0 ≤ j → j < 8 → Ev (fun k => cooperageref1_More.l1 k b ((st a).toNat : Int) i (j + 1)) r → Ev (fun k => cooperageref1_More.l1 k b (a.toNat : Int) i j) r := by
    intro j a h0 h1 h
    refine Ev.step (fun k => ?_) h
    simp only [cooperageref1_More.l1]
    rw [if_pos h1, low_of, w64 (by omega) (by omega)]
    cases hb : a.getLsbD 0
    · rw [if_neg (by simp), step_b0 a hb]
    · rw [if_pos (by simp), step_b1 a hb]
  refine one 0 a (by omega) (by omega) (one 1 _ (by omega) (by omega) (one 2 _ (by omega) (by omega) (one 3 _ (by omega) (by omega) (one 4 _ (by omega) (by omega) (one 5 _ (by omega) (by omega) (one 6 _ (by omega) (by omega) (one 7 _ (by omega) (by omega) ?_)))))))
  refine Ev.step (fun k => ?_) h
  simp only [cooperageref1_More.l1]
  rw [if_neg (by decide)]
  rfl
theorem more_loop (b : List Int) (hb : Bytes b) (hl : b.length ≤ 140737488355328) : ∀ (d i : Nat) (a : B32), i + d = b.length →
    Ev (fun k => crc_More.l0 k (a.toNat : Int) b (b.length : Int) (i : Int)) ((~~~ (crcB a (b.drop i))).toNat : Int) := by
  intro d
  induction d with
  | zero =>
    intro i a h
    refine Ev.step (fun k => ?_) (Ev.now _)
    simp only [crc_More.l0]
    rw [if_neg (by omega), not_of, List.drop_of_length_le (by omega)]
    rfl
  | succ d ih =>
    intro i a h
    have hi : i < b.length := by omega
    refine Ev.step (f := fun k => crc_More.l1 k ((a ^^^ by32 b[i]).toNat : Int) b (b.length : Int) (i : Int) 0) (fun k => ?_) ?_
    · simp only [crc_More.l0]
      rw [if_pos (by omega), if_pos (by omega), if_pos (by omega), rd_get hi, by32_nat (hb _ (List.getElem_mem hi)), (bits_of _ _).1]
    · refine more_round _ ?_
      rw [w64 (by omega) (by omega), List.drop_eq_getElem_cons hi, crcB_cons]
      exact ih (i + 1) _ (by omega)
theorem rmore_loop (b : List Int) (hb : Bytes b) (hl : b.length ≤ 140737488355328) : ∀ (d i : Nat) (a : B32), i + d = b.length →
    Ev (fun k => cooperageref1_More.l0 k b (a.toNat : Int) (i : Int)) ((~~~ (crcB a (b.drop i))).toNat : Int) := by
  intro d
  induction d with
  | zero =>
    intro i a h
    refine Ev.step (fun k => ?_) (Ev.now _)
    simp only [cooperageref1_More.l0]
    rw [if_neg (by omega), not_of, List.drop_of_length_le (by omega)]
    rfl
  | succ d ih =>
    intro i a h
    have hi : i < b.length := by omega
    refine Ev.step (f := fun k => cooperageref1_More.l1 k b ((a ^^^ by32 b[i]).toNat : Int) (i : Int) 0) (fun k => ?_) ?_
    · simp only [cooperageref1_More.l0]
      rw [if_pos (by omega), if_pos (by omega), rd_get hi, by32_nat (hb _ (List.getElem_mem hi)), (bits_of _ _).1]
    · refine rmore_round _ ?_
      rw [w64 (by omega) (by omega), List.drop_eq_getElem_cons hi, crcB_cons]
      exact ih (i + 1) _ (by omega)
theorem more_ev (s : B32) (b : List Int) (hb : Bytes b) (hl : b.length ≤ 140737488355328) : Ev (fun k => crc_More.f k (s.toNat : Int) b) ((moreB s b).toNat : Int) := by
  have h := more_loop b hb hl b.length 0 (~~~ s) (by omega)
  refine Ev.congr (fun k => ?_) h
  unfold crc_More.f; rw [not_of]; rfl
theorem rmore_ev (s : B32) (b : List Int) (hb : Bytes b) (hl : b.length ≤ 140737488355328) : Ev (fun k => cooperageref1_More.f k (s.toNat : Int) b) ((moreB s b).toNat : Int) := by
  have h := rmore_loop b hb hl b.length 0 (~~~ s) (by omega)
  refine Ev.congr (fun k => ?_) h
  unfold cooperageref1_More.f; rw [not_of]; rfl
def sumB (b : List Int) : B32 := moreB 0#32 b
theorem sum_ev (b : List Int) (hb : Bytes b) (hl : b.length ≤ 140737488355328) : Ev (fun k => crc_Sum.f k b) ((sumB b).toNat : Int) := by
  unfold crc_Sum.f
  exact Ev.bind (g := fun k => crc_More.f k 0 b) (f := fun _ t => some t) (more_ev 0#32 b hb hl) (Ev.now _)
theorem rsum_ev (b : List Int) (hb : Bytes b) (hl : b.length ≤ 140737488355328) : Ev (fun k => cooperageref1_Sum.f k b) ((sumB b).toNat : Int) := by
  unfold cooperageref1_Sum.f
  exact Ev.bind (g := fun k => cooperageref1_More.f k 0 b) (f := fun _ t => some t) (rmore_ev 0#32 b hb hl) (Ev.now _)
theorem sum_lt (b : List Int) : 0 ≤ ((sumB b).toNat : Int) ∧ ((sumB b).toNat : Int) < 4294967296 := by have := (sumB b).isLt; omega
theorem moreB_sum (a b : List Int) : moreB (sumB a) b = sumB (a ++ b) := by
  unfold sumB moreB
  rw [crcB_append, BitVec.not_not]
/-- one byte is another: the sum is another -/
theorem sum_set {l : List Int} (hl : Bytes l) {i : Nat} (hi : i < l.length) {y : Int} (hy : IsB y) (hne : y ≠ l[i]) : sumB (l.set i y) ≠ sumB l := by
  intro h
  unfold sumB moreB at h
  have h2 : crcB (~~~ 0#32) (l.set i y) = crcB (~~~ 0#32) l := by
    have := congrArg (~~~ ·) h
    simpa using this
  rw [List.set_eq_take_append_cons_drop, if_pos hi] at h2
  conv at h2 => rhs; rw [← List.take_append_drop i l, List.drop_eq_getElem_cons hi]
  rw [crcB_append, crcB_append, crcB_cons, crcB_cons] at h2
  have h3 := st8_inj (crcB_inj h2)
  apply hne
  apply by32_inj hy (hl _ (List.getElem_mem hi))
  have h4 := congrArg (crcB (~~~0#32) (List.take i l) ^^^ ·) h3
  simpa [← BitVec.xor_assoc] using h4
theorem xor_four {s p q x y : B32} (h : s ^^^ q ^^^ x = s ^^^ p ^^^ y) : p ^^^ q = x ^^^ y := by
  apply BitVec.eq_of_getLsbD_eq
  intro i hi
  have h2 := congrArg (fun v => v.getLsbD i) h
  simp only [BitVec.getLsbD_xor] at h2 ⊢
  revert h2
  cases s.getLsbD i <;> cases p.getLsbD i <;> cases q.getLsbD i <;> cases x.getLsbD i <;> cases y.getLsbD i <;> decide
/-- two neighbours exchanged -/
theorem sum_swap {l : List Int} (hl : Bytes l) {i : Nat} (hi : i + 1 < l.length) :
    sumB ((l.set i l[i+1]).set (i + 1) (l[i]'(by omega))) = sumB l ↔ l[i]'(by omega) = l[i+1] := by
  constructor
  · intro h
    unfold sumB moreB at h
    have h2 : crcB (~~~ 0#32) ((l.set i l[i+1]).set (i + 1) (l[i]'(by omega))) = crcB (~~~ 0#32) l := by
      have := congrArg (~~~ ·) h
      simpa using this
    have hd : (l.set i l[i+1]).set (i + 1) (l[i]'(by omega)) = l.take i ++ l[i+1] :: (l[i]'(by omega)) :: l.drop (i + 2) := by
      apply List.ext_getElem
      · simp; omega
      · intro j h1 h2
        simp only [List.getElem_set, List.getElem_append, List.getElem_take, List.length_take]
        by_cases hj : j < i
        · rw [if_neg (by omega), if_neg (by omega), dif_pos (by omega)]
        · rw [dif_neg (by omega)]
          have hm : min i l.length = i := by omega
          obtain ⟨q, rfl⟩ : ∃ q, j = i + q := ⟨j - i, by omega⟩
          rcases q with _ | _ | q
          · simp [hm]
          · simp [hm]
          · rw [if_neg (by omega), if_neg (by omega)]
            simp only [hm, show i + (q + 1 + 1) - i = q + 1 + 1 from by omega, List.getElem_cons_succ, List.getElem_drop]
            congr 1; omega
    have ho : l = l.take i ++ (l[i]'(by omega)) :: l[i+1] :: l.drop (i + 2) := by
      conv => lhs; rw [← List.take_append_drop i l, List.drop_eq_getElem_cons (by omega), List.drop_eq_getElem_cons (show i + 1 < l.length by omega)]
    rw [hd] at h2
    conv at h2 => rhs; rw [ho]
    simp only [crcB_append, crcB_cons] at h2
    have h3 := st8_inj (crcB_inj h2)
    generalize crcB (~~~0#32) (List.take i l) = s at h3
    generalize hx : l[i]'(by omega) = x at h3 ⊢
    generalize hy : l[i+1] = y at h3 ⊢
    have bx : IsB x := hx ▸ hl _ (List.getElem_mem _)
    have hy' : IsB y := hy ▸ hl _ (List.getElem_mem _)
    rw [st8_xor, st8_xor] at h3
    have h4 : st8 (by32 x ^^^ by32 y) = by32 x ^^^ by32 y := by
      rw [st8_xor]
      exact xor_four h3
    have h6 : by32 x ^^^ by32 y = (BitVec.ofInt 8 x ^^^ BitVec.ofInt 8 y).setWidth 32 := by
      rw [BitVec.setWidth_xor]
      have e : ∀ c, IsB c → by32 c = (BitVec.ofInt 8 c).setWidth 32 := fun c hc => by
        unfold IsB at hc
        apply BitVec.eq_of_toNat_eq
        simp only [by32, BitVec.toNat_ofInt, BitVec.toNat_setWidth]
        omega
      rw [e x bx, e y hy']
    rw [h6] at h4
    have h7 := st8_fix _ h4
    rw [h7] at h6
    exact by32_inj bx hy' (xor_eq_zero.1 h6)
  · intro h
    have : (l.set i l[i+1]).set (i + 1) (l[i]'(by omega)) = l := by
      apply List.ext_getElem
      · simp
      · intro j h1 h2
        simp only [List.getElem_set]
        by_cases hj : i + 1 = j
        · subst hj; rw [if_pos rfl, h]
        · rw [if_neg hj]
          by_cases hk : i = j
          · subst hk; rw [if_pos rfl, h]
          · rw [if_neg hk]
    rw [this]
end Go.Proofs.Ytphnolgneojdhaa.TV
