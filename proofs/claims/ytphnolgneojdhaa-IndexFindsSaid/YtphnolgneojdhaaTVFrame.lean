/- The plain law of frames: what Put appends, what Get and All tell. -/
import Derived.Test.YtphnolgneojdhaaTVVarint
import Derived.Test.YtphnolgneojdhaaTVCrc
import Derived.Test.YtphnolgneojdhaaTVStr
import Derived.Test.YtphnolgneojdhaaVx1
import Derived.Test.YtphnolgneojdhaaVx6
import Derived.Test.YtphnolgneojdhaaVx8
import Derived.Lib.Bytes
namespace Go.Proofs.Ytphnolgneojdhaa.TV
open Go.RowKit Go.Proofs.Ytphnolgneojdhaa.V Go.Proofs.YtphnolgneojdhaaW.PrintWords Go.Proofs.YtphnolgneojdhaaW.PrintLast Go.Proofs.YtphnolgneojdhaaW.PrintMore
set_option linter.unusedVariables false
set_option linter.unusedSimpArgs false

/-- a sum as four bytes -/
def sum4 (v : B32) : List Int := [(v.toNat : Int) / 16777216 % 256, (v.toNat : Int) / 65536 % 256, (v.toNat : Int) / 256 % 256, (v.toNat : Int) % 256]
theorem sum4_bytes (v : B32) : Bytes (sum4 v) := by
  intro c hc
  simp only [sum4, List.mem_cons, List.not_mem_nil, or_false] at hc
  unfold IsB
  omega
theorem sum4_len (v : B32) : (sum4 v).length = 4 := rfl
theorem sum4_inj {v u : B32} (h : sum4 v = sum4 u) : v = u := by
  simp only [sum4, List.cons.injEq, and_true] at h
  apply BitVec.eq_of_toNat_eq
  have h1 := v.isLt
  have h2 := u.isLt
  omega
/-- a piece's frame -/
def frameOf (p : List Int) : List Int := enc p.length ++ (sum4 (sumB p) ++ p)
theorem frameOf_bytes {p : List Int} (hp : Bytes p) : Bytes (frameOf p) := (enc_bytes _).append ((sum4_bytes _).append hp)
theorem frameOf_len (p : List Int) : (frameOf p).length = (enc p.length).length + 4 + p.length := by simp [frameOf, sum4_len]; omega
theorem len_u64 (p : List Int) (h : p.length ≤ 140737488355328) : IntKind.u64.wrap (p.length : Int) = (p.length : Int) := wrap_u64 _ (by omega) (by omega)
theorem enc_len_small {n : Nat} (h : n ≤ 140737488355328) : (enc n).length ≤ 10 := enc_ten (by omega)
theorem fput_ev (b p : List Int) (hp : Bytes p) (hl : b.length + p.length + 14 < 140737488355328) : Ev (fun k => frame_Put.f k b p) (b ++ frameOf p) := by
  have h10 := enc_len_small (n := p.length) (by omega)
  have hpos := enc_pos p.length
  unfold frame_Put.f
  rw [len_u64 p (by omega)]
  refine Ev.bind (put_ev b p.length (by omega)) ?_
  refine Ev.bind (sum_ev p hp (by omega)) ?_
  simp only [frame_written.f, Option.bind_some]
  rw [show [((sumB p).toNat : Int) / 16777216 % 256, ((sumB p).toNat : Int) / 65536 % 256, ((sumB p).toNat : Int) / 256 % 256, ((sumB p).toNat : Int) % 256] = sum4 (sumB p) from rfl]
  rw [if_pos (by simp only [List.length_append, sum4_len]; omega), if_pos (by simp only [List.length_append, sum4_len]; omega)]
  have e : b ++ enc p.length ++ sum4 (sumB p) ++ p = b ++ frameOf p := by simp [frameOf]
  rw [e]
  exact Ev.now _
theorem rfput_ev (b p : List Int) (hp : Bytes p) (hl : b.length + p.length + 14 < 140737488355328) : Ev (fun k => cooperageref1_PutFrame.f k b p) (b ++ frameOf p) := by
  have h10 := enc_len_small (n := p.length) (by omega)
  have hpos := enc_pos p.length
  unfold cooperageref1_PutFrame.f
  rw [len_u64 p (by omega)]
  refine Ev.bind (rput_ev b p.length (by omega) (by omega)) ?_
  refine Ev.bind (rsum_ev p hp (by omega)) ?_
  simp only [Option.bind_some]
  rw [show [((sumB p).toNat : Int) / 16777216 % 256, ((sumB p).toNat : Int) / 65536 % 256, ((sumB p).toNat : Int) / 256 % 256, ((sumB p).toNat : Int) % 256] = sum4 (sumB p) from rfl]
  rw [if_pos (by simp only [List.length_append, sum4_len]; omega), if_pos (by simp only [List.length_append, sum4_len]; omega)]
  have e : b ++ enc p.length ++ sum4 (sumB p) ++ p = b ++ frameOf p := by simp [frameOf]
  rw [e]
  exact Ev.now _

def getF (b : List Int) : List Int × Int × Int :=
  if (getB b).2.2 = 0 then
    (if (getB b).1 > 16777216 then ([], 0, 3)
    else if (b.length : Int) - (getB b).2.1 < 4 + (getB b).1 then ([], 0, 4)
    else if cut b (getB b).2.1.toNat 4 = sum4 (sumB (cut b ((getB b).2.1.toNat + 4) (getB b).1.toNat)) then (cut b ((getB b).2.1.toNat + 4) (getB b).1.toNat, (getB b).2.1 + 4 + (getB b).1, 0)
    else ([], 0, 5))
  else ([], 0, (getB b).2.2)
theorem getB_in {b : List Int} (hb : Bytes b) (h0 : (getB b).2.2 = 0) : ∃ n i : Nat, getB b = ((n : Int), (i : Int), 0) ∧ i ≤ b.length ∧ 1 ≤ i ∧ n < 2 ^ 64 := by
  rcases getB_cases hb with ⟨n, h1, h2, h3, h4⟩ | h | h | h
  · exact ⟨n, (enc n).length, h4, h2, enc_pos n, h3⟩
  · rw [h] at h0; cases h0
  · rw [h] at h0; cases h0
  · rw [h] at h0; cases h0
theorem fget_ev (b : List Int) (hb : Bytes b) (hl : b.length < 140737488355328) : Ev (fun k => frame_Get.f k b) (getF b) := by
  unfold frame_Get.f
  refine Ev.bind (get_ev b hb (by omega)) ?_
  unfold getF
  by_cases c0 : (getB b).2.2 = 0
  · obtain ⟨n, i, hg, hi, hi1, hn⟩ := getB_in hb c0
    rw [hg]
    simp only [if_true]
    by_cases c1 : (n : Int) > 16777216
    · simp only [if_pos c1]; exact Ev.now _
    · simp only [if_neg c1]
      rw [w64 (n := (n : Int)) (by omega) (by omega), w64 (n := 4 + (n : Int)) (by omega) (by omega), w64 (n := (b.length : Int) - (i : Int)) (by omega) (by omega)]
      by_cases c2 : (b.length : Int) - (i : Int) < 4 + (n : Int)
      · simp only [if_pos c2]; exact Ev.now _
      · simp only [if_neg c2]
        rw [w64 (n := (i : Int) + 4) (by omega) (by omega), w64 (n := (i : Int) + 4 + (n : Int)) (by omega) (by omega)]
        rw [show ((i : Int) + 4 + (n : Int)) = ((i + 4 + n : Nat) : Int) from by omega, show ((i : Int) + 4) = ((i + 4 : Nat) : Int) from by omega]
        simp only [Int.toNat_natCast, if_pos (show (0 : Int) ≤ ((i + 4 : Nat) : Int) by omega), if_pos (show ((i + 4 : Nat) : Int) ≤ ((i + 4 + n : Nat) : Int) by omega), if_pos (show ((i + 4 + n : Nat) : Int) ≤ (b.length : Int) by omega), List.nil_append, List.length_nil, Nat.zero_add, Option.bind_some, if_pos (show (0 : Int) ≤ (i : Int) by omega), if_pos (show (i : Int) ≤ ((i + 4 : Nat) : Int) by omega), if_pos (show ((i + 4 : Nat) : Int) ≤ (b.length : Int) by omega)]
        change Ev (fun k => if (cut b (i + 4) n).length < 140737488355328 then (crc_Sum.f k (cut b (i + 4) n)).bind fun t246 => (frame_written.f t246).bind fun t247 => (bytes_Equal.f (cut b i 4) t247).bind fun t250 => if t250 = true then some (cut b (i + 4) n, ((i + 4 + n : Nat) : Int), 0) else some ([], 0, 5) else none) _
        rw [cut_len (by omega)]
        simp only [if_pos (show n < 140737488355328 by omega)]
        refine Ev.bind (sum_ev _ (cut_bytes hb _ _) (by rw [cut_len (by omega)]; omega)) ?_
        simp only [frame_written.f, Option.bind_some, bytes_Equal.f]
        rw [show [((sumB (cut b (i + 4) n)).toNat : Int) / 16777216 % 256, ((sumB (cut b (i + 4) n)).toNat : Int) / 65536 % 256, ((sumB (cut b (i + 4) n)).toNat : Int) / 256 % 256, ((sumB (cut b (i + 4) n)).toNat : Int) % 256] = sum4 (sumB (cut b (i + 4) n)) from rfl]
        rw [str_beq (cut_bytes hb _ _) (sum4_bytes _)]
        by_cases c3 : cut b i 4 = sum4 (sumB (cut b (i + 4) n))
        · simp only [decide_eq_true c3, if_pos c3, if_true]
          exact Ev.now _
        · simp only [decide_eq_false c3, if_neg c3]
          exact Ev.now _
  · simp only [if_neg c0]
    exact Ev.now _
theorem or_u32 {a y s : Nat} (ha : a < 2 ^ s) (hy : y * 2 ^ s < 2 ^ 32) (hs : s ≤ 32) : Go.bits .or .u32 ((y * 2 ^ s : Nat) : Int) (a : Int) = ((y * 2 ^ s + a : Nat) : Int) := by
  have hlt : a < 2 ^ 32 := Nat.lt_of_lt_of_le ha (Nat.pow_le_pow_right (by decide) hs)
  change IntKind.u32.wrap (((BitVec.ofInt 32 ((y * 2 ^ s : Nat) : Int) ||| BitVec.ofInt 32 (a : Int)).toNat : Nat) : Int) = _
  have e : ∀ n : Nat, n < 2 ^ 32 → (BitVec.ofInt 32 (n : Int)).toNat = n := fun n h => by rw [BitVec.toNat_ofInt]; omega
  have hor : (y * 2 ^ s) ||| a = y * 2 ^ s + a := by
    rw [← Nat.shiftLeft_eq, ← Nat.shiftLeft_add_eq_or_of_lt ha]
  rw [BitVec.toNat_or, e a hlt, e _ hy, hor]
  have h2 : y * 2 ^ s + a < 2 ^ 32 := by
    rw [← hor]; exact Nat.or_lt_two_pow hy hlt
  rw [wrap_u32 _ (by omega) (by omega)]
theorem four_bytes {a b c d : Int} (ha : IsB a) (hb : IsB b) (hc : IsB c) (hd : IsB d) :
    Go.bits .or .u32 (Go.bits .or .u32 (Go.bits .or .u32 (a % 4294967296 * 16777216 % 4294967296) (b % 4294967296 * 65536 % 4294967296)) (c % 4294967296 * 256 % 4294967296)) (d % 4294967296) = a * 16777216 + b * 65536 + c * 256 + d := by
  unfold IsB at ha hb hc hd
  obtain ⟨a, rfl⟩ := Int.eq_ofNat_of_zero_le ha.1
  obtain ⟨b, rfl⟩ := Int.eq_ofNat_of_zero_le hb.1
  obtain ⟨c, rfl⟩ := Int.eq_ofNat_of_zero_le hc.1
  obtain ⟨d, rfl⟩ := Int.eq_ofNat_of_zero_le hd.1
  rw [show ((a : Int) % 4294967296 * 16777216 % 4294967296) = ((a * 2 ^ 24 : Nat) : Int) from by omega, show ((b : Int) % 4294967296 * 65536 % 4294967296) = ((b * 65536 : Nat) : Int) from by omega, show ((c : Int) % 4294967296 * 256 % 4294967296) = ((c * 256 : Nat) : Int) from by omega, show ((d : Int) % 4294967296) = ((d : Nat) : Int) from by omega]
  rw [or_u32 (by omega) (by omega) (by omega), show a * 2 ^ 24 + b * 65536 = (a * 256 + b) * 2 ^ 16 from by omega, or_u32 (by omega) (by omega) (by omega), show (a * 256 + b) * 2 ^ 16 + c * 256 = (a * 65536 + b * 256 + c) * 2 ^ 8 from by omega, or_u32 (by omega) (by omega) (by omega)]
  omega
theorem four_sum {a b c d : Int} (ha : IsB a) (hb : IsB b) (hc : IsB c) (hd : IsB d) (v : B32) : ((v.toNat : Int) = a * 16777216 + b * 65536 + c * 256 + d) ↔ [a, b, c, d] = sum4 v := by
  unfold IsB at ha hb hc hd
  simp only [sum4, List.cons.injEq, and_true]
  have := v.isLt
  omega
theorem cut_four {b : List Int} {i : Nat} (h : i + 4 ≤ b.length) : cut b i 4 = [b[i], b[i+1], b[i+2], b[i+3]] := by
  apply List.ext_getElem
  · rw [cut_len h]; rfl
  · intro j h1 h2
    simp only [cut, List.getElem_drop, List.getElem_take]
    have : j < 4 := by simpa using h2
    rcases j with _ | _ | _ | _ | j
    · rfl
    · rfl
    · rfl
    · rfl
    · omega
/-- what was framed is read, whatever stands behind -/
theorem getF_frame {p : List Int} (hp : Bytes p) (hl : p.length ≤ 16777216) (more : List Int) : getF (frameOf p ++ more) = (p, ((frameOf p).length : Int), 0) := by
  have hg : getB (frameOf p ++ more) = ((p.length : Int), ((enc p.length).length : Int), 0) := by
    unfold frameOf
    rw [List.append_assoc]
    exact getB_enc (by omega) _
  unfold getF
  rw [hg]
  have hlen := frameOf_len p
  simp only [if_true, if_neg (show ¬ ((p.length : Int) > 16777216) by omega), Int.toNat_natCast]
  rw [if_neg (by simp only [List.length_append]; omega)]
  have e1 : cut (frameOf p ++ more) (enc p.length).length 4 = sum4 (sumB p) := by
    have := cut_mid (enc p.length) (sum4 (sumB p)) (p ++ more)
    rw [sum4_len] at this
    rw [show frameOf p ++ more = enc p.length ++ (sum4 (sumB p) ++ (p ++ more)) from by simp [frameOf]]
    exact this
  have e2 : cut (frameOf p ++ more) ((enc p.length).length + 4) p.length = p := by
    have := cut_mid (enc p.length ++ sum4 (sumB p)) p more
    rw [List.length_append, sum4_len] at this
    rw [show frameOf p ++ more = enc p.length ++ sum4 (sumB p) ++ (p ++ more) from by simp [frameOf]]
    exact this
  rw [e1, e2, if_pos rfl, hlen]
  simp only [Prod.mk.injEq, and_true, true_and]
  omega
theorem getF_piece {b : List Int} (hb : Bytes b) : Bytes (getF b).1 := by
  unfold getF
  split
  · split
    · exact Bytes.nil
    · split
      · exact Bytes.nil
      · split
        · exact cut_bytes hb _ _
        · exact Bytes.nil
  · exact Bytes.nil
theorem getF_short {p : List Int} (hl : p.length ≤ 16777216) {j : Nat} (hj : j < (frameOf p).length) : (getF ((frameOf p).take j)).2.2 ≠ 0 := by
  rw [frameOf_len] at hj
  unfold getF frameOf
  by_cases c : j < (enc p.length).length
  · rw [List.take_append_of_le_length (by omega), getB_short (by omega) c]
    rw [if_neg (by decide)]
    decide
  · rw [List.take_append, List.take_of_length_le (by omega), getB_enc (by omega)]
    simp only [if_true, if_neg (show ¬ ((p.length : Int) > 16777216) by omega)]
    rw [if_pos (by simp only [List.length_append, List.length_take, sum4_len]; omega)]
    decide
theorem getF_cases {b : List Int} (hb : Bytes b) : (∃ n : Nat, getF b = ((getF b).1, (n : Int), 0) ∧ 1 ≤ n ∧ n ≤ b.length ∧ (getF b).1.length ≤ n) ∨ (∃ e : Int, e ≠ 0 ∧ getF b = ([], 0, e)) := by
  unfold getF
  by_cases c0 : (getB b).2.2 = 0
  · obtain ⟨n, i, hg, hi, hi1, hn⟩ := getB_in hb c0
    rw [hg]
    simp only [if_true]
    by_cases c1 : (n : Int) > 16777216
    · simp only [if_pos c1]; exact .inr ⟨3, by decide, rfl⟩
    · simp only [if_neg c1]
      by_cases c2 : (b.length : Int) - (i : Int) < 4 + (n : Int)
      · simp only [if_pos c2]; exact .inr ⟨4, by decide, rfl⟩
      · simp only [if_neg c2, Int.toNat_natCast]
        by_cases c3 : cut b i 4 = sum4 (sumB (cut b (i + 4) n))
        · simp only [if_pos c3]
          refine .inl ⟨i + 4 + n, ?_, by omega, by omega, ?_⟩
          · simp only [Prod.mk.injEq, and_true, true_and]; omega
          · rw [cut_len (by omega)]; omega
        · simp only [if_neg c3]; exact .inr ⟨5, by decide, rfl⟩
  · simp only [if_neg c0]
    exact .inr ⟨_, c0, rfl⟩
end Go.Proofs.Ytphnolgneojdhaa.TV
