/- The statement on frames whose end was torn off: all whole ones are told, and nothing else. -/
import Derived.Test.YtpafbpfcoacidaaTFFrameAll
import Derived.Test.YtpafbpfcoacidaaPureFramePuts
import Derived.Test.YtpafbpfcoacidaaFx7
namespace Go.Proofs.Ytpafbpfcoacidaa.Pure
open Go.RowKit Go.Proofs.Ytpafbpfcoacidaa.F Go.Proofs.YtpafbpfcoacidaaW.PrintWords Go.Proofs.YtpafbpfcoacidaaW.PrintLast Go.Proofs.YtpafbpfcoacidaaW.PrintMore Go.Proofs.Ytpafbpfcoacidaa.TF
set_option linter.unusedVariables false

/-- frames one behind the other -/
def framesOf (l : List (List Int)) : List Int := l.flatMap frameOf
theorem framesOf_append (a b : List (List Int)) : framesOf (a ++ b) = framesOf a ++ framesOf b := List.flatMap_append
theorem framesOf_cons (p : List Int) (l : List (List Int)) : framesOf (p :: l) = frameOf p ++ framesOf l := List.flatMap_cons
theorem framesOf_one (p : List Int) : framesOf [p] = frameOf p := by simp [framesOf]
theorem framesOf_bytes : ∀ l : List (List Int), (∀ p ∈ l, Bytes p) → Bytes (framesOf l)
  | [], _ => Bytes.nil
  | p :: l, h => by rw [framesOf_cons]; exact (frameOf_bytes (h p (by simp))).append (framesOf_bytes l fun q hq => h q (by simp [hq]))
theorem frameOf_small {p : List Int} (h : p.length ≤ 100) : (frameOf p).length ≤ 114 ∧ 5 ≤ (frameOf p).length := by
  have h1 := frameOf_len p
  have h2 := enc_len_small (n := p.length) (by omega)
  have h3 := enc_pos p.length
  omega
theorem framesOf_len : ∀ l : List (List Int), (∀ p ∈ l, p.length ≤ 100) → (framesOf l).length ≤ 114 * l.length
  | [], _ => by simp [framesOf]
  | p :: l, h => by
    have h1 := framesOf_len l fun q hq => h q (by simp [hq])
    have h2 := (frameOf_small (h p (by simp))).1
    rw [framesOf_cons, List.length_append, List.length_cons]; omega
theorem getF_short {p : List Int} (hl : p.length ≤ 16777216) {j : Nat} (hj : j < (frameOf p).length) : (getF ((frameOf p).take j)).2.2 ≠ 0 := by
  rw [frameOf_len] at hj
  unfold getF frameOf
  by_cases c : j < (enc p.length).length
  · rw [List.take_append_of_le_length (by omega), getB_short (by omega) c]
    rw [if_neg (by decide)]
    decide
  · rw [List.take_append, List.take_of_length_le (by omega), getB_enc (by omega)]
    simp only [if_true, if_neg (show ¬ ((p.length : Int) > 16777216) by omega)]
    rw [if_pos (by simp only [List.length_append, List.length_take, sum4_len]; omega)]
    decide
theorem allL_frames (tail : List Int) (ht : tail.length = 0 ∨ (getF tail).2.2 ≠ 0) : ∀ (l : List (List Int)) (d : Nat), (∀ p ∈ l, Bytes p ∧ p.length ≤ 100) → (framesOf l ++ tail).length ≤ d → allL d (framesOf l ++ tail) = (l, ((framesOf l).length : Int))
  | [], d, h, hd => by
    have e : framesOf [] ++ tail = tail := rfl
    rw [e] at hd ⊢
    cases d with
    | zero => rfl
    | succ d =>
      unfold allL
      rcases ht with ht | ht
      · rw [if_pos ht]; rfl
      · rw [if_neg ht]
        split <;> rfl
  | p :: l, d, h, hd => by
    have hp := h p (by simp)
    have h5 := (frameOf_small hp.2).2
    have e : framesOf (p :: l) ++ tail = frameOf p ++ (framesOf l ++ tail) := by rw [framesOf_cons, List.append_assoc]
    rw [e] at hd ⊢
    rw [List.length_append] at hd
    cases d with
    | zero => omega
    | succ d =>
      have ih := allL_frames tail ht l d (fun q hq => h q (by simp [hq])) (by omega)
      unfold allL
      rw [if_neg (by rw [List.length_append]; omega), getF_frame hp.1 (by omega)]
      simp only [if_true, Int.toNat_natCast, List.drop_left, ih]
      rw [framesOf_cons, List.length_append]
      simp only [Prod.mk.injEq, true_and]
      omega
theorem allF_frames (l : List (List Int)) (h : ∀ p ∈ l, Bytes p ∧ p.length ≤ 100) : allF (framesOf l) = (l, ((framesOf l).length : Int)) := by
  have := allL_frames [] (.inl rfl) l (framesOf l).length h (by simp)
  rw [List.append_nil] at this
  exact this
theorem allF_torn (l : List (List Int)) (p : List Int) (h : ∀ q ∈ l, Bytes q ∧ q.length ≤ 100) (hp : p.length ≤ 100) {j : Nat} (hj : j < (frameOf p).length) : allF (framesOf l ++ (frameOf p).take j) = (l, ((framesOf l).length : Int)) :=
  allL_frames _ (.inr (getF_short (by omega) hj)) l _ h (Nat.le_refl _)
theorem torn_end (l : List (List Int)) (n : Int) (hn1 : 1 ≤ n) (hn2 : n < 9223372036854775808) (hlen : l.length ≤ 20) (hpos : 1 ≤ l.length) (hb : ∀ p ∈ l, Bytes p) (hs : ∀ p ∈ l, p.length ≤ 100) :
    Ev (fun k => cooperagelaw5_FrameTorn.l0 k l n (framesOf l) ((framesOf (l.take (l.length - 1))).length : Int) (l.length : Int)) true := by
  have hbs : ∀ p ∈ l, Bytes p ∧ p.length ≤ 100 := fun p hp => ⟨hb p hp, hs p hp⟩
  have hbig := framesOf_len l hs
  have hlt : l.length - 1 < l.length := by omega
  have hsplit : l = l.take (l.length - 1) ++ [l[l.length - 1]] := by
    rw [← List.take_succ_eq_append_getElem hlt, List.take_of_length_le (by omega)]
  have hfr : framesOf l = framesOf (l.take (l.length - 1)) ++ frameOf l[l.length - 1] := by
    conv => lhs; rw [hsplit]
    rw [framesOf_append, framesOf_one]
  have hlast := frameOf_small (hs _ (List.getElem_mem hlt))
  have hlen2 := congrArg List.length hfr
  rw [List.length_append] at hlen2
  obtain ⟨m, rfl⟩ : ∃ m : Nat, n = (m : Int) + 1 := ⟨(n - 1).toNat, by omega⟩
  have hmod : m % (frameOf l[l.length - 1]).length < (frameOf l[l.length - 1]).length := Nat.mod_lt _ (by omega)
  have hall := all_ev (framesOf l) (framesOf_bytes l hb) (by omega)
  rw [allF_frames l hbs] at hall
  have hj : (frameOf l[l.length - 1]).length - 1 - m % (frameOf l[l.length - 1]).length < (frameOf l[l.length - 1]).length := by omega
  have htake : (framesOf l).take ((framesOf l).length - 1 - m % (frameOf l[l.length - 1]).length) = framesOf (l.take (l.length - 1)) ++ (frameOf l[l.length - 1]).take ((frameOf l[l.length - 1]).length - 1 - m % (frameOf l[l.length - 1]).length) := by
    have e : (framesOf l).length - 1 - m % (frameOf l[l.length - 1]).length = (framesOf (l.take (l.length - 1))).length + ((frameOf l[l.length - 1]).length - 1 - m % (frameOf l[l.length - 1]).length) := by omega
    rw [e, hfr, List.take_length_add_append]
  have hin : ∀ p ∈ l.take (l.length - 1), Bytes p ∧ p.length ≤ 100 := fun p hp => hbs p (List.mem_of_mem_take hp)
  have htorn := all_ev ((framesOf l).take ((framesOf l).length - 1 - m % (frameOf l[l.length - 1]).length)) ((framesOf_bytes l hb).take _) (by rw [List.length_take]; omega)
  rw [htake, allF_torn _ _ hin (hs _ (List.getElem_mem hlt)) hj] at htorn
  refine Ev.step (fun k => by simp only [cooperagelaw5_FrameTorn.l0]; rfl) ?_
  have w1 : wrap64 (((framesOf l).length : Int) - ((framesOf (l.take (l.length - 1))).length : Int)) = ((frameOf l[l.length - 1]).length : Int) := by rw [w64 (by omega) (by omega)]; omega
  have w2 : wrap64 ((m : Int) + 1 - 1) = (m : Int) := by clear w1; rw [w64 (by omega) (by omega)]; omega
  have w3 : wrap64 (((framesOf l).length : Int) - 1) = (((framesOf l).length - 1 : Nat) : Int) := by clear w1 w2; rw [w64 (by omega) (by omega)]; omega
  have w5 : wrap64 ((l.length : Int) - 1) = ((l.length - 1 : Nat) : Int) := by clear w1 w2 w3; rw [w64 (by omega) (by omega)]; omega
  have w4 : wrap64 ((((framesOf l).length - 1 : Nat) : Int) - ((m % (frameOf l[l.length - 1]).length : Nat) : Int)) = (((framesOf l).length - 1 - m % (frameOf l[l.length - 1]).length : Nat) : Int) := by clear w1 w2 w3 w5; rw [w64 (by omega) (by omega)]; omega
  have a1 : ¬ ((l.length : Int) < (l.length : Int)) := by omega
  have a2 : ¬ (((frameOf l[l.length - 1]).length : Int) = 0) := by clear w1 w2 w3 w5 w4; omega
  have a3 : (0 : Int) ≤ (((framesOf l).length - 1 - m % (frameOf l[l.length - 1]).length : Nat) : Int) := by clear w1 w2 w3 w5 w4; omega
  have a4 : (((framesOf l).length - 1 - m % (frameOf l[l.length - 1]).length : Nat) : Int) ≤ ((framesOf l).length : Int) := by clear w1 w2 w3 w5 w4; omega
  have a5 : (0 : Int) ≤ ((l.length - 1 : Nat) : Int) := by clear w1 w2 w3 w5 w4; omega
  have a6 : ((l.length - 1 : Nat) : Int) ≤ (l.length : Int) := by clear w1 w2 w3 w5 w4; omega
  have hm : Int.tmod (m : Int) ((frameOf l[l.length - 1]).length : Int) = ((m % (frameOf l[l.length - 1]).length : Nat) : Int) := by rw [Int.ofNat_tmod]
  simp only [if_neg a1, w1, w2, w3, hm, w4, w5, if_neg a2, if_pos a3, if_pos a4, Int.toNat_natCast]
  refine Ev.bind hall ?_
  rw [htake]
  refine Ev.bind htorn ?_
  refine Ev.bind (same_ev l l hb hb (by clear w1 w2 w3 w5 w4; omega)) ?_
  simp only [decide_true, if_true, if_pos a5, if_pos a6]
  refine Ev.bind (same_ev (l.take (l.length - 1)) (l.take (l.length - 1)) (fun p hp => (hin p hp).1) (fun p hp => (hin p hp).1) (by rw [List.length_take]; clear w1 w2 w3 w5 w4; omega)) ?_
  simp only [decide_true, if_true, beq_self_eq_true]
  exact Ev.now _
theorem torn_loop (l : List (List Int)) (n : Int) (hn1 : 1 ≤ n) (hn2 : n < 9223372036854775808) (hlen : l.length ≤ 20) (hpos : 1 ≤ l.length) (hb : ∀ p ∈ l, Bytes p) :
    ∀ (d i : Nat), i + d = l.length → (∀ p ∈ l.take i, p.length ≤ 100) → Ev (fun k => cooperagelaw5_FrameTorn.l0 k l n (framesOf (l.take i)) ((framesOf (l.take (i - 1))).length : Int) (i : Int)) true := by
  intro d
  induction d with
  | zero =>
    intro i hi hs
    have e : i = l.length := by omega
    subst e
    rw [List.take_of_length_le (Nat.le_refl _)] at hs ⊢
    exact torn_end l n hn1 hn2 hlen hpos hb hs
  | succ d ih =>
    intro i hi hs
    have hlt : i < l.length := by omega
    have hbl := framesOf_len _ hs
    rw [List.length_take] at hbl
    have ht : l.take (i + 1) = l.take i ++ [l[i]] := List.take_succ_eq_append_getElem hlt
    refine Ev.step (fun k => by simp only [cooperagelaw5_FrameTorn.l0]; rfl) ?_
    simp only [if_pos (show (i : Int) < (l.length : Int) by omega), if_pos (show (0 : Int) ≤ (i : Int) by omega), rdl_get hlt]
    by_cases c : (l[i].length : Int) > 100
    · simp only [if_pos c]; exact Ev.now _
    simp only [if_neg c]
    have hp := rfput_ev [] l[i] (hb _ (List.getElem_mem hlt)) (by simp only [List.length_nil]; omega)
    refine Ev.bind hp ?_
    rw [List.nil_append]
    have hsm := frameOf_small (p := l[i]) (by omega)
    simp only [if_pos (show (framesOf (l.take i)).length + (frameOf l[i]).length < 140737488355328 by omega)]
    have hnext := ih (i + 1) (by omega) (by
      intro p hp
      rw [ht] at hp
      rcases List.mem_append.1 hp with hp | hp
      · exact hs p hp
      · rw [List.mem_singleton.1 hp]; omega)
    rw [ht, framesOf_append, framesOf_one, Nat.add_sub_cancel] at hnext
    rw [show wrap64 ((i : Int) + 1) = ((i + 1 : Nat) : Int) from by rw [w64 (by omega) (by omega)]; omega]
    exact hnext
theorem FrameTorn (l : List (List Int)) (hw : ∀ x ∈ l, ∀ y ∈ x, (Lit.int .u8 y).wf = true) (n : Int) (hn : (Lit.int .i64 n).wf = true) : ∃ k, cooperagelaw5_FrameTorn.f k l n = some true := by
  apply Ev.rounds (g := fun k => cooperagelaw5_FrameTorn.f k l n)
  have hb : ∀ p ∈ l, Bytes p := fun p hp => wf_u8 (hw p hp)
  have hn2 := wf_i64 hn
  unfold cooperagelaw5_FrameTorn.f
  refine Ev.bind falive_ev ?_
  simp only [if_true]
  have out : Ev (fun k => cooperagelaw5_FrameTorn.j0 k l n true true) true :=
    Ev.step (fun k => by simp only [cooperagelaw5_FrameTorn.j0, if_true]) (Ev.now _)
  by_cases c1 : (l.length : Int) < 1
  · simp only [if_pos c1]; exact out
  by_cases c2 : (l.length : Int) > 20
  · simp only [if_neg c1, if_pos c2]; exact out
  simp only [if_neg c1, if_neg c2]
  by_cases c3 : n < 1
  · rw [decide_eq_true c3]; exact out
  rw [decide_eq_false c3]
  refine Ev.step (fun k => by simp only [cooperagelaw5_FrameTorn.j0]; rfl) ?_
  simp only [Bool.false_eq_true, if_false]
  exact torn_loop l n (by omega) hn2.2 (by omega) (by omega) hb l.length 0 (by omega) (by simp)
end Go.Proofs.Ytpafbpfcoacidaa.Pure
