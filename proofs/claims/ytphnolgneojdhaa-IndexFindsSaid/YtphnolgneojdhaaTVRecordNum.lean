/- The plain law of reading a record. -/
import Derived.Test.YtphnolgneojdhaaTVRecord
import Derived.Test.YtphnolgneojdhaaVx10
namespace Go.Proofs.Ytphnolgneojdhaa.TV
open Go.RowKit Go.Proofs.Ytphnolgneojdhaa.V Go.Proofs.YtphnolgneojdhaaW.PrintWords Go.Proofs.YtphnolgneojdhaaW.PrintLast Go.Proofs.YtphnolgneojdhaaW.PrintMore
set_option linter.unusedVariables false
set_option linter.unusedSimpArgs false

set_option hygiene false in
/-- omega, without the facts on wraps -/
theorem w64n {z : Int} {n : Nat} (h : z = (n : Int)) (hn : n < 9223372036854775808) : wrap64 z = (n : Int) := by subst h; exact w64 (by ((try clear e4); (try clear e3); (try clear e2); (try clear e1); (try clear e0); omega)) (by ((try clear e4); (try clear e3); (try clear e2); (try clear e1); (try clear e0); omega))
theorem w64c (n : Nat) (h : n < 9223372036854775808) : wrap64 (n : Int) = (n : Int) := w64 (by ((try clear e4); (try clear e3); (try clear e2); (try clear e1); (try clear e0); omega)) (by ((try clear e4); (try clear e3); (try clear e2); (try clear e1); (try clear e0); omega))
/-! ### the reader of the program -/
set_option maxHeartbeats 4000000 in
theorem number_ev (s : List Int) (i : Nat) (hb : Bytes s) (hl : s.length ≤ 100000000000) (hi : i ≤ s.length) (most : Int) :
    (∃ n j : Nat, numS (s.drop i) most = .ok (n, j) ∧ Ev (fun k => record_reader_number.f k s (i : Int) 0 most) ((n : Int), ((i + j : Nat) : Int), 0) ∧ i + j ≤ s.length ∧ (n : Int) ≤ most ∧ n < 2 ^ 64) ∨
    (∃ (e : Int) (x : Nat) (i' : Int), e ≠ 0 ∧ numS (s.drop i) most = .error e ∧ x < 2 ^ 64 ∧ Ev (fun k => record_reader_number.f k s (i : Int) 0 most) ((x : Int), i', e)) := by
  have hbd := hb.drop i
  have hld : (s.drop i).length = s.length - i := by simp
  have ev := get_ev (s.drop i) hbd (by ((try clear e4); (try clear e3); (try clear e2); (try clear e1); (try clear e0); omega))
  rcases numS_cases hbd most with ⟨n, h1, h2, h3, h4, h5, h6⟩ | ⟨n, h1, h2, h3, h4, h5⟩ | ⟨e, h1, h2, h3⟩
  · refine .inl ⟨n, (enc n).length, h1, ?_, by ((try clear e4); (try clear e3); (try clear e2); (try clear e1); (try clear e0); omega), h4, h5⟩
    rw [h6] at ev
    unfold record_reader_number.f
    simp only [if_true, if_pos (show (0 : Int) ≤ (i : Int) by ((try clear e4); (try clear e3); (try clear e2); (try clear e1); (try clear e0); omega)), if_pos (show (i : Int) ≤ (s.length : Int) by ((try clear e4); (try clear e3); (try clear e2); (try clear e1); (try clear e0); omega)), Int.toNat_natCast]
    refine Ev.bind ev ?_
    simp only [if_true, if_neg (show ¬ ((n : Int) > most) by ((try clear e4); (try clear e3); (try clear e2); (try clear e1); (try clear e0); omega))]
    rw [w64 (by ((try clear e4); (try clear e3); (try clear e2); (try clear e1); (try clear e0); omega)) (by ((try clear e4); (try clear e3); (try clear e2); (try clear e1); (try clear e0); omega))]
    simp only [Int.natCast_add]
    exact Ev.now _
  · refine .inr ⟨2, n, wrap64 (((i : Nat) : Int) + ((enc n).length : Int)), by decide, h1, h4, ?_⟩
    rw [h5] at ev
    unfold record_reader_number.f
    simp only [if_true, if_pos (show (0 : Int) ≤ (i : Int) by ((try clear e4); (try clear e3); (try clear e2); (try clear e1); (try clear e0); omega)), if_pos (show (i : Int) ≤ (s.length : Int) by ((try clear e4); (try clear e3); (try clear e2); (try clear e1); (try clear e0); omega)), Int.toNat_natCast]
    refine Ev.bind ev ?_
    simp only [if_true, if_pos h2]
    exact Ev.now _
  · refine .inr ⟨e, 0, wrap64 (((i : Nat) : Int) + 0), h1, h2, by decide, ?_⟩
    rw [h3] at ev
    unfold record_reader_number.f
    simp only [if_true, if_pos (show (0 : Int) ≤ (i : Int) by ((try clear e4); (try clear e3); (try clear e2); (try clear e1); (try clear e0); omega)), if_pos (show (i : Int) ≤ (s.length : Int) by ((try clear e4); (try clear e3); (try clear e2); (try clear e1); (try clear e0); omega)), Int.toNat_natCast]
    refine Ev.bind ev ?_
    simp only [if_neg h1]
    exact Ev.now _
theorem number_err (k : Nat) (s : List Int) (i e most : Int) (he : e ≠ 0) : record_reader_number.f k s i e most = some (0, i, e) := by
  unfold record_reader_number.f; rw [if_neg he]
theorem sign_err (s : List Int) (i e : Int) (he : e ≠ 0) : record_reader_sign.f s i e = some (false, i, e) := by
  unfold record_reader_sign.f; rw [if_neg he]
theorem text_err (s : List Int) (i e most : Int) (he : e ≠ 0) : Ev (fun k => record_reader_text.f k s i e most) ((⟨#[]⟩ : ByteArray), i, e) := by
  unfold record_reader_text.f
  simp only [number_err _ _ _ _ _ he, Option.bind_some, if_neg he]
  refine Ev.step (fun k => by simp only [record_reader_text.j0]; rfl) ?_
  simp only [Bool.false_eq_true, if_false, if_neg he]
  exact Ev.now _
theorem signS_drop {s : List Int} {i : Nat} (hi : i < s.length) : signS (s.drop i) = if s[i] > 1 then .error 2 else .ok (s[i] == 1) := by
  rw [List.drop_eq_getElem_cons hi]
  rfl
theorem sign_some (s : List Int) (i : Nat) (hb : Bytes s) (hl : s.length ≤ 100000000000) (hi : i ≤ s.length) :
    (∃ d, signS (s.drop i) = .ok d ∧ record_reader_sign.f s (i : Int) 0 = some (d, ((i + 1 : Nat) : Int), 0) ∧ i + 1 ≤ s.length) ∨
    (∃ (e : Int) (d : Bool) (i' : Int), e ≠ 0 ∧ signS (s.drop i) = .error e ∧ record_reader_sign.f s (i : Int) 0 = some (d, i', e)) := by
  by_cases c : i = s.length
  · subst c
    refine .inr ⟨4, false, (s.length : Int), by decide, by rw [List.drop_length]; rfl, ?_⟩
    unfold record_reader_sign.f
    simp only [if_true]
  · have hi' : i < s.length := by ((try clear e4); (try clear e3); (try clear e2); (try clear e1); (try clear e0); omega)
    rw [signS_drop hi']
    have hrd : rd s (i : Int) = s[i] := rd_get hi'
    have e1 : wrap64 ((i : Int) + 1) = ((i + 1 : Nat) : Int) := w64n (by ((try clear e4); (try clear e3); (try clear e2); (try clear e1); (try clear e0); omega)) (by ((try clear e4); (try clear e3); (try clear e2); (try clear e1); (try clear e0); omega))
    have e2 : wrap64 (((i + 1 : Nat) : Int) - 1) = (i : Int) := w64n (by ((try clear e4); (try clear e3); (try clear e2); (try clear e1); (try clear e0); omega)) (by ((try clear e4); (try clear e3); (try clear e2); (try clear e1); (try clear e0); omega))
    unfold record_reader_sign.f
    simp only [if_true, if_neg (show ¬ ((i : Int) = (s.length : Int)) by ((try clear e4); (try clear e3); (try clear e2); (try clear e1); (try clear e0); omega)), if_pos (show (0 : Int) ≤ (i : Int) by ((try clear e4); (try clear e3); (try clear e2); (try clear e1); (try clear e0); omega)), if_pos (show (i : Int) < (s.length : Int) by ((try clear e4); (try clear e3); (try clear e2); (try clear e1); (try clear e0); omega)), hrd, e1, e2]
    by_cases c1 : s[i] > 1
    · simp only [if_pos c1]
      exact .inr ⟨2, _, _, by decide, rfl, rfl⟩
    · simp only [if_neg c1]
      exact .inl ⟨_, rfl, rfl, by ((try clear e4); (try clear e3); (try clear e2); (try clear e1); (try clear e0); omega)⟩
set_option maxHeartbeats 4000000 in
theorem text_ev (s : List Int) (i : Nat) (hb : Bytes s) (hl : s.length ≤ 100000000000) (hi : i ≤ s.length) (most : Int) (hm : most ≤ 100000) :
    (∃ (t : ByteArray) (j : Nat), textS (s.drop i) most = .ok (t, j) ∧ Ev (fun k => record_reader_text.f k s (i : Int) 0 most) (t, ((i + j : Nat) : Int), 0) ∧ i + j ≤ s.length) ∨
    (∃ (e i' : Int), e ≠ 0 ∧ textS (s.drop i) most = .error e ∧ Ev (fun k => record_reader_text.f k s (i : Int) 0 most) ((⟨#[]⟩ : ByteArray), i', e)) := by
  rcases number_ev s i hb hl hi most with ⟨n, j, h1, h2, h3, h4, h5⟩ | ⟨e, x, i', h1, h2, h3, h4⟩
  · unfold textS
    rw [h1]
    simp only []
    have hlen : (s.drop i).length = s.length - i := by simp
    have e1 : wrap64 (n : Int) = (n : Int) := w64c n (by ((try clear e4); (try clear e3); (try clear e2); (try clear e1); (try clear e0); omega))
    have e2 : wrap64 ((s.length : Int) - ((i + j : Nat) : Int)) = ((s.length - (i + j) : Nat) : Int) := w64n (by ((try clear e4); (try clear e3); (try clear e2); (try clear e1); (try clear e0); omega)) (by ((try clear e4); (try clear e3); (try clear e2); (try clear e1); (try clear e0); omega))
    by_cases c : (s.drop i).length < j + n
    · rw [if_pos c]
      refine .inr ⟨4, ((i + j : Nat) : Int), by decide, rfl, ?_⟩
      unfold record_reader_text.f
      refine Ev.bind h2 ?_
      simp only [if_true, e1, e2]
      rw [decide_eq_true (show ((n : Int) > ((s.length - (i + j) : Nat) : Int)) by ((try clear e4); (try clear e3); (try clear e2); (try clear e1); (try clear e0); omega))]
      refine Ev.step (fun k => by simp only [record_reader_text.j0]; rfl) ?_
      simp only [if_true]
      exact Ev.now _
    · rw [if_neg c]
      refine .inl ⟨_, _, rfl, ?_, by ((try clear e4); (try clear e3); (try clear e2); (try clear e1); (try clear e0); omega)⟩
      unfold record_reader_text.f
      refine Ev.bind h2 ?_
      simp only [if_true, e1, e2]
      rw [decide_eq_false (show ¬ ((n : Int) > ((s.length - (i + j) : Nat) : Int)) by ((try clear e4); (try clear e3); (try clear e2); (try clear e1); (try clear e0); omega))]
      refine Ev.step (fun k => by simp only [record_reader_text.j0]; rfl) ?_
      have e3 : wrap64 (((i + j : Nat) : Int) + (n : Int)) = ((i + j + n : Nat) : Int) := w64n (by ((try clear e4); (try clear e3); (try clear e2); (try clear e1); (try clear e0); omega)) (by ((try clear e4); (try clear e3); (try clear e2); (try clear e1); (try clear e0); omega))
      have e4 : wrap64 (((i + j + n : Nat) : Int) - (n : Int)) = ((i + j : Nat) : Int) := w64n (by ((try clear e4); (try clear e3); (try clear e2); (try clear e1); (try clear e0); omega)) (by ((try clear e4); (try clear e3); (try clear e2); (try clear e1); (try clear e0); omega))
      simp only [Bool.false_eq_true, if_false, if_true, e3, e4, if_pos (show (0 : Int) ≤ ((i + j : Nat) : Int) by ((try clear e4); (try clear e3); (try clear e2); (try clear e1); (try clear e0); omega)), if_pos (show ((i + j : Nat) : Int) ≤ ((i + j + n : Nat) : Int) by ((try clear e4); (try clear e3); (try clear e2); (try clear e1); (try clear e0); omega)), if_pos (show ((i + j + n : Nat) : Int) ≤ (s.length : Int) by ((try clear e4); (try clear e3); (try clear e2); (try clear e1); (try clear e0); omega)), Int.toNat_natCast]
      rw [cut_drop]
      unfold cut
      rw [← Nat.add_assoc i j n]
      exact Ev.now _
  · unfold textS
    rw [h2]
    refine .inr ⟨e, i', h1, rfl, ?_⟩
    unfold record_reader_text.f
    refine Ev.bind h4 ?_
    simp only [if_neg h1]
    refine Ev.step (fun k => by simp only [record_reader_text.j0]; rfl) ?_
    simp only [Bool.false_eq_true, if_false, if_neg h1]
    exact Ev.now _
end Go.Proofs.Ytphnolgneojdhaa.TV
