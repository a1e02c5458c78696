/- The plain law of reading a record. -/
import Derived.Test.YtphnolgneojdhaaTZRecordNum
import Derived.Test.YtphnolgneojdhaaZx14
import Derived.Test.YtphnolgneojdhaaZx10
namespace Go.Proofs.Ytphnolgneojdhaa.TZ
open Go.RowKit Go.Proofs.Ytphnolgneojdhaa.Z Go.Proofs.YtphnolgneojdhaaW.PrintWords Go.Proofs.YtphnolgneojdhaaW.PrintLast Go.Proofs.YtphnolgneojdhaaW.PrintMore
set_option linter.unusedVariables false
set_option linter.unusedSimpArgs false

/-! ### the reference's reading -/
set_option maxHeartbeats 4000000 in
theorem part_ev (s : List Int) (i : Nat) (hb : Bytes s) (hl : s.length ≤ 100000000000) (hi : i ≤ s.length) (most : Int) (h0 : 0 ≤ most) (hm : most ≤ 100000) :
    (∃ (t : ByteArray) (j : Nat), textS (s.drop i) most = .ok (t, j) ∧ Ev (fun k => cooperageref1_part.f k s (i : Int) most) (t, ((i + j : Nat) : Int), 0) ∧ i + j ≤ s.length) ∨
    (∃ (e : Int), e ≠ 0 ∧ textS (s.drop i) most = .error e ∧ Ev (fun k => cooperageref1_part.f k s (i : Int) most) ((⟨#[]⟩ : ByteArray), 0, e)) := by
  have hbd := hb.drop i
  have hld : (s.drop i).length = s.length - i := by simp
  have ev := rget_ev (s.drop i) hbd (by ((try clear e4); (try clear e3); (try clear e2); (try clear e1); (try clear e0); omega))
  unfold textS cooperageref1_part.f
  simp only [if_pos (show (0 : Int) ≤ (i : Int) by ((try clear e4); (try clear e3); (try clear e2); (try clear e1); (try clear e0); omega)), if_pos (show (i : Int) ≤ (s.length : Int) by ((try clear e4); (try clear e3); (try clear e2); (try clear e1); (try clear e0); omega)), Int.toNat_natCast, wrap_u64 most (by ((try clear e4); (try clear e3); (try clear e2); (try clear e1); (try clear e0); omega)) (by ((try clear e4); (try clear e3); (try clear e2); (try clear e1); (try clear e0); omega))]
  rcases numS_cases hbd most with ⟨n, h1, h2, h3, h4, h5, h6⟩ | ⟨n, h1, h2, h3, h4, h5⟩ | ⟨e, h1, h2, h3⟩
  · rw [h1]
    rw [h6] at ev
    simp only []
    have e1 : wrap64 (n : Int) = (n : Int) := w64c n (by ((try clear e4); (try clear e3); (try clear e2); (try clear e1); (try clear e0); omega))
    have e0 : wrap64 ((i : Int) + ((enc n).length : Int)) = ((i + (enc n).length : Nat) : Int) := w64n (by ((try clear e4); (try clear e3); (try clear e2); (try clear e1); (try clear e0); omega)) (by ((try clear e4); (try clear e3); (try clear e2); (try clear e1); (try clear e0); omega))
    have e2 : wrap64 ((s.length : Int) - ((i + (enc n).length : Nat) : Int)) = ((s.length - (i + (enc n).length) : Nat) : Int) := w64n (by ((try clear e4); (try clear e3); (try clear e2); (try clear e1); (try clear e0); omega)) (by ((try clear e4); (try clear e3); (try clear e2); (try clear e1); (try clear e0); omega))
    have e3 : wrap64 (((i + (enc n).length : Nat) : Int) + (n : Int)) = ((i + (enc n).length + n : Nat) : Int) := w64n (by ((try clear e4); (try clear e3); (try clear e2); (try clear e1); (try clear e0); omega)) (by ((try clear e4); (try clear e3); (try clear e2); (try clear e1); (try clear e0); omega))
    by_cases c : (s.drop i).length < (enc n).length + n
    · rw [if_pos c]
      refine .inr ⟨4, by decide, rfl, ?_⟩
      refine Ev.bind ev ?_
      simp only [if_true, if_neg (show ¬ ((n : Int) > most) by ((try clear e4); (try clear e3); (try clear e2); (try clear e1); (try clear e0); omega)), e0, e1, e2, if_pos (show ((s.length - (i + (enc n).length) : Nat) : Int) < (n : Int) by ((try clear e4); (try clear e3); (try clear e2); (try clear e1); (try clear e0); omega))]
      exact Ev.now _
    · rw [if_neg c]
      refine .inl ⟨_, _, rfl, ?_, by ((try clear e4); (try clear e3); (try clear e2); (try clear e1); (try clear e0); omega)⟩
      refine Ev.bind ev ?_
      simp only [if_true, if_neg (show ¬ ((n : Int) > most) by ((try clear e4); (try clear e3); (try clear e2); (try clear e1); (try clear e0); omega)), e0, e1, e2, e3, if_neg (show ¬ ((s.length - (i + (enc n).length) : Nat) : Int) < (n : Int) by ((try clear e4); (try clear e3); (try clear e2); (try clear e1); (try clear e0); omega)), if_pos (show (0 : Int) ≤ ((i + (enc n).length : Nat) : Int) by ((try clear e4); (try clear e3); (try clear e2); (try clear e1); (try clear e0); omega)), if_pos (show ((i + (enc n).length : Nat) : Int) ≤ ((i + (enc n).length + n : Nat) : Int) by ((try clear e4); (try clear e3); (try clear e2); (try clear e1); (try clear e0); omega)), if_pos (show ((i + (enc n).length + n : Nat) : Int) ≤ (s.length : Int) by ((try clear e4); (try clear e3); (try clear e2); (try clear e1); (try clear e0); omega)), Int.toNat_natCast]
      rw [cut_drop]
      unfold cut
      rw [← Nat.add_assoc i _ n]
      exact Ev.now _
  · rw [h1]
    rw [h5] at ev
    refine .inr ⟨2, by decide, rfl, ?_⟩
    refine Ev.bind ev ?_
    simp only [if_true, if_pos h2]
    exact Ev.now _
  · rw [h2]
    rw [h3] at ev
    refine .inr ⟨e, h1, rfl, ?_⟩
    refine Ev.bind ev ?_
    simp only [if_neg h1]
    exact Ev.now _
theorem time_in (t : Nat) : (¬ ((t : Int) > 2199023255552)) ↔ (-1099511627776 ≤ unfoldN t ∧ unfoldN t ≤ 1099511627776) := by
  unfold unfoldN; split <;> omega
set_option maxHeartbeats 4000000 in
theorem rgetr_ev (s : List Int) (hb : Bytes s) (hl : s.length ≤ 100000000000) : Ev (fun k => cooperageref1_GetRecord.f k s) (tupR (getE s)) := by
  unfold cooperageref1_GetRecord.f getE
  have ev1 := rget_ev s hb (by ((try clear e4); (try clear e3); (try clear e2); (try clear e1); (try clear e0); omega))
  rcases numS_cases hb 1125899906842624 with ⟨o, h1, h2, hi, ho, h5, h6⟩ | ⟨o, h1, h2, h3, h4, h5⟩ | ⟨e, h1, h2, h3⟩
  · rw [h1]; rw [h6] at ev1; simp only []
    refine Ev.bind ev1 ?_
    generalize (enc o).length = i at *
    simp only [if_true, if_neg (show ¬ ((o : Int) > 1125899906842624) by ((try clear e4); (try clear e3); (try clear e2); (try clear e1); (try clear e0); omega)), if_pos (show (0 : Int) ≤ (i : Int) by ((try clear e4); (try clear e3); (try clear e2); (try clear e1); (try clear e0); omega)), if_pos (show (i : Int) ≤ (s.length : Int) by ((try clear e4); (try clear e3); (try clear e2); (try clear e1); (try clear e0); omega)), Int.toNat_natCast]
    have hbd := hb.drop i
    have hld : (s.drop i).length = s.length - i := by simp
    have ev2 := rget_ev (s.drop i) hbd (by ((try clear e4); (try clear e3); (try clear e2); (try clear e1); (try clear e0); omega))
    rw [w64c o (by ((try clear e4); (try clear e3); (try clear e2); (try clear e1); (try clear e0); omega))]
    rcases numS_cases hbd 2199023255552 with ⟨t, g1, g2, g3, g4, g5, g6⟩ | ⟨t, g1, g2, g3, g4, g5⟩ | ⟨e, g1, g2, g3⟩
    · rw [g1]; rw [g6] at ev2; simp only []
      refine Ev.bind ev2 ?_
      generalize (enc t).length = j at *
      simp only [if_true, rUnfold_some g5, Option.bind_some]
      have ht := (time_in t).1 (by ((try clear e4); (try clear e3); (try clear e2); (try clear e1); (try clear e0); omega))
      simp only [if_neg (show ¬ (unfoldN t < -1099511627776) by ((try clear e4); (try clear e3); (try clear e2); (try clear e1); (try clear e0); omega)), decide_eq_false (show ¬ (unfoldN t > 1099511627776) by ((try clear e4); (try clear e3); (try clear e2); (try clear e1); (try clear e0); omega))]
      refine Ev.step (fun k => by simp only [cooperageref1_GetRecord.j0]; rfl) ?_
      have e1 : wrap64 ((i : Int) + (j : Int)) = ((i + j : Nat) : Int) := w64n (by ((try clear e4); (try clear e3); (try clear e2); (try clear e1); (try clear e0); omega)) (by ((try clear e4); (try clear e3); (try clear e2); (try clear e1); (try clear e0); omega))
      simp only [Bool.false_eq_true, if_false, e1]
      by_cases c : i + j = s.length
      · simp only [if_pos (show ((i + j : Nat) : Int) ≥ (s.length : Int) by ((try clear e4); (try clear e3); (try clear e2); (try clear e1); (try clear e0); omega))]
        rw [c, List.drop_length]
        exact Ev.now _
      · have hij : i + j < s.length := by ((try clear e4); (try clear e3); (try clear e2); (try clear e1); (try clear e0); omega)
        simp only [if_neg (show ¬ ((i + j : Nat) : Int) ≥ (s.length : Int) by ((try clear e4); (try clear e3); (try clear e2); (try clear e1); (try clear e0); omega)), if_pos (show (0 : Int) ≤ ((i + j : Nat) : Int) by ((try clear e4); (try clear e3); (try clear e2); (try clear e1); (try clear e0); omega)), if_pos (show ((i + j : Nat) : Int) < (s.length : Int) by ((try clear e4); (try clear e3); (try clear e2); (try clear e1); (try clear e0); omega))]
        have hrd : rd s ((i + j : Nat) : Int) = s[i + j] := rd_get hij
        rw [signS_drop hij]
        simp only [hrd]
        by_cases c1 : s[i + j] > 1
        · simp only [if_pos c1]
          exact Ev.now _
        · simp only [if_neg c1]
          have e2 : wrap64 (((i + j : Nat) : Int) + 1) = ((i + j + 1 : Nat) : Int) := w64n (by ((try clear e4); (try clear e3); (try clear e2); (try clear e1); (try clear e0); omega)) (by ((try clear e4); (try clear e3); (try clear e2); (try clear e1); (try clear e0); omega))
          rw [e2]
          rcases part_ev s (i + j + 1) hb hl (by ((try clear e4); (try clear e3); (try clear e2); (try clear e1); (try clear e0); omega)) 200 (by ((try clear e4); (try clear e3); (try clear e2); (try clear e1); (try clear e0); omega)) (by ((try clear e4); (try clear e3); (try clear e2); (try clear e1); (try clear e0); omega)) with ⟨key, l, h4, ev4, hl4⟩ | ⟨e, he, h4, ev4⟩
          · rw [h4]; simp only []
            refine Ev.bind ev4 ?_
            simp only [if_true]
            rcases part_ev s (i + j + 1 + l) hb hl hl4 2000 (by ((try clear e4); (try clear e3); (try clear e2); (try clear e1); (try clear e0); omega)) (by ((try clear e4); (try clear e3); (try clear e2); (try clear e1); (try clear e0); omega)) with ⟨val, m, h7, ev5, hl5⟩ | ⟨e, he, h7, ev5⟩
            · rw [h7]; simp only []
              refine Ev.bind ev5 ?_
              simp only [if_true]
              have hr := rright_some ⟨(o : Int), unfoldN t, key, val, s[i + j] == 1⟩
              simp only at hr
              rw [hr]
              simp only [Option.bind_some]
              by_cases c : rightB ⟨(o : Int), unfoldN t, key, val, s[i + j] == 1⟩ = true
              · simp only [if_pos c]
                exact Ev.now _
              · simp only [if_neg c]
                exact Ev.now _
            · rw [h7]; simp only []
              refine Ev.bind ev5 ?_
              simp only [if_neg he]
              exact Ev.now _
          · rw [h4]; simp only []
            refine Ev.bind ev4 ?_
            simp only [if_neg he]
            exact Ev.now _
    · rw [g1]; rw [g5] at ev2; simp only []
      refine Ev.bind ev2 ?_
      simp only [if_true, rUnfold_some g4, Option.bind_some]
      have ht : unfoldN t < -1099511627776 ∨ unfoldN t > 1099511627776 := by
        have := mt (time_in t).2 (by ((try clear e4); (try clear e3); (try clear e2); (try clear e1); (try clear e0); omega))
        omega
      by_cases c : unfoldN t < -1099511627776
      · simp only [if_pos c]
        refine Ev.step (fun k => by simp only [cooperageref1_GetRecord.j0]; rfl) ?_
        simp only [if_true]
        exact Ev.now _
      · simp only [if_neg c, decide_eq_true (show unfoldN t > 1099511627776 by ((try clear e4); (try clear e3); (try clear e2); (try clear e1); (try clear e0); omega))]
        refine Ev.step (fun k => by simp only [cooperageref1_GetRecord.j0]; rfl) ?_
        simp only [if_true]
        exact Ev.now _
    · rw [g2]; rw [g3] at ev2; simp only []
      refine Ev.bind ev2 ?_
      simp only [if_neg g1]
      exact Ev.now _
  · rw [h1]; rw [h5] at ev1; simp only []
    refine Ev.bind ev1 ?_
    simp only [if_true, if_pos h2]
    exact Ev.now _
  · rw [h2]; rw [h3] at ev1; simp only []
    refine Ev.bind ev1 ?_
    simp only [if_neg h1]
    exact Ev.now _
end Go.Proofs.Ytphnolgneojdhaa.TZ
