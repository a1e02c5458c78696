/- The plain law of a segment's bytes, as the definition makes them. -/
import Derived.Test.YtphnolgneojdhaaTVSegP
import Derived.Test.YtphnolgneojdhaaTVRecordPutRef
import Derived.Test.YtphnolgneojdhaaVx11
namespace Go.Proofs.Ytphnolgneojdhaa.TV
open Go.RowKit Go.Proofs.Ytphnolgneojdhaa.V Go.Proofs.YtphnolgneojdhaaW.PrintWords Go.Proofs.YtphnolgneojdhaaW.PrintLast Go.Proofs.YtphnolgneojdhaaW.PrintMore
set_option linter.unusedVariables false
set_option linter.unusedSimpArgs false

theorem rsbytes_loop (l : List S34) (hl : l.length ≤ 1000000) : ∀ (d i : Nat) (acc : List Int), i + d = l.length → acc.length ≤ 2255 * i → Ev (fun k => cooperageref1_Bytes.l0 k l acc (i : Int)) (acc ++ segB (l.drop i)) := by
  intro d
  induction d with
  | zero =>
    intro i acc hi ha
    refine Ev.step (fun k => by simp only [cooperageref1_Bytes.l0]; rfl) ?_
    simp only [if_neg (show ¬ ((i : Int) < (l.length : Int)) by omega)]
    rw [List.drop_of_length_le (by omega), segB, List.flatMap_nil, List.append_nil]
    exact Ev.now _
  | succ d ih =>
    intro i acc hi ha
    have hlt : i < l.length := by omega
    rw [List.drop_eq_getElem_cons hlt, segB_cons, ← List.append_assoc]
    refine Ev.step (fun k => by simp only [cooperageref1_Bytes.l0]; rfl) ?_
    have hr := rright_some (toR l[i])
    have hp := rputr_ev [] (toR l[i]) (by simp)
    simp only [toR] at hr hp
    have ew : wrap64 ((i : Int) + 1) = ((i + 1 : Nat) : Int) := w64n (by omega) (by omega)
    simp only [if_pos (show ((i : Int) < (l.length : Int)) by omega), if_pos (show ((0 : Int) ≤ (i : Int)) by omega), rdT_get hlt, hr, Option.bind_some, ew]
    clear ew
    by_cases c : rightB (toR l[i]) = true
    · have hpl := frame_rec_len c
      have hrl := recBytes_le c
      rw [piece_right c]
      simp only [toR] at c hpl hrl
      simp only [if_pos c]
      refine Ev.bind hp ?_
      rw [List.nil_append, putBytes, if_pos c]
      have hf := rfput_ev [] (recBytes ⟨l[i].f0, l[i].f1, l[i].f2, l[i].f3, l[i].f4⟩) (recBytes_bytes _) (by simp only [List.length_nil]; omega)
      refine Ev.bind hf ?_
      rw [List.nil_append]
      simp only [if_pos (show acc.length + (frameOf (recBytes ⟨l[i].f0, l[i].f1, l[i].f2, l[i].f3, l[i].f4⟩)).length < 140737488355328 by omega)]
      exact ih (i + 1) _ (by omega) (by rw [List.length_append]; omega)
    · rw [piece_wrong c, List.append_nil]
      simp only [toR] at c
      simp only [if_neg c]
      exact ih (i + 1) _ (by omega) (by omega)
theorem rsbytes_ev (l : List S34) (hl : l.length ≤ 1000000) : Ev (fun k => cooperageref1_Bytes.f k l) (segB l) := by
  have h := rsbytes_loop l hl l.length 0 [] (by omega) (by simp)
  rw [List.nil_append, List.drop_zero] at h
  exact Ev.congr (fun k => by unfold cooperageref1_Bytes.f; rfl) h
end Go.Proofs.Ytphnolgneojdhaa.TV
