/- The plain law of reading a record. -/
import Derived.Test.YtphnolgneojdhaaTVRecordNum
import Derived.Test.YtphnolgneojdhaaVx10
namespace Go.Proofs.Ytphnolgneojdhaa.TV
open Go.RowKit Go.Proofs.Ytphnolgneojdhaa.V Go.Proofs.YtphnolgneojdhaaW.PrintWords Go.Proofs.YtphnolgneojdhaaW.PrintLast Go.Proofs.YtphnolgneojdhaaW.PrintMore
set_option linter.unusedVariables false
set_option linter.unusedSimpArgs false

set_option maxHeartbeats 4000000 in
theorem getr_ev (s : List Int) (hb : Bytes s) (hl : s.length ≤ 100000000000) : Ev (fun k => record_Get.f k s) (tupR (getE s)) := by
  unfold record_Get.f getE
  have h1 := number_ev s 0 hb hl (by ((try clear e4); (try clear e3); (try clear e2); (try clear e1); (try clear e0); omega)) 1125899906842624
  rw [List.drop_zero] at h1
  rcases h1 with ⟨o, i, h1, ev1, hi, hm, ho⟩ | ⟨e, x, i', he, h1, hx, ev1⟩
  · rw [h1]; simp only []
    simp only [Nat.zero_add] at ev1 hi
    refine Ev.bind ev1 ?_
    simp only []
    rcases number_ev s i hb hl hi 2199023255552 with ⟨t, j, h2, ev2, hj, hm2, ht⟩ | ⟨e, x, i', he, h2, hx, ev2⟩
    · rw [h2]; simp only []
      refine Ev.bind ev2 ?_
      simp only [Unfold_some ht, Option.bind_some]
      rcases sign_some s (i + j) hb hl hj with ⟨d, h3, e3, hd⟩ | ⟨e, d, i', he, h3, e3⟩
      · rw [h3, e3]; simp only [Option.bind_some]
        rcases text_ev s (i + j + 1) hb hl hd 200 (by ((try clear e4); (try clear e3); (try clear e2); (try clear e1); (try clear e0); omega)) with ⟨key, l, h4, ev4, hl4⟩ | ⟨e, i', he, h4, ev4⟩
        · rw [h4]; simp only []
          refine Ev.bind ev4 ?_
          simp only []
          rcases text_ev s (i + j + 1 + l) hb hl hl4 2000 (by ((try clear e4); (try clear e3); (try clear e2); (try clear e1); (try clear e0); omega)) with ⟨val, m, h5, ev5, hl5⟩ | ⟨e, i', he, h5, ev5⟩
          · rw [h5]; simp only []
            refine Ev.bind ev5 ?_
            simp only [if_true]
            rw [w64c o (by ((try clear e4); (try clear e3); (try clear e2); (try clear e1); (try clear e0); omega))]
            have hr := right_some ⟨(o : Int), unfoldN t, key, val, d⟩
            simp only at hr
            rw [hr]
            simp only [Option.bind_some]
            refine Ev.step (fun k => by simp only [record_Get.j0]; rfl) ?_
            by_cases c : rightB ⟨(o : Int), unfoldN t, key, val, d⟩ = true
            · simp only [c, Bool.not_true, Bool.false_eq_true, if_false, if_true]
              exact Ev.now _
            · simp only [Bool.not_eq_true] at c
              simp only [c, Bool.not_false, Bool.false_eq_true, if_false, if_true]
              exact Ev.now _
          · rw [h5]; simp only []
            refine Ev.bind ev5 ?_
            simp only [if_neg he]
            refine Ev.step (fun k => by simp only [record_Get.j0]; rfl) ?_
            simp only [Bool.false_eq_true, if_false, if_neg he]
            exact Ev.now _
        · rw [h4]; simp only []
          refine Ev.bind ev4 ?_
          refine Ev.bind (text_err s i' e 2000 he) ?_
          simp only [if_neg he]
          refine Ev.step (fun k => by simp only [record_Get.j0]; rfl) ?_
          simp only [Bool.false_eq_true, if_false, if_neg he]
          exact Ev.now _
      · rw [h3, e3]; simp only [Option.bind_some]
        refine Ev.bind (text_err s i' e 200 he) ?_
        refine Ev.bind (text_err s i' e 2000 he) ?_
        simp only [if_neg he]
        refine Ev.step (fun k => by simp only [record_Get.j0]; rfl) ?_
        simp only [Bool.false_eq_true, if_false, if_neg he]
        exact Ev.now _
    · rw [h2]; simp only []
      refine Ev.bind ev2 ?_
      simp only [Unfold_some hx, Option.bind_some, sign_err _ _ _ he]
      refine Ev.bind (text_err s i' e 200 he) ?_
      refine Ev.bind (text_err s i' e 2000 he) ?_
      simp only [if_neg he]
      refine Ev.step (fun k => by simp only [record_Get.j0]; rfl) ?_
      simp only [Bool.false_eq_true, if_false, if_neg he]
      exact Ev.now _
  · rw [h1]; simp only []
    refine Ev.bind ev1 ?_
    have h0 : varint_Unfold.f 0 = some (unfoldN 0) := Unfold_some (x := 0) (by decide)
    simp only [number_err _ _ _ _ _ he, Option.bind_some, h0, sign_err _ _ _ he]
    refine Ev.bind (text_err s i' e 200 he) ?_
    refine Ev.bind (text_err s i' e 2000 he) ?_
    simp only [if_neg he]
    refine Ev.step (fun k => by simp only [record_Get.j0]; rfl) ?_
    simp only [Bool.false_eq_true, if_false, if_neg he]
    exact Ev.now _

end Go.Proofs.Ytphnolgneojdhaa.TV
