/- The statement on sums of bytes: Sum and More agree with the definition for all bytes of at most 500 each; longer ones are let pass. -/
import Derived.Test.YtdehemcahangmaaTCrc
namespace Go.Proofs.Ytdehemcahangmaa.Pure
open Go.RowKit Go.Proofs.Ytdehemcahangmaa.P Go.Proofs.YtdehemcahangmaaW.PrintWords Go.Proofs.YtdehemcahangmaaW.PrintLast Go.Proofs.Ytdehemcahangmaa.T

theorem sum_example : ((sumB [49, 50, 51, 52, 53, 54, 55, 56, 57]).toNat : Int) = 3421780262 := by decide +kernel
theorem alive_ev : Ev (fun k => cooperagelaw2_alive.f k) true := by
  unfold cooperagelaw2_alive.f
  refine Ev.bind (f := fun _ t => some (t == 3421780262)) (sum_ev [49, 50, 51, 52, 53, 54, 55, 56, 57] (by unfold Bytes IsB; decide) (by decide)) ?_
  rw [sum_example]
  exact Ev.now _

theorem CrcSums : cooperagelaw2_CrcSums.Pure := by
  intro a b h0 h1 ha h2 h3 hb
  apply Ev.rounds (g := fun k => cooperagelaw2_CrcSums.f k a b)
  have ba := wf_u8 ha
  have bb := wf_u8 hb
  unfold cooperagelaw2_CrcSums.f
  refine Ev.bind alive_ev ?_
  simp only [if_true]
  have long : Ev (fun k => cooperagelaw2_CrcSums.j0 k a b true true) true := Ev.step (fun k => by simp only [cooperagelaw2_CrcSums.j0, if_true]) (Ev.now _)
  by_cases c1 : (a.length : Int) > 500
  · simp only [if_pos c1]; exact long
  simp only [if_neg c1]
  by_cases c2 : (b.length : Int) > 500
  · simp only [decide_eq_true c2]; exact long
  simp only [decide_eq_false c2]
  refine Ev.step (fun k => by simp only [cooperagelaw2_CrcSums.j0]; rfl) ?_
  refine Ev.bind (sum_ev a ba (by omega)) ?_
  refine Ev.bind (rsum_ev a ba (by omega)) ?_
  simp only [if_true]
  refine Ev.bind (more_ev (sumB a) b bb (by omega)) ?_
  rw [moreB_sum]
  simp only [List.length_nil, Nat.zero_add, List.nil_append, if_pos (show a.length < 140737488355328 by omega), Option.bind_some, if_pos (show a.length + b.length < 140737488355328 by omega)]
  refine Ev.bind (sum_ev (a ++ b) (ba.append bb) (by simp; omega)) ?_
  simp only [if_true]
  refine Ev.bind (sum_ev [] Bytes.nil (by decide)) ?_
  rw [show ((sumB []).toNat : Int) = 0 from by decide]
  simp only [if_true]
  refine Ev.bind (more_ev (sumB a) [] Bytes.nil (by decide)) ?_
  rw [moreB_sum, List.append_nil, beq_self_eq_true]
  exact Ev.now _
end Go.Proofs.Ytdehemcahangmaa.Pure
