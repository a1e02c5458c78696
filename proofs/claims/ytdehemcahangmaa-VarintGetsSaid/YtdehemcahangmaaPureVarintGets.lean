/- The statement on reading numbers: Get agrees with the definition for all bytes of at most 100, results and errors; longer ones are let pass. -/
import Derived.Test.YtdehemcahangmaaPureVarintFolds
import Derived.Test.YtdehemcahangmaaPx5
namespace Go.Proofs.Ytdehemcahangmaa.Pure
open Go.RowKit Go.Proofs.Ytdehemcahangmaa.P Go.Proofs.YtdehemcahangmaaW.PrintWords Go.Proofs.YtdehemcahangmaaW.PrintLast Go.Proofs.YtdehemcahangmaaW.PrintMore Go.Proofs.Ytdehemcahangmaa.T

theorem VarintGets : cooperagelaw1_VarintGets.Pure := by
  intro b h0 h1 hb
  apply Ev.rounds (g := fun k => cooperagelaw1_VarintGets.f k b)
  have bb := wf_u8 hb
  unfold cooperagelaw1_VarintGets.f
  refine Ev.bind valive_ev ?_
  simp only [if_true]
  by_cases c1 : (b.length : Int) > 100
  · rw [decide_eq_true c1]
    exact Ev.step (fun k => by simp only [cooperagelaw1_VarintGets.j0, if_true]) (Ev.now _)
  rw [decide_eq_false c1]
  refine Ev.step (fun k => by simp only [cooperagelaw1_VarintGets.j0]; rfl) ?_
  refine Ev.bind (get_ev b bb (by omega)) ?_
  refine Ev.bind (rget_ev b bb (by omega)) ?_
  simp only [if_true, cooperagelaw1_num.f, Option.bind_some, beq_self_eq_true]
  exact Ev.now _
end Go.Proofs.Ytdehemcahangmaa.Pure
