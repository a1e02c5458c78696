/- The statement on going on with a sum: More agrees with the definition for all sums and all bytes of at most 500; longer ones are let pass. -/
import Derived.Test.YtdehemcahangmaaPureCrcSums
namespace Go.Proofs.Ytdehemcahangmaa.Pure
open Go.RowKit Go.Proofs.Ytdehemcahangmaa.P Go.Proofs.YtdehemcahangmaaW.PrintWords Go.Proofs.YtdehemcahangmaaW.PrintLast Go.Proofs.Ytdehemcahangmaa.T

theorem CrcMore : cooperagelaw2_CrcMore.Pure := by
  intro s b hs h0 h1 hb
  apply Ev.rounds (g := fun k => cooperagelaw2_CrcMore.f k s b)
  have bb := wf_u8 hb
  have hs2 := wf_u32 hs
  obtain ⟨v, rfl⟩ : ∃ v : B32, s = (v.toNat : Int) := ⟨BitVec.ofInt 32 s, by rw [BitVec.toNat_ofInt]; omega⟩
  unfold cooperagelaw2_CrcMore.f
  refine Ev.bind alive_ev ?_
  simp only [if_true]
  by_cases c1 : (b.length : Int) > 500
  · simp only [if_pos c1]; exact Ev.now _
  simp only [if_neg c1]
  refine Ev.bind (more_ev v b bb (by omega)) ?_
  refine Ev.bind (rmore_ev v b bb (by omega)) ?_
  rw [beq_self_eq_true]
  exact Ev.now _
end Go.Proofs.Ytdehemcahangmaa.Pure
