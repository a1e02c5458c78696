/- The statement on numbers with a sign: Fold and Unfold turn all of them into numbers without one and back, as the definition says, small ones into small ones. -/
import Derived.Test.YtdehemcahangmaaTVarint
import Derived.Test.YtdehemcahangmaaPx3
namespace Go.Proofs.Ytdehemcahangmaa.Pure
open Go.RowKit Go.Proofs.Ytdehemcahangmaa.P Go.Proofs.YtdehemcahangmaaW.PrintWords Go.Proofs.YtdehemcahangmaaW.PrintLast Go.Proofs.YtdehemcahangmaaW.PrintMore Go.Proofs.Ytdehemcahangmaa.T

theorem enc_300 : enc 300 = [172, 2] := by rw [enc_big (by decide), enc_small (by decide)]; rfl
theorem valive_ev : Ev (fun k => cooperagelaw1_alive.f k) true := by
  unfold cooperagelaw1_alive.f
  have h := put_ev [] 300 (by rw [enc_300]; decide)
  rw [enc_300, List.nil_append] at h
  refine Ev.bind h ?_
  exact Ev.congr (fun k => by rfl) (Ev.now _)
theorem VarintFolds : cooperagelaw1_VarintFolds.Pure := by
  intro n x hn hx
  apply Ev.rounds (g := fun k => cooperagelaw1_VarintFolds.f k n x)
  have hn2 := wf_i64 hn
  have hx2 := wf_u64 hx
  obtain ⟨y, rfl⟩ := Int.eq_ofNat_of_zero_le hx2.1
  have hy : y < 2 ^ 64 := by omega
  unfold cooperagelaw1_VarintFolds.f
  refine Ev.bind valive_ev ?_
  rw [Fold_some hn2.1 hn2.2]
  simp only [Option.bind_some]
  have rest : Ev (fun k => cooperagelaw1_VarintFolds.j0 k n (y : Int) true (foldN n : Int) true) true := by
    refine Ev.step (f := fun _ => some true) (fun k => ?_) (Ev.now _)
    have hu := unfold_in hy
    simp only [cooperagelaw1_VarintFolds.j0, if_true, rFold_some hn2.1 hn2.2, Option.bind_some, Unfold_some (fold_lt hn2.1 hn2.2), unfold_fold, Unfold_some hy, rUnfold_some hy, Fold_some hu.1 hu.2, fold_unfold]
  by_cases c1 : n < -1000
  · simp only [if_pos c1]; exact rest
  simp only [if_neg c1]
  by_cases c2 : n > 1000
  · simp only [if_pos c2]; exact rest
  simp only [if_neg c2]
  rw [decide_eq_true (show (foldN n : Int) ≤ 2000 by unfold foldN; split <;> omega)]
  exact rest
end Go.Proofs.Ytdehemcahangmaa.Pure
