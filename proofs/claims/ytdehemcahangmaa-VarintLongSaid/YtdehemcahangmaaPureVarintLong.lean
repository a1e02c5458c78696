/- The statement on lengths: a number's bytes are as many as documented, and without the last of them Get tells ErrShort; for every number. -/
import Derived.Test.YtdehemcahangmaaPureVarintFolds
import Derived.Test.YtdehemcahangmaaPx5
namespace Go.Proofs.Ytdehemcahangmaa.Pure
open Go.RowKit Go.Proofs.Ytdehemcahangmaa.P Go.Proofs.YtdehemcahangmaaW.PrintWords Go.Proofs.YtdehemcahangmaaW.PrintLast Go.Proofs.YtdehemcahangmaaW.PrintMore Go.Proofs.Ytdehemcahangmaa.T

theorem long_loop (c : List Int) (hc : c.length ≤ 100) {r : Bool} (h : Ev (fun k => cooperagelaw1_VarintLong.j1 k c (c.length : Int) false) r) :
    ∀ (n j : Nat), j + (if n = 0 then 0 else (enc n).length) = c.length → Ev (fun k => cooperagelaw1_VarintLong.l0 k true c (j : Int) (n : Int)) r := by
  intro n
  induction n using Nat.strongRecOn with
  | ind n ih =>
    intro j hj
    by_cases c0 : n = 0
    · subst c0
      simp only [if_true, Nat.add_zero] at hj
      subst hj
      refine Ev.step (fun k => ?_) h
      simp only [cooperagelaw1_VarintLong.l0]
      rw [if_neg (by omega), if_pos trivial]
      congr 1
      rw [bne_self_eq_false]
    · rw [if_neg c0] at hj
      have hp := enc_pos n
      have := ih (n / 128) (by omega) (j + 1) (by
        rcases Nat.lt_or_ge n 128 with hn | hn
        · rw [if_pos (by omega)]; rw [enc_small hn] at hj; simp at hj; omega
        · rw [if_neg (by omega)]; rw [enc_big hn, List.length_cons] at hj; omega)
      refine Ev.step (fun k => ?_) this
      simp only [cooperagelaw1_VarintLong.l0]
      rw [if_pos (by omega), w64 (by omega) (by omega), show ((n : Int) / 128) = ((n / 128 : Nat) : Int) from by omega]
      rfl
theorem VarintLong : cooperagelaw1_VarintLong.Pure := by
  intro x hx
  apply Ev.rounds (g := fun k => cooperagelaw1_VarintLong.f k x)
  have hx2 := wf_u64 hx
  obtain ⟨y, rfl⟩ := Int.eq_ofNat_of_zero_le hx2.1
  have hy : y < 2 ^ 64 := by omega
  have h10 := enc_ten hy
  have hpos := enc_pos y
  unfold cooperagelaw1_VarintLong.f
  refine Ev.bind valive_ev ?_
  refine Ev.bind (put_ev [] y (by simp; omega)) ?_
  rw [List.nil_append]
  have hend : Ev (fun k => cooperagelaw1_VarintLong.j1 k (enc y) ((enc y).length : Int) false) true := by
    refine Ev.step (fun k => by simp only [cooperagelaw1_VarintLong.j1]; rfl) ?_
    rw [w64 (by omega) (by omega)]
    have e : ((((enc y).length : Int) - 1)).toNat = (enc y).length - 1 := by omega
    simp only [if_pos (show (0 : Int) ≤ ((enc y).length : Int) - 1 by omega), if_pos (show ((enc y).length : Int) - 1 ≤ ((enc y).length : Int) by omega), e]
    refine Ev.bind (get_ev _ ((enc_bytes y).take _) (by simp only [List.length_take]; omega)) ?_
    rw [getB_short hy (by omega)]
    exact Ev.congr (fun k => by rfl) (Ev.now _)
  have := long_loop (enc y) (by omega) hend (y / 128) 1 (by
    rcases Nat.lt_or_ge y 128 with hn | hn
    · rw [if_pos (by omega), enc_small hn]; rfl
    · rw [if_neg (by omega)]; conv => rhs; rw [enc_big hn, List.length_cons]
      omega)
  rw [show ((y : Int) / 128) = ((y / 128 : Nat) : Int) from by omega]
  exact this
end Go.Proofs.Ytdehemcahangmaa.Pure
