/- The statement on two neighbours: of 2 to 300 bytes, two of which change places, the sum is the same just where the two are; other arguments are let pass. -/
import Derived.Test.YtdehemcahangmaaPureCrcTurns
namespace Go.Proofs.Ytdehemcahangmaa.Pure
open Go.RowKit Go.Proofs.Ytdehemcahangmaa.P Go.Proofs.YtdehemcahangmaaW.PrintWords Go.Proofs.YtdehemcahangmaaW.PrintLast Go.Proofs.YtdehemcahangmaaW.PrintMore Go.Proofs.Ytdehemcahangmaa.T

theorem CrcSwaps : cooperagelaw2_CrcSwaps.Pure := by
  intro b at_ h0 h1 hb ha
  apply Ev.rounds (g := fun k => cooperagelaw2_CrcSwaps.f k b at_)
  have bb := wf_u8 hb
  have ha2 := wf_i64 ha
  unfold cooperagelaw2_CrcSwaps.f
  refine Ev.bind alive_ev ?_
  simp only [if_true]
  have long : Ev (fun k => cooperagelaw2_CrcSwaps.j0 k b at_ true true) true := Ev.step (fun k => by simp only [cooperagelaw2_CrcSwaps.j0, if_true]) (Ev.now _)
  by_cases c2 : (b.length : Int) < 2
  · simp only [if_pos c2]; exact long
  simp only [if_neg c2]
  by_cases c1 : (b.length : Int) > 300
  · simp only [if_pos c1]; exact long
  simp only [if_neg c1]
  by_cases c3 : at_ < 0
  · simp only [decide_eq_true c3]; exact long
  simp only [decide_eq_false c3]
  refine Ev.step (fun k => by simp only [cooperagelaw2_CrcSwaps.j0]; rfl) ?_
  rw [w64 (n := (b.length : Int) - 1) (by omega) (by omega)]
  simp only [List.length_nil, Nat.zero_add, List.nil_append, if_pos (show b.length < 140737488355328 by omega), Option.bind_some, if_neg (show ¬ (b.length : Int) - 1 = 0 by omega)]
  have hm := tmod_in (a := at_) (n := (b.length : Int) - 1) (by omega) (by omega)
  obtain ⟨i, hi⟩ := Int.eq_ofNat_of_zero_le hm.1
  rw [hi] at hm ⊢
  rw [w64 (n := (i : Int) + 1) (by omega) (by omega)]
  have hlt : i + 1 < b.length := by omega
  rw [show ((i : Int) + 1) = ((i + 1 : Nat) : Int) from by omega]
  simp only [if_pos hm.1, if_pos (show (i : Int) < (b.length : Int) by omega), if_pos (show ((i + 1 : Nat) : Int) < (b.length : Int) by omega), if_pos (show (0 : Int) ≤ ((i + 1 : Nat) : Int) by omega), rd_get hlt, rd_get (show i < b.length by omega), Int.toNat_natCast]
  have b1 : IsB b[i+1] := bb _ (List.getElem_mem hlt)
  have b0 : IsB (b[i]'(by omega)) := bb _ (List.getElem_mem _)
  refine Ev.bind (sum_ev ((b.set i b[i+1]).set (i + 1) (b[i]'(by omega))) ((bb.set i b1).set (i + 1) b0) (by simp; omega)) ?_
  refine Ev.bind (sum_ev b bb (by omega)) ?_
  have hs := sum_swap bb hlt
  have : ((((sumB ((b.set i b[i+1]).set (i + 1) (b[i]'(by omega)))).toNat : Int) == ((sumB b).toNat : Int)) == ((b[i]'(by omega)) == b[i+1])) = true := by
    by_cases e : (b[i]'(by omega)) = b[i+1]
    · have e2 := hs.2 e
      rw [e2, beq_self_eq_true, e, beq_self_eq_true]; rfl
    · have e2 : ¬ _ := fun h => e (hs.1 h)
      have e3 : (((sumB ((b.set i b[i+1]).set (i + 1) (b[i]'(by omega)))).toNat : Int) == ((sumB b).toNat : Int)) = false := by
        rw [beq_eq_false_iff_ne]; intro h; exact e2 (BitVec.eq_of_toNat_eq (by omega))
      have e4 : ((b[i]'(by omega)) == b[i+1]) = false := beq_eq_false_iff_ne.2 e
      rw [e3, e4]; rfl
  rw [this]
  exact Ev.now _
end Go.Proofs.Ytdehemcahangmaa.Pure
