/- The statement on a turned bit: of at most 300 bytes, one of whose bits is turned, the sum is another; other arguments are let pass. -/
import Derived.Test.YtdehemcahangmaaPureCrcSums
namespace Go.Proofs.Ytdehemcahangmaa.Pure
open Go.RowKit Go.Proofs.Ytdehemcahangmaa.P Go.Proofs.YtdehemcahangmaaW.PrintWords Go.Proofs.YtdehemcahangmaaW.PrintLast Go.Proofs.YtdehemcahangmaaW.PrintMore Go.Proofs.Ytdehemcahangmaa.T

theorem tmod_in {a n : Int} (h0 : 0 ≤ a) (h1 : 0 < n) : 0 ≤ Int.tmod a n ∧ Int.tmod a n < n := ⟨Int.tmod_nonneg _ h0, Int.tmod_lt_of_pos _ h1⟩
theorem CrcTurns : cooperagelaw2_CrcTurns.Pure := by
  intro b at_ bit h0 h1 hb ha hbit
  apply Ev.rounds (g := fun k => cooperagelaw2_CrcTurns.f k b at_ bit)
  have bb := wf_u8 hb
  have ha2 := wf_i64 ha
  unfold cooperagelaw2_CrcTurns.f
  refine Ev.bind alive_ev ?_
  simp only [if_true]
  have long : Ev (fun k => cooperagelaw2_CrcTurns.j0 k b at_ bit true true) true := Ev.step (fun k => by simp only [cooperagelaw2_CrcTurns.j0, if_true]) (Ev.now _)
  by_cases c1 : (b.length : Int) > 300
  · simp only [if_pos c1]; exact long
  simp only [if_neg c1]
  by_cases c2 : (b.length : Int) = 0
  · simp only [if_pos c2]; exact long
  simp only [if_neg c2]
  by_cases c3 : at_ < 0
  · simp only [decide_eq_true c3]; exact long
  simp only [decide_eq_false c3]
  refine Ev.step (fun k => by simp only [cooperagelaw2_CrcTurns.j0]; rfl) ?_
  simp only [List.length_nil, Nat.zero_add, List.nil_append, if_pos (show b.length < 140737488355328 by omega), Option.bind_some, if_neg c2]
  have hm := tmod_in (a := at_) (n := (b.length : Int)) (by omega) (by omega)
  obtain ⟨i, hi⟩ := Int.eq_ofNat_of_zero_le hm.1
  rw [hi] at hm ⊢
  have hlt : i < b.length := by omega
  have hx : IsB b[i] := bb _ (List.getElem_mem hlt)
  obtain ⟨m, hm7, hmask, hturn⟩ := turned (z := bit) hx
  rw [hmask]
  simp only [if_pos hm.1, if_pos hm.2, if_pos (show (0 : Int) ≤ (m : Int) by omega), rd_get hlt, hturn, Int.toNat_natCast]
  refine Ev.bind (sum_ev (b.set i (turn b[i] m)) (bb.set i turn_is) (by simp; omega)) ?_
  refine Ev.bind (sum_ev b bb (by omega)) ?_
  have hne := sum_set bb hlt turn_is (turn_ne hx hm7)
  have : (((sumB (b.set i (turn b[i] m))).toNat : Int) != ((sumB b).toNat : Int)) = true := by
    rw [bne_iff_ne]; intro h; exact hne (BitVec.eq_of_toNat_eq (by omega))
  rw [this]
  exact Ev.now _
end Go.Proofs.Ytdehemcahangmaa.Pure
