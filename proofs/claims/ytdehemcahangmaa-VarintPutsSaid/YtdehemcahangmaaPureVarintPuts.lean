/- The statement on writing numbers: Put appends the documented bytes of every number, behind at most 200 bytes, and Get reads it whatever follows (at most 200 bytes); longer arguments are let pass. -/
import Derived.Test.YtdehemcahangmaaPureVarintFolds
import Derived.Test.YtdehemcahangmaaPx4
namespace Go.Proofs.Ytdehemcahangmaa.Pure
open Go.RowKit Go.Proofs.Ytdehemcahangmaa.P Go.Proofs.YtdehemcahangmaaW.PrintWords Go.Proofs.YtdehemcahangmaaW.PrintLast Go.Proofs.YtdehemcahangmaaW.PrintMore Go.Proofs.Ytdehemcahangmaa.T

theorem VarintPuts : cooperagelaw1_VarintPuts.Pure := by
  intro b x more h0 h1 hb hx h2 h3 hm
  apply Ev.rounds (g := fun k => cooperagelaw1_VarintPuts.f k b x more)
  have bb := wf_u8 hb
  have bm := wf_u8 hm
  have hx2 := wf_u64 hx
  obtain ⟨y, rfl⟩ := Int.eq_ofNat_of_zero_le hx2.1
  have hy : y < 2 ^ 64 := by omega
  have h10 := enc_ten hy
  have hpos := enc_pos y
  unfold cooperagelaw1_VarintPuts.f
  refine Ev.bind valive_ev ?_
  simp only [if_true]
  have long : Ev (fun k => cooperagelaw1_VarintPuts.j0 k b (y : Int) more true true) true := Ev.step (fun k => by simp only [cooperagelaw1_VarintPuts.j0, if_true]) (Ev.now _)
  by_cases c1 : (b.length : Int) > 200
  · simp only [if_pos c1]; exact long
  simp only [if_neg c1]
  by_cases c2 : (more.length : Int) > 200
  · rw [decide_eq_true c2]; exact long
  rw [decide_eq_false c2]
  refine Ev.step (fun k => by simp only [cooperagelaw1_VarintPuts.j0]; rfl) ?_
  simp only [List.length_nil, Nat.zero_add, List.nil_append, if_pos (show b.length < 140737488355328 by omega), Option.bind_some]
  refine Ev.bind (put_ev b y (by omega)) ?_
  refine Ev.bind (rput_ev b y hy (by omega)) ?_
  simp only [if_true]
  rw [decide_eq_false (by simp only [List.length_append]; omega)]
  refine Ev.step (fun k => by simp only [cooperagelaw1_VarintPuts.j1]; rfl) ?_
  simp only [if_pos (show (0 : Int) ≤ (b.length : Int) by omega), if_pos (show (b.length : Int) ≤ ((b ++ enc y).length : Int) by simp only [List.length_append]; omega), Int.toNat_natCast, Option.bind_some, List.drop_left, List.nil_append, List.length_nil, Nat.zero_add, if_pos (show (enc y).length < 140737488355328 by omega), if_pos (show (enc y).length + more.length < 140737488355328 by omega)]
  refine Ev.bind (get_ev (enc y ++ more) ((enc_bytes y).append bm) (by simp only [List.length_append]; omega)) ?_
  rw [getB_enc hy]
  simp only [cooperagelaw1_num.f, Option.bind_some, if_true]
  rw [w64 (by simp only [List.length_append]; omega) (by simp only [List.length_append]; omega)]
  have : (((enc y).length : Int) == ((b ++ enc y).length : Int) - (b.length : Int)) = true := by rw [beq_iff_eq]; simp only [List.length_append]; omega
  rw [this]
  exact Ev.now _
end Go.Proofs.Ytdehemcahangmaa.Pure
