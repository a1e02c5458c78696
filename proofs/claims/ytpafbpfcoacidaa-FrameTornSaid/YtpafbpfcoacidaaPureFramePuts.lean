/- The statement on framing: Put appends the documented frame of every piece of at most 500 bytes, behind at most 200, and Get reads it whatever follows (at most 200 bytes); longer arguments are let pass. -/
import Derived.Test.YtpafbpfcoacidaaTFFrame
import Derived.Test.YtpafbpfcoacidaaFx4
import Derived.Test.YtpafbpfcoacidaaFx1
namespace Go.Proofs.Ytpafbpfcoacidaa.Pure
open Go.RowKit Go.Proofs.Ytpafbpfcoacidaa.F Go.Proofs.YtpafbpfcoacidaaW.PrintWords Go.Proofs.YtpafbpfcoacidaaW.PrintLast Go.Proofs.YtpafbpfcoacidaaW.PrintMore Go.Proofs.Ytpafbpfcoacidaa.TF

theorem frame_nil : frameOf [] = [0, 0, 0, 0, 0] := by
  unfold frameOf
  rw [show ([] : List Int).length = 0 from rfl, enc_small (by decide), show sum4 (sumB []) = [0, 0, 0, 0] from by decide]
  rfl
theorem falive_ev : Ev (fun k => cooperagelaw5_alive.f k) true := by
  unfold cooperagelaw5_alive.f
  refine Ev.bind (fput_ev [] [] Bytes.nil (by decide)) ?_
  rw [frame_nil, List.nil_append, beq_self_eq_true]
  exact Ev.now _
theorem FramePuts : cooperagelaw5_FramePuts.Pure := by
  intro b p more h0 h1 hb h2 h3 hp h4 h5 hm
  apply Ev.rounds (g := fun k => cooperagelaw5_FramePuts.f k b p more)
  have bb := wf_u8 hb
  have bp := wf_u8 hp
  have bm := wf_u8 hm
  unfold cooperagelaw5_FramePuts.f
  refine Ev.bind falive_ev ?_
  simp only [if_true]
  have long : Ev (fun k => cooperagelaw5_FramePuts.j0 k b p more true true) true := Ev.step (fun k => by simp only [cooperagelaw5_FramePuts.j0, if_true]) (Ev.now _)
  by_cases c1 : (b.length : Int) > 200
  · simp only [if_pos c1]; exact long
  simp only [if_neg c1]
  by_cases c3 : (p.length : Int) > 500
  · simp only [if_pos c3]; exact long
  simp only [if_neg c3]
  by_cases c2 : (more.length : Int) > 200
  · rw [decide_eq_true c2]; exact long
  rw [decide_eq_false c2]
  have hfl := frameOf_len p
  have h10 := enc_len_small (n := p.length) (by omega)
  have hpos := enc_pos p.length
  refine Ev.step (fun k => by simp only [cooperagelaw5_FramePuts.j0]; rfl) ?_
  simp only [List.length_nil, Nat.zero_add, List.nil_append, if_pos (show b.length < 140737488355328 by omega)]
  refine Ev.bind (fput_ev b p bp (by omega)) ?_
  refine Ev.bind (rfput_ev b p bp (by omega)) ?_
  simp only [if_true]
  rw [decide_eq_false (by simp only [List.length_append]; omega)]
  refine Ev.step (fun k => by simp only [cooperagelaw5_FramePuts.j1]; rfl) ?_
  simp only [if_pos (show (0 : Int) ≤ (b.length : Int) by omega), if_pos (show (b.length : Int) ≤ ((b ++ frameOf p).length : Int) by simp only [List.length_append]; omega), Int.toNat_natCast, Option.bind_some, List.drop_left, List.nil_append, List.length_nil, Nat.zero_add, if_pos (show (frameOf p).length < 140737488355328 by omega), if_pos (show (frameOf p).length + more.length < 140737488355328 by omega)]
  refine Ev.bind (fget_ev (frameOf p ++ more) ((frameOf_bytes bp).append bm) (by simp only [List.length_append]; omega)) ?_
  rw [getF_frame bp (by omega)]
  simp only [cooperagelaw5_num.f, Option.bind_some, if_true]
  rw [w64 (by simp only [List.length_append]; omega) (by simp only [List.length_append]; omega)]
  have : (((frameOf p).length : Int) == ((b ++ frameOf p).length : Int) - (b.length : Int)) = true := by rw [beq_iff_eq]; simp only [List.length_append]; omega
  rw [this]
  exact Ev.now _
end Go.Proofs.Ytpafbpfcoacidaa.Pure
