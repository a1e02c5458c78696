/- The statement on reading frames: Get and All agree with the definition for all bytes of at most 600, results and errors; longer ones are let pass. -/
import Derived.Test.YtpafbpfcoacidaaPureFramePuts
import Derived.Test.YtpafbpfcoacidaaTFFrameAll
import Derived.Test.YtpafbpfcoacidaaFx6
namespace Go.Proofs.Ytpafbpfcoacidaa.Pure
open Go.RowKit Go.Proofs.Ytpafbpfcoacidaa.F Go.Proofs.YtpafbpfcoacidaaW.PrintWords Go.Proofs.YtpafbpfcoacidaaW.PrintLast Go.Proofs.YtpafbpfcoacidaaW.PrintMore Go.Proofs.Ytpafbpfcoacidaa.TF

theorem FrameGets : cooperagelaw5_FrameGets.Pure := by
  intro b h0 h1 hb
  apply Ev.rounds (g := fun k => cooperagelaw5_FrameGets.f k b)
  have bb := wf_u8 hb
  unfold cooperagelaw5_FrameGets.f
  refine Ev.bind falive_ev ?_
  simp only [if_true]
  by_cases c1 : (b.length : Int) > 600
  · rw [decide_eq_true c1]
    exact Ev.step (fun k => by simp only [cooperagelaw5_FrameGets.j0, if_true]) (Ev.now _)
  rw [decide_eq_false c1]
  refine Ev.step (fun k => by simp only [cooperagelaw5_FrameGets.j0]; rfl) ?_
  simp only [Bool.false_eq_true, if_false]
  refine Ev.bind (fget_ev b bb (by omega)) ?_
  refine Ev.bind (rfget_ev b bb (by omega)) ?_
  refine Ev.bind (all_ev b bb (by omega)) ?_
  refine Ev.bind (rall_ev b bb (by omega)) ?_
  simp only [if_true, cooperagelaw5_num.f, Option.bind_some]
  have hlen := allF_len b bb
  refine Ev.bind (same_ev (allF b).1 (allF b).1 (allF_bytes b bb) (allF_bytes b bb) (by omega)) ?_
  simp only [decide_true, if_true, beq_self_eq_true]
  exact Ev.now _
end Go.Proofs.Ytpafbpfcoacidaa.Pure
