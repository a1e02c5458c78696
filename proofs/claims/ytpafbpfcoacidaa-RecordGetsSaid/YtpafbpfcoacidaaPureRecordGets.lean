/- The statement on reading records: Get agrees with the definition for all bytes of at most 400, results and errors; longer ones are let pass. -/
import Derived.Test.YtpafbpfcoacidaaTRRecordGet
import Derived.Test.YtpafbpfcoacidaaTRRecordRef
import Derived.Test.YtpafbpfcoacidaaTRRecordMore
import Derived.Test.YtpafbpfcoacidaaRx16
namespace Go.Proofs.Ytpafbpfcoacidaa.Pure
open Go.RowKit Go.Proofs.Ytpafbpfcoacidaa.R Go.Proofs.YtpafbpfcoacidaaW.PrintWords Go.Proofs.YtpafbpfcoacidaaW.PrintLast Go.Proofs.YtpafbpfcoacidaaW.PrintMore Go.Proofs.Ytpafbpfcoacidaa.TR

theorem RecordGets : cooperagelaw4_RecordGets.Pure := by
  intro b h0 h1 hb
  apply Ev.rounds (g := fun k => cooperagelaw4_RecordGets.f k b)
  have bb := wf_u8 hb
  unfold cooperagelaw4_RecordGets.f
  refine Ev.bind ralive_ev ?_
  simp only [if_true]
  by_cases c1 : (b.length : Int) > 400
  · rw [decide_eq_true c1]
    exact Ev.step (fun k => by simp only [cooperagelaw4_RecordGets.j0, if_true]) (Ev.now _)
  rw [decide_eq_false c1]
  refine Ev.step (fun k => by simp only [cooperagelaw4_RecordGets.j0]; rfl) ?_
  simp only [Bool.false_eq_true, if_false]
  refine Ev.bind (getr_ev b bb (by omega)) ?_
  refine Ev.bind (rgetr_ev b bb (by omega)) ?_
  simp only [cooperagelaw4_num.f, Option.bind_some, beq_self_eq_true, Bool.and_self, if_true]
  exact Ev.now _
end Go.Proofs.Ytpafbpfcoacidaa.Pure
