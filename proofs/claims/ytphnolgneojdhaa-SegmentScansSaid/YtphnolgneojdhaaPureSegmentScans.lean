/- The statement on reading segments: Scan and Read agree with the definition for all bytes of at most 1500; longer ones are let pass. -/
import Derived.Test.YtphnolgneojdhaaTSScanRef
import Derived.Test.YtphnolgneojdhaaTSSegMore
import Derived.Test.YtphnolgneojdhaaSx31
namespace Go.Proofs.Ytphnolgneojdhaa.Pure
open Go.RowKit Go.Proofs.Ytphnolgneojdhaa.S Go.Proofs.YtphnolgneojdhaaW.PrintWords Go.Proofs.YtphnolgneojdhaaW.PrintLast Go.Proofs.YtphnolgneojdhaaW.PrintMore Go.Proofs.Ytphnolgneojdhaa.TS
set_option linter.unusedVariables false
set_option linter.unusedSimpArgs false

theorem SegmentScans : cooperagelaw8_SegmentScans.Pure := by
  intro b h0 h1 hb
  apply Ev.rounds (g := fun k => cooperagelaw8_SegmentScans.f k b)
  have bb := wf_u8 hb
  unfold cooperagelaw8_SegmentScans.f
  refine Ev.bind salive_ev ?_
  simp only [if_true]
  by_cases c1 : (b.length : Int) > 1500
  · rw [decide_eq_true c1]
    exact Ev.step (fun k => by simp only [cooperagelaw8_SegmentScans.j0, if_true]) (Ev.now _)
  rw [decide_eq_false c1]
  refine Ev.step (fun k => by simp only [cooperagelaw8_SegmentScans.j0]; rfl) ?_
  simp only [Bool.false_eq_true, if_false]
  have hlen := scanF_len b
  have hs := scan_ev b bb (by omega)
  have hrs := rscan_ev b bb (by omega)
  generalize scanF b = p at *
  have hread : Ev (fun k => segment_Read.f k b) (if p.2 = (b.length : Int) then (p.1, 0) else ([], 5)) := by
    unfold segment_Read.f
    refine Ev.bind hs ?_
    by_cases c : p.2 = (b.length : Int)
    · simp only [if_pos c]; exact Ev.now _
    · simp only [if_neg c]; exact Ev.now _
  have hrread : Ev (fun k => cooperageref1_ReadSegment.f k b) (if p.2 = (b.length : Int) then (p.1, 0) else ([], 5)) := by
    unfold cooperageref1_ReadSegment.f
    refine Ev.bind hrs ?_
    by_cases c : p.2 = (b.length : Int)
    · simp only [if_pos c]; exact Ev.now _
    · simp only [if_neg c]; exact Ev.now _
  have hq : (if p.2 = (b.length : Int) then (p.1, (0 : Int)) else (([] : List S34), (5 : Int))).1.length ≤ b.length := by
    split
    · exact hlen
    · simp
  generalize (if p.2 = (b.length : Int) then (p.1, (0 : Int)) else (([] : List S34), (5 : Int))) = q at *
  refine Ev.bind hs ?_
  refine Ev.bind hrs ?_
  refine Ev.bind hread ?_
  refine Ev.bind hrread ?_
  refine Ev.bind (same_rec_ev p.1 (by omega)) ?_
  simp only [if_true]
  refine Ev.bind (same_rec_ev q.1 (by omega)) ?_
  simp only [if_true, cooperagelaw8_num.f, Option.bind_some, beq_self_eq_true]
  exact Ev.now _
end Go.Proofs.Ytphnolgneojdhaa.Pure
