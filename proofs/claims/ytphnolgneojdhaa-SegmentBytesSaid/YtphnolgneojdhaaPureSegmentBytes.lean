/- The statement on a segment's bytes: Bytes and From agree with the definition for all records that are not too big. -/
import Derived.Test.YtphnolgneojdhaaTSFrom
import Derived.Test.YtphnolgneojdhaaSx33
namespace Go.Proofs.Ytphnolgneojdhaa.Pure
open Go.RowKit Go.Proofs.Ytphnolgneojdhaa.S Go.Proofs.YtphnolgneojdhaaW.PrintWords Go.Proofs.YtphnolgneojdhaaW.PrintLast Go.Proofs.YtphnolgneojdhaaW.PrintMore Go.Proofs.Ytphnolgneojdhaa.TS
set_option linter.unusedVariables false
set_option linter.unusedSimpArgs false

theorem SegmentBytes (l : List S34) (hl : l.length ≤ maxLen) (a : Int) (ha : (Lit.int .i64 a).wf = true) (m : Int) (hm : (Lit.int .i64 m).wf = true) : ∃ k, cooperagelaw8_SegmentBytes.f k l a m = some true := by
  apply Ev.rounds (g := fun k => cooperagelaw8_SegmentBytes.f k l a m)
  unfold cooperagelaw8_SegmentBytes.f
  refine Ev.bind salive_ev ?_
  rcases big_ev l hl with h | ⟨h, h60, hs⟩
  · refine Ev.bind h ?_
    simp only [if_true]
    exact Ev.step (fun k => by simp only [cooperagelaw8_SegmentBytes.j0, if_true]) (Ev.now _)
  · refine Ev.bind h ?_
    simp only [if_true]
    refine Ev.step (fun k => by simp only [cooperagelaw8_SegmentBytes.j0]; rfl) ?_
    simp only [Bool.false_eq_true, if_false]
    refine Ev.bind (sbytes_ev l (by omega)) ?_
    refine Ev.bind (rsbytes_ev l (by omega)) ?_
    simp only [if_true]
    refine Ev.bind (from_ev l (by omega) a m) ?_
    refine Ev.bind (rfrom_ev l (by omega) a m) ?_
    have hlen := fromL_len a m l 0
    refine Ev.bind (same_rec_ev _ (by omega)) ?_
    exact Ev.now _
end Go.Proofs.Ytphnolgneojdhaa.Pure
