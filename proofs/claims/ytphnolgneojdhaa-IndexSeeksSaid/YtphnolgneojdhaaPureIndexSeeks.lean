/- The statement on seeking and finding: Seek, SeekTime, Find and FindTime agree with the definition for at most 50 marks and at most 1000 bytes; more are let pass. -/
import Derived.Test.YtphnolgneojdhaaTZFindRef
import Derived.Test.YtphnolgneojdhaaZx20
namespace Go.Proofs.Ytphnolgneojdhaa.Pure
open Go.RowKit Go.Proofs.Ytphnolgneojdhaa.Z Go.Proofs.YtphnolgneojdhaaW.PrintWords Go.Proofs.YtphnolgneojdhaaW.PrintLast Go.Proofs.YtphnolgneojdhaaW.PrintMore Go.Proofs.Ytphnolgneojdhaa.TZ
set_option linter.unusedVariables false
set_option linter.unusedSimpArgs false

theorem IndexSeeks (ix : List S36) (hx : ix.length ≤ maxLen) (b : List Int) (hb0 : ∀ x ∈ b, (Lit.int .u8 x).wf = true) (n : Int) (hn : (Lit.int .i64 n).wf = true) : ∃ k, cooperagelaw9_IndexSeeks.f k ix b n = some true := by
  apply Ev.rounds (g := fun k => cooperagelaw9_IndexSeeks.f k ix b n)
  have hb := wf_u8 hb0
  unfold cooperagelaw9_IndexSeeks.f
  refine Ev.bind ialive_ev ?_
  have out : Ev (fun k => cooperagelaw9_IndexSeeks.j0 k ix b n true true) true :=
    Ev.step (fun k => by simp only [cooperagelaw9_IndexSeeks.j0, if_true]) (Ev.now _)
  simp only [if_true]
  by_cases c1 : (ix.length : Int) > 50
  · simp only [if_pos c1]; exact out
  simp only [if_neg c1]
  by_cases c2 : (b.length : Int) > 1000
  · rw [decide_eq_true c2]; exact out
  rw [decide_eq_false c2]
  refine Ev.step (fun k => by simp only [cooperagelaw9_IndexSeeks.j0]; rfl) ?_
  simp only [Bool.false_eq_true, if_false]
  have h1 : ix.length ≤ 1000000 := by omega
  have h2 : b.length ≤ 1000000000 := by omega
  refine Ev.bind (marks_ev ix h1) ?_
  refine Ev.bind (seekO_ev ix n b hb h2) ?_
  refine Ev.bind (rFind_ev ix h1 n b hb h2) ?_
  refine Ev.bind (seekT_ev ix n b hb h2) ?_
  refine Ev.bind (rFindTime_ev ix h1 n b hb h2) ?_
  simp only [index_Seek.f, Option.bind_some]
  refine Ev.bind (rSeek_ev ix h1 n) ?_
  simp only [if_true, index_SeekTime.f, Option.bind_some]
  refine Ev.bind (rSeekTime_ev ix h1 n) ?_
  simp only [if_true, beq_self_eq_true, Bool.and_self]
  exact Ev.now _
end Go.Proofs.Ytphnolgneojdhaa.Pure
