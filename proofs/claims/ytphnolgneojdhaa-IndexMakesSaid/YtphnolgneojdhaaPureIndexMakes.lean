/- The statement on marks: Make agrees with the definition for all records that are not too big. -/
import Derived.Test.YtphnolgneojdhaaTSIndexMk
import Derived.Test.YtphnolgneojdhaaSx14
namespace Go.Proofs.Ytphnolgneojdhaa.Pure
open Go.RowKit Go.Proofs.Ytphnolgneojdhaa.S Go.Proofs.YtphnolgneojdhaaW.PrintWords Go.Proofs.YtphnolgneojdhaaW.PrintLast Go.Proofs.YtphnolgneojdhaaW.PrintMore Go.Proofs.Ytphnolgneojdhaa.TS
set_option linter.unusedVariables false

theorem marks_same (m : List S31) (hl : m.length ≤ 1000000) : ∀ (d i : Nat), i + d = m.length → Ev (fun k => cooperagelaw9_IndexMakes.l0 k m m (i : Int)) true := by
  intro d
  induction d with
  | zero =>
    intro i hi
    refine Ev.step (fun k => by simp only [cooperagelaw9_IndexMakes.l0]; rfl) ?_
    simp only [if_neg (show ¬ ((i : Int) < (m.length : Int)) by omega)]
    exact Ev.now _
  | succ d ih =>
    intro i hi
    have hlt : i < m.length := by omega
    refine Ev.step (fun k => by simp only [cooperagelaw9_IndexMakes.l0]; rfl) ?_
    have ew : wrap64 ((i : Int) + 1) = ((i + 1 : Nat) : Int) := w64n (by omega) (by omega)
    simp only [if_pos (show ((i : Int) < (m.length : Int)) by clear ew; omega), if_pos (show ((0 : Int) ≤ (i : Int)) by clear ew; omega), beq_self_eq_true, Bool.not_true, Bool.or_self, Bool.false_eq_true, if_false, ew]
    exact ih (i + 1) (by clear ew; omega)
theorem IndexMakes (l : List S34) (hl : l.length ≤ maxLen) (e : Int) (he : (Lit.int .i64 e).wf = true) : ∃ k, cooperagelaw9_IndexMakes.f k l e = some true := by
  apply Ev.rounds (g := fun k => cooperagelaw9_IndexMakes.f k l e)
  unfold cooperagelaw9_IndexMakes.f
  refine Ev.bind ialive_ev ?_
  have out : Ev (fun k => cooperagelaw9_IndexMakes.j0 k l e true true) true :=
    Ev.step (fun k => by simp only [cooperagelaw9_IndexMakes.j0, if_true]) (Ev.now _)
  rcases big_ev l hl with h | ⟨h, h60, hs⟩
  · refine Ev.bind h ?_
    simp only [if_true]
    exact out
  · refine Ev.bind h ?_
    simp only [if_true]
    refine Ev.step (fun k => by simp only [cooperagelaw9_IndexMakes.j0]; rfl) ?_
    simp only [Bool.false_eq_true, if_false]
    refine Ev.bind (make_ev l e (by omega)) ?_
    have hlen := mk_len (mx 1 e) l 0 0 (-1099511627777)
    refine Ev.bind (marks_ev _ (by rw [List.length_map]; omega)) ?_
    refine Ev.bind (rmake_ev l e (by omega)) ?_
    have e2 : (List.map conv (List.map toM (mk (mx 1 e) l 0 0 (-1099511627777)))) = List.map toM' (mk (mx 1 e) l 0 0 (-1099511627777)) := by
      rw [List.map_map]; rfl
    rw [e2]
    simp only [if_true]
    exact marks_same _ (by rw [List.length_map]; omega) _ 0 (Nat.zero_add _)
end Go.Proofs.Ytphnolgneojdhaa.Pure
