/- The records that may be, each with its place as its offset. -/
import Derived.Test.YtphnolgneojdhaaTSSeg
namespace Go.Proofs.Ytphnolgneojdhaa.TS
open Go.RowKit Go.Proofs.Ytphnolgneojdhaa.S Go.Proofs.YtphnolgneojdhaaW.PrintWords Go.Proofs.YtphnolgneojdhaaW.PrintLast Go.Proofs.YtphnolgneojdhaaW.PrintMore
set_option linter.unusedVariables false
set_option linter.unusedSimpArgs false

def off (x : S34) (i : Nat) : S34 := ⟨(i : Int), x.f1, x.f2, x.f3, x.f4⟩
def goodF : Nat → List S34 → List S34
  | _, [] => []
  | i, x :: l => if rightB (toR (off x i)) = true then off x i :: goodF (i + 1) l else goodF (i + 1) l
theorem goodF_right : ∀ (l : List S34) (i : Nat), ∀ x ∈ goodF i l, rightB (toR x) = true
  | [], i => by simp [goodF]
  | x :: l, i => by
    unfold goodF
    split
    · rename_i h
      intro y hy
      rcases List.mem_cons.1 hy with rfl | hy
      · exact h
      · exact goodF_right l (i + 1) y hy
    · exact goodF_right l (i + 1)
theorem goodF_len : ∀ (l : List S34) (i : Nat), (goodF i l).length ≤ l.length
  | [], i => by simp [goodF]
  | x :: l, i => by
    unfold goodF
    have := goodF_len l (i + 1)
    split <;> simp only [List.length_cons] <;> omega
theorem goodF_from : ∀ (l : List S34) (i : Nat), ∀ x ∈ goodF i l, (i : Int) ≤ x.f0
  | [], i => by simp [goodF]
  | x :: l, i => by
    have ih := goodF_from l (i + 1)
    unfold goodF
    split
    · intro y hy
      rcases List.mem_cons.1 hy with rfl | hy
      · exact Int.le_refl _
      · have := ih y hy; omega
    · intro y hy; have := ih y hy; omega
theorem goodF_rise : ∀ (l : List S34) (i : Nat), (goodF i l).Pairwise (fun x y => x.f0 < y.f0)
  | [], i => by simp [goodF]
  | x :: l, i => by
    have ih := goodF_rise l (i + 1)
    unfold goodF
    split
    · refine List.pairwise_cons.2 ⟨fun y hy => ?_, ih⟩
      have := goodF_from l (i + 1) y hy
      simp only [off]; omega
    · exact ih
theorem segB_right : ∀ (g : List S34), (∀ x ∈ g, rightB (toR x) = true) → 10 * g.length ≤ (segB g).length
  | [], _ => by simp
  | x :: l, h => by
    have ih := segB_right l fun y hy => h y (by simp [hy])
    have hx := h x (by simp)
    have := (frame_rec_len hx).2
    rw [segB_cons, List.length_append, List.length_cons, piece_right hx]; omega
end Go.Proofs.Ytphnolgneojdhaa.TS
