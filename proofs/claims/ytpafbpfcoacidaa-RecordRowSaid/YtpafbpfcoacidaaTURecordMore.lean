/- The example of the document; sizes; texts of one letter. -/
import Derived.Test.YtpafbpfcoacidaaTURecord
import Derived.Test.YtpafbpfcoacidaaUx4
namespace Go.Proofs.Ytpafbpfcoacidaa.TU
open Go.RowKit Go.Proofs.Ytpafbpfcoacidaa.U Go.Proofs.YtpafbpfcoacidaaW.PrintWords Go.Proofs.YtpafbpfcoacidaaW.PrintLast Go.Proofs.YtpafbpfcoacidaaW.PrintMore
set_option linter.unusedVariables false
set_option linter.unusedSimpArgs false

theorem ralive_ev : Ev (fun k => cooperagelaw4_alive.f k) true := by
  unfold cooperagelaw4_alive.f
  have h := putr_ev [] ⟨0, 0, ⟨#[97]⟩, ⟨#[]⟩, false⟩ (by simp)
  simp only at h
  refine Ev.bind h ?_
  have hr : rightB ⟨0, 0, ⟨#[97]⟩, ⟨#[]⟩, false⟩ = true := by decide
  have e : ([] : List Int) ++ putBytes ⟨0, 0, ⟨#[97]⟩, ⟨#[]⟩, false⟩ = [0, 0, 0, 1, 97, 0] := by
    unfold putBytes
    rw [if_pos hr]
    have hs : (⟨#[97]⟩ : ByteArray).size = 1 := rfl
    have hs0 : (⟨#[]⟩ : ByteArray).size = 0 := rfl
    have h0 : enc 0 = [0] := enc_small (by omega)
    have h1 : enc 1 = [1] := enc_small (by omega)
    have hf : foldN 0 = 0 := by decide
    unfold recBytes
    simp only [hs, hs0, hf, Int.toNat_zero, h0, h1]
    rfl
  rw [e]
  simp only [beq_self_eq_true]
  exact Ev.now _
end Go.Proofs.Ytpafbpfcoacidaa.TU
