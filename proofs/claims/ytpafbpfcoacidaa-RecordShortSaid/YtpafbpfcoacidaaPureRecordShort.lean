/- The statement on records that want bytes: however many there are, Get tells that it wants more. -/
import Derived.Test.YtpafbpfcoacidaaTRRecordGet
import Derived.Test.YtpafbpfcoacidaaTRRecordPutRef
import Derived.Test.YtpafbpfcoacidaaTRRecordMore
import Derived.Test.YtpafbpfcoacidaaTRRecordLaw
import Derived.Test.YtpafbpfcoacidaaRx18
namespace Go.Proofs.Ytpafbpfcoacidaa.Pure
open Go.RowKit Go.Proofs.Ytpafbpfcoacidaa.R Go.Proofs.YtpafbpfcoacidaaW.PrintWords Go.Proofs.YtpafbpfcoacidaaW.PrintLast Go.Proofs.YtpafbpfcoacidaaW.PrintMore Go.Proofs.Ytpafbpfcoacidaa.TR
set_option linter.unusedVariables false

theorem RecordShort (x : S25) (n : Int) (hn : (Lit.int .i64 n).wf = true) : ∃ k, cooperagelaw4_RecordShort.f k x.f0 x.f1 x.f2 x.f3 x.f4 n = some true := by
  apply Ev.rounds (g := fun k => cooperagelaw4_RecordShort.f k x.f0 x.f1 x.f2 x.f3 x.f4 n)
  have hr := rright_some ⟨x.f0, x.f1, x.f2, x.f3, x.f4⟩
  have hp := rputr_ev [] ⟨x.f0, x.f1, x.f2, x.f3, x.f4⟩ (by simp)
  simp only at hr hp
  unfold cooperagelaw4_RecordShort.f
  refine Ev.bind ralive_ev ?_
  simp only [if_true]
  have out : Ev (fun k => cooperagelaw4_RecordShort.j0 k n true true x.f0 x.f1 x.f2 x.f3 x.f4) true :=
    Ev.step (fun k => by simp only [cooperagelaw4_RecordShort.j0, if_true]) (Ev.now _)
  by_cases c1 : (x.f2.size : Int) > 200
  · simp only [if_pos c1]; exact out
  by_cases c2 : (x.f3.size : Int) > 500
  · simp only [if_neg c1, if_pos c2]; exact out
  simp only [if_neg c1, if_neg c2, hr, Option.bind_some]
  by_cases c3 : rightB ⟨x.f0, x.f1, x.f2, x.f3, x.f4⟩ = true
  · simp only [if_pos c3]
    by_cases c4 : n < 0
    · rw [decide_eq_true c4]; exact out
    rw [decide_eq_false c4]
    refine Ev.step (fun k => by simp only [cooperagelaw4_RecordShort.j0]; rfl) ?_
    simp only [Bool.false_eq_true, if_false]
    refine Ev.bind hp ?_
    have hle := recBytes_le c3
    rw [List.nil_append, putBytes, if_pos c3]
    obtain ⟨m, rfl⟩ : ∃ m : Nat, n = (m : Int) := ⟨n.toNat, by omega⟩
    have hlt : m % (recBytes ⟨x.f0, x.f1, x.f2, x.f3, x.f4⟩).length < (recBytes ⟨x.f0, x.f1, x.f2, x.f3, x.f4⟩).length := Nat.mod_lt _ (by omega)
    have hm : Int.tmod (m : Int) ((recBytes ⟨x.f0, x.f1, x.f2, x.f3, x.f4⟩).length : Int) = ((m % (recBytes ⟨x.f0, x.f1, x.f2, x.f3, x.f4⟩).length : Nat) : Int) := by
      rw [Int.ofNat_tmod]
    rw [hm]
    simp only [if_neg (show ¬ (((recBytes ⟨x.f0, x.f1, x.f2, x.f3, x.f4⟩).length : Int) = 0) by omega), if_pos (show (0 : Int) ≤ ((m % (recBytes ⟨x.f0, x.f1, x.f2, x.f3, x.f4⟩).length : Nat) : Int) by omega), if_pos (show ((m % (recBytes ⟨x.f0, x.f1, x.f2, x.f3, x.f4⟩).length : Nat) : Int) ≤ ((recBytes ⟨x.f0, x.f1, x.f2, x.f3, x.f4⟩).length : Int) by omega), Int.toNat_natCast]
    refine Ev.bind (getr_ev _ ((recBytes_bytes _).take _) (by rw [List.length_take]; omega)) ?_
    rw [getE_short c3 hlt]
    simp only [tupR, cooperagelaw4_num.f, Option.bind_some, if_true]
    have e : ((⟨#[]⟩ : ByteArray).toList == ([] : List UInt8)) = true := by rw [beq_iff_eq, empty_list]; rfl
    simp only [e, beq_self_eq_true, Bool.not_false, Bool.and_self]
    exact Ev.now _
  · simp only [if_neg c3]; exact out
end Go.Proofs.Ytpafbpfcoacidaa.Pure
