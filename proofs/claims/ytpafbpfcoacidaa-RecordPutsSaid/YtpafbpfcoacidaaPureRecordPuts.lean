/- The statement on writing records: Put appends what the definition says, Right and Size agree, and what was put is read back. -/
import Derived.Test.YtpafbpfcoacidaaTURecordGet
import Derived.Test.YtpafbpfcoacidaaTURecordPutRef
import Derived.Test.YtpafbpfcoacidaaTURecordMore
import Derived.Test.YtpafbpfcoacidaaTURecordText
import Derived.Test.YtpafbpfcoacidaaTURecordLaw
import Derived.Test.YtpafbpfcoacidaaUx20
namespace Go.Proofs.Ytpafbpfcoacidaa.Pure
open Go.RowKit Go.Proofs.Ytpafbpfcoacidaa.U Go.Proofs.YtpafbpfcoacidaaW.PrintWords Go.Proofs.YtpafbpfcoacidaaW.PrintLast Go.Proofs.YtpafbpfcoacidaaW.PrintMore Go.Proofs.Ytpafbpfcoacidaa.TU
set_option linter.unusedVariables false

theorem RecordPuts (b : List Int) (hb0 : ∀ c ∈ b, (Lit.int .u8 c).wf = true) (x : S25) (more : List Int) (hm0 : ∀ c ∈ more, (Lit.int .u8 c).wf = true) : ∃ k, cooperagelaw4_RecordPuts.f k b x.f0 x.f1 x.f2 x.f3 x.f4 more = some true := by
  apply Ev.rounds (g := fun k => cooperagelaw4_RecordPuts.f k b x.f0 x.f1 x.f2 x.f3 x.f4 more)
  have bb := wf_u8 hb0
  have bm := wf_u8 hm0
  have hr := right_some ⟨x.f0, x.f1, x.f2, x.f3, x.f4⟩
  have hrr := rright_some ⟨x.f0, x.f1, x.f2, x.f3, x.f4⟩
  have hs := size_ev ⟨x.f0, x.f1, x.f2, x.f3, x.f4⟩
  simp only at hr hrr hs
  unfold cooperagelaw4_RecordPuts.f
  refine Ev.bind ralive_ev ?_
  simp only [if_true]
  have out : Ev (fun k => cooperagelaw4_RecordPuts.j0 k b more true true x.f0 x.f1 x.f2 x.f3 x.f4) true :=
    Ev.step (fun k => by simp only [cooperagelaw4_RecordPuts.j0, if_true]) (Ev.now _)
  by_cases c1 : (b.length : Int) > 200
  · simp only [if_pos c1]; exact out
  by_cases c2 : (more.length : Int) > 200
  · simp only [if_neg c1, if_pos c2]; exact out
  by_cases c3 : (x.f2.size : Int) > 300
  · simp only [if_neg c1, if_neg c2, if_pos c3]; exact out
  simp only [if_neg c1, if_neg c2, if_neg c3]
  by_cases c4 : (x.f3.size : Int) > 2100
  · rw [decide_eq_true c4]; exact out
  rw [decide_eq_false c4]
  have hp := putr_ev b ⟨x.f0, x.f1, x.f2, x.f3, x.f4⟩ (by omega)
  have hrp := rputr_ev b ⟨x.f0, x.f1, x.f2, x.f3, x.f4⟩ (by omega)
  simp only at hp hrp
  refine Ev.step (fun k => by simp only [cooperagelaw4_RecordPuts.j0]; rfl) ?_
  simp only [Bool.false_eq_true, if_false, List.length_nil, Nat.zero_add, List.nil_append, if_pos (show b.length < 140737488355328 by omega)]
  refine Ev.bind hp ?_
  simp only [hr, hrr, Option.bind_some, bne_self_eq_false, Bool.false_eq_true, if_false]
  refine Ev.bind hrp ?_
  simp only [if_true]
  refine Ev.bind hs ?_
  have hlen : (putBytes ⟨x.f0, x.f1, x.f2, x.f3, x.f4⟩).length ≤ 2241 := by
    unfold putBytes; split
    · rename_i h; exact (recBytes_le h).1
    · simp
  have e1 : wrap64 (((b ++ putBytes ⟨x.f0, x.f1, x.f2, x.f3, x.f4⟩).length : Int) - (b.length : Int)) = ((putBytes ⟨x.f0, x.f1, x.f2, x.f3, x.f4⟩).length : Int) := by
    rw [List.length_append]
    exact w64n (by omega) (by omega)
  rw [e1, bne_self_eq_false]
  refine Ev.step (fun k => by simp only [cooperagelaw4_RecordPuts.j1]; rfl) ?_
  simp only [Bool.false_eq_true, if_false]
  by_cases c : rightB ⟨x.f0, x.f1, x.f2, x.f3, x.f4⟩ = true
  · simp only [if_pos c, if_pos (show (0 : Int) ≤ (b.length : Int) by omega), if_pos (show (b.length : Int) ≤ ((b ++ putBytes ⟨x.f0, x.f1, x.f2, x.f3, x.f4⟩).length : Int) by rw [List.length_append]; omega), Int.toNat_natCast, List.drop_left, Option.bind_some, List.nil_append, List.length_nil, Nat.zero_add, if_pos (show (putBytes ⟨x.f0, x.f1, x.f2, x.f3, x.f4⟩).length < 140737488355328 by omega), if_pos (show (putBytes ⟨x.f0, x.f1, x.f2, x.f3, x.f4⟩).length + more.length < 140737488355328 by omega)]
    rw [e1]
    refine Ev.bind (getr_ev _ ((putBytes_bytes _).append bm) (by rw [List.length_append]; omega)) ?_
    rw [putBytes, if_pos c, getE_rec c]
    simp only [tupR, cooperagelaw4_num.f, Option.bind_some, if_true, beq_self_eq_true, Bool.and_self]
    exact Ev.now _
  · simp only [if_neg c]
    rw [putBytes, if_neg c, List.append_nil, beq_self_eq_true]
    exact Ev.now _
end Go.Proofs.Ytpafbpfcoacidaa.Pure
