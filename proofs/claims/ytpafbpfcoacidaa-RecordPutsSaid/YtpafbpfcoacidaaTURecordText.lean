/- Sizes; texts of one letter. -/
import Derived.Test.YtpafbpfcoacidaaTURecord
import Derived.Test.YtpafbpfcoacidaaUx5
namespace Go.Proofs.Ytpafbpfcoacidaa.TU
open Go.RowKit Go.Proofs.Ytpafbpfcoacidaa.U Go.Proofs.YtpafbpfcoacidaaW.PrintWords Go.Proofs.YtpafbpfcoacidaaW.PrintLast Go.Proofs.YtpafbpfcoacidaaW.PrintMore
set_option linter.unusedVariables false
set_option linter.unusedSimpArgs false

theorem size_ev (r : Rec) : Ev (fun k => record_Size.f k r.o r.t r.key r.val r.dead) ((putBytes r).length : Int) := by
  unfold record_Size.f
  refine Ev.bind (putr_ev [] r (by simp)) ?_
  rw [List.nil_append]
  exact Ev.now _
theorem text_loop (n : Nat) (hn : n ≤ 100000) : ∀ (d i : Nat) (l : List Int), i + d = n → l.length = n → Bytes l → ∃ s : ByteArray, s.size = n ∧ Ev (fun k => cooperagelaw4_text.l0 k (n : Int) l (i : Int)) s := by
  intro d
  induction d with
  | zero =>
    intro i l hi hl hb
    refine ⟨strOfNums l, by rw [str_size hb, hl], ?_⟩
    refine Ev.step (fun k => by simp only [cooperagelaw4_text.l0]; rfl) ?_
    simp only [if_neg (show ¬ ((i : Int) < (n : Int)) by omega)]
    exact Ev.now _
  | succ d ih =>
    intro i l hi hl hb
    obtain ⟨s, hs, ev⟩ := ih (i + 1) (l.set i 120) (by omega) (by rw [List.length_set, hl]) (hb.set _ (by unfold IsB; omega))
    refine ⟨s, hs, ?_⟩
    refine Ev.step (fun k => by simp only [cooperagelaw4_text.l0]; rfl) ?_
    simp only [if_pos (show ((i : Int) < (n : Int)) by omega), if_pos (show ((0 : Int) ≤ (i : Int)) by omega), if_pos (show ((i : Int) < (l.length : Int)) by omega), Int.toNat_natCast]
    rw [show wrap64 ((i : Int) + 1) = ((i + 1 : Nat) : Int) from by rw [w64 (by omega) (by omega)]; omega]
    exact ev
theorem ltext_ev (n : Int) (h0 : 0 ≤ n) (hn : n ≤ 100000) : ∃ s : ByteArray, (s.size : Int) = n ∧ Ev (fun k => cooperagelaw4_text.f k n) s := by
  obtain ⟨m, rfl⟩ : ∃ m : Nat, n = (m : Int) := ⟨n.toNat, by omega⟩
  unfold cooperagelaw4_text.f
  simp only [if_pos h0, Int.toNat_natCast, if_pos (show m ≤ 281474976710656 by omega)]
  obtain ⟨s, hs, ev⟩ := text_loop m (by omega) m 0 (List.replicate m 0) (by omega) (by simp) (by
    intro c hc; rw [List.mem_replicate] at hc; rw [hc.2]; unfold IsB; omega)
  exact ⟨s, by omega, ev⟩
end Go.Proofs.Ytpafbpfcoacidaa.TU
