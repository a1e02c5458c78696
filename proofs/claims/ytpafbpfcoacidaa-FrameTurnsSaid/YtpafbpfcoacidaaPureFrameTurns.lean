/- The statement on turned bits of frames: of a piece of 1 to 300 bytes, a frame one bit of whose sum or piece is turned is read as ErrSum; other arguments are let pass. -/
import Derived.Test.YtpafbpfcoacidaaPureFramePuts
import Derived.Test.YtpafbpfcoacidaaFx5
namespace Go.Proofs.Ytpafbpfcoacidaa.Pure
open Go.RowKit Go.Proofs.Ytpafbpfcoacidaa.F Go.Proofs.YtpafbpfcoacidaaW.PrintWords Go.Proofs.YtpafbpfcoacidaaW.PrintLast Go.Proofs.YtpafbpfcoacidaaW.PrintMore Go.Proofs.Ytpafbpfcoacidaa.TF

/-- a frame whose sum or piece is another one at one place is read as ErrSum -/
theorem getF_turned {p : List Int} (hp : Bytes p) (hl : p.length ≤ 16777216) {j : Nat} (hj : j < p.length + 4) {y : Int} (hy : IsB y)
    (hne : y ≠ (frameOf p)[(enc p.length).length + j]'(by rw [frameOf_len]; omega)) : getF ((frameOf p).set ((enc p.length).length + j) y) = ([], 0, 5) := by
  have hfl := frameOf_len p
  have hfs : (frameOf p).set ((enc p.length).length + j) y = enc p.length ++ ((sum4 (sumB p) ++ p).set j y) := by
    unfold frameOf
    rw [List.set_append_right _ _ (by omega), Nat.add_sub_cancel_left]
  have hget : (frameOf p)[(enc p.length).length + j]'(by rw [frameOf_len]; omega) = (sum4 (sumB p) ++ p)[j]'(by simp only [List.length_append, sum4_len]; omega) := by
    unfold frameOf
    rw [List.getElem_append_right (by omega)]
    simp
  rw [hget] at hne
  rw [hfs]
  have hg : getB (enc p.length ++ ((sum4 (sumB p) ++ p).set j y)) = ((p.length : Int), ((enc p.length).length : Int), 0) := getB_enc (by omega) _
  unfold getF
  rw [hg]
  simp only [if_true, if_neg (show ¬ ((p.length : Int) > 16777216) by omega), Int.toNat_natCast]
  rw [if_neg (by simp only [List.length_append, List.length_set, sum4_len]; omega)]
  have hkey : ∃ s q : List Int, (sum4 (sumB p) ++ p).set j y = s ++ q ∧ s.length = 4 ∧ q.length = p.length ∧ s ≠ sum4 (sumB q) := by
    by_cases c : j < 4
    · refine ⟨(sum4 (sumB p)).set j y, p, ?_, by simp [sum4_len], rfl, ?_⟩
      · rw [List.set_append_left _ _ (by rw [sum4_len]; exact c)]
      · intro h
        apply hne
        have hj' : j < (sum4 (sumB p)).length := by rw [sum4_len]; exact c
        have h2 := List.getElem_of_eq h (i := j) (by simpa using hj')
        rw [List.getElem_set_self] at h2
        rw [h2, List.getElem_append_left hj']
    · have hj4 : j - 4 < p.length := by omega
      refine ⟨sum4 (sumB p), p.set (j - 4) y, ?_, sum4_len _, by simp, ?_⟩
      · rw [List.set_append_right _ _ (by rw [sum4_len]; omega), sum4_len]
      · intro h
        have h2 := sum4_inj h
        refine sum_set hp hj4 hy ?_ h2.symm
        intro e
        apply hne
        rw [List.getElem_append_right (by rw [sum4_len]; omega)]
        simp only [sum4_len]
        exact e
  obtain ⟨s, q, hsq, hs, hq, hn⟩ := hkey
  rw [hsq]
  have e1 : cut (enc p.length ++ (s ++ q)) (enc p.length).length 4 = s := by
    have := cut_mid (enc p.length) s q
    rwa [hs] at this
  have e2 : cut (enc p.length ++ (s ++ q)) ((enc p.length).length + 4) p.length = q := by
    have := cut_mid (enc p.length ++ s) q []
    rw [List.length_append, hs, hq, List.append_nil, List.append_assoc] at this
    exact this
  rw [e1, e2, if_neg hn]
theorem FrameTurns : cooperagelaw5_FrameTurns.Pure := by
  intro p at_ bit h0 h1 hp ha hbit
  apply Ev.rounds (g := fun k => cooperagelaw5_FrameTurns.f k p at_ bit)
  have bp := wf_u8 hp
  have ha2 := wf_i64 ha
  unfold cooperagelaw5_FrameTurns.f
  refine Ev.bind falive_ev ?_
  simp only [if_true]
  have long : Ev (fun k => cooperagelaw5_FrameTurns.j0 k p at_ bit true true) true := Ev.step (fun k => by simp only [cooperagelaw5_FrameTurns.j0, if_true]) (Ev.now _)
  by_cases c1 : (p.length : Int) < 1
  · simp only [if_pos c1]; exact long
  simp only [if_neg c1]
  by_cases c2 : (p.length : Int) > 300
  · simp only [if_pos c2]; exact long
  simp only [if_neg c2]
  by_cases c3 : at_ < 0
  · rw [decide_eq_true c3]; exact long
  rw [decide_eq_false c3]
  have hfl := frameOf_len p
  have h10 := enc_len_small (n := p.length) (by omega)
  have hpos := enc_pos p.length
  refine Ev.step (fun k => by simp only [cooperagelaw5_FrameTurns.j0]; rfl) ?_
  simp only [Bool.false_eq_true, if_false]
  refine Ev.bind (rfput_ev [] p bp (by simp; omega)) ?_
  rw [List.nil_append]
  rw [w64 (n := (p.length : Int) + 4) (by omega) (by omega), w64 (n := ((frameOf p).length : Int) - (p.length : Int)) (by omega) (by omega), w64 (n := ((frameOf p).length : Int) - (p.length : Int) - 4) (by omega) (by omega)]
  have hm0 : 0 ≤ Int.tmod at_ ((p.length : Int) + 4) := Int.tmod_nonneg _ (by omega)
  have hm1 : Int.tmod at_ ((p.length : Int) + 4) < (p.length : Int) + 4 := Int.tmod_lt_of_pos _ (by omega)
  obtain ⟨j, hj⟩ := Int.eq_ofNat_of_zero_le hm0
  rw [hj] at hm1 ⊢
  rw [w64 (n := ((frameOf p).length : Int) - (p.length : Int) - 4 + (j : Int)) (by omega) (by omega)]
  have hpl : ((frameOf p).length : Int) - (p.length : Int) - 4 + (j : Int) = (((enc p.length).length + j : Nat) : Int) := by omega
  rw [hpl]
  have hlt : (enc p.length).length + j < (frameOf p).length := by omega
  have hx : IsB (frameOf p)[(enc p.length).length + j] := frameOf_bytes bp _ (List.getElem_mem hlt)
  obtain ⟨m, hm7, hmask, hturn⟩ := turned (z := bit) hx
  rw [hmask]
  simp only [if_neg (show ¬ ((p.length : Int) + 4 = 0) by omega), if_pos (show (0 : Int) ≤ (((enc p.length).length + j : Nat) : Int) by omega), if_pos (show ((((enc p.length).length + j : Nat) : Int) < ((frameOf p).length : Int)) by omega), if_pos (show (0 : Int) ≤ (m : Int) by omega), rd_get hlt, hturn, Int.toNat_natCast]
  refine Ev.bind (fget_ev _ ((frameOf_bytes bp).set _ turn_is) (by simp only [List.length_set]; omega)) ?_
  rw [getF_turned bp (by omega) (by omega) turn_is (turn_ne hx hm7)]
  simp only [cooperagelaw5_num.f, Option.bind_some, if_true, List.length_nil]
  exact Ev.congr (fun k => by rfl) (Ev.now _)
end Go.Proofs.Ytpafbpfcoacidaa.Pure
