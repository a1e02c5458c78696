/- The plain law of reading a segment's bytes, as the definition reads them. -/
import Derived.Test.YtphnolgneojdhaaTZScan
import Derived.Test.YtphnolgneojdhaaTZRecordRef
import Derived.Test.YtphnolgneojdhaaZx15
namespace Go.Proofs.Ytphnolgneojdhaa.TZ
open Go.RowKit Go.Proofs.Ytphnolgneojdhaa.Z Go.Proofs.YtphnolgneojdhaaW.PrintWords Go.Proofs.YtphnolgneojdhaaW.PrintLast Go.Proofs.YtphnolgneojdhaaW.PrintMore
set_option linter.unusedVariables false
set_option linter.unusedSimpArgs false

theorem rscan_loop (b : List Int) (hb : Bytes b) (hl : b.length ≤ 1000000000) : ∀ (d i : Nat) (acc : List S34) (last : Int), b.length ≤ i + d → i ≤ b.length → acc.length ≤ i → ((acc = [] ∧ last = -1) ∨ ∃ h : 0 < acc.length, last = (acc[acc.length - 1]'(by omega)).f0) →
    Ev (fun k => cooperageref1_Scan.l0 k b acc (i : Int)) (acc ++ (scanL d (b.drop i) last).1, (i : Int) + (scanL d (b.drop i) last).2) := by
  intro d
  induction d with
  | zero =>
    intro i acc last hd hi ha hlast
    refine Ev.step (fun k => by simp only [cooperageref1_Scan.l0]; rfl) ?_
    simp only [if_neg (show ¬ ((i : Int) < (b.length : Int)) by omega)]
    simp only [scanL, List.append_nil, Int.add_zero]
    exact Ev.now _
  | succ d ih =>
    intro i acc last hd hi ha hlast
    refine Ev.step (fun k => by simp only [cooperageref1_Scan.l0]; rfl) ?_
    unfold scanL
    have hdl : (b.drop i).length = b.length - i := List.length_drop
    by_cases c : i < b.length
    · simp only [if_pos (show ((i : Int) < (b.length : Int)) by omega), if_pos (show ((0 : Int) ≤ (i : Int)) by omega), if_pos (show ((i : Int) ≤ (b.length : Int)) by omega), Int.toNat_natCast]
      rw [if_neg (show ¬ ((b.drop i).length = 0) by omega)]
      have hbd := hb.drop i
      refine Ev.bind (rfget_ev (b.drop i) hbd (by omega)) ?_
      rcases getF_cases hbd with ⟨n, hg, hn1, hn2, hn3⟩ | ⟨e, he, hg⟩
      · have hpb := getF_piece hbd
        have h3 : (getF (b.drop i)).2.2 = 0 := by rw [hg]
        have h2 : (getF (b.drop i)).2.1 = (n : Int) := by rw [hg]
        simp only [h3, h2, if_true, Int.toNat_natCast]
        have hget := rgetr_ev (getF (b.drop i)).1 hpb (by omega)
        cases hE : getE (getF (b.drop i)).1 with
        | error e =>
          have he := getE_err hE
          rw [hE] at hget
          simp only [tupR] at hget
          refine Ev.bind hget ?_
          simp only [if_neg he, List.append_nil, Int.add_zero]
          exact Ev.now _
        | ok p =>
          obtain ⟨r, m⟩ := p
          have hright := (rightB_iff r).1 (getE_ok hpb hE).1
          rw [hE] at hget
          simp only [tupR] at hget
          refine Ev.bind hget ?_
          simp only [if_true]
          by_cases c2 : m = (getF (b.drop i)).1.length
          · simp only [if_pos (show ((m : Int) = ((getF (b.drop i)).1.length : Int)) by omega), if_pos c2]
            have hnext := ih (i + n) (acc ++ [ofR r]) r.o (by omega) (by omega) (by rw [List.length_append]; simp only [List.length_cons, List.length_nil]; omega) (.inr ⟨by simp, by simp [ofR]⟩)
            rw [← List.drop_drop, List.append_assoc] at hnext
            have e2 : ((i + n : Nat) : Int) + (scanL d ((b.drop i).drop n) r.o).2 = (i : Int) + ((n : Int) + (scanL d ((b.drop i).drop n) r.o).2) := by omega
            rw [e2] at hnext
            have ew : wrap64 ((i : Int) + (n : Int)) = ((i + n : Nat) : Int) := w64n (by omega) (by omega)
            rcases hlast with ⟨rfl, rfl⟩ | ⟨hpos, hlast⟩
            · simp only [List.length_nil, if_neg (show ¬ (((0 : Nat) : Int) > 0) by decide), if_pos (show (0 : Nat) < 2513169434916 by decide), ew, if_neg (show ¬ (r.o ≤ -1) by clear ew; omega)]
              exact hnext
            · have e3 : wrap64 ((acc.length : Int) - 1) = ((acc.length - 1 : Nat) : Int) := by clear ew; exact w64n (by omega) (by omega)
              have hlt : acc.length - 1 < acc.length := by clear ew e3; omega
              simp only [if_pos (show (acc.length : Int) > 0 by clear ew e3; omega), e3, if_pos (show (0 : Int) ≤ ((acc.length - 1 : Nat) : Int) by clear ew e3; omega), if_pos (show ((acc.length - 1 : Nat) : Int) < (acc.length : Int) by clear ew e3; omega), rdT_get hlt]
              rw [← hlast]
              by_cases c3 : r.o ≤ last
              · simp only [if_pos c3, List.append_nil, Int.add_zero]
                exact Ev.now _
              · simp only [if_neg c3, if_pos (show acc.length < 2513169434916 by clear ew e3; omega), ew]
                exact hnext
          · simp only [if_neg (show ¬ ((m : Int) = ((getF (b.drop i)).1.length : Int)) by omega), if_neg c2, List.append_nil, Int.add_zero]
            exact Ev.now _
      · have h3 : (getF (b.drop i)).2.2 = e := by rw [hg]
        simp only [h3, if_neg he, List.append_nil, Int.add_zero]
        exact Ev.now _
    · simp only [if_neg (show ¬ ((i : Int) < (b.length : Int)) by omega)]
      rw [if_pos (show ((b.drop i).length = 0) by omega), List.append_nil, Int.add_zero]
      exact Ev.now _
theorem rscan_ev (b : List Int) (hb : Bytes b) (hl : b.length ≤ 1000000000) : Ev (fun k => cooperageref1_Scan.f k b) (scanF b) := by
  have h := rscan_loop b hb hl b.length 0 [] (-1) (by omega) (by omega) (by simp) (.inl ⟨rfl, rfl⟩)
  rw [List.nil_append, List.drop_zero] at h
  have e : ((0 : Nat) : Int) + (scanL b.length b (-1)).2 = (scanL b.length b (-1)).2 := by omega
  rw [e] at h
  exact Ev.congr (fun k => by unfold cooperageref1_Scan.f; rfl) h
end Go.Proofs.Ytphnolgneojdhaa.TZ
