/- The plain law of a segment's bytes: records, each framed (the program's own). -/
import Derived.Test.YtphnolgneojdhaaTVRecordLaw
import Derived.Test.YtphnolgneojdhaaTVFrame
import Derived.Test.YtphnolgneojdhaaVx3
import Derived.Test.YtphnolgneojdhaaVx5
namespace Go.Proofs.Ytphnolgneojdhaa.TV
open Go.RowKit Go.Proofs.Ytphnolgneojdhaa.V Go.Proofs.YtphnolgneojdhaaW.PrintWords Go.Proofs.YtphnolgneojdhaaW.PrintLast Go.Proofs.YtphnolgneojdhaaW.PrintMore
set_option linter.unusedVariables false
set_option linter.unusedSimpArgs false

theorem w64n {z : Int} {n : Nat} (h : z = (n : Int)) (hn : n < 9223372036854775808) : wrap64 z = (n : Int) := by subst h; exact w64 (by omega) (by omega)
/-- the record that a value of the program is -/
def toR (x : S34) : Rec := ⟨x.f0, x.f1, x.f2, x.f3, x.f4⟩
theorem toR_inj {x y : S34} (h : toR x = toR y) : x = y := by
  cases x; cases y
  simp only [toR, Rec.mk.injEq] at h
  obtain ⟨h1, h2, h3, h4, h5⟩ := h
  subst h1 h2 h3 h4 h5
  rfl
theorem rdT_get {l : List S34} {i : Nat} (h : i < l.length) : rd_T34 l (i : Int) = l[i] := by
  unfold rd_T34
  rw [Int.toNat_natCast, List.getD_eq_getElem?_getD, List.getElem?_eq_getElem h, Option.getD_some]
/-- a record's frame, where it may be -/
def piece (x : S34) : List Int := if rightB (toR x) = true then frameOf (recBytes (toR x)) else []
def segB (l : List S34) : List Int := l.flatMap piece
theorem segB_append (a b : List S34) : segB (a ++ b) = segB a ++ segB b := List.flatMap_append
theorem segB_cons (x : S34) (l : List S34) : segB (x :: l) = piece x ++ segB l := List.flatMap_cons
theorem segB_one (x : S34) : segB [x] = piece x := by simp [segB]
theorem piece_right {x : S34} (h : rightB (toR x) = true) : piece x = frameOf (recBytes (toR x)) := by rw [piece, if_pos h]
theorem piece_wrong {x : S34} (h : ¬ rightB (toR x) = true) : piece x = [] := by rw [piece, if_neg h]
theorem frame_rec_len {r : Rec} (h : rightB r = true) : (frameOf (recBytes r)).length ≤ 2255 ∧ 10 ≤ (frameOf (recBytes r)).length := by
  have h1 := recBytes_le h
  have h2 := frameOf_len (recBytes r)
  have h3 := enc_len_small (n := (recBytes r).length) (by omega)
  have h4 := enc_pos (recBytes r).length
  omega
theorem piece_len (x : S34) : (piece x).length ≤ 2255 := by
  unfold piece; split
  · rename_i h; exact (frame_rec_len h).1
  · simp
theorem piece_bytes (x : S34) : Bytes (piece x) := by
  unfold piece; split
  · exact frameOf_bytes (recBytes_bytes _)
  · exact Bytes.nil
theorem segB_len : ∀ l : List S34, (segB l).length ≤ 2255 * l.length
  | [] => by simp [segB]
  | x :: l => by
    have h1 := segB_len l
    have h2 := piece_len x
    rw [segB_cons, List.length_append, List.length_cons]; omega
theorem segB_bytes : ∀ l : List S34, Bytes (segB l)
  | [] => Bytes.nil
  | x :: l => by rw [segB_cons]; exact (piece_bytes x).append (segB_bytes l)
theorem sbytes_loop (l : List S34) (hl : l.length ≤ 1000000) : ∀ (d i : Nat) (acc : List Int), i + d = l.length → acc.length ≤ 2255 * i → Ev (fun k => segment_Bytes.l0 k acc l (l.length : Int) (i : Int)) (acc ++ segB (l.drop i)) := by
  intro d
  induction d with
  | zero =>
    intro i acc hi ha
    refine Ev.step (fun k => by simp only [segment_Bytes.l0]; rfl) ?_
    simp only [if_neg (show ¬ ((i : Int) < (l.length : Int)) by omega)]
    rw [List.drop_of_length_le (by omega), segB, List.flatMap_nil, List.append_nil]
    exact Ev.now _
  | succ d ih =>
    intro i acc hi ha
    have hlt : i < l.length := by omega
    rw [List.drop_eq_getElem_cons hlt, segB_cons, ← List.append_assoc]
    refine Ev.step (fun k => by simp only [segment_Bytes.l0]; rfl) ?_
    have hr := right_some (toR l[i])
    have hp := putr_ev [] (toR l[i]) (by simp)
    simp only [toR] at hr hp
    have ew : wrap64 ((i : Int) + 1) = ((i + 1 : Nat) : Int) := w64n (by omega) (by omega)
    simp only [if_pos (show ((i : Int) < (l.length : Int)) by omega), if_pos (show ((0 : Int) ≤ (i : Int)) by omega), rdT_get hlt, hr, Option.bind_some, ew]
    clear ew
    by_cases c : rightB (toR l[i]) = true
    · have hpl := frame_rec_len c
      have hrl := recBytes_le c
      rw [piece_right c]
      simp only [toR] at c hpl hrl
      simp only [if_pos c]
      refine Ev.bind hp ?_
      rw [List.nil_append, putBytes, if_pos c]
      have hf := fput_ev [] (recBytes ⟨l[i].f0, l[i].f1, l[i].f2, l[i].f3, l[i].f4⟩) (recBytes_bytes _) (by simp only [List.length_nil]; omega)
      refine Ev.bind hf ?_
      rw [List.nil_append]
      simp only [if_pos (show acc.length + (frameOf (recBytes ⟨l[i].f0, l[i].f1, l[i].f2, l[i].f3, l[i].f4⟩)).length < 140737488355328 by omega)]
      exact ih (i + 1) _ (by omega) (by rw [List.length_append]; omega)
    · rw [piece_wrong c, List.append_nil]
      simp only [toR] at c
      simp only [if_neg c]
      exact ih (i + 1) _ (by omega) (by omega)
theorem sbytes_ev (l : List S34) (hl : l.length ≤ 1000000) : Ev (fun k => segment_Bytes.f k l) (segB l) := by
  have h := sbytes_loop l hl l.length 0 [] (by omega) (by simp)
  rw [List.nil_append, List.drop_zero] at h
  exact Ev.congr (fun k => by unfold segment_Bytes.f; rfl) h
theorem big_loop (l : List S34) (hl : l.length ≤ 9223372036854775807) : ∀ (d i : Nat), i + d = l.length → Ev (fun k => cooperagelaw8_Big.l0 k l (i : Int)) true ∨ (Ev (fun k => cooperagelaw8_Big.l0 k l (i : Int)) false ∧ l.length ≤ 60 ∧ ∀ x ∈ l.drop i, x.f2.size ≤ 250 ∧ x.f3.size ≤ 300) := by
  intro d
  induction d with
  | zero =>
    intro i hi
    by_cases c : (l.length : Int) > 60
    · refine .inl (Ev.step (fun k => by simp only [cooperagelaw8_Big.l0]; rfl) ?_)
      simp only [if_neg (show ¬ ((i : Int) < (l.length : Int)) by omega), decide_eq_true c]
      exact Ev.now _
    · refine .inr ⟨Ev.step (fun k => by simp only [cooperagelaw8_Big.l0]; rfl) ?_, by omega, ?_⟩
      · simp only [if_neg (show ¬ ((i : Int) < (l.length : Int)) by omega), decide_eq_false c]
        exact Ev.now _
      · rw [List.drop_of_length_le (by omega)]; simp
  | succ d ih =>
    intro i hi
    have hlt : i < l.length := by omega
    have ew : wrap64 ((i : Int) + 1) = ((i + 1 : Nat) : Int) := w64n (by omega) (by omega)
    by_cases c1 : (l[i].f2.size : Int) > 250
    · refine .inl (Ev.step (fun k => by simp only [cooperagelaw8_Big.l0]; rfl) ?_)
      simp only [if_pos (show ((i : Int) < (l.length : Int)) by omega), if_pos (show ((0 : Int) ≤ (i : Int)) by omega), rdT_get hlt, if_pos c1]
      exact Ev.now _
    by_cases c2 : (l[i].f3.size : Int) > 300
    · refine .inl (Ev.step (fun k => by simp only [cooperagelaw8_Big.l0]; rfl) ?_)
      simp only [if_pos (show ((i : Int) < (l.length : Int)) by omega), if_pos (show ((0 : Int) ≤ (i : Int)) by omega), rdT_get hlt, if_neg c1, if_pos c2]
      exact Ev.now _
    rcases ih (i + 1) (by omega) with h | ⟨h, h60, hs⟩
    · refine .inl (Ev.step (fun k => by simp only [cooperagelaw8_Big.l0]; rfl) ?_)
      simp only [if_pos (show ((i : Int) < (l.length : Int)) by omega), if_pos (show ((0 : Int) ≤ (i : Int)) by omega), rdT_get hlt, if_neg c1, if_neg c2, ew]
      exact h
    · refine .inr ⟨Ev.step (fun k => by simp only [cooperagelaw8_Big.l0]; rfl) ?_, h60, ?_⟩
      · simp only [if_pos (show ((i : Int) < (l.length : Int)) by omega), if_pos (show ((0 : Int) ≤ (i : Int)) by omega), rdT_get hlt, if_neg c1, if_neg c2, ew]
        exact h
      · rw [List.drop_eq_getElem_cons hlt]
        intro x hx
        rcases List.mem_cons.1 hx with rfl | hx
        · exact ⟨by omega, by omega⟩
        · exact hs x hx
theorem big_ev (l : List S34) (hl : l.length ≤ 9223372036854775807) : Ev (fun k => cooperagelaw8_Big.f k l) true ∨ (Ev (fun k => cooperagelaw8_Big.f k l) false ∧ l.length ≤ 60 ∧ ∀ x ∈ l, x.f2.size ≤ 250 ∧ x.f3.size ≤ 300) := by
  rcases big_loop l hl l.length 0 (by omega) with h | ⟨h, h2, h3⟩
  · exact .inl (Ev.congr (fun k => by unfold cooperagelaw8_Big.f; rfl) h)
  · rw [List.drop_zero] at h3
    exact .inr ⟨Ev.congr (fun k => by unfold cooperagelaw8_Big.f; rfl) h, h2, h3⟩
end Go.Proofs.Ytphnolgneojdhaa.TV
