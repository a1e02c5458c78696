/- The plain law of marks (the program's own); the example. -/
import Derived.Test.YtphnolgneojdhaaTVSegP
import Derived.Test.YtphnolgneojdhaaVx4
import Derived.Test.YtphnolgneojdhaaVx5
namespace Go.Proofs.Ytphnolgneojdhaa.TV
open Go.RowKit Go.Proofs.Ytphnolgneojdhaa.V Go.Proofs.YtphnolgneojdhaaW.PrintWords Go.Proofs.YtphnolgneojdhaaW.PrintLast Go.Proofs.YtphnolgneojdhaaW.PrintMore
set_option linter.unusedVariables false
set_option linter.unusedSimpArgs false

/-- the marks: offset, time, place -/
def mk (e : Int) : List S34 → Nat → Nat → Int → List (Int × Int × Int)
  | [], _, _, _ => []
  | x :: l, n, pos, time => if rightB (toR x) = true then (if Int.tmod (n : Int) e = 0 then (x.f0, time, (pos : Int)) :: mk e l (n + 1) (pos + (piece x).length) (mx time x.f1) else mk e l (n + 1) (pos + (piece x).length) (mx time x.f1)) else mk e l n pos time
theorem mk_len (e : Int) : ∀ (l : List S34) (n pos : Nat) (time : Int), (mk e l n pos time).length ≤ l.length
  | [], _, _, _ => by simp [mk]
  | x :: l, n, pos, time => by
    unfold mk
    split
    · split
      · have := mk_len e l (n + 1) (pos + (piece x).length) (mx time x.f1); simp only [List.length_cons]; omega
      · have := mk_len e l (n + 1) (pos + (piece x).length) (mx time x.f1); simp only [List.length_cons]; omega
    · have := mk_len e l n pos time; simp only [List.length_cons]; omega
def toM (m : Int × Int × Int) : S36 := ⟨m.1, m.2.1, m.2.2⟩
def toM' (m : Int × Int × Int) : S31 := ⟨m.1, m.2.1, m.2.2⟩
theorem mx_pos (e : Int) : 1 ≤ mx 1 e := by unfold mx; split <;> omega
theorem make_loop (l : List S34) (e : Int) (hl : l.length ≤ 1000000) : ∀ (d i n pos : Nat) (time : Int) (acc : List S36), i + d = l.length → n ≤ i → pos ≤ 2255 * i → acc.length ≤ i →
    Ev (fun k => index_Make.l0 k e acc (pos : Int) (n : Int) time l (l.length : Int) (i : Int)) (acc ++ (mk (mx 1 e) (l.drop i) n pos time).map toM) := by
  intro d
  induction d with
  | zero =>
    intro i n pos time acc hi hn hp ha
    refine Ev.step (fun k => by simp only [index_Make.l0]; rfl) ?_
    simp only [if_neg (show ¬ ((i : Int) < (l.length : Int)) by omega)]
    rw [List.drop_of_length_le (by omega), mk, List.map_nil, List.append_nil]
    exact Ev.now _
  | succ d ih =>
    intro i n pos time acc hi hn hp ha
    have hlt : i < l.length := by omega
    have he := mx_pos e
    rw [List.drop_eq_getElem_cons hlt, mk]
    refine Ev.step (fun k => by simp only [index_Make.l0]; rfl) ?_
    have hr := right_some (toR l[i])
    simp only [toR] at hr
    have hpl := piece_len l[i]
    have ew : wrap64 ((i : Int) + 1) = ((i + 1 : Nat) : Int) := w64n (by omega) (by omega)
    have en : wrap64 ((n : Int) + 1) = ((n + 1 : Nat) : Int) := by clear ew; exact w64n (by omega) (by omega)
    have ep : wrap64 ((pos : Int) + ((piece l[i]).length : Int)) = ((pos + (piece l[i]).length : Nat) : Int) := by clear ew en; exact w64n (by omega) (by omega)
    have hs := sbytes_ev [(⟨l[i].f0, l[i].f1, l[i].f2, l[i].f3, l[i].f4⟩ : S34)] (by simp)
    rw [segB_one, show (⟨l[i].f0, l[i].f1, l[i].f2, l[i].f3, l[i].f4⟩ : S34) = l[i] from rfl] at hs
    simp only [if_pos (show ((i : Int) < (l.length : Int)) by clear ew en ep; omega), if_pos (show ((0 : Int) ≤ (i : Int)) by clear ew en ep; omega), rdT_get hlt, hr, Option.bind_some, ew, en, if_neg (show ¬ (mx 1 e = 0) by clear ew en ep; omega), if_pos (show acc.length < 5864062014805 by clear ew en ep; omega)]
    by_cases c : rightB (toR l[i]) = true
    · rw [if_pos c]
      simp only [toR] at c
      simp only [if_pos c]
      by_cases c2 : Int.tmod (n : Int) (mx 1 e) = 0
      · simp only [if_pos c2]
        refine Ev.bind hs ?_
        rw [ep]
        have := ih (i + 1) (n + 1) (pos + (piece l[i]).length) (mx time l[i].f1) (acc ++ [⟨l[i].f0, time, (pos : Int)⟩]) (by clear ew en ep; omega) (by clear ew en ep; omega) (by clear ew en ep; omega) (by rw [List.length_append]; simp only [List.length_cons, List.length_nil]; clear ew en ep; omega)
        rw [List.append_assoc] at this
        exact this
      · simp only [if_neg c2]
        refine Ev.bind hs ?_
        rw [ep]
        exact ih (i + 1) (n + 1) (pos + (piece l[i]).length) (mx time l[i].f1) acc (by clear ew en ep; omega) (by clear ew en ep; omega) (by clear ew en ep; omega) (by clear ew en ep; omega)
    · rw [if_neg c]
      simp only [toR] at c
      simp only [if_neg c]
      exact ih (i + 1) n pos time acc (by clear ew en ep; omega) (by clear ew en ep; omega) (by clear ew en ep; omega) (by clear ew en ep; omega)
theorem make_ev (l : List S34) (e : Int) (hl : l.length ≤ 1000000) : Ev (fun k => index_Make.f k l e) ((mk (mx 1 e) l 0 0 (-1099511627777)).map toM) := by
  have h := make_loop l e hl l.length 0 0 0 (-1099511627777) [] (by omega) (by omega) (by omega) (by simp)
  rw [List.nil_append, List.drop_zero] at h
  exact Ev.congr (fun k => by unfold index_Make.f; rfl) h
theorem rdM_get {l : List S36} {i : Nat} (h : i < l.length) : rd_T36 l (i : Int) = l[i] := by
  unfold rd_T36
  rw [Int.toNat_natCast, List.getD_eq_getElem?_getD, List.getElem?_eq_getElem h, Option.getD_some]
theorem rdM'_get {l : List S31} {i : Nat} (h : i < l.length) : rd_T31 l (i : Int) = l[i] := by
  unfold rd_T31
  rw [Int.toNat_natCast, List.getD_eq_getElem?_getD, List.getElem?_eq_getElem h, Option.getD_some]
def ra : S34 := ⟨0, 0, ⟨#[97]⟩, ⟨#[]⟩, false⟩
def rb : S34 := ⟨5, 0, ⟨#[98]⟩, ⟨#[]⟩, false⟩
theorem ialive_ev : Ev (fun k => cooperagelaw9_alive.f k) true := by
  unfold cooperagelaw9_alive.f
  have h := make_ev [ra, rb] 1 (by simp)
  have h0 := make_ev ([] : List S34) 1 (by simp)
  have ha : rightB (toR ra) = true := by decide
  have hb : rightB (toR rb) = true := by decide
  have e1 : mx 1 1 = 1 := rfl
  have hp := (frame_rec_len ha).2
  rw [← piece_right ha] at hp
  have e : mk (mx 1 1) [ra, rb] 0 0 (-1099511627777) = [(0, -1099511627777, 0), (5, 0, ((piece ra).length : Int))] := by
    unfold mk
    rw [if_pos ha]
    unfold mk
    rw [if_pos hb]
    unfold mk
    rw [e1]
    simp only [Int.tmod_one, if_true]
    rw [Nat.zero_add]
    rfl
  rw [e] at h
  refine Ev.bind h ?_
  have r0 : rd_T36 (List.map toM [(0, -1099511627777, 0), (5, 0, ((piece ra).length : Int))]) 0 = ⟨0, -1099511627777, 0⟩ := rfl
  have r1 : rd_T36 (List.map toM [(0, -1099511627777, 0), (5, 0, ((piece ra).length : Int))]) 1 = ⟨5, 0, ((piece ra).length : Int)⟩ := rfl
  have hlen : ((List.map toM [(0, -1099511627777, 0), (5, 0, ((piece ra).length : Int))]).length : Int) = 2 := rfl
  simp only [r0, r1, hlen, if_true, if_pos (show (0 : Int) < 2 by decide), if_pos (show (1 : Int) < 2 by decide), if_pos (show ((piece ra).length : Int) > 0 by omega)]
  refine Ev.bind h0 ?_
  have e2 : ((((mk (mx 1 1) ([] : List S34) 0 0 (-1099511627777)).map toM).length : Int) == 0) = true := rfl
  rw [e2]
  exact Ev.now _
end Go.Proofs.Ytphnolgneojdhaa.TV
