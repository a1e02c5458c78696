/- The plain law of reading a segment's bytes. -/
import Derived.Test.YtphnolgneojdhaaTVSegP
import Derived.Test.YtphnolgneojdhaaTVRecordGet
import Derived.Test.YtphnolgneojdhaaTVFrame
import Derived.Test.YtphnolgneojdhaaVx11
namespace Go.Proofs.Ytphnolgneojdhaa.TV
open Go.RowKit Go.Proofs.Ytphnolgneojdhaa.V Go.Proofs.YtphnolgneojdhaaW.PrintWords Go.Proofs.YtphnolgneojdhaaW.PrintLast Go.Proofs.YtphnolgneojdhaaW.PrintMore
set_option linter.unusedVariables false
set_option linter.unusedSimpArgs false

def ofR (r : Rec) : S34 := ⟨r.o, r.t, r.key, r.val, r.dead⟩
theorem toR_ofR (r : Rec) : toR (ofR r) = r := rfl
theorem ofR_toR (x : S34) : ofR (toR x) = x := rfl
/-- the records of bytes from the last one's offset on, and how many bytes they have -/
def scanL : Nat → List Int → Int → List S34 × Int
  | 0, _, _ => ([], 0)
  | d + 1, b, last =>
    if b.length = 0 then ([], 0)
    else if (getF b).2.2 = 0 then
      (match getE (getF b).1 with
        | .error _ => ([], 0)
        | .ok (r, m) => if m = (getF b).1.length then (if r.o ≤ last then ([], 0) else (ofR r :: (scanL d (b.drop (getF b).2.1.toNat) r.o).1, (getF b).2.1 + (scanL d (b.drop (getF b).2.1.toNat) r.o).2)) else ([], 0))
    else ([], 0)
def scanF (b : List Int) : List S34 × Int := scanL b.length b (-1)
theorem scan_loop (b : List Int) (hb : Bytes b) (hl : b.length ≤ 1000000000) : ∀ (d i : Nat) (acc : List S34) (last : Int), b.length ≤ i + d → i ≤ b.length → acc.length ≤ i →
    Ev (fun k => segment_Scan.l0 k b acc (i : Int) last) (acc ++ (scanL d (b.drop i) last).1, (i : Int) + (scanL d (b.drop i) last).2) := by
  intro d
  induction d with
  | zero =>
    intro i acc last hd hi ha
    refine Ev.step (fun k => by simp only [segment_Scan.l0]; rfl) ?_
    simp only [if_neg (show ¬ ((i : Int) < (b.length : Int)) by omega)]
    simp only [scanL, List.append_nil, Int.add_zero]
    exact Ev.now _
  | succ d ih =>
    intro i acc last hd hi ha
    refine Ev.step (fun k => by simp only [segment_Scan.l0]; rfl) ?_
    unfold scanL
    have hdl : (b.drop i).length = b.length - i := List.length_drop
    by_cases c : i < b.length
    · simp only [if_pos (show ((i : Int) < (b.length : Int)) by omega), if_pos (show ((0 : Int) ≤ (i : Int)) by omega), if_pos (show ((i : Int) ≤ (b.length : Int)) by omega), Int.toNat_natCast]
      rw [if_neg (show ¬ ((b.drop i).length = 0) by omega)]
      have hbd := hb.drop i
      refine Ev.bind (fget_ev (b.drop i) hbd (by omega)) ?_
      rcases getF_cases hbd with ⟨n, hg, hn1, hn2, hn3⟩ | ⟨e, he, hg⟩
      · have hpb := getF_piece hbd
        have h3 : (getF (b.drop i)).2.2 = 0 := by rw [hg]
        have h2 : (getF (b.drop i)).2.1 = (n : Int) := by rw [hg]
        simp only [h3, h2, if_true, Int.toNat_natCast]
        have hget := getr_ev (getF (b.drop i)).1 hpb (by omega)
        cases hE : getE (getF (b.drop i)).1 with
        | error e =>
          have he := getE_err hE
          rw [hE] at hget
          simp only [tupR] at hget
          refine Ev.bind hget ?_
          simp only [if_neg he, List.append_nil, Int.add_zero]
          exact Ev.now _
        | ok p =>
          obtain ⟨r, m⟩ := p
          rw [hE] at hget
          simp only [tupR] at hget
          refine Ev.bind hget ?_
          simp only [if_true]
          by_cases c2 : m = (getF (b.drop i)).1.length
          · simp only [if_pos (show ((m : Int) = ((getF (b.drop i)).1.length : Int)) by omega), if_pos c2]
            by_cases c3 : r.o ≤ last
            · simp only [if_pos c3, List.append_nil, Int.add_zero]
              exact Ev.now _
            · have hnext := ih (i + n) (acc ++ [ofR r]) r.o (by omega) (by omega) (by rw [List.length_append]; simp only [List.length_cons, List.length_nil]; omega)
              have ew : wrap64 ((i : Int) + (n : Int)) = ((i + n : Nat) : Int) := w64n (by omega) (by omega)
              simp only [if_neg c3, if_pos (show acc.length < 2513169434916 by clear ew; omega), ew]
              rw [← List.drop_drop, List.append_assoc] at hnext
              have e2 : ((i + n : Nat) : Int) + (scanL d ((b.drop i).drop n) r.o).2 = (i : Int) + ((n : Int) + (scanL d ((b.drop i).drop n) r.o).2) := by clear ew; omega
              rw [e2] at hnext
              exact hnext
          · simp only [if_neg (show ¬ ((m : Int) = ((getF (b.drop i)).1.length : Int)) by omega), if_neg c2, List.append_nil, Int.add_zero]
            exact Ev.now _
      · have h3 : (getF (b.drop i)).2.2 = e := by rw [hg]
        simp only [h3, if_neg he, List.append_nil, Int.add_zero]
        exact Ev.now _
    · simp only [if_neg (show ¬ ((i : Int) < (b.length : Int)) by omega)]
      rw [if_pos (show ((b.drop i).length = 0) by omega), List.append_nil, Int.add_zero]
      exact Ev.now _
theorem scan_ev (b : List Int) (hb : Bytes b) (hl : b.length ≤ 1000000000) : Ev (fun k => segment_Scan.f k b) (scanF b) := by
  have h := scan_loop b hb hl b.length 0 [] (-1) (by omega) (by omega) (by simp)
  rw [List.nil_append, List.drop_zero] at h
  have e : ((0 : Nat) : Int) + (scanL b.length b (-1)).2 = (scanL b.length b (-1)).2 := by omega
  rw [e] at h
  exact Ev.congr (fun k => by unfold segment_Scan.f; rfl) h
/-- bytes cut anywhere: the records that are whole -/
theorem scan_torn : ∀ (g : List S34) (d n : Nat) (last : Int), (∀ x ∈ g, rightB (toR x) = true) → g.Pairwise (fun x y => x.f0 < y.f0) → (∀ x ∈ g, last < x.f0) → n ≤ (segB g).length → n ≤ d →
    ∃ j, j ≤ g.length ∧ scanL d ((segB g).take n) last = (g.take j, ((segB (g.take j)).length : Int)) ∧ (segB (g.take j)).length ≤ n ∧ (j = g.length ∨ n < (segB (g.take (j + 1))).length)
  | [], d, n, last, _, _, _, hn, hd => by
    have e : (segB ([] : List S34)).take n = [] := by simp [segB]
    rw [e]
    refine ⟨0, Nat.le_refl _, ?_, by simp [segB], .inl rfl⟩
    cases d with
    | zero => rfl
    | succ d => rfl
  | x :: g, d, n, last, hr, hp, hla, hn, hd => by
    have hx := hr x (by simp)
    have hpr := piece_right hx
    have hle := frame_rec_len hx
    have hrl := recBytes_le hx
    rw [segB_cons] at hn ⊢
    by_cases c : n < (piece x).length
    · refine ⟨0, by omega, ?_, by simp [segB], .inr (by rw [List.take_succ_cons, List.take_zero, segB_one]; exact c)⟩
      rw [List.take_append_of_le_length (by omega), hpr]
      rw [hpr] at c
      cases d with
      | zero => rfl
      | succ d =>
        unfold scanL
        split
        · rfl
        · rw [if_neg (getF_short (by omega) c)]; rfl
    · obtain ⟨m, rfl⟩ : ∃ m, n = (piece x).length + m := ⟨n - (piece x).length, by omega⟩
      rw [List.length_append] at hn
      rw [List.take_length_add_append]
      have hpl : 10 ≤ (piece x).length := by rw [hpr]; exact hle.2
      cases d with
      | zero => omega
      | succ d =>
        obtain ⟨j, hj, hs, hj2, hj3⟩ := scan_torn g d m x.f0 (fun y hy => hr y (by simp [hy])) (List.pairwise_cons.1 hp).2 (List.pairwise_cons.1 hp).1 (by omega) (by omega)
        refine ⟨j + 1, by rw [List.length_cons]; omega, ?_, ?_, ?_⟩
        · unfold scanL
          rw [if_neg (by rw [List.length_append]; omega)]
          rw [hpr, getF_frame (recBytes_bytes _) (by omega)]
          simp only [if_true, Int.toNat_natCast, List.drop_left]
          have hE := getE_rec hx []
          rw [List.append_nil] at hE
          rw [hE]
          simp only [if_true]
          rw [if_neg (show ¬ (toR x).o ≤ last from by have := hla x (by simp); simp only [toR]; omega)]
          rw [show (toR x).o = x.f0 from rfl, hs, ofR_toR, List.take_succ_cons, segB_cons, List.length_append, hpr]
          simp only [Prod.mk.injEq, true_and]
          omega
        · rw [List.take_succ_cons, segB_cons, List.length_append]; omega
        · rcases hj3 with h | h
          · exact .inl (by rw [List.length_cons, h])
          · exact .inr (by rw [List.take_succ_cons, segB_cons, List.length_append]; omega)
theorem scanL_len : ∀ (d : Nat) (b : List Int) (last : Int), (scanL d b last).1.length ≤ d
  | 0, _, _ => by simp [scanL]
  | d + 1, b, last => by
    unfold scanL
    split
    · simp
    · split
      · split
        · simp
        · split
          · split
            · simp
            · simp only [List.length_cons]
              exact Nat.succ_le_succ (scanL_len d _ _)
          · simp
      · simp
theorem scanF_len (b : List Int) : (scanF b).1.length ≤ b.length := scanL_len _ _ _
theorem segB_take_le (g : List S34) (j : Nat) : (segB (g.take j)).length ≤ (segB g).length := by
  conv => rhs; rw [← List.take_append_drop j g, segB_append, List.length_append]
  omega
theorem scan_full (g : List S34) (hr : ∀ x ∈ g, rightB (toR x) = true) (hp : g.Pairwise (fun x y => x.f0 < y.f0)) (hla : ∀ x ∈ g, -1 < x.f0) : scanF (segB g) = (g, ((segB g).length : Int)) := by
  obtain ⟨j, hj, hs, h1, h2⟩ := scan_torn g (segB g).length (segB g).length (-1) hr hp hla (Nat.le_refl _) (Nat.le_refl _)
  rw [List.take_of_length_le (Nat.le_refl _)] at hs
  have e : j = g.length := by
    rcases h2 with h | h
    · exact h
    · have := segB_take_le g (j + 1); omega
  subst e
  rw [List.take_of_length_le (Nat.le_refl _)] at hs
  exact hs
end Go.Proofs.Ytphnolgneojdhaa.TV
