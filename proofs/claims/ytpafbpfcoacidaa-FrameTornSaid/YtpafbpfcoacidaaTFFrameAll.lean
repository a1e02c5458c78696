/- The plain law of frames one behind the other: what All tells. -/
import Derived.Test.YtpafbpfcoacidaaTFFrame
import Derived.Test.YtpafbpfcoacidaaFx5
import Derived.Test.YtpafbpfcoacidaaFx6
namespace Go.Proofs.Ytpafbpfcoacidaa.TF
open Go.RowKit Go.Proofs.Ytpafbpfcoacidaa.F Go.Proofs.YtpafbpfcoacidaaW.PrintWords Go.Proofs.YtpafbpfcoacidaaW.PrintLast Go.Proofs.YtpafbpfcoacidaaW.PrintMore
set_option linter.unusedVariables false
set_option linter.unusedSimpArgs false

/-- what Get tells lies inside: the piece, and how far its frame goes -/
theorem getF_cases {b : List Int} (hb : Bytes b) : (∃ n : Nat, getF b = ((getF b).1, (n : Int), 0) ∧ 1 ≤ n ∧ n ≤ b.length ∧ (getF b).1.length ≤ n) ∨ (∃ e : Int, e ≠ 0 ∧ getF b = ([], 0, e)) := by
  unfold getF
  by_cases c0 : (getB b).2.2 = 0
  · obtain ⟨n, i, hg, hi, hi1, hn⟩ := getB_in hb c0
    rw [hg]
    simp only [if_true]
    by_cases c1 : (n : Int) > 16777216
    · simp only [if_pos c1]; exact .inr ⟨3, by decide, rfl⟩
    · simp only [if_neg c1]
      by_cases c2 : (b.length : Int) - (i : Int) < 4 + (n : Int)
      · simp only [if_pos c2]; exact .inr ⟨4, by decide, rfl⟩
      · simp only [if_neg c2, Int.toNat_natCast]
        by_cases c3 : cut b i 4 = sum4 (sumB (cut b (i + 4) n))
        · simp only [if_pos c3]
          refine .inl ⟨i + 4 + n, ?_, by omega, by omega, ?_⟩
          · simp only [Prod.mk.injEq, and_true, true_and]; omega
          · rw [cut_len (by omega)]; omega
        · simp only [if_neg c3]; exact .inr ⟨5, by decide, rfl⟩
  · simp only [if_neg c0]
    exact .inr ⟨_, c0, rfl⟩
/-- all pieces, and how far their frames go -/
def allL : Nat → List Int → List (List Int) × Int
  | 0, _ => ([], 0)
  | d + 1, b => if b.length = 0 then ([], 0) else if (getF b).2.2 = 0 then ((getF b).1 :: (allL d (b.drop (getF b).2.1.toNat)).1, (getF b).2.1 + (allL d (b.drop (getF b).2.1.toNat)).2) else ([], 0)
def allF (b : List Int) : List (List Int) × Int := allL b.length b
theorem allL_bytes : ∀ (d : Nat) (b : List Int), Bytes b → ∀ p ∈ (allL d b).1, Bytes p := by
  intro d
  induction d with
  | zero => intro b _ p hp; simp [allL] at hp
  | succ d ih =>
    intro b hb p hp
    rw [allL] at hp
    split at hp
    · simp at hp
    · split at hp
      · rcases List.mem_cons.1 hp with rfl | hp
        · exact getF_piece hb
        · exact ih _ (hb.drop _) p hp
      · simp at hp
theorem allF_bytes (b : List Int) (hb : Bytes b) : ∀ p ∈ (allF b).1, Bytes p := allL_bytes _ b hb
theorem allL_len : ∀ (d : Nat) (b : List Int), Bytes b → (allL d b).1.length ≤ b.length ∧ 0 ≤ (allL d b).2 ∧ (allL d b).2 ≤ b.length := by
  intro d
  induction d with
  | zero => intro b _; simp [allL]
  | succ d ih =>
    intro b hb
    rw [allL]
    split
    · simp
    · split
      · rename_i h0 he
        rcases getF_cases hb with ⟨n, hg, h1, h2, _⟩ | ⟨e, hne, hg⟩
        · have h3 := ih (b.drop n) (hb.drop _)
          rw [hg]
          simp only [Int.toNat_natCast, List.length_cons]
          rw [List.length_drop] at h3
          omega
        · rw [hg] at he; exact absurd he hne
      · simp
theorem allF_len (b : List Int) (hb : Bytes b) : (allF b).1.length ≤ b.length := (allL_len _ b hb).1
theorem allL_fuel : ∀ (d : Nat) (b : List Int), Bytes b → b.length ≤ d → ∀ m, d ≤ m → allL m b = allL d b := by
  intro d
  induction d with
  | zero =>
    intro b _ h m _
    rcases m with _ | m
    · rfl
    · simp only [allL, if_pos (show b.length = 0 by omega)]
  | succ d ih =>
    intro b hb h m hm
    obtain ⟨m, rfl⟩ : ∃ q, m = q + 1 := ⟨m - 1, by omega⟩
    rw [allL, allL]
    by_cases c : b.length = 0
    · rw [if_pos c, if_pos c]
    · rw [if_neg c, if_neg c]
      rcases getF_cases hb with ⟨n, hg, h1, h2, _⟩ | ⟨e, hne, hg⟩
      · rw [hg]
        simp only [if_true, Int.toNat_natCast]
        rw [ih (b.drop n) (hb.drop _) (by rw [List.length_drop]; omega) m (by omega)]
      · rw [hg]; simp only [if_neg hne]
/-- any reader that tells what getF tells, and its row -/
theorem all_loop (b : List Int) (hb : Bytes b) (hl : b.length ≤ 1000000000) : ∀ (d i : Nat) (acc : List (List Int)), i + d ≤ b.length → b.length ≤ i + d → acc.length ≤ i →
    Ev (fun k => frame_All.l0 k b acc (i : Int)) (acc ++ (allL d (b.drop i)).1, (i : Int) + (allL d (b.drop i)).2) := by
  intro d
  induction d using Nat.strongRecOn with
  | ind d ih =>
    intro i acc h1 h2 h3
    rcases d with _ | d
    · refine Ev.step (fun k => ?_) (Ev.now _)
      simp only [frame_All.l0, allL]
      rw [if_neg (by omega)]
      simp
    · have hbd : Bytes (b.drop i) := hb.drop _
      have hne : (b.drop i).length ≠ 0 := by rw [List.length_drop]; omega
      rw [allL, if_neg hne]
      have hget := fget_ev (b.drop i) hbd (by rw [List.length_drop]; omega)
      refine Ev.step (f := fun k => (frame_Get.f k (b.drop i)).bind fun g => if g.2.2 = 0 then (if acc.length < 5864062014805 then frame_All.l0 k b (acc ++ [g.1]) (wrap64 ((i : Int) + g.2.1)) else none) else some (acc, (i : Int))) (fun k => ?_) (Ev.bind hget ?_)
      · simp only [frame_All.l0]
        rw [if_pos (by omega), if_pos (by omega), if_pos (by omega)]
        rfl
      · rcases getF_cases hbd with ⟨n, hg, hn1, hn2, _⟩ | ⟨e, hne2, hg⟩
        · rw [List.length_drop] at hn2
          rw [hg]
          simp only [if_true, Int.toNat_natCast, if_pos (show acc.length < 5864062014805 by omega)]
          rw [w64 (by omega) (by omega), show ((i : Int) + (n : Int)) = ((i + n : Nat) : Int) from by omega]
          have hnext := ih (d + 1 - n) (by omega) (i + n) (acc ++ [(getF (b.drop i)).1]) (by omega) (by omega) (by simp; omega)
          have hfuel : ∀ m, d + 1 - n ≤ m → allL m (b.drop (i + n)) = allL (d + 1 - n) (b.drop (i + n)) := by
            intro m hm
            exact allL_fuel _ _ (hb.drop _) (by rw [List.length_drop]; omega) m hm
          rw [List.drop_drop]
          rw [hfuel d (by omega)]
          have e : acc ++ [(getF (b.drop i)).1] ++ (allL (d + 1 - n) (b.drop (i + n))).1 = acc ++ (getF (b.drop i)).1 :: (allL (d + 1 - n) (b.drop (i + n))).1 := by simp
          rw [e, show (((i + n : Nat) : Int) + (allL (d + 1 - n) (b.drop (i + n))).2) = (i : Int) + ((n : Int) + (allL (d + 1 - n) (b.drop (i + n))).2) from by omega] at hnext
          exact hnext
        · rw [hg]
          simp only [if_neg hne2, List.append_nil, Int.add_zero]
          exact Ev.now _
theorem rall_loop (b : List Int) (hb : Bytes b) (hl : b.length ≤ 1000000000) : ∀ (d i : Nat) (acc : List (List Int)), i + d ≤ b.length → b.length ≤ i + d → acc.length ≤ i →
    Ev (fun k => cooperageref1_AllFrames.l0 k b acc (i : Int)) (acc ++ (allL d (b.drop i)).1, (i : Int) + (allL d (b.drop i)).2) := by
  intro d
  induction d using Nat.strongRecOn with
  | ind d ih =>
    intro i acc h1 h2 h3
    rcases d with _ | d
    · refine Ev.step (fun k => ?_) (Ev.now _)
      simp only [cooperageref1_AllFrames.l0, allL]
      rw [if_neg (by omega)]
      simp
    · have hbd : Bytes (b.drop i) := hb.drop _
      have hne : (b.drop i).length ≠ 0 := by rw [List.length_drop]; omega
      rw [allL, if_neg hne]
      have hget := rfget_ev (b.drop i) hbd (by rw [List.length_drop]; omega)
      refine Ev.step (f := fun k => (cooperageref1_GetFrame.f k (b.drop i)).bind fun g => if g.2.2 = 0 then (if acc.length < 5864062014805 then cooperageref1_AllFrames.l0 k b (acc ++ [g.1]) (wrap64 ((i : Int) + g.2.1)) else none) else some (acc, (i : Int))) (fun k => ?_) (Ev.bind hget ?_)
      · simp only [cooperageref1_AllFrames.l0]
        rw [if_pos (by omega), if_pos (by omega), if_pos (by omega)]
        rfl
      · rcases getF_cases hbd with ⟨n, hg, hn1, hn2, _⟩ | ⟨e, hne2, hg⟩
        · rw [List.length_drop] at hn2
          rw [hg]
          simp only [if_true, Int.toNat_natCast, if_pos (show acc.length < 5864062014805 by omega)]
          rw [w64 (by omega) (by omega), show ((i : Int) + (n : Int)) = ((i + n : Nat) : Int) from by omega]
          have hnext := ih (d + 1 - n) (by omega) (i + n) (acc ++ [(getF (b.drop i)).1]) (by omega) (by omega) (by simp; omega)
          have hfuel : ∀ m, d + 1 - n ≤ m → allL m (b.drop (i + n)) = allL (d + 1 - n) (b.drop (i + n)) := by
            intro m hm
            exact allL_fuel _ _ (hb.drop _) (by rw [List.length_drop]; omega) m hm
          rw [List.drop_drop]
          rw [hfuel d (by omega)]
          have e : acc ++ [(getF (b.drop i)).1] ++ (allL (d + 1 - n) (b.drop (i + n))).1 = acc ++ (getF (b.drop i)).1 :: (allL (d + 1 - n) (b.drop (i + n))).1 := by simp
          rw [e, show (((i + n : Nat) : Int) + (allL (d + 1 - n) (b.drop (i + n))).2) = (i : Int) + ((n : Int) + (allL (d + 1 - n) (b.drop (i + n))).2) from by omega] at hnext
          exact hnext
        · rw [hg]
          simp only [if_neg hne2, List.append_nil, Int.add_zero]
          exact Ev.now _
theorem all_ev (b : List Int) (hb : Bytes b) (hl : b.length ≤ 1000000000) : Ev (fun k => frame_All.f k b) (allF b) := by
  have h := all_loop b hb hl b.length 0 [] (by omega) (by omega) (by simp)
  simp only [List.nil_append, List.drop_zero] at h
  have e : ((0 : Nat) : Int) + (allL b.length b).2 = (allL b.length b).2 := by omega
  rw [e] at h
  exact Ev.congr (fun k => by unfold frame_All.f; rfl) h
theorem rall_ev (b : List Int) (hb : Bytes b) (hl : b.length ≤ 1000000000) : Ev (fun k => cooperageref1_AllFrames.f k b) (allF b) := by
  have h := rall_loop b hb hl b.length 0 [] (by omega) (by omega) (by simp)
  simp only [List.nil_append, List.drop_zero] at h
  have e : ((0 : Nat) : Int) + (allL b.length b).2 = (allL b.length b).2 := by omega
  rw [e] at h
  exact Ev.congr (fun k => by unfold cooperageref1_AllFrames.f; rfl) h
theorem rdl_get {l : List (List Int)} {i : Nat} (h : i < l.length) : rd_L1 l (i : Int) = l[i] := by
  simp [rd_L1, List.getD_eq_getElem?_getD, List.getElem?_eq_getElem h]
theorem same_loop (l m : List (List Int)) (hl : ∀ p ∈ l, Bytes p) (hm : ∀ p ∈ m, Bytes p) (hlen : l.length = m.length) (hs : l.length ≤ 1000000000) : ∀ (d i : Nat), i + d = l.length →
    Ev (fun k => cooperagelaw5_samePieces.l0 k l m (i : Int)) (decide (l.drop i = m.drop i)) := by
  intro d
  induction d with
  | zero =>
    intro i h
    refine Ev.step (fun k => ?_) (Ev.now _)
    simp only [cooperagelaw5_samePieces.l0]
    rw [if_neg (by omega), List.drop_of_length_le (by omega), List.drop_of_length_le (by omega)]
    simp
  | succ d ih =>
    intro i h
    have hi : i < l.length := by omega
    have hj : i < m.length := by omega
    have b1 := hl _ (List.getElem_mem hi)
    have b2 := hm _ (List.getElem_mem hj)
    rw [List.drop_eq_getElem_cons hi, List.drop_eq_getElem_cons hj]
    by_cases c : l[i] = m[i]
    · have hn := ih (i + 1) (by omega)
      refine Ev.step (f := fun k => cooperagelaw5_samePieces.l0 k l m ((i + 1 : Nat) : Int)) (fun k => ?_) ?_
      · simp only [cooperagelaw5_samePieces.l0]
        rw [if_pos (by omega), if_pos (by omega), if_pos (by omega), rdl_get hi, rdl_get hj, if_pos (by rw [c]), w64 (by omega) (by omega)]
        rfl
      · have e : decide (l[i] :: l.drop (i + 1) = m[i] :: m.drop (i + 1)) = decide (l.drop (i + 1) = m.drop (i + 1)) := by
          rw [c, decide_eq_decide]; exact ⟨fun h => (List.cons.inj h).2, fun h => by rw [h]⟩
        rw [e]; exact hn
    · have e : decide (l[i] :: l.drop (i + 1) = m[i] :: m.drop (i + 1)) = false := decide_eq_false (fun h => c (List.cons.inj h).1)
      rw [e]
      refine Ev.step (f := fun _ => some false) (fun k => ?_) (Ev.now _)
      simp only [cooperagelaw5_samePieces.l0]
      rw [if_pos (by omega), if_pos (by omega), if_pos (by omega), rdl_get hi, rdl_get hj, if_neg (fun h => c (str_inj b1 b2 h))]
theorem same_ev (l m : List (List Int)) (hl : ∀ p ∈ l, Bytes p) (hm : ∀ p ∈ m, Bytes p) (hs : l.length ≤ 1000000000) : Ev (fun k => cooperagelaw5_samePieces.f k l m) (decide (l = m)) := by
  unfold cooperagelaw5_samePieces.f
  by_cases c : (l.length : Int) = (m.length : Int)
  · simp only [if_pos c]
    exact same_loop l m hl hm (by omega) hs l.length 0 (by omega)
  · simp only [if_neg c]
    rw [decide_eq_false (fun h => c (by rw [h]))]
    exact Ev.now _
end Go.Proofs.Ytpafbpfcoacidaa.TF
