/- How a record's writing and its reading go together. -/
import Derived.Test.YtphnolgneojdhaaTVRecord
namespace Go.Proofs.Ytphnolgneojdhaa.TV
open Go.RowKit Go.Proofs.Ytphnolgneojdhaa.V Go.Proofs.YtphnolgneojdhaaW.PrintWords Go.Proofs.YtphnolgneojdhaaW.PrintLast Go.Proofs.YtphnolgneojdhaaW.PrintMore
set_option linter.unusedVariables false
set_option linter.unusedSimpArgs false

/-- a text's bytes: how many, and they -/
def txt (s : ByteArray) : List Int := enc s.size ++ bytesOf s
theorem txt_len (s : ByteArray) : (txt s).length = (enc s.size).length + s.size := by simp [txt, bytesOf_length]
theorem textS_txt {s : ByteArray} {most : Int} (h : (s.size : Int) ≤ most) (h2 : s.size < 2 ^ 64) (more : List Int) : textS (txt s ++ more) most = .ok (s, (txt s).length) := by
  unfold textS
  rw [show txt s ++ more = enc s.size ++ (bytesOf s ++ more) from by simp [txt], numS_enc h2 h]
  simp only []
  rw [if_neg (by simp only [List.length_append, bytesOf_length]; omega)]
  have := cut_mid (enc s.size) (bytesOf s) more
  rw [bytesOf_length] at this
  rw [this, str_of_bytes, txt_len]
theorem textS_short {s : ByteArray} {most : Int} (h : (s.size : Int) ≤ most) (h2 : s.size < 2 ^ 64) {j : Nat} (hj : j < (txt s).length) : textS ((txt s).take j) most = .error 4 := by
  rw [txt_len] at hj
  unfold textS txt
  by_cases c : j < (enc s.size).length
  · rw [List.take_append_of_le_length (by omega), numS_short h2 c]
  · rw [List.take_append, List.take_of_length_le (by omega), numS_enc h2 h]
    simp only []
    rw [if_pos (by simp only [List.length_append, List.length_take, bytesOf_length]; omega)]
theorem recBytes_txt (r : Rec) : recBytes r = enc r.o.toNat ++ (enc (foldN r.t) ++ ((if r.dead then 1 else 0) :: (txt r.key ++ txt r.val))) := by simp [recBytes, txt]
theorem sign_in (d : Bool) (l : List Int) : signS ((if d then 1 else 0) :: l) = .ok d := by cases d <;> simp [signS]
theorem getE_rec {r : Rec} (h : rightB r = true) (more : List Int) : getE (recBytes r ++ more) = .ok (r, (recBytes r).length) := by
  have hr := (rightB_iff r).1 h
  have ft : foldN r.t < 2 ^ 64 := fold_lt (by omega) (by omega)
  have fm : (foldN r.t : Int) ≤ 2199023255552 := by unfold foldN; split <;> omega
  have e : recBytes r ++ more = enc r.o.toNat ++ (enc (foldN r.t) ++ ((if r.dead then 1 else 0) :: (txt r.key ++ (txt r.val ++ more)))) := by rw [recBytes_txt]; simp
  have d1 : (recBytes r ++ more).drop (enc r.o.toNat).length = enc (foldN r.t) ++ ((if r.dead then 1 else 0) :: (txt r.key ++ (txt r.val ++ more))) := by rw [e, List.drop_left]
  have d2 : (recBytes r ++ more).drop ((enc r.o.toNat).length + (enc (foldN r.t)).length) = ((if r.dead then 1 else 0) :: (txt r.key ++ (txt r.val ++ more))) := by rw [← List.drop_drop, d1, List.drop_left]
  have d3 : (recBytes r ++ more).drop ((enc r.o.toNat).length + (enc (foldN r.t)).length + 1) = (txt r.key ++ (txt r.val ++ more)) := by rw [← List.drop_drop, d2]; rfl
  have d4 : (recBytes r ++ more).drop ((enc r.o.toNat).length + (enc (foldN r.t)).length + 1 + (txt r.key).length) = txt r.val ++ more := by rw [← List.drop_drop, d3, List.drop_left]
  have n1 : numS (recBytes r ++ more) 1125899906842624 = .ok (r.o.toNat, (enc r.o.toNat).length) := by rw [e]; exact numS_enc (by omega) (by omega) _
  unfold getE
  rw [n1]; simp only []
  rw [d1, numS_enc ft fm]; simp only []
  rw [d2, sign_in]; simp only []
  rw [d3, textS_txt (by omega) (by omega)]; simp only []
  rw [d4, textS_txt (by omega) (by omega)]; simp only []
  have er : (⟨((r.o.toNat : Nat) : Int), unfoldN (foldN r.t), r.key, r.val, r.dead⟩ : Rec) = r := by
    rw [unfold_fold, show ((r.o.toNat : Nat) : Int) = r.o from by omega]
  rw [er, if_pos h]
  congr 2
  rw [recBytes_txt]
  simp only [List.length_append, List.length_cons]; omega
theorem getE_short {r : Rec} (h : rightB r = true) {j : Nat} (hj : j < (recBytes r).length) : getE ((recBytes r).take j) = .error 4 := by
  have hr := (rightB_iff r).1 h
  have ft : foldN r.t < 2 ^ 64 := fold_lt (by omega) (by omega)
  have fm : (foldN r.t : Int) ≤ 2199023255552 := by unfold foldN; split <;> omega
  rw [recBytes_txt] at hj ⊢
  simp only [List.length_append, List.length_cons] at hj
  unfold getE
  by_cases c1 : j < (enc r.o.toNat).length
  · rw [List.take_append_of_le_length (by omega), numS_short (by omega) c1]
  obtain ⟨j1, rfl⟩ : ∃ j1, j = (enc r.o.toNat).length + j1 := ⟨j - (enc r.o.toNat).length, by omega⟩
  rw [List.take_length_add_append, numS_enc (by omega) (by omega)]; simp only []
  rw [List.drop_left]
  by_cases c2 : j1 < (enc (foldN r.t)).length
  · rw [List.take_append_of_le_length (by omega), numS_short ft c2]
  obtain ⟨j2, rfl⟩ : ∃ j2, j1 = (enc (foldN r.t)).length + j2 := ⟨j1 - (enc (foldN r.t)).length, by omega⟩
  rw [List.take_length_add_append, numS_enc ft fm]; simp only []
  rw [← List.drop_drop, List.drop_left, List.drop_left]
  cases j2 with
  | zero => rfl
  | succ j3 =>
    rw [List.take_succ_cons, sign_in]; simp only []
    have d3 : (enc r.o.toNat ++ (enc (foldN r.t) ++ (if r.dead = true then (1 : Int) else 0) :: List.take j3 (txt r.key ++ txt r.val))).drop ((enc r.o.toNat).length + (enc (foldN r.t)).length + 1) = List.take j3 (txt r.key ++ txt r.val) := by
      rw [← List.drop_drop, ← List.drop_drop, List.drop_left, List.drop_left]; rfl
    rw [d3]
    by_cases c4 : j3 < (txt r.key).length
    · rw [List.take_append_of_le_length (by omega), textS_short (by omega) (by omega) c4]
    obtain ⟨j4, rfl⟩ : ∃ j4, j3 = (txt r.key).length + j4 := ⟨j3 - (txt r.key).length, by omega⟩
    rw [List.take_length_add_append] at d3 ⊢
    rw [textS_txt (by omega) (by omega)]; simp only []
    rw [← List.drop_drop, d3, List.drop_left, textS_short (by omega) (by omega) (by omega)]
/-! ### only what was written so is read so -/
theorem numS_ok {s : List Int} (hb : Bytes s) {most : Int} {n j : Nat} (h : numS s most = .ok (n, j)) : s = enc n ++ s.drop j ∧ j = (enc n).length ∧ (n : Int) ≤ most ∧ n < 2 ^ 64 := by
  rcases numS_cases hb most with ⟨m, h1, h2, h3, h4, h5, h6⟩ | ⟨m, h1, _⟩ | ⟨e, _, h1, _⟩
  · rw [h] at h1
    simp only [Except.ok.injEq, Prod.mk.injEq] at h1
    obtain ⟨rfl, rfl⟩ := h1
    refine ⟨?_, rfl, h4, h5⟩
    conv => lhs; rw [← List.take_append_drop (enc n).length s, h2]
  · rw [h] at h1; cases h1
  · rw [h] at h1; cases h1
theorem signS_ok {s : List Int} (hb : Bytes s) {d : Bool} (h : signS s = .ok d) : s = (if d then 1 else 0) :: s.drop 1 := by
  cases s with
  | nil => simp [signS] at h
  | cons c l =>
    unfold signS at h
    simp only [] at h
    have hc := hb c (by simp)
    unfold IsB at hc
    by_cases c1 : c > 1
    · rw [if_pos c1] at h; cases h
    · rw [if_neg c1] at h
      simp only [Except.ok.injEq] at h
      subst h
      rw [List.drop_one, List.tail_cons]
      congr 1
      by_cases c2 : c = 1
      · subst c2; rfl
      · have : c = 0 := by omega
        subst this; rfl
theorem textS_ok {s : List Int} (hb : Bytes s) {most : Int} {t : ByteArray} {l : Nat} (h : textS s most = .ok (t, l)) : s = txt t ++ s.drop l ∧ l = (txt t).length ∧ (t.size : Int) ≤ most := by
  unfold textS at h
  cases hn : numS s most with
  | error e => rw [hn] at h; cases h
  | ok p =>
    obtain ⟨n, i⟩ := p
    rw [hn] at h
    simp only [] at h
    obtain ⟨h1, h2, h3, h4⟩ := numS_ok hb hn
    by_cases c : s.length < i + n
    · rw [if_pos c] at h; cases h
    · rw [if_neg c] at h
      simp only [Except.ok.injEq, Prod.mk.injEq] at h
      obtain ⟨rfl, rfl⟩ := h
      have hcb := cut_bytes hb i n
      have hcl := cut_len (b := s) (i := i) (n := n) (by omega)
      have hsz : (strOfNums (cut s i n)).size = n := by rw [str_size hcb, hcl]
      unfold txt
      rw [hsz, bytes_of_str hcb, List.length_append, hcl, ← h2]
      refine ⟨?_, rfl, h3⟩
      have e2 : cut s i n = (s.drop i).take n := by
        unfold cut; rw [List.take_drop]
      rw [List.append_assoc, e2, ← List.drop_drop, List.take_append_drop]
      exact h1
theorem getE_ok {b : List Int} (hb : Bytes b) {r : Rec} {n : Nat} (h : getE b = .ok (r, n)) : rightB r = true ∧ b = recBytes r ++ b.drop n ∧ n = (recBytes r).length := by
  unfold getE at h
  cases h1 : numS b 1125899906842624 with
  | error e => rw [h1] at h; cases h
  | ok p =>
  obtain ⟨o, i⟩ := p
  rw [h1] at h; simp only [] at h
  cases h2 : numS (b.drop i) 2199023255552 with
  | error e => rw [h2] at h; cases h
  | ok p =>
  obtain ⟨t, j⟩ := p
  rw [h2] at h; simp only [] at h
  cases h3 : signS (b.drop (i + j)) with
  | error e => rw [h3] at h; cases h
  | ok d =>
  rw [h3] at h; simp only [] at h
  cases h4 : textS (b.drop (i + j + 1)) 200 with
  | error e => rw [h4] at h; cases h
  | ok p =>
  obtain ⟨key, l⟩ := p
  rw [h4] at h; simp only [] at h
  cases h5 : textS (b.drop (i + j + 1 + l)) 2000 with
  | error e => rw [h5] at h; cases h
  | ok p =>
  obtain ⟨val, m⟩ := p
  rw [h5] at h; simp only [] at h
  by_cases c : rightB ⟨(o : Int), unfoldN t, key, val, d⟩ = true
  · rw [if_pos c] at h
    simp only [Except.ok.injEq, Prod.mk.injEq] at h
    obtain ⟨rfl, rfl⟩ := h
    obtain ⟨a1, b1, _⟩ := numS_ok hb h1
    obtain ⟨a2, b2, _⟩ := numS_ok (hb.drop _) h2
    have a3 := signS_ok (hb.drop _) h3
    obtain ⟨a4, b4, _⟩ := textS_ok (hb.drop _) h4
    obtain ⟨a5, b5, _⟩ := textS_ok (hb.drop _) h5
    rw [List.drop_drop] at a2 a3 a4 a5
    refine ⟨c, ?_, ?_⟩
    · rw [recBytes_txt]
      simp only [Int.toNat_natCast, fold_unfold]
      have e := a1
      rw [a2, a3, a4, a5] at e
      simpa using e
    · rw [recBytes_txt]
      simp only [Int.toNat_natCast, fold_unfold, List.length_append, List.length_cons]
      omega
  · rw [if_neg c] at h; cases h
/-! ### errors are errors -/
theorem numS_err {s : List Int} {most e : Int} (h : numS s most = .error e) : e ≠ 0 := by
  unfold numS at h
  by_cases c : (getB s).2.2 = 0
  · rw [if_pos c] at h
    by_cases c2 : (getB s).1 > most
    · rw [if_pos c2] at h; simp only [Except.error.injEq] at h; omega
    · rw [if_neg c2] at h; cases h
  · rw [if_neg c] at h; simp only [Except.error.injEq] at h; rw [← h]; exact c
theorem textS_err {s : List Int} {most e : Int} (h : textS s most = .error e) : e ≠ 0 := by
  unfold textS at h
  cases hn : numS s most with
  | error e' => rw [hn] at h; simp only [Except.error.injEq] at h; rw [← h]; exact numS_err hn
  | ok p =>
    rw [hn] at h
    simp only [] at h
    by_cases c : s.length < p.2 + p.1
    · rw [if_pos c] at h; simp only [Except.error.injEq] at h; omega
    · rw [if_neg c] at h; cases h
theorem signS_err {s : List Int} {e : Int} (h : signS s = .error e) : e ≠ 0 := by
  cases s with
  | nil => simp only [signS, Except.error.injEq] at h; omega
  | cons c l =>
    unfold signS at h
    simp only [] at h
    by_cases c1 : c > 1
    · rw [if_pos c1] at h; simp only [Except.error.injEq] at h; omega
    · rw [if_neg c1] at h; cases h
theorem getE_err {b : List Int} {e : Int} (h : getE b = .error e) : e ≠ 0 := by
  unfold getE at h
  cases h1 : numS b 1125899906842624 with
  | error e1 => rw [h1] at h; simp only [Except.error.injEq] at h; rw [← h]; exact numS_err h1
  | ok p =>
  rw [h1] at h; simp only [] at h
  cases h2 : numS (b.drop p.2) 2199023255552 with
  | error e1 => rw [h2] at h; simp only [Except.error.injEq] at h; rw [← h]; exact numS_err h2
  | ok q =>
  rw [h2] at h; simp only [] at h
  cases h3 : signS (b.drop (p.2 + q.2)) with
  | error e1 => rw [h3] at h; simp only [Except.error.injEq] at h; rw [← h]; exact signS_err h3
  | ok d =>
  rw [h3] at h; simp only [] at h
  cases h4 : textS (b.drop (p.2 + q.2 + 1)) 200 with
  | error e1 => rw [h4] at h; simp only [Except.error.injEq] at h; rw [← h]; exact textS_err h4
  | ok t =>
  rw [h4] at h; simp only [] at h
  cases h5 : textS (b.drop (p.2 + q.2 + 1 + t.2)) 2000 with
  | error e1 => rw [h5] at h; simp only [Except.error.injEq] at h; rw [← h]; exact textS_err h5
  | ok u =>
  rw [h5] at h; simp only [] at h
  by_cases c : rightB ⟨(p.1 : Int), unfoldN q.1, t.1, u.1, d⟩ = true
  · rw [if_pos c] at h; cases h
  · rw [if_neg c] at h; simp only [Except.error.injEq] at h; omega
end Go.Proofs.Ytphnolgneojdhaa.TV
