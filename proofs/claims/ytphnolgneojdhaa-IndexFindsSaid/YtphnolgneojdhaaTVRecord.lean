/- The plain law of records: what Put appends, what Get tells. -/
import Derived.Test.YtphnolgneojdhaaTVVarint
import Derived.Test.YtphnolgneojdhaaTVFold
import Derived.Test.YtphnolgneojdhaaTVStr
import Derived.Test.YtphnolgneojdhaaVx1
import Derived.Test.YtphnolgneojdhaaVx6
import Derived.Test.YtphnolgneojdhaaVx2
import Derived.Test.YtphnolgneojdhaaVx10
namespace Go.Proofs.Ytphnolgneojdhaa.TV
open Go.RowKit Go.Proofs.Ytphnolgneojdhaa.V Go.Proofs.YtphnolgneojdhaaW.PrintWords Go.Proofs.YtphnolgneojdhaaW.PrintLast Go.Proofs.YtphnolgneojdhaaW.PrintMore
set_option linter.unusedVariables false
set_option linter.unusedSimpArgs false

/-- a record -/
structure Rec where
  o : Int
  t : Int
  key : ByteArray
  val : ByteArray
  dead : Bool
/-- may a record be -/
def rightB (r : Rec) : Bool := decide (0 ≤ r.o) && (decide (r.o ≤ 1125899906842624) && (decide (-1099511627776 ≤ r.t) && (decide (r.t ≤ 1099511627776) && (decide (1 ≤ r.key.size) && (decide (r.key.size ≤ 200) && (decide (r.val.size ≤ 2000) && (!r.dead || decide (r.val.size = 0))))))))
theorem rightB_iff (r : Rec) : rightB r = true ↔ 0 ≤ r.o ∧ r.o ≤ 1125899906842624 ∧ -1099511627776 ≤ r.t ∧ r.t ≤ 1099511627776 ∧ 1 ≤ r.key.size ∧ r.key.size ≤ 200 ∧ r.val.size ≤ 2000 ∧ (r.dead = true → r.val.size = 0) := by
  unfold rightB
  simp only [Bool.and_eq_true, decide_eq_true_eq, Bool.or_eq_true, Bool.not_eq_true']
  cases r.dead <;> simp
theorem right_some (r : Rec) : record_Right.f r.o r.t r.key r.val r.dead = some (rightB r) := by
  unfold record_Right.f
  by_cases c1 : r.o ≥ 0
  · rw [if_pos c1]
    by_cases c2 : r.o ≤ 1125899906842624
    · rw [if_pos c2]
      by_cases c3 : r.t ≥ (-1099511627776)
      · rw [if_pos c3]
        by_cases c4 : r.t ≤ 1099511627776
        · rw [if_pos c4]
          by_cases c5 : r.key.toList = ([] : List UInt8)
          · rw [if_pos c5]
            have h := (empty_list _).1 c5
            congr 1; symm
            rw [Bool.eq_false_iff]; intro hr; have := (rightB_iff r).1 hr; omega
          · rw [if_neg c5]
            have h5 : ¬ r.key.size = 0 := fun h => c5 ((empty_list _).2 h)
            by_cases c6 : (r.key.size : Int) ≤ 200
            · rw [if_pos c6]
              by_cases c7 : (r.val.size : Int) ≤ 2000
              · rw [if_pos c7]
                cases hd : r.dead with
                | false =>
                  rw [if_neg (by simp)]
                  congr 1; symm
                  rw [show (!false) = true from rfl, rightB_iff, hd]
                  exact ⟨by omega, by omega, by omega, by omega, by omega, by omega, by omega, fun h => by cases h⟩
                | true =>
                  rw [if_pos rfl]
                  congr 1
                  by_cases c8 : r.val.toList = ([] : List UInt8)
                  · have h8 := (empty_list _).1 c8
                    rw [c8]
                    symm
                    rw [show (!(([] : List UInt8) != [])) = true from rfl, rightB_iff]
                    exact ⟨by omega, by omega, by omega, by omega, by omega, by omega, by omega, fun _ => h8⟩
                  · have h8 : ¬ r.val.size = 0 := fun h => c8 ((empty_list _).2 h)
                    have e : (!(r.val.toList != ([] : List UInt8))) = false := by
                      rw [Bool.not_eq_false', bne_iff_ne]; exact c8
                    rw [e]; symm
                    rw [Bool.eq_false_iff]; intro hr; exact h8 (((rightB_iff r).1 hr).2.2.2.2.2.2.2 hd)
              · rw [if_neg c7]; congr 1; symm
                rw [Bool.eq_false_iff]; intro hr; have := (rightB_iff r).1 hr; omega
            · rw [if_neg c6]; congr 1; symm
              rw [Bool.eq_false_iff]; intro hr; have := (rightB_iff r).1 hr; omega
        · rw [if_neg c4]; congr 1; symm
          rw [Bool.eq_false_iff]; intro hr; have := (rightB_iff r).1 hr; omega
      · rw [if_neg c3]; congr 1; symm
        rw [Bool.eq_false_iff]; intro hr; have := (rightB_iff r).1 hr; omega
    · rw [if_neg c2]; congr 1; symm
      rw [Bool.eq_false_iff]; intro hr; have := (rightB_iff r).1 hr; omega
  · rw [if_neg c1]; congr 1; symm
    rw [Bool.eq_false_iff]; intro hr; have := (rightB_iff r).1 hr; omega
theorem rright_some (r : Rec) : cooperageref1_Right.f r.o r.t r.key r.val r.dead = some (rightB r) := by
  unfold cooperageref1_Right.f
  by_cases c : (r.o ≥ 0 ∧ r.o ≤ 1125899906842624 ∧ r.t ≥ (-1099511627776) ∧ r.t ≤ 1099511627776 ∧ (r.key.size : Int) ≥ 1 ∧ (r.key.size : Int) ≤ 200 ∧ (r.val.size : Int) ≤ 2000)
  · rw [if_pos c.1, if_pos c.2.1, if_pos c.2.2.1, if_pos c.2.2.2.1, if_pos c.2.2.2.2.1, if_pos c.2.2.2.2.2.1, if_pos c.2.2.2.2.2.2]
    cases hd : r.dead with
    | false =>
      rw [if_neg (by simp)]
      congr 1; symm
      rw [rightB_iff, hd]
      exact ⟨by omega, by omega, by omega, by omega, by omega, by omega, by omega, fun h => by cases h⟩
    | true =>
      rw [if_pos rfl]
      congr 1
      by_cases c8 : r.val.toList = ([] : List UInt8)
      · have h8 := (empty_list _).1 c8
        rw [c8]; symm
        rw [show (([] : List UInt8) == []) = true from rfl, rightB_iff]
        exact ⟨by omega, by omega, by omega, by omega, by omega, by omega, by omega, fun _ => h8⟩
      · have h8 : ¬ r.val.size = 0 := fun h => c8 ((empty_list _).2 h)
        have e : (r.val.toList == ([] : List UInt8)) = false := beq_eq_false_iff_ne.2 c8
        rw [e]; symm
        rw [Bool.eq_false_iff]; intro hr; exact h8 (((rightB_iff r).1 hr).2.2.2.2.2.2.2 hd)
  · have hf : rightB r = false := by
      rw [Bool.eq_false_iff]; intro hr; have := (rightB_iff r).1 hr; exact c (by omega)
    rw [hf]
    repeat' (first | rfl | split)
    all_goals (exfalso; exact c (by omega))

/-- a record's bytes -/
def recBytes (r : Rec) : List Int := enc r.o.toNat ++ (enc (foldN r.t) ++ ((if r.dead then 1 else 0) :: (enc r.key.size ++ (bytesOf r.key ++ (enc r.val.size ++ bytesOf r.val)))))
def putBytes (r : Rec) : List Int := if rightB r = true then recBytes r else []
theorem recBytes_bytes (r : Rec) : Bytes (recBytes r) := by
  refine (enc_bytes _).append ((enc_bytes _).append ?_)
  intro c hc
  rcases List.mem_cons.1 hc with rfl | hc
  · cases r.dead <;> simp [IsB]
  · exact ((enc_bytes _).append ((bytesOf_bytes _).append ((enc_bytes _).append (bytesOf_bytes _)))) c hc
theorem putBytes_bytes (r : Rec) : Bytes (putBytes r) := by unfold putBytes; split; exact recBytes_bytes r; exact Bytes.nil
theorem recBytes_len (r : Rec) : (recBytes r).length = (enc r.o.toNat).length + (enc (foldN r.t)).length + 1 + (enc r.key.size).length + r.key.size + (enc r.val.size).length + r.val.size := by
  simp [recBytes, bytesOf_length]; omega
theorem recBytes_le {r : Rec} (h : rightB r = true) : (recBytes r).length ≤ 2241 ∧ 5 ≤ (recBytes r).length := by
  have hr := (rightB_iff r).1 h
  rw [recBytes_len]
  have h1 := enc_ten (n := r.o.toNat) (by omega)
  have h2 := enc_ten (n := foldN r.t) (fold_lt (by omega) (by omega))
  have h3 := enc_ten (n := r.key.size) (by omega)
  have h4 := enc_ten (n := r.val.size) (by omega)
  have p1 := enc_pos r.o.toNat
  have p2 := enc_pos (foldN r.t)
  have p3 := enc_pos r.key.size
  have p4 := enc_pos r.val.size
  omega
theorem size_u64 {n : Nat} (h : n ≤ 140737488355328) : IntKind.u64.wrap (n : Int) = (n : Int) := wrap_u64 _ (by omega) (by omega)
theorem putr_ev (b : List Int) (r : Rec) (hb : b.length ≤ 100000000000) : Ev (fun k => record_Put.f k b r.o r.t r.key r.val r.dead) (b ++ putBytes r) := by
  unfold record_Put.f putBytes
  rw [right_some]
  simp only [List.length_nil, Nat.zero_add, List.nil_append, if_pos (show b.length < 140737488355328 by omega), Option.bind_some]
  by_cases c : rightB r = true
  · simp only [if_pos c]
    have hr := (rightB_iff r).1 c
    have h1 := enc_ten (n := r.o.toNat) (by omega)
    have h2 := enc_ten (n := foldN r.t) (fold_lt (by omega) (by omega))
    have h3 := enc_ten (n := r.key.size) (by omega)
    have h4 := enc_ten (n := r.val.size) (by omega)
    rw [wrap_u64 r.o (by omega) (by omega)]
    have e0 : r.o = ((r.o.toNat : Nat) : Int) := by omega
    conv => arg 1; intro k; rw [e0]
    refine Ev.bind (put_ev b r.o.toNat (by omega)) ?_
    rw [Fold_some (by omega) (by omega)]
    simp only [Option.bind_some]
    refine Ev.bind (put_ev (b ++ enc r.o.toNat) (foldN r.t) (by simp only [List.length_append]; omega)) ?_
    rw [size_u64 (show r.key.size ≤ 140737488355328 by omega), size_u64 (show r.val.size ≤ 140737488355328 by omega)]
    cases hd : r.dead with
    | true =>
      simp only [if_true]
      simp only [if_pos (show (b ++ enc r.o.toNat ++ enc (foldN r.t)).length < 140737488355328 by simp only [List.length_append]; omega)]
      refine Ev.bind (put_ev _ r.key.size (by simp only [List.length_append, List.length_cons, List.length_nil]; omega)) ?_
      simp only [if_pos (show (b ++ enc r.o.toNat ++ enc (foldN r.t) ++ [1] ++ enc r.key.size).length + r.key.size < 140737488355328 by simp only [List.length_append, List.length_cons, List.length_nil]; omega)]
      refine Ev.bind (put_ev _ r.val.size (by simp only [List.length_append, List.length_cons, List.length_nil, bytesOf_length]; omega)) ?_
      rw [if_pos (by simp only [List.length_append, List.length_cons, List.length_nil, bytesOf_length]; omega)]
      have e : b ++ enc r.o.toNat ++ enc (foldN r.t) ++ [1] ++ enc r.key.size ++ bytesOf r.key ++ enc r.val.size ++ bytesOf r.val = b ++ recBytes r := by simp [recBytes, hd]
      rw [e]
      exact Ev.now _
    | false =>
      simp only [Bool.false_eq_true, if_false]
      simp only [if_pos (show (b ++ enc r.o.toNat ++ enc (foldN r.t)).length < 140737488355328 by simp only [List.length_append]; omega)]
      refine Ev.bind (put_ev _ r.key.size (by simp only [List.length_append, List.length_cons, List.length_nil]; omega)) ?_
      simp only [if_pos (show (b ++ enc r.o.toNat ++ enc (foldN r.t) ++ [0] ++ enc r.key.size).length + r.key.size < 140737488355328 by simp only [List.length_append, List.length_cons, List.length_nil]; omega)]
      refine Ev.bind (put_ev _ r.val.size (by simp only [List.length_append, List.length_cons, List.length_nil, bytesOf_length]; omega)) ?_
      rw [if_pos (by simp only [List.length_append, List.length_cons, List.length_nil, bytesOf_length]; omega)]
      have e : b ++ enc r.o.toNat ++ enc (foldN r.t) ++ [0] ++ enc r.key.size ++ bytesOf r.key ++ enc r.val.size ++ bytesOf r.val = b ++ recBytes r := by simp [recBytes, hd]
      rw [e]
      exact Ev.now _
  · simp only [if_neg c, List.append_nil]
    exact Ev.now _

/-! ### reading -/
/-- a number of at most so much: it, and how many bytes it has; or an error -/
def numS (s : List Int) (most : Int) : Except Int (Nat × Nat) :=
  if (getB s).2.2 = 0 then (if (getB s).1 > most then .error 2 else .ok ((getB s).1.toNat, (getB s).2.1.toNat)) else .error (getB s).2.2
def textS (s : List Int) (most : Int) : Except Int (ByteArray × Nat) :=
  match numS s most with
  | .error e => .error e
  | .ok (n, i) => if s.length < i + n then .error 4 else .ok (strOfNums (cut s i n), i + n)
def signS (s : List Int) : Except Int Bool :=
  match s with
  | [] => .error 4
  | c :: _ => if c > 1 then .error 2 else .ok (c == 1)
def getE (s : List Int) : Except Int (Rec × Nat) :=
  match numS s 1125899906842624 with
  | .error e => .error e
  | .ok (o, i) =>
    match numS (s.drop i) 2199023255552 with
    | .error e => .error e
    | .ok (t, j) =>
      match signS (s.drop (i + j)) with
      | .error e => .error e
      | .ok d =>
        match textS (s.drop (i + j + 1)) 200 with
        | .error e => .error e
        | .ok (key, l) =>
          match textS (s.drop (i + j + 1 + l)) 2000 with
          | .error e => .error e
          | .ok (val, m) => if rightB ⟨(o : Int), unfoldN t, key, val, d⟩ = true then .ok (⟨(o : Int), unfoldN t, key, val, d⟩, i + j + 1 + l + m) else .error 2
def tupR : Except Int (Rec × Nat) → Int × Int × ByteArray × ByteArray × Bool × Int × Int
  | .ok (r, n) => (r.o, r.t, r.key, r.val, r.dead, (n : Int), 0)
  | .error e => (0, 0, ⟨#[]⟩, ⟨#[]⟩, false, 0, e)
theorem numS_cases {s : List Int} (hb : Bytes s) (most : Int) : (∃ n : Nat, numS s most = .ok (n, (enc n).length) ∧ s.take (enc n).length = enc n ∧ (enc n).length ≤ s.length ∧ (n : Int) ≤ most ∧ n < 2 ^ 64 ∧ getB s = ((n : Int), ((enc n).length : Int), 0)) ∨
    (∃ n : Nat, numS s most = .error 2 ∧ (n : Int) > most ∧ (enc n).length ≤ s.length ∧ n < 2 ^ 64 ∧ getB s = ((n : Int), ((enc n).length : Int), 0)) ∨ (∃ e : Int, e ≠ 0 ∧ numS s most = .error e ∧ getB s = (0, 0, e)) := by
  unfold numS
  rcases getB_cases hb with ⟨n, h1, h2, h3, h4⟩ | h | h | h
  · rw [h4]
    simp only [if_true, Int.toNat_natCast]
    by_cases c : (n : Int) > most
    · exact .inr (.inl ⟨n, by rw [if_pos c], c, h2, h3, rfl⟩)
    · exact .inl ⟨n, by rw [if_neg c], h1, h2, by omega, h3, rfl⟩
  · exact .inr (.inr ⟨2, by decide, by rw [h]; rfl, h⟩)
  · exact .inr (.inr ⟨3, by decide, by rw [h]; rfl, h⟩)
  · exact .inr (.inr ⟨4, by decide, by rw [h]; rfl, h⟩)
theorem numS_enc {n : Nat} {most : Int} (hn : n < 2 ^ 64) (hm : (n : Int) ≤ most) (more : List Int) : numS (enc n ++ more) most = .ok (n, (enc n).length) := by
  unfold numS
  rw [getB_enc hn]
  simp only [if_true, if_neg (show ¬ ((n : Int) > most) by omega), Int.toNat_natCast]
theorem numS_short {n j : Nat} {most : Int} (hn : n < 2 ^ 64) (hj : j < (enc n).length) : numS ((enc n).take j) most = .error 4 := by
  unfold numS
  rw [getB_short hn hj]
  rfl
end Go.Proofs.Ytphnolgneojdhaa.TV
