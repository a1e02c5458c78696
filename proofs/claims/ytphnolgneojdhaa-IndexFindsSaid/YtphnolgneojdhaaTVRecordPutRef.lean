/- The reference's writing of records; the example; sizes. -/
import Derived.Test.YtphnolgneojdhaaTVRecord
import Derived.Test.YtphnolgneojdhaaVx7
namespace Go.Proofs.Ytphnolgneojdhaa.TV
open Go.RowKit Go.Proofs.Ytphnolgneojdhaa.V Go.Proofs.YtphnolgneojdhaaW.PrintWords Go.Proofs.YtphnolgneojdhaaW.PrintLast Go.Proofs.YtphnolgneojdhaaW.PrintMore
set_option linter.unusedVariables false
set_option linter.unusedSimpArgs false

theorem rputr_ev (b : List Int) (r : Rec) (hb : b.length ≤ 100000000000) : Ev (fun k => cooperageref1_PutRecord.f k b r.o r.t r.key r.val r.dead) (b ++ putBytes r) := by
  unfold cooperageref1_PutRecord.f putBytes
  rw [rright_some]
  simp only [List.length_nil, Nat.zero_add, List.nil_append, if_pos (show b.length < 140737488355328 by omega), Option.bind_some]
  by_cases c : rightB r = true
  · simp only [if_pos c]
    have hr := (rightB_iff r).1 c
    have ho : r.o.toNat < 2 ^ 64 := by omega
    have hf := fold_lt (n := r.t) (by omega) (by omega)
    have h1 := enc_ten (n := r.o.toNat) (by omega)
    have h2 := enc_ten (n := foldN r.t) (fold_lt (by omega) (by omega))
    have h3 := enc_ten (n := r.key.size) (by omega)
    have h4 := enc_ten (n := r.val.size) (by omega)
    rw [wrap_u64 r.o (by omega) (by omega)]
    have e0 : r.o = ((r.o.toNat : Nat) : Int) := by omega
    conv => arg 1; intro k; rw [e0]
    refine Ev.bind (rput_ev b r.o.toNat ho (by omega)) ?_
    rw [rFold_some (by omega) (by omega)]
    simp only [Option.bind_some]
    refine Ev.bind (rput_ev (b ++ enc r.o.toNat) (foldN r.t) hf (by simp only [List.length_append]; omega)) ?_
    rw [size_u64 (show r.key.size ≤ 140737488355328 by omega), size_u64 (show r.val.size ≤ 140737488355328 by omega)]
    cases hd : r.dead with
    | true =>
      simp only [if_true]
      simp only [if_pos (show (b ++ enc r.o.toNat ++ enc (foldN r.t)).length < 140737488355328 by simp only [List.length_append]; omega)]
      refine Ev.bind (rput_ev _ r.key.size (by omega) (by simp only [List.length_append, List.length_cons, List.length_nil]; omega)) ?_
      simp only [if_pos (show (b ++ enc r.o.toNat ++ enc (foldN r.t) ++ [1] ++ enc r.key.size).length + r.key.size < 140737488355328 by simp only [List.length_append, List.length_cons, List.length_nil]; omega)]
      refine Ev.bind (rput_ev _ r.val.size (by omega) (by simp only [List.length_append, List.length_cons, List.length_nil, bytesOf_length]; omega)) ?_
      rw [if_pos (by simp only [List.length_append, List.length_cons, List.length_nil, bytesOf_length]; omega)]
      have e : b ++ enc r.o.toNat ++ enc (foldN r.t) ++ [1] ++ enc r.key.size ++ bytesOf r.key ++ enc r.val.size ++ bytesOf r.val = b ++ recBytes r := by simp [recBytes, hd]
      rw [e]
      exact Ev.now _
    | false =>
      simp only [Bool.false_eq_true, if_false]
      simp only [if_pos (show (b ++ enc r.o.toNat ++ enc (foldN r.t)).length < 140737488355328 by simp only [List.length_append]; omega)]
      refine Ev.bind (rput_ev _ r.key.size (by omega) (by simp only [List.length_append, List.length_cons, List.length_nil]; omega)) ?_
      simp only [if_pos (show (b ++ enc r.o.toNat ++ enc (foldN r.t) ++ [0] ++ enc r.key.size).length + r.key.size < 140737488355328 by simp only [List.length_append, List.length_cons, List.length_nil]; omega)]
      refine Ev.bind (rput_ev _ r.val.size (by omega) (by simp only [List.length_append, List.length_cons, List.length_nil, bytesOf_length]; omega)) ?_
      rw [if_pos (by simp only [List.length_append, List.length_cons, List.length_nil, bytesOf_length]; omega)]
      have e : b ++ enc r.o.toNat ++ enc (foldN r.t) ++ [0] ++ enc r.key.size ++ bytesOf r.key ++ enc r.val.size ++ bytesOf r.val = b ++ recBytes r := by simp [recBytes, hd]
      rw [e]
      exact Ev.now _
  · simp only [if_neg c, List.append_nil]
    exact Ev.now _
end Go.Proofs.Ytphnolgneojdhaa.TV
