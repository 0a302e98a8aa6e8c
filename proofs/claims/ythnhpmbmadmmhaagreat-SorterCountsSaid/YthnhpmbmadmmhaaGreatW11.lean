/- Part 12 of this claim: an abstract interpreter over the model, its soundness, and what is run in it. -/
import Derived.Test.YthnhpmbmadmmhaaGreatW10
set_option maxRecDepth 20000
set_option linter.unusedSimpArgs false
set_option linter.unusedVariables false
/- SorterCounts: how much a row counts, in the program and in the reference. -/
open Wab Go
namespace ZC
set_option maxRecDepth 100000
set_option linter.unusedSimpArgs false
set_option linter.unusedVariables false

/-- A value's cells. -/
def V3 (y : List AVal) : Prop := ∃ k n s, y = [.int .u8 k, .int .i64 n, .str s]
def strN : List AVal → Nat
  | [_, _, .str s] => s.length
  | _ => 0
def sumN : List (List AVal) → Nat
  | [] => 0
  | y :: ys => 8 + strN y + sumN ys
def rowN (ys : List (List AVal)) : Nat := 8 + sumN ys

/-- A row as an abstract value. -/
def RowV (x : AVal) (ys : List (List AVal)) : Prop := (x = .nils ∧ ys = []) ∨ ∃ ex, x = .imm 3 ys ex

theorem wrap64 (n : Nat) (h : n ≤ 9223372036854775807) : wrapI .i64 (Int.ofNat n) = Int.ofNat n := IntWalk.i64_in _ ⟨(by show (-9223372036854775808 : Int) ≤ (n : Int); omega), (by show (n : Int) ≤ 9223372036854775807; omega)⟩
theorem add64 (a b : Nat) (h : a + b ≤ 9223372036854775807) : wrapI .i64 (Int.ofNat a + Int.ofNat b) = Int.ofNat (a + b) := wrap64 (a + b) h
theorem put3 (a b c x y z : AVal) : putAt [a, b, c] 0 [x, y, z] = some [x, y, z] := rfl
theorem cells3 (l : List AVal) : (AVal.agg l).cells = l := rfl
theorem get3 (a b c : AVal) : getAt [a, b, c] 0 3 = some [a, b, c] := rfl
theorem get3c (a b c : AVal) : getAt [a, b, c] (0 + 2) 1 = some [c] := rfl
theorem ofc_true (l : List AVal) : ofCells true l = some (.agg l) := rfl
theorem ofc_one (x : AVal) : ofCells false [x] = some x := rfl

theorem sumN_append : ∀ (a b : List (List AVal)), sumN (a ++ b) = sumN a + sumN b
  | [], b => by simp [sumN]
  | y :: a, b => by simp only [List.cons_append, sumN, sumN_append a b]; omega
theorem sumN_take (ys : List (List AVal)) (k : Nat) (y : List AVal) (h : ys[k]? = some y) : sumN (ys.take (k + 1)) = sumN (ys.take k) + (8 + strN y) := by
  rw [List.take_add_one, h, sumN_append]; simp [sumN]
theorem sumN_take_le (ys : List (List AVal)) (k : Nat) : sumN (ys.take k) ≤ sumN ys := by
  conv => rhs; rw [← List.take_append_drop k ys, sumN_append]
  omega

theorem RowV.len {x : AVal} {ys : List (List AVal)} (hx : RowV x ys) : ∀ h, lenA h 1 x = some (.int .i64 (.ofNat ys.length)) := by
  rcases hx with ⟨rfl, rfl⟩ | ⟨ex, rfl⟩ <;> intro h <;> rfl
theorem RowV.nl {x : AVal} {ys : List (List AVal)} (hx : RowV x ys) : nl x = some x := by rcases hx with ⟨rfl, rfl⟩ | ⟨ex, rfl⟩ <;> rfl

theorem row31 (O D : Oracle) (n : Nat) (x : AVal) (ys : List (List AVal)) (hx : RowV x ys) (hv : ∀ y ∈ ys, V3 y) (hb : rowN ys ≤ 9223372036854775807) (hl : ys.length < 4611686018427387904) (hn : ys.length + 1 < n) (h : AHeap) :
    runFn O D n ProgZ.a31 [x] h = some (.int .i64 (.ofNat (rowN ys)), h) := by
  have hlen := hx.len
  have hnl := hx.nl
  obtain ⟨n, rfl⟩ : ∃ m, n = m + 1 := ⟨n - 1, by omega⟩
  refine fn_pure ?_
  generalize ({ h with lock := h.next } : AHeap) = H
  repeat (first
    | with_reducible refine wc_seq ?_
    | with_reducible refine wc_region ?_
    | with_reducible refine wr_nil ?_
    | with_reducible refine sk_normal ?_
    | with_reducible refine wc_block ?_
    | ((with_reducible apply wr_some); case ho => ((simp only [aop, evalO, nlO, nl_bool, nl_int, nl_ptr, nl_nilp, nl_nils, nl_imm, nl_tup, nl_agg, nl_func, nl_str, nl_sl, nl_iptr, nlAll, ok1, callA, List.append_nil, List.nil_append, get_nd, cond_true, cond_false, Option.getD_some, Nat.beq, b_gtr, b_geq, b_leq, b_lss, b_eql, b_neq, b_add, b_sub, on_lt, on_le, on_gt, on_ge, on_eq, on_ne, decide_true, decide_false, Nat.reduceEqDiff, Nat.reduceLT, Bool.not_true, Bool.not_false, List.getElem?_cons_zero, List.getElem?_cons_succ, len_nils, len_imm, len_sl, len_str, natOf, readA, okU, Option.bind_some, hnl, hlen, initT]); with_reducible exact rfl))
    | ((with_reducible apply wr_none); case ho => ((simp only [aop, evalO, nlO, nl_bool, nl_int, nl_ptr, nl_nilp, nl_nils, nl_imm, nl_tup, nl_agg, nl_func, nl_str, nl_sl, nl_iptr, nlAll, ok1, callA, List.append_nil, List.nil_append, get_nd, cond_true, cond_false, Option.getD_some, Nat.beq, b_gtr, b_geq, b_leq, b_lss, b_eql, b_neq, b_add, b_sub, on_lt, on_le, on_gt, on_ge, on_eq, on_ne, decide_true, decide_false, Nat.reduceEqDiff, Nat.reduceLT, Bool.not_true, Bool.not_false, List.getElem?_cons_zero, List.getElem?_cons_succ, len_nils, len_imm, len_sl, len_str, natOf, readA, okU, Option.bind_some, hnl, hlen, initT]); with_reducible exact rfl))
    | ((with_reducible apply wr_yes); (case hg => (simp only [aop, evalO, nlO, nl_bool, nl_int, nl_ptr, nl_nilp, nl_nils, nl_imm, nl_tup, nl_agg, nl_func, nl_str, nl_sl, nl_iptr, nlAll, ok1, callA, List.append_nil, List.nil_append, get_nd, cond_true, cond_false, Option.getD_some, Nat.beq, b_gtr, b_geq, b_leq, b_lss, b_eql, b_neq, b_add, b_sub, on_lt, on_le, on_gt, on_ge, on_eq, on_ne, decide_true, decide_false, Nat.reduceEqDiff, Nat.reduceLT, Bool.not_true, Bool.not_false, List.getElem?_cons_zero, List.getElem?_cons_succ, len_nils, len_imm, len_sl, len_str, natOf, readA, okU, Option.bind_some, hnl, hlen, initT])); (case ho => ((simp only [aop, evalO, nlO, nl_bool, nl_int, nl_ptr, nl_nilp, nl_nils, nl_imm, nl_tup, nl_agg, nl_func, nl_str, nl_sl, nl_iptr, nlAll, ok1, callA, List.append_nil, List.nil_append, get_nd, cond_true, cond_false, Option.getD_some, Nat.beq, b_gtr, b_geq, b_leq, b_lss, b_eql, b_neq, b_add, b_sub, on_lt, on_le, on_gt, on_ge, on_eq, on_ne, decide_true, decide_false, Nat.reduceEqDiff, Nat.reduceLT, Bool.not_true, Bool.not_false, List.getElem?_cons_zero, List.getElem?_cons_succ, len_nils, len_imm, len_sl, len_str, natOf, readA, okU, Option.bind_some, hnl, hlen, initT]); with_reducible exact rfl)))
    | ((with_reducible refine wr_no ?hg ?_); case hg => (simp only [aop, evalO, nlO, nl_bool, nl_int, nl_ptr, nl_nilp, nl_nils, nl_imm, nl_tup, nl_agg, nl_func, nl_str, nl_sl, nl_iptr, nlAll, ok1, callA, List.append_nil, List.nil_append, get_nd, cond_true, cond_false, Option.getD_some, Nat.beq, b_gtr, b_geq, b_leq, b_lss, b_eql, b_neq, b_add, b_sub, on_lt, on_le, on_gt, on_ge, on_eq, on_ne, decide_true, decide_false, Nat.reduceEqDiff, Nat.reduceLT, Bool.not_true, Bool.not_false, List.getElem?_cons_zero, List.getElem?_cons_succ, len_nils, len_imm, len_sl, len_str, natOf, readA, okU, Option.bind_some, hnl, hlen, initT]))
    | ((with_reducible refine wc_true ?hc ?_); case hc => (simp only [aop, evalO, nlO, nl_bool, nl_int, nl_ptr, nl_nilp, nl_nils, nl_imm, nl_tup, nl_agg, nl_func, nl_str, nl_sl, nl_iptr, nlAll, ok1, callA, List.append_nil, List.nil_append, get_nd, cond_true, cond_false, Option.getD_some, Nat.beq, b_gtr, b_geq, b_leq, b_lss, b_eql, b_neq, b_add, b_sub, on_lt, on_le, on_gt, on_ge, on_eq, on_ne, decide_true, decide_false, Nat.reduceEqDiff, Nat.reduceLT, Bool.not_true, Bool.not_false, List.getElem?_cons_zero, List.getElem?_cons_succ, len_nils, len_imm, len_sl, len_str, natOf, readA, okU, Option.bind_some, hnl, hlen, initT]))
    | ((with_reducible refine wc_false ?hc ?_); case hc => (simp only [aop, evalO, nlO, nl_bool, nl_int, nl_ptr, nl_nilp, nl_nils, nl_imm, nl_tup, nl_agg, nl_func, nl_str, nl_sl, nl_iptr, nlAll, ok1, callA, List.append_nil, List.nil_append, get_nd, cond_true, cond_false, Option.getD_some, Nat.beq, b_gtr, b_geq, b_leq, b_lss, b_eql, b_neq, b_add, b_sub, on_lt, on_le, on_gt, on_ge, on_eq, on_ne, decide_true, decide_false, Nat.reduceEqDiff, Nat.reduceLT, Bool.not_true, Bool.not_false, List.getElem?_cons_zero, List.getElem?_cons_succ, len_nils, len_imm, len_sl, len_str, natOf, readA, okU, Option.bind_some, hnl, hlen, initT]))
    | with_reducible refine wc_skip ?_
    | with_reducible refine wc_ret ?_
    | with_reducible refine wc_exit ?_
    | with_reducible refine sk_ret ?_
    | with_reducible refine sk_exit ?_
    | with_reducible refine bk_normal ?_
    | with_reducible refine bk_ret ?_
    | with_reducible refine bk_here ?_)
  refine wc_loop (fun j s => ∃ k t l, s = ⟨t, l, H, []⟩ ∧ k + j = ys.length ∧ t.get 0 = some x ∧ t.get 3 = some (.int .i64 (.ofNat (8 + sumN (ys.take k)))) ∧ t.get 4 = some (.int .i64 (.ofNat k))) ?_ ys.length (by omega) ?_
  · rintro j s ⟨k, t, l, rfl, hk, h0, h3, h4⟩
    by_cases hlt : k < ys.length
    · have hd : decide (k < ys.length) = true := by simpa using hlt
      have hyk := List.getElem?_eq_getElem hlt
      obtain ⟨e1, e2, s, hs⟩ := hv _ (List.getElem_mem hlt)
      have hsum := sumN_take ys k _ hyk
      have hle := sumN_take_le ys (k + 1)
      unfold rowN at hb
      rw [hs] at hyk hsum
      simp only [strN] at hsum
      have a1 := add64 (8 + sumN (ys.take k)) 8 (by omega)
      have a2 := add64 (8 + sumN (ys.take k) + 8) s.length (by omega)
      have a3 := add64 k 1 (by omega)
      have a4 := add64 8 s.length (by omega)
      have a5 := add64 (8 + sumN (ys.take k)) (8 + s.length) (by omega)
      rcases hx with ⟨rfl, rfl⟩ | ⟨ex, rfl⟩
      · simp at hlt
      repeat (first
        | with_reducible refine wc_seq ?_
        | with_reducible refine wc_region ?_
        | with_reducible refine wr_nil ?_
        | with_reducible refine sk_normal ?_
        | with_reducible refine wc_block ?_
        | ((with_reducible apply wr_some); case ho => ((simp only [aop, evalO, nlO, nl_bool, nl_int, nl_ptr, nl_nilp, nl_nils, nl_imm, nl_tup, nl_agg, nl_func, nl_str, nl_sl, nl_iptr, nlAll, ok1, callA, List.append_nil, List.nil_append, get_nd, cond_true, cond_false, Option.getD_some, Nat.beq, b_gtr, b_geq, b_leq, b_lss, b_eql, b_neq, b_add, b_sub, on_lt, on_le, on_gt, on_ge, on_eq, on_ne, decide_true, decide_false, Nat.reduceEqDiff, Nat.reduceLT, Bool.not_true, Bool.not_false, List.getElem?_cons_zero, List.getElem?_cons_succ, len_nils, len_imm, len_sl, len_str, natOf, readA, okU, Option.bind_some, hd, hyk, h0, h3, h4, a1, a2, a3, a4, a5, get3, get3c, ofc_true, ofc_one, hlen]); with_reducible exact rfl))
        | ((with_reducible apply wr_none); case ho => ((simp only [aop, evalO, nlO, nl_bool, nl_int, nl_ptr, nl_nilp, nl_nils, nl_imm, nl_tup, nl_agg, nl_func, nl_str, nl_sl, nl_iptr, nlAll, ok1, callA, List.append_nil, List.nil_append, get_nd, cond_true, cond_false, Option.getD_some, Nat.beq, b_gtr, b_geq, b_leq, b_lss, b_eql, b_neq, b_add, b_sub, on_lt, on_le, on_gt, on_ge, on_eq, on_ne, decide_true, decide_false, Nat.reduceEqDiff, Nat.reduceLT, Bool.not_true, Bool.not_false, List.getElem?_cons_zero, List.getElem?_cons_succ, len_nils, len_imm, len_sl, len_str, natOf, readA, okU, Option.bind_some, hd, hyk, h0, h3, h4, a1, a2, a3, a4, a5, get3, get3c, ofc_true, ofc_one, hlen]); with_reducible exact rfl))
        | ((with_reducible apply wr_yes); (case hg => (simp only [aop, evalO, nlO, nl_bool, nl_int, nl_ptr, nl_nilp, nl_nils, nl_imm, nl_tup, nl_agg, nl_func, nl_str, nl_sl, nl_iptr, nlAll, ok1, callA, List.append_nil, List.nil_append, get_nd, cond_true, cond_false, Option.getD_some, Nat.beq, b_gtr, b_geq, b_leq, b_lss, b_eql, b_neq, b_add, b_sub, on_lt, on_le, on_gt, on_ge, on_eq, on_ne, decide_true, decide_false, Nat.reduceEqDiff, Nat.reduceLT, Bool.not_true, Bool.not_false, List.getElem?_cons_zero, List.getElem?_cons_succ, len_nils, len_imm, len_sl, len_str, natOf, readA, okU, Option.bind_some, hd, hyk, h0, h3, h4, a1, a2, a3, a4, a5, get3, get3c, ofc_true, ofc_one, hlen])); (case ho => ((simp only [aop, evalO, nlO, nl_bool, nl_int, nl_ptr, nl_nilp, nl_nils, nl_imm, nl_tup, nl_agg, nl_func, nl_str, nl_sl, nl_iptr, nlAll, ok1, callA, List.append_nil, List.nil_append, get_nd, cond_true, cond_false, Option.getD_some, Nat.beq, b_gtr, b_geq, b_leq, b_lss, b_eql, b_neq, b_add, b_sub, on_lt, on_le, on_gt, on_ge, on_eq, on_ne, decide_true, decide_false, Nat.reduceEqDiff, Nat.reduceLT, Bool.not_true, Bool.not_false, List.getElem?_cons_zero, List.getElem?_cons_succ, len_nils, len_imm, len_sl, len_str, natOf, readA, okU, Option.bind_some, hd, hyk, h0, h3, h4, a1, a2, a3, a4, a5, get3, get3c, ofc_true, ofc_one, hlen]); with_reducible exact rfl)))
        | ((with_reducible refine wr_no ?hg ?_); case hg => (simp only [aop, evalO, nlO, nl_bool, nl_int, nl_ptr, nl_nilp, nl_nils, nl_imm, nl_tup, nl_agg, nl_func, nl_str, nl_sl, nl_iptr, nlAll, ok1, callA, List.append_nil, List.nil_append, get_nd, cond_true, cond_false, Option.getD_some, Nat.beq, b_gtr, b_geq, b_leq, b_lss, b_eql, b_neq, b_add, b_sub, on_lt, on_le, on_gt, on_ge, on_eq, on_ne, decide_true, decide_false, Nat.reduceEqDiff, Nat.reduceLT, Bool.not_true, Bool.not_false, List.getElem?_cons_zero, List.getElem?_cons_succ, len_nils, len_imm, len_sl, len_str, natOf, readA, okU, Option.bind_some, hd, hyk, h0, h3, h4, a1, a2, a3, a4, a5, get3, get3c, ofc_true, ofc_one, hlen]))
        | ((with_reducible refine wc_true ?hc ?_); case hc => (simp only [aop, evalO, nlO, nl_bool, nl_int, nl_ptr, nl_nilp, nl_nils, nl_imm, nl_tup, nl_agg, nl_func, nl_str, nl_sl, nl_iptr, nlAll, ok1, callA, List.append_nil, List.nil_append, get_nd, cond_true, cond_false, Option.getD_some, Nat.beq, b_gtr, b_geq, b_leq, b_lss, b_eql, b_neq, b_add, b_sub, on_lt, on_le, on_gt, on_ge, on_eq, on_ne, decide_true, decide_false, Nat.reduceEqDiff, Nat.reduceLT, Bool.not_true, Bool.not_false, List.getElem?_cons_zero, List.getElem?_cons_succ, len_nils, len_imm, len_sl, len_str, natOf, readA, okU, Option.bind_some, hd, hyk, h0, h3, h4, a1, a2, a3, a4, a5, get3, get3c, ofc_true, ofc_one, hlen]))
        | ((with_reducible refine wc_false ?hc ?_); case hc => (simp only [aop, evalO, nlO, nl_bool, nl_int, nl_ptr, nl_nilp, nl_nils, nl_imm, nl_tup, nl_agg, nl_func, nl_str, nl_sl, nl_iptr, nlAll, ok1, callA, List.append_nil, List.nil_append, get_nd, cond_true, cond_false, Option.getD_some, Nat.beq, b_gtr, b_geq, b_leq, b_lss, b_eql, b_neq, b_add, b_sub, on_lt, on_le, on_gt, on_ge, on_eq, on_ne, decide_true, decide_false, Nat.reduceEqDiff, Nat.reduceLT, Bool.not_true, Bool.not_false, List.getElem?_cons_zero, List.getElem?_cons_succ, len_nils, len_imm, len_sl, len_str, natOf, readA, okU, Option.bind_some, hd, hyk, h0, h3, h4, a1, a2, a3, a4, a5, get3, get3c, ofc_true, ofc_one, hlen]))
        | with_reducible refine wc_skip ?_
        | with_reducible refine wc_ret ?_
        | with_reducible refine wc_exit ?_
        | with_reducible refine sk_ret ?_
        | with_reducible refine sk_exit ?_
        | with_reducible refine bk_normal ?_
        | with_reducible refine bk_ret ?_
        | with_reducible refine bk_here ?_)
      have e3 : 8 + sumN (ys.take (k + 1)) = 8 + sumN (ys.take k) + 8 + s.length := by omega
      refine ⟨j - 1, by omega, k + 1, _, _, rfl, by omega, ?_⟩
      simp only [get_nd, Nat.beq, cond_true, cond_false, h0, e3, and_self]
    · have hd : decide (k < ys.length) = false := by simpa using hlt
      have hk0 : k = ys.length := by omega
      subst hk0
      rw [List.take_length] at h3
      repeat (first
        | with_reducible refine wc_seq ?_
        | with_reducible refine wc_region ?_
        | with_reducible refine wr_nil ?_
        | with_reducible refine sk_normal ?_
        | with_reducible refine wc_block ?_
        | ((with_reducible apply wr_some); case ho => ((simp only [aop, evalO, nlO, nl_bool, nl_int, nl_ptr, nl_nilp, nl_nils, nl_imm, nl_tup, nl_agg, nl_func, nl_str, nl_sl, nl_iptr, nlAll, ok1, callA, List.append_nil, List.nil_append, get_nd, cond_true, cond_false, Option.getD_some, Nat.beq, b_gtr, b_geq, b_leq, b_lss, b_eql, b_neq, b_add, b_sub, on_lt, on_le, on_gt, on_ge, on_eq, on_ne, decide_true, decide_false, Nat.reduceEqDiff, Nat.reduceLT, Bool.not_true, Bool.not_false, List.getElem?_cons_zero, List.getElem?_cons_succ, len_nils, len_imm, len_sl, len_str, natOf, readA, okU, Option.bind_some, hd, hnl, h0, h3, h4, hlen]); with_reducible exact rfl))
        | ((with_reducible apply wr_none); case ho => ((simp only [aop, evalO, nlO, nl_bool, nl_int, nl_ptr, nl_nilp, nl_nils, nl_imm, nl_tup, nl_agg, nl_func, nl_str, nl_sl, nl_iptr, nlAll, ok1, callA, List.append_nil, List.nil_append, get_nd, cond_true, cond_false, Option.getD_some, Nat.beq, b_gtr, b_geq, b_leq, b_lss, b_eql, b_neq, b_add, b_sub, on_lt, on_le, on_gt, on_ge, on_eq, on_ne, decide_true, decide_false, Nat.reduceEqDiff, Nat.reduceLT, Bool.not_true, Bool.not_false, List.getElem?_cons_zero, List.getElem?_cons_succ, len_nils, len_imm, len_sl, len_str, natOf, readA, okU, Option.bind_some, hd, hnl, h0, h3, h4, hlen]); with_reducible exact rfl))
        | ((with_reducible apply wr_yes); (case hg => (simp only [aop, evalO, nlO, nl_bool, nl_int, nl_ptr, nl_nilp, nl_nils, nl_imm, nl_tup, nl_agg, nl_func, nl_str, nl_sl, nl_iptr, nlAll, ok1, callA, List.append_nil, List.nil_append, get_nd, cond_true, cond_false, Option.getD_some, Nat.beq, b_gtr, b_geq, b_leq, b_lss, b_eql, b_neq, b_add, b_sub, on_lt, on_le, on_gt, on_ge, on_eq, on_ne, decide_true, decide_false, Nat.reduceEqDiff, Nat.reduceLT, Bool.not_true, Bool.not_false, List.getElem?_cons_zero, List.getElem?_cons_succ, len_nils, len_imm, len_sl, len_str, natOf, readA, okU, Option.bind_some, hd, hnl, h0, h3, h4, hlen])); (case ho => ((simp only [aop, evalO, nlO, nl_bool, nl_int, nl_ptr, nl_nilp, nl_nils, nl_imm, nl_tup, nl_agg, nl_func, nl_str, nl_sl, nl_iptr, nlAll, ok1, callA, List.append_nil, List.nil_append, get_nd, cond_true, cond_false, Option.getD_some, Nat.beq, b_gtr, b_geq, b_leq, b_lss, b_eql, b_neq, b_add, b_sub, on_lt, on_le, on_gt, on_ge, on_eq, on_ne, decide_true, decide_false, Nat.reduceEqDiff, Nat.reduceLT, Bool.not_true, Bool.not_false, List.getElem?_cons_zero, List.getElem?_cons_succ, len_nils, len_imm, len_sl, len_str, natOf, readA, okU, Option.bind_some, hd, hnl, h0, h3, h4, hlen]); with_reducible exact rfl)))
        | ((with_reducible refine wr_no ?hg ?_); case hg => (simp only [aop, evalO, nlO, nl_bool, nl_int, nl_ptr, nl_nilp, nl_nils, nl_imm, nl_tup, nl_agg, nl_func, nl_str, nl_sl, nl_iptr, nlAll, ok1, callA, List.append_nil, List.nil_append, get_nd, cond_true, cond_false, Option.getD_some, Nat.beq, b_gtr, b_geq, b_leq, b_lss, b_eql, b_neq, b_add, b_sub, on_lt, on_le, on_gt, on_ge, on_eq, on_ne, decide_true, decide_false, Nat.reduceEqDiff, Nat.reduceLT, Bool.not_true, Bool.not_false, List.getElem?_cons_zero, List.getElem?_cons_succ, len_nils, len_imm, len_sl, len_str, natOf, readA, okU, Option.bind_some, hd, hnl, h0, h3, h4, hlen]))
        | ((with_reducible refine wc_true ?hc ?_); case hc => (simp only [aop, evalO, nlO, nl_bool, nl_int, nl_ptr, nl_nilp, nl_nils, nl_imm, nl_tup, nl_agg, nl_func, nl_str, nl_sl, nl_iptr, nlAll, ok1, callA, List.append_nil, List.nil_append, get_nd, cond_true, cond_false, Option.getD_some, Nat.beq, b_gtr, b_geq, b_leq, b_lss, b_eql, b_neq, b_add, b_sub, on_lt, on_le, on_gt, on_ge, on_eq, on_ne, decide_true, decide_false, Nat.reduceEqDiff, Nat.reduceLT, Bool.not_true, Bool.not_false, List.getElem?_cons_zero, List.getElem?_cons_succ, len_nils, len_imm, len_sl, len_str, natOf, readA, okU, Option.bind_some, hd, hnl, h0, h3, h4, hlen]))
        | ((with_reducible refine wc_false ?hc ?_); case hc => (simp only [aop, evalO, nlO, nl_bool, nl_int, nl_ptr, nl_nilp, nl_nils, nl_imm, nl_tup, nl_agg, nl_func, nl_str, nl_sl, nl_iptr, nlAll, ok1, callA, List.append_nil, List.nil_append, get_nd, cond_true, cond_false, Option.getD_some, Nat.beq, b_gtr, b_geq, b_leq, b_lss, b_eql, b_neq, b_add, b_sub, on_lt, on_le, on_gt, on_ge, on_eq, on_ne, decide_true, decide_false, Nat.reduceEqDiff, Nat.reduceLT, Bool.not_true, Bool.not_false, List.getElem?_cons_zero, List.getElem?_cons_succ, len_nils, len_imm, len_sl, len_str, natOf, readA, okU, Option.bind_some, hd, hnl, h0, h3, h4, hlen]))
        | with_reducible refine wc_skip ?_
        | with_reducible refine wc_ret ?_
        | with_reducible refine wc_exit ?_
        | with_reducible refine sk_ret ?_
        | with_reducible refine sk_exit ?_
        | with_reducible refine bk_normal ?_
        | with_reducible refine bk_ret ?_
        | with_reducible refine bk_here ?_)
      refine ⟨.inr rfl, rfl, [.int .i64 (.ofNat (8 + sumN ys))], ?_, rfl⟩
      simp only [resA, get_nd, Nat.beq, cond_true, cond_false, Option.getD_some, nl_int]
  · exact ⟨0, _, _, rfl, by omega, by simp [get_nd, Nat.beq], by simp [get_nd, Nat.beq, sumN], by simp [get_nd, Nat.beq]⟩

theorem row19 (O D : Oracle) (n : Nat) (x : AVal) (ys : List (List AVal)) (hx : RowV x ys) (hv : ∀ y ∈ ys, V3 y) (hb : rowN ys ≤ 9223372036854775807) (hl : ys.length < 4611686018427387904) (hn : ys.length + 1 < n) (h : AHeap) :
    runFn O D n ProgZ.a19 [x] h = some (.int .i64 (.ofNat (rowN ys)), h) := by
  have hlen := hx.len
  have hnl := hx.nl
  obtain ⟨n, rfl⟩ : ∃ m, n = m + 1 := ⟨n - 1, by omega⟩
  refine fn_pure ?_
  generalize ({ h with lock := h.next } : AHeap) = H
  repeat (first
    | with_reducible refine wc_seq ?_
    | with_reducible refine wc_region ?_
    | with_reducible refine wr_nil ?_
    | with_reducible refine sk_normal ?_
    | with_reducible refine wc_block ?_
    | ((with_reducible apply wr_some); case ho => ((simp only [aop, evalO, nlO, nl_bool, nl_int, nl_ptr, nl_nilp, nl_nils, nl_imm, nl_tup, nl_agg, nl_func, nl_str, nl_sl, nl_iptr, nlAll, ok1, callA, List.append_nil, List.nil_append, get_nd, cond_true, cond_false, Option.getD_some, Nat.beq, b_gtr, b_geq, b_leq, b_lss, b_eql, b_neq, b_add, b_sub, on_lt, on_le, on_gt, on_ge, on_eq, on_ne, decide_true, decide_false, Nat.reduceEqDiff, Nat.reduceLT, Bool.not_true, Bool.not_false, List.getElem?_cons_zero, List.getElem?_cons_succ, len_nils, len_imm, len_sl, len_str, natOf, readA, okU, Option.bind_some, hnl, hlen, initT]); with_reducible exact rfl))
    | ((with_reducible apply wr_none); case ho => ((simp only [aop, evalO, nlO, nl_bool, nl_int, nl_ptr, nl_nilp, nl_nils, nl_imm, nl_tup, nl_agg, nl_func, nl_str, nl_sl, nl_iptr, nlAll, ok1, callA, List.append_nil, List.nil_append, get_nd, cond_true, cond_false, Option.getD_some, Nat.beq, b_gtr, b_geq, b_leq, b_lss, b_eql, b_neq, b_add, b_sub, on_lt, on_le, on_gt, on_ge, on_eq, on_ne, decide_true, decide_false, Nat.reduceEqDiff, Nat.reduceLT, Bool.not_true, Bool.not_false, List.getElem?_cons_zero, List.getElem?_cons_succ, len_nils, len_imm, len_sl, len_str, natOf, readA, okU, Option.bind_some, hnl, hlen, initT]); with_reducible exact rfl))
    | ((with_reducible apply wr_yes); (case hg => (simp only [aop, evalO, nlO, nl_bool, nl_int, nl_ptr, nl_nilp, nl_nils, nl_imm, nl_tup, nl_agg, nl_func, nl_str, nl_sl, nl_iptr, nlAll, ok1, callA, List.append_nil, List.nil_append, get_nd, cond_true, cond_false, Option.getD_some, Nat.beq, b_gtr, b_geq, b_leq, b_lss, b_eql, b_neq, b_add, b_sub, on_lt, on_le, on_gt, on_ge, on_eq, on_ne, decide_true, decide_false, Nat.reduceEqDiff, Nat.reduceLT, Bool.not_true, Bool.not_false, List.getElem?_cons_zero, List.getElem?_cons_succ, len_nils, len_imm, len_sl, len_str, natOf, readA, okU, Option.bind_some, hnl, hlen, initT])); (case ho => ((simp only [aop, evalO, nlO, nl_bool, nl_int, nl_ptr, nl_nilp, nl_nils, nl_imm, nl_tup, nl_agg, nl_func, nl_str, nl_sl, nl_iptr, nlAll, ok1, callA, List.append_nil, List.nil_append, get_nd, cond_true, cond_false, Option.getD_some, Nat.beq, b_gtr, b_geq, b_leq, b_lss, b_eql, b_neq, b_add, b_sub, on_lt, on_le, on_gt, on_ge, on_eq, on_ne, decide_true, decide_false, Nat.reduceEqDiff, Nat.reduceLT, Bool.not_true, Bool.not_false, List.getElem?_cons_zero, List.getElem?_cons_succ, len_nils, len_imm, len_sl, len_str, natOf, readA, okU, Option.bind_some, hnl, hlen, initT]); with_reducible exact rfl)))
    | ((with_reducible refine wr_no ?hg ?_); case hg => (simp only [aop, evalO, nlO, nl_bool, nl_int, nl_ptr, nl_nilp, nl_nils, nl_imm, nl_tup, nl_agg, nl_func, nl_str, nl_sl, nl_iptr, nlAll, ok1, callA, List.append_nil, List.nil_append, get_nd, cond_true, cond_false, Option.getD_some, Nat.beq, b_gtr, b_geq, b_leq, b_lss, b_eql, b_neq, b_add, b_sub, on_lt, on_le, on_gt, on_ge, on_eq, on_ne, decide_true, decide_false, Nat.reduceEqDiff, Nat.reduceLT, Bool.not_true, Bool.not_false, List.getElem?_cons_zero, List.getElem?_cons_succ, len_nils, len_imm, len_sl, len_str, natOf, readA, okU, Option.bind_some, hnl, hlen, initT]))
    | ((with_reducible refine wc_true ?hc ?_); case hc => (simp only [aop, evalO, nlO, nl_bool, nl_int, nl_ptr, nl_nilp, nl_nils, nl_imm, nl_tup, nl_agg, nl_func, nl_str, nl_sl, nl_iptr, nlAll, ok1, callA, List.append_nil, List.nil_append, get_nd, cond_true, cond_false, Option.getD_some, Nat.beq, b_gtr, b_geq, b_leq, b_lss, b_eql, b_neq, b_add, b_sub, on_lt, on_le, on_gt, on_ge, on_eq, on_ne, decide_true, decide_false, Nat.reduceEqDiff, Nat.reduceLT, Bool.not_true, Bool.not_false, List.getElem?_cons_zero, List.getElem?_cons_succ, len_nils, len_imm, len_sl, len_str, natOf, readA, okU, Option.bind_some, hnl, hlen, initT]))
    | ((with_reducible refine wc_false ?hc ?_); case hc => (simp only [aop, evalO, nlO, nl_bool, nl_int, nl_ptr, nl_nilp, nl_nils, nl_imm, nl_tup, nl_agg, nl_func, nl_str, nl_sl, nl_iptr, nlAll, ok1, callA, List.append_nil, List.nil_append, get_nd, cond_true, cond_false, Option.getD_some, Nat.beq, b_gtr, b_geq, b_leq, b_lss, b_eql, b_neq, b_add, b_sub, on_lt, on_le, on_gt, on_ge, on_eq, on_ne, decide_true, decide_false, Nat.reduceEqDiff, Nat.reduceLT, Bool.not_true, Bool.not_false, List.getElem?_cons_zero, List.getElem?_cons_succ, len_nils, len_imm, len_sl, len_str, natOf, readA, okU, Option.bind_some, hnl, hlen, initT]))
    | with_reducible refine wc_skip ?_
    | with_reducible refine wc_ret ?_
    | with_reducible refine wc_exit ?_
    | with_reducible refine sk_ret ?_
    | with_reducible refine sk_exit ?_
    | with_reducible refine bk_normal ?_
    | with_reducible refine bk_ret ?_
    | with_reducible refine bk_here ?_)
  refine wc_loop (fun j s => ∃ k t l, s = ⟨t, l, H, []⟩ ∧ k + j = ys.length ∧ t.get 6 = some x ∧ t.get 7 = some (.int .i64 (.ofNat ys.length)) ∧ (oldDer l 5 = [] ∨ oldDer l 5 = [13]) ∧ t.get 3 = some (.int .i64 (.ofNat (8 + sumN (ys.take k)))) ∧ t.get 8 = some (.int .i64 (.ofNat k))) ?_ ys.length (by omega) ?_
  · rintro j s ⟨k, t, l, rfl, hk, h0, h7, hod, h3, h4⟩
    by_cases hlt : k < ys.length
    · have hd : decide (k < ys.length) = true := by simpa using hlt
      have hyk := List.getElem?_eq_getElem hlt
      obtain ⟨e1, e2, s, hs⟩ := hv _ (List.getElem_mem hlt)
      have hsum := sumN_take ys k _ hyk
      have hle := sumN_take_le ys (k + 1)
      unfold rowN at hb
      rw [hs] at hyk hsum
      simp only [strN] at hsum
      have a1 := add64 (8 + sumN (ys.take k)) 8 (by omega)
      have a2 := add64 (8 + sumN (ys.take k) + 8) s.length (by omega)
      have a3 := add64 k 1 (by omega)
      have a4 := add64 8 s.length (by omega)
      have a5 := add64 (8 + sumN (ys.take k)) (8 + s.length) (by omega)
      rcases hx with ⟨rfl, rfl⟩ | ⟨ex, rfl⟩
      · simp at hlt
      have hod2 : ∀ l' : Tr Box, oldDer (l'.set 5 (some ⟨[.int .u8 e1, .int .i64 e2, .str s], [13], 59⟩)) 5 = [13] := fun l' => by simp [oldDer, get_nd, Nat.beq]
      rcases hod with hod | hod
      all_goals
        repeat (first
          | with_reducible refine wc_seq ?_
          | with_reducible refine wc_region ?_
          | with_reducible refine wr_nil ?_
          | with_reducible refine sk_normal ?_
          | with_reducible refine wc_block ?_
          | ((with_reducible apply wr_some); case ho => ((simp only [aop, evalO, nlO, nl_bool, nl_int, nl_ptr, nl_nilp, nl_nils, nl_imm, nl_tup, nl_agg, nl_func, nl_str, nl_sl, nl_iptr, nlAll, ok1, callA, List.append_nil, List.nil_append, get_nd, cond_true, cond_false, Option.getD_some, Nat.beq, b_gtr, b_geq, b_leq, b_lss, b_eql, b_neq, b_add, b_sub, on_lt, on_le, on_gt, on_ge, on_eq, on_ne, decide_true, decide_false, Nat.reduceEqDiff, Nat.reduceLT, Bool.not_true, Bool.not_false, List.getElem?_cons_zero, List.getElem?_cons_succ, len_nils, len_imm, len_sl, len_str, natOf, readA, okU, Option.bind_some, hd, hyk, h0, h3, h4, h7, a1, hod, newLoc, clearT, writeA, put3, cells3, Nat.beq_refl, Bool.and_self, List.contains_cons, beq_self_eq_true, Bool.true_or, oneV, List.length_cons, List.length_nil, Nat.zero_add, Nat.reduceAdd, Option.map_some, a2, a3, a4, a5, get3, get3c, ofc_true, ofc_one, hlen]); with_reducible exact rfl))
          | ((with_reducible apply wr_none); case ho => ((simp only [aop, evalO, nlO, nl_bool, nl_int, nl_ptr, nl_nilp, nl_nils, nl_imm, nl_tup, nl_agg, nl_func, nl_str, nl_sl, nl_iptr, nlAll, ok1, callA, List.append_nil, List.nil_append, get_nd, cond_true, cond_false, Option.getD_some, Nat.beq, b_gtr, b_geq, b_leq, b_lss, b_eql, b_neq, b_add, b_sub, on_lt, on_le, on_gt, on_ge, on_eq, on_ne, decide_true, decide_false, Nat.reduceEqDiff, Nat.reduceLT, Bool.not_true, Bool.not_false, List.getElem?_cons_zero, List.getElem?_cons_succ, len_nils, len_imm, len_sl, len_str, natOf, readA, okU, Option.bind_some, hd, hyk, h0, h3, h4, h7, a1, hod, newLoc, clearT, writeA, put3, cells3, Nat.beq_refl, Bool.and_self, List.contains_cons, beq_self_eq_true, Bool.true_or, oneV, List.length_cons, List.length_nil, Nat.zero_add, Nat.reduceAdd, Option.map_some, a2, a3, a4, a5, get3, get3c, ofc_true, ofc_one, hlen]); with_reducible exact rfl))
          | ((with_reducible apply wr_yes); (case hg => (simp only [aop, evalO, nlO, nl_bool, nl_int, nl_ptr, nl_nilp, nl_nils, nl_imm, nl_tup, nl_agg, nl_func, nl_str, nl_sl, nl_iptr, nlAll, ok1, callA, List.append_nil, List.nil_append, get_nd, cond_true, cond_false, Option.getD_some, Nat.beq, b_gtr, b_geq, b_leq, b_lss, b_eql, b_neq, b_add, b_sub, on_lt, on_le, on_gt, on_ge, on_eq, on_ne, decide_true, decide_false, Nat.reduceEqDiff, Nat.reduceLT, Bool.not_true, Bool.not_false, List.getElem?_cons_zero, List.getElem?_cons_succ, len_nils, len_imm, len_sl, len_str, natOf, readA, okU, Option.bind_some, hd, hyk, h0, h3, h4, h7, a1, hod, newLoc, clearT, writeA, put3, cells3, Nat.beq_refl, Bool.and_self, List.contains_cons, beq_self_eq_true, Bool.true_or, oneV, List.length_cons, List.length_nil, Nat.zero_add, Nat.reduceAdd, Option.map_some, a2, a3, a4, a5, get3, get3c, ofc_true, ofc_one, hlen])); (case ho => ((simp only [aop, evalO, nlO, nl_bool, nl_int, nl_ptr, nl_nilp, nl_nils, nl_imm, nl_tup, nl_agg, nl_func, nl_str, nl_sl, nl_iptr, nlAll, ok1, callA, List.append_nil, List.nil_append, get_nd, cond_true, cond_false, Option.getD_some, Nat.beq, b_gtr, b_geq, b_leq, b_lss, b_eql, b_neq, b_add, b_sub, on_lt, on_le, on_gt, on_ge, on_eq, on_ne, decide_true, decide_false, Nat.reduceEqDiff, Nat.reduceLT, Bool.not_true, Bool.not_false, List.getElem?_cons_zero, List.getElem?_cons_succ, len_nils, len_imm, len_sl, len_str, natOf, readA, okU, Option.bind_some, hd, hyk, h0, h3, h4, h7, a1, hod, newLoc, clearT, writeA, put3, cells3, Nat.beq_refl, Bool.and_self, List.contains_cons, beq_self_eq_true, Bool.true_or, oneV, List.length_cons, List.length_nil, Nat.zero_add, Nat.reduceAdd, Option.map_some, a2, a3, a4, a5, get3, get3c, ofc_true, ofc_one, hlen]); with_reducible exact rfl)))
          | ((with_reducible refine wr_no ?hg ?_); case hg => (simp only [aop, evalO, nlO, nl_bool, nl_int, nl_ptr, nl_nilp, nl_nils, nl_imm, nl_tup, nl_agg, nl_func, nl_str, nl_sl, nl_iptr, nlAll, ok1, callA, List.append_nil, List.nil_append, get_nd, cond_true, cond_false, Option.getD_some, Nat.beq, b_gtr, b_geq, b_leq, b_lss, b_eql, b_neq, b_add, b_sub, on_lt, on_le, on_gt, on_ge, on_eq, on_ne, decide_true, decide_false, Nat.reduceEqDiff, Nat.reduceLT, Bool.not_true, Bool.not_false, List.getElem?_cons_zero, List.getElem?_cons_succ, len_nils, len_imm, len_sl, len_str, natOf, readA, okU, Option.bind_some, hd, hyk, h0, h3, h4, h7, a1, hod, newLoc, clearT, writeA, put3, cells3, Nat.beq_refl, Bool.and_self, List.contains_cons, beq_self_eq_true, Bool.true_or, oneV, List.length_cons, List.length_nil, Nat.zero_add, Nat.reduceAdd, Option.map_some, a2, a3, a4, a5, get3, get3c, ofc_true, ofc_one, hlen]))
          | ((with_reducible refine wc_true ?hc ?_); case hc => (simp only [aop, evalO, nlO, nl_bool, nl_int, nl_ptr, nl_nilp, nl_nils, nl_imm, nl_tup, nl_agg, nl_func, nl_str, nl_sl, nl_iptr, nlAll, ok1, callA, List.append_nil, List.nil_append, get_nd, cond_true, cond_false, Option.getD_some, Nat.beq, b_gtr, b_geq, b_leq, b_lss, b_eql, b_neq, b_add, b_sub, on_lt, on_le, on_gt, on_ge, on_eq, on_ne, decide_true, decide_false, Nat.reduceEqDiff, Nat.reduceLT, Bool.not_true, Bool.not_false, List.getElem?_cons_zero, List.getElem?_cons_succ, len_nils, len_imm, len_sl, len_str, natOf, readA, okU, Option.bind_some, hd, hyk, h0, h3, h4, h7, a1, hod, newLoc, clearT, writeA, put3, cells3, Nat.beq_refl, Bool.and_self, List.contains_cons, beq_self_eq_true, Bool.true_or, oneV, List.length_cons, List.length_nil, Nat.zero_add, Nat.reduceAdd, Option.map_some, a2, a3, a4, a5, get3, get3c, ofc_true, ofc_one, hlen]))
          | ((with_reducible refine wc_false ?hc ?_); case hc => (simp only [aop, evalO, nlO, nl_bool, nl_int, nl_ptr, nl_nilp, nl_nils, nl_imm, nl_tup, nl_agg, nl_func, nl_str, nl_sl, nl_iptr, nlAll, ok1, callA, List.append_nil, List.nil_append, get_nd, cond_true, cond_false, Option.getD_some, Nat.beq, b_gtr, b_geq, b_leq, b_lss, b_eql, b_neq, b_add, b_sub, on_lt, on_le, on_gt, on_ge, on_eq, on_ne, decide_true, decide_false, Nat.reduceEqDiff, Nat.reduceLT, Bool.not_true, Bool.not_false, List.getElem?_cons_zero, List.getElem?_cons_succ, len_nils, len_imm, len_sl, len_str, natOf, readA, okU, Option.bind_some, hd, hyk, h0, h3, h4, h7, a1, hod, newLoc, clearT, writeA, put3, cells3, Nat.beq_refl, Bool.and_self, List.contains_cons, beq_self_eq_true, Bool.true_or, oneV, List.length_cons, List.length_nil, Nat.zero_add, Nat.reduceAdd, Option.map_some, a2, a3, a4, a5, get3, get3c, ofc_true, ofc_one, hlen]))
          | with_reducible refine wc_skip ?_
          | with_reducible refine wc_ret ?_
          | with_reducible refine wc_exit ?_
          | with_reducible refine sk_ret ?_
          | with_reducible refine sk_exit ?_
          | with_reducible refine bk_normal ?_
          | with_reducible refine bk_ret ?_
          | with_reducible refine bk_here ?_)
        have e3 : 8 + sumN (ys.take (k + 1)) = 8 + sumN (ys.take k) + (8 + s.length) := by omega
        refine ⟨j - 1, by omega, k + 1, _, _, rfl, by omega, ?_⟩
        simp only [get_nd, Nat.beq, cond_true, cond_false, h0, h7, e3, hod2, or_true, and_self]
    · have hd : decide (k < ys.length) = false := by simpa using hlt
      have hk0 : k = ys.length := by omega
      subst hk0
      rw [List.take_length] at h3
      repeat (first
        | with_reducible refine wc_seq ?_
        | with_reducible refine wc_region ?_
        | with_reducible refine wr_nil ?_
        | with_reducible refine sk_normal ?_
        | with_reducible refine wc_block ?_
        | ((with_reducible apply wr_some); case ho => ((simp only [aop, evalO, nlO, nl_bool, nl_int, nl_ptr, nl_nilp, nl_nils, nl_imm, nl_tup, nl_agg, nl_func, nl_str, nl_sl, nl_iptr, nlAll, ok1, callA, List.append_nil, List.nil_append, get_nd, cond_true, cond_false, Option.getD_some, Nat.beq, b_gtr, b_geq, b_leq, b_lss, b_eql, b_neq, b_add, b_sub, on_lt, on_le, on_gt, on_ge, on_eq, on_ne, decide_true, decide_false, Nat.reduceEqDiff, Nat.reduceLT, Bool.not_true, Bool.not_false, List.getElem?_cons_zero, List.getElem?_cons_succ, len_nils, len_imm, len_sl, len_str, natOf, readA, okU, Option.bind_some, hd, hnl, h0, h3, h4, h7, hlen]); with_reducible exact rfl))
        | ((with_reducible apply wr_none); case ho => ((simp only [aop, evalO, nlO, nl_bool, nl_int, nl_ptr, nl_nilp, nl_nils, nl_imm, nl_tup, nl_agg, nl_func, nl_str, nl_sl, nl_iptr, nlAll, ok1, callA, List.append_nil, List.nil_append, get_nd, cond_true, cond_false, Option.getD_some, Nat.beq, b_gtr, b_geq, b_leq, b_lss, b_eql, b_neq, b_add, b_sub, on_lt, on_le, on_gt, on_ge, on_eq, on_ne, decide_true, decide_false, Nat.reduceEqDiff, Nat.reduceLT, Bool.not_true, Bool.not_false, List.getElem?_cons_zero, List.getElem?_cons_succ, len_nils, len_imm, len_sl, len_str, natOf, readA, okU, Option.bind_some, hd, hnl, h0, h3, h4, h7, hlen]); with_reducible exact rfl))
        | ((with_reducible apply wr_yes); (case hg => (simp only [aop, evalO, nlO, nl_bool, nl_int, nl_ptr, nl_nilp, nl_nils, nl_imm, nl_tup, nl_agg, nl_func, nl_str, nl_sl, nl_iptr, nlAll, ok1, callA, List.append_nil, List.nil_append, get_nd, cond_true, cond_false, Option.getD_some, Nat.beq, b_gtr, b_geq, b_leq, b_lss, b_eql, b_neq, b_add, b_sub, on_lt, on_le, on_gt, on_ge, on_eq, on_ne, decide_true, decide_false, Nat.reduceEqDiff, Nat.reduceLT, Bool.not_true, Bool.not_false, List.getElem?_cons_zero, List.getElem?_cons_succ, len_nils, len_imm, len_sl, len_str, natOf, readA, okU, Option.bind_some, hd, hnl, h0, h3, h4, h7, hlen])); (case ho => ((simp only [aop, evalO, nlO, nl_bool, nl_int, nl_ptr, nl_nilp, nl_nils, nl_imm, nl_tup, nl_agg, nl_func, nl_str, nl_sl, nl_iptr, nlAll, ok1, callA, List.append_nil, List.nil_append, get_nd, cond_true, cond_false, Option.getD_some, Nat.beq, b_gtr, b_geq, b_leq, b_lss, b_eql, b_neq, b_add, b_sub, on_lt, on_le, on_gt, on_ge, on_eq, on_ne, decide_true, decide_false, Nat.reduceEqDiff, Nat.reduceLT, Bool.not_true, Bool.not_false, List.getElem?_cons_zero, List.getElem?_cons_succ, len_nils, len_imm, len_sl, len_str, natOf, readA, okU, Option.bind_some, hd, hnl, h0, h3, h4, h7, hlen]); with_reducible exact rfl)))
        | ((with_reducible refine wr_no ?hg ?_); case hg => (simp only [aop, evalO, nlO, nl_bool, nl_int, nl_ptr, nl_nilp, nl_nils, nl_imm, nl_tup, nl_agg, nl_func, nl_str, nl_sl, nl_iptr, nlAll, ok1, callA, List.append_nil, List.nil_append, get_nd, cond_true, cond_false, Option.getD_some, Nat.beq, b_gtr, b_geq, b_leq, b_lss, b_eql, b_neq, b_add, b_sub, on_lt, on_le, on_gt, on_ge, on_eq, on_ne, decide_true, decide_false, Nat.reduceEqDiff, Nat.reduceLT, Bool.not_true, Bool.not_false, List.getElem?_cons_zero, List.getElem?_cons_succ, len_nils, len_imm, len_sl, len_str, natOf, readA, okU, Option.bind_some, hd, hnl, h0, h3, h4, h7, hlen]))
        | ((with_reducible refine wc_true ?hc ?_); case hc => (simp only [aop, evalO, nlO, nl_bool, nl_int, nl_ptr, nl_nilp, nl_nils, nl_imm, nl_tup, nl_agg, nl_func, nl_str, nl_sl, nl_iptr, nlAll, ok1, callA, List.append_nil, List.nil_append, get_nd, cond_true, cond_false, Option.getD_some, Nat.beq, b_gtr, b_geq, b_leq, b_lss, b_eql, b_neq, b_add, b_sub, on_lt, on_le, on_gt, on_ge, on_eq, on_ne, decide_true, decide_false, Nat.reduceEqDiff, Nat.reduceLT, Bool.not_true, Bool.not_false, List.getElem?_cons_zero, List.getElem?_cons_succ, len_nils, len_imm, len_sl, len_str, natOf, readA, okU, Option.bind_some, hd, hnl, h0, h3, h4, h7, hlen]))
        | ((with_reducible refine wc_false ?hc ?_); case hc => (simp only [aop, evalO, nlO, nl_bool, nl_int, nl_ptr, nl_nilp, nl_nils, nl_imm, nl_tup, nl_agg, nl_func, nl_str, nl_sl, nl_iptr, nlAll, ok1, callA, List.append_nil, List.nil_append, get_nd, cond_true, cond_false, Option.getD_some, Nat.beq, b_gtr, b_geq, b_leq, b_lss, b_eql, b_neq, b_add, b_sub, on_lt, on_le, on_gt, on_ge, on_eq, on_ne, decide_true, decide_false, Nat.reduceEqDiff, Nat.reduceLT, Bool.not_true, Bool.not_false, List.getElem?_cons_zero, List.getElem?_cons_succ, len_nils, len_imm, len_sl, len_str, natOf, readA, okU, Option.bind_some, hd, hnl, h0, h3, h4, h7, hlen]))
        | with_reducible refine wc_skip ?_
        | with_reducible refine wc_ret ?_
        | with_reducible refine wc_exit ?_
        | with_reducible refine sk_ret ?_
        | with_reducible refine sk_exit ?_
        | with_reducible refine bk_normal ?_
        | with_reducible refine bk_ret ?_
        | with_reducible refine bk_here ?_)
      refine ⟨.inr rfl, rfl, [.int .i64 (.ofNat (8 + sumN ys))], ?_, rfl⟩
      simp only [resA, get_nd, Nat.beq, cond_true, cond_false, Option.getD_some, nl_int]
  · exact ⟨0, _, _, rfl, by omega, by simp [get_nd, Nat.beq], by simp [get_nd, Nat.beq], .inl rfl, by simp [get_nd, Nat.beq, sumN], by simp [get_nd, Nat.beq]⟩
end ZC
/- SorterCounts: what may be told of a value, of a row. -/
open Wab Go
namespace ZC
set_option maxRecDepth 100000
set_option linter.unusedSimpArgs false
set_option linter.unusedVariables false
theorem get3a (a b c : AVal) : getAt [a, b, c] (0 + 0) 1 = some [a] := rfl
theorem get3b (a b c : AVal) : getAt [a, b, c] (0 + 1) 1 = some [b] := rfl
def isB (r : AVal) : Prop := ∃ b, r = .bool b

theorem right30 (O D : Oracle) (n : Nat) (k m : Int) (s : List Nat) (hn : 1 < n) (h : AHeap) :
    ∃ r, runFn O D n ProgZ.a30 [.agg [.int .u8 k, .int .i64 m, .str s]] h = some (r, h) ∧ isB r := by
  obtain ⟨n, rfl⟩ : ∃ m, n = m + 1 := ⟨n - 1, by omega⟩
  refine fn_pureR ?_
  generalize ({ h with lock := h.next } : AHeap) = H
  repeat' (first
    | with_reducible refine wc_seq ?_
    | with_reducible refine wc_region ?_
    | with_reducible refine wr_nil ?_
    | with_reducible refine sk_normal ?_
    | with_reducible refine wc_block ?_
    | ((with_reducible apply wr_some); case ho => ((simp only [aop, evalO, nlO, nl_bool, nl_int, nl_ptr, nl_nilp, nl_nils, nl_imm, nl_tup, nl_agg, nl_func, nl_str, nl_sl, nl_iptr, nlAll, ok1, callA, List.append_nil, List.nil_append, get_nd, cond_true, cond_false, Option.getD_some, Nat.beq, b_gtr, b_geq, b_leq, b_lss, b_eql, b_neq, b_add, b_sub, on_lt, on_le, on_gt, on_ge, on_eq, on_ne, decide_true, decide_false, Nat.reduceEqDiff, Nat.reduceLT, Bool.not_true, Bool.not_false, List.getElem?_cons_zero, List.getElem?_cons_succ, len_nils, len_imm, len_sl, len_str, natOf, readA, okU, Option.bind_some, newLoc, oldDer, clearT, initT, Tr.get, Nat.beq_refl, List.contains_cons, beq_self_eq_true, Bool.true_or, Bool.or_true, Nat.reduceBEq, Bool.false_or, oneV, get3a, get3b, get3c, ofc_one, cells3, s_eql, strBin, *]); with_reducible exact rfl))
    | ((with_reducible apply wr_none); case ho => ((simp only [aop, evalO, nlO, nl_bool, nl_int, nl_ptr, nl_nilp, nl_nils, nl_imm, nl_tup, nl_agg, nl_func, nl_str, nl_sl, nl_iptr, nlAll, ok1, callA, List.append_nil, List.nil_append, get_nd, cond_true, cond_false, Option.getD_some, Nat.beq, b_gtr, b_geq, b_leq, b_lss, b_eql, b_neq, b_add, b_sub, on_lt, on_le, on_gt, on_ge, on_eq, on_ne, decide_true, decide_false, Nat.reduceEqDiff, Nat.reduceLT, Bool.not_true, Bool.not_false, List.getElem?_cons_zero, List.getElem?_cons_succ, len_nils, len_imm, len_sl, len_str, natOf, readA, okU, Option.bind_some, newLoc, oldDer, clearT, initT, Tr.get, Nat.beq_refl, List.contains_cons, beq_self_eq_true, Bool.true_or, Bool.or_true, Nat.reduceBEq, Bool.false_or, oneV, get3a, get3b, get3c, ofc_one, cells3, s_eql, strBin, *]); with_reducible exact rfl))
    | ((with_reducible apply wr_yes); (case hg => (simp only [aop, evalO, nlO, nl_bool, nl_int, nl_ptr, nl_nilp, nl_nils, nl_imm, nl_tup, nl_agg, nl_func, nl_str, nl_sl, nl_iptr, nlAll, ok1, callA, List.append_nil, List.nil_append, get_nd, cond_true, cond_false, Option.getD_some, Nat.beq, b_gtr, b_geq, b_leq, b_lss, b_eql, b_neq, b_add, b_sub, on_lt, on_le, on_gt, on_ge, on_eq, on_ne, decide_true, decide_false, Nat.reduceEqDiff, Nat.reduceLT, Bool.not_true, Bool.not_false, List.getElem?_cons_zero, List.getElem?_cons_succ, len_nils, len_imm, len_sl, len_str, natOf, readA, okU, Option.bind_some, newLoc, oldDer, clearT, initT, Tr.get, Nat.beq_refl, List.contains_cons, beq_self_eq_true, Bool.true_or, Bool.or_true, Nat.reduceBEq, Bool.false_or, oneV, get3a, get3b, get3c, ofc_one, cells3, s_eql, strBin, *])); (case ho => ((simp only [aop, evalO, nlO, nl_bool, nl_int, nl_ptr, nl_nilp, nl_nils, nl_imm, nl_tup, nl_agg, nl_func, nl_str, nl_sl, nl_iptr, nlAll, ok1, callA, List.append_nil, List.nil_append, get_nd, cond_true, cond_false, Option.getD_some, Nat.beq, b_gtr, b_geq, b_leq, b_lss, b_eql, b_neq, b_add, b_sub, on_lt, on_le, on_gt, on_ge, on_eq, on_ne, decide_true, decide_false, Nat.reduceEqDiff, Nat.reduceLT, Bool.not_true, Bool.not_false, List.getElem?_cons_zero, List.getElem?_cons_succ, len_nils, len_imm, len_sl, len_str, natOf, readA, okU, Option.bind_some, newLoc, oldDer, clearT, initT, Tr.get, Nat.beq_refl, List.contains_cons, beq_self_eq_true, Bool.true_or, Bool.or_true, Nat.reduceBEq, Bool.false_or, oneV, get3a, get3b, get3c, ofc_one, cells3, s_eql, strBin, *]); with_reducible exact rfl)))
    | ((with_reducible refine wr_no ?hg ?_); case hg => (simp only [aop, evalO, nlO, nl_bool, nl_int, nl_ptr, nl_nilp, nl_nils, nl_imm, nl_tup, nl_agg, nl_func, nl_str, nl_sl, nl_iptr, nlAll, ok1, callA, List.append_nil, List.nil_append, get_nd, cond_true, cond_false, Option.getD_some, Nat.beq, b_gtr, b_geq, b_leq, b_lss, b_eql, b_neq, b_add, b_sub, on_lt, on_le, on_gt, on_ge, on_eq, on_ne, decide_true, decide_false, Nat.reduceEqDiff, Nat.reduceLT, Bool.not_true, Bool.not_false, List.getElem?_cons_zero, List.getElem?_cons_succ, len_nils, len_imm, len_sl, len_str, natOf, readA, okU, Option.bind_some, newLoc, oldDer, clearT, initT, Tr.get, Nat.beq_refl, List.contains_cons, beq_self_eq_true, Bool.true_or, Bool.or_true, Nat.reduceBEq, Bool.false_or, oneV, get3a, get3b, get3c, ofc_one, cells3, s_eql, strBin, *]))
    | ((with_reducible refine wc_true ?hc ?_); case hc => (simp only [aop, evalO, nlO, nl_bool, nl_int, nl_ptr, nl_nilp, nl_nils, nl_imm, nl_tup, nl_agg, nl_func, nl_str, nl_sl, nl_iptr, nlAll, ok1, callA, List.append_nil, List.nil_append, get_nd, cond_true, cond_false, Option.getD_some, Nat.beq, b_gtr, b_geq, b_leq, b_lss, b_eql, b_neq, b_add, b_sub, on_lt, on_le, on_gt, on_ge, on_eq, on_ne, decide_true, decide_false, Nat.reduceEqDiff, Nat.reduceLT, Bool.not_true, Bool.not_false, List.getElem?_cons_zero, List.getElem?_cons_succ, len_nils, len_imm, len_sl, len_str, natOf, readA, okU, Option.bind_some, newLoc, oldDer, clearT, initT, Tr.get, Nat.beq_refl, List.contains_cons, beq_self_eq_true, Bool.true_or, Bool.or_true, Nat.reduceBEq, Bool.false_or, oneV, get3a, get3b, get3c, ofc_one, cells3, s_eql, strBin, *]))
    | ((with_reducible refine wc_false ?hc ?_); case hc => (simp only [aop, evalO, nlO, nl_bool, nl_int, nl_ptr, nl_nilp, nl_nils, nl_imm, nl_tup, nl_agg, nl_func, nl_str, nl_sl, nl_iptr, nlAll, ok1, callA, List.append_nil, List.nil_append, get_nd, cond_true, cond_false, Option.getD_some, Nat.beq, b_gtr, b_geq, b_leq, b_lss, b_eql, b_neq, b_add, b_sub, on_lt, on_le, on_gt, on_ge, on_eq, on_ne, decide_true, decide_false, Nat.reduceEqDiff, Nat.reduceLT, Bool.not_true, Bool.not_false, List.getElem?_cons_zero, List.getElem?_cons_succ, len_nils, len_imm, len_sl, len_str, natOf, readA, okU, Option.bind_some, newLoc, oldDer, clearT, initT, Tr.get, Nat.beq_refl, List.contains_cons, beq_self_eq_true, Bool.true_or, Bool.or_true, Nat.reduceBEq, Bool.false_or, oneV, get3a, get3b, get3c, ofc_one, cells3, s_eql, strBin, *]))
    | ((with_reducible apply wr_split); (case hg => ((simp only [aop, evalO, nlO, nl_bool, nl_int, nl_ptr, nl_nilp, nl_nils, nl_imm, nl_tup, nl_agg, nl_func, nl_str, nl_sl, nl_iptr, nlAll, ok1, callA, List.append_nil, List.nil_append, get_nd, cond_true, cond_false, Option.getD_some, Nat.beq, b_gtr, b_geq, b_leq, b_lss, b_eql, b_neq, b_add, b_sub, on_lt, on_le, on_gt, on_ge, on_eq, on_ne, decide_true, decide_false, Nat.reduceEqDiff, Nat.reduceLT, Bool.not_true, Bool.not_false, List.getElem?_cons_zero, List.getElem?_cons_succ, len_nils, len_imm, len_sl, len_str, natOf, readA, okU, Option.bind_some, newLoc, oldDer, clearT, initT, Tr.get, Nat.beq_refl, List.contains_cons, beq_self_eq_true, Bool.true_or, Bool.or_true, Nat.reduceBEq, Bool.false_or, oneV, get3a, get3b, get3c, ofc_one, cells3, s_eql, strBin, *]); with_reducible exact rfl)); (all_goals intro hb))
    | ((with_reducible apply wc_if); (case hc => ((simp only [aop, evalO, nlO, nl_bool, nl_int, nl_ptr, nl_nilp, nl_nils, nl_imm, nl_tup, nl_agg, nl_func, nl_str, nl_sl, nl_iptr, nlAll, ok1, callA, List.append_nil, List.nil_append, get_nd, cond_true, cond_false, Option.getD_some, Nat.beq, b_gtr, b_geq, b_leq, b_lss, b_eql, b_neq, b_add, b_sub, on_lt, on_le, on_gt, on_ge, on_eq, on_ne, decide_true, decide_false, Nat.reduceEqDiff, Nat.reduceLT, Bool.not_true, Bool.not_false, List.getElem?_cons_zero, List.getElem?_cons_succ, len_nils, len_imm, len_sl, len_str, natOf, readA, okU, Option.bind_some, newLoc, oldDer, clearT, initT, Tr.get, Nat.beq_refl, List.contains_cons, beq_self_eq_true, Bool.true_or, Bool.or_true, Nat.reduceBEq, Bool.false_or, oneV, get3a, get3b, get3c, ofc_one, cells3, s_eql, strBin, *]); with_reducible exact rfl)); (all_goals intro hb))
    | with_reducible refine wc_skip ?_
    | with_reducible refine wc_ret ?_
    | with_reducible refine wc_exit ?_
    | with_reducible refine sk_ret ?_
    | with_reducible refine sk_exit ?_
    | with_reducible refine bk_normal ?_
    | with_reducible refine bk_ret ?_
    | with_reducible refine bk_here ?_)
  all_goals
    apply retQ_mk
    case he => first | exact Or.inr rfl | exact Or.inl rfl
    case hres => ((simp only [resA, get_nd, Nat.beq, cond_true, cond_false, Option.getD_some, nl_bool, nl_int, nl_nils, nl_imm, nl_agg, nl_str, nl_ptr, nl_nilp, nl_sl]); with_reducible exact rfl)
    case hfr => exact rfl
    case hR => exact ⟨_, rfl⟩
end ZC
