/- Part 17 of this claim: an abstract interpreter over the model, its soundness, and what is run in it. -/
import Derived.Test.YthnhpmbmadmmhaaGreatW15
set_option maxRecDepth 20000
set_option linter.unusedSimpArgs false
set_option linter.unusedVariables false
/- SorterCounts: the law's own run. -/
open Wab Go
namespace ZC
set_option maxRecDepth 100000
set_option linter.unusedSimpArgs false
set_option linter.unusedVariables false

theorem runs11 (O D : Oracle) (n : Nat) (G : Option Nat) (x : AVal) (hnl : nl x = some x) (most : Nat) (hC : ∀ h, ∃ r, O 20 [x, .int .i64 (.ofNat most)] h = some (r, h) ∧ isC G r) (hn : 8 < n) (h : AHeap) :
    runFn O D n ProgZ.a11 [x, .int .i64 (.ofNat most)] h = some (resP G, h) := by
  obtain ⟨n, rfl⟩ : ∃ m, n = m + 8 := ⟨n - 8, by omega⟩
  refine fn_pure ?_
  generalize ({ h with lock := h.next } : AHeap) = H
  obtain ⟨r, h20, hr⟩ := hC H
  cases G with
  | some m =>
    obtain ⟨L, rfl, hL1, hL2⟩ := hr
    repeat (first
      | with_reducible refine wc_seq ?_
      | with_reducible refine wc_region ?_
      | with_reducible refine wr_nil ?_
      | with_reducible refine sk_normal ?_
      | with_reducible refine wc_block ?_
      | ((with_reducible apply wr_some); case ho => ((simp only [aop, evalO, nlO, nl_bool, nl_int, nl_ptr, nl_nilp, nl_nils, nl_imm, nl_tup, nl_agg, nl_func, nl_str, nl_sl, nl_iptr, nlAll, ok1, callA, List.append_nil, List.nil_append, get_nd, cond_true, cond_false, Option.getD_some, Nat.beq, b_gtr, b_geq, b_leq, b_lss, b_eql, b_neq, b_add, b_sub, on_lt, on_le, on_gt, on_ge, on_eq, on_ne, decide_true, decide_false, Nat.reduceEqDiff, Nat.reduceLT, Bool.not_true, Bool.not_false, List.getElem?_cons_zero, List.getElem?_cons_succ, len_nils, len_imm, len_sl, len_str, natOf, readA, okU, Option.bind_some, h20, hnl, hL1, hL2, initT]); with_reducible exact rfl))
      | ((with_reducible apply wr_none); case ho => ((simp only [aop, evalO, nlO, nl_bool, nl_int, nl_ptr, nl_nilp, nl_nils, nl_imm, nl_tup, nl_agg, nl_func, nl_str, nl_sl, nl_iptr, nlAll, ok1, callA, List.append_nil, List.nil_append, get_nd, cond_true, cond_false, Option.getD_some, Nat.beq, b_gtr, b_geq, b_leq, b_lss, b_eql, b_neq, b_add, b_sub, on_lt, on_le, on_gt, on_ge, on_eq, on_ne, decide_true, decide_false, Nat.reduceEqDiff, Nat.reduceLT, Bool.not_true, Bool.not_false, List.getElem?_cons_zero, List.getElem?_cons_succ, len_nils, len_imm, len_sl, len_str, natOf, readA, okU, Option.bind_some, h20, hnl, hL1, hL2, initT]); with_reducible exact rfl))
      | ((with_reducible apply wr_yes); (case hg => (simp only [aop, evalO, nlO, nl_bool, nl_int, nl_ptr, nl_nilp, nl_nils, nl_imm, nl_tup, nl_agg, nl_func, nl_str, nl_sl, nl_iptr, nlAll, ok1, callA, List.append_nil, List.nil_append, get_nd, cond_true, cond_false, Option.getD_some, Nat.beq, b_gtr, b_geq, b_leq, b_lss, b_eql, b_neq, b_add, b_sub, on_lt, on_le, on_gt, on_ge, on_eq, on_ne, decide_true, decide_false, Nat.reduceEqDiff, Nat.reduceLT, Bool.not_true, Bool.not_false, List.getElem?_cons_zero, List.getElem?_cons_succ, len_nils, len_imm, len_sl, len_str, natOf, readA, okU, Option.bind_some, h20, hnl, hL1, hL2, initT])); (case ho => ((simp only [aop, evalO, nlO, nl_bool, nl_int, nl_ptr, nl_nilp, nl_nils, nl_imm, nl_tup, nl_agg, nl_func, nl_str, nl_sl, nl_iptr, nlAll, ok1, callA, List.append_nil, List.nil_append, get_nd, cond_true, cond_false, Option.getD_some, Nat.beq, b_gtr, b_geq, b_leq, b_lss, b_eql, b_neq, b_add, b_sub, on_lt, on_le, on_gt, on_ge, on_eq, on_ne, decide_true, decide_false, Nat.reduceEqDiff, Nat.reduceLT, Bool.not_true, Bool.not_false, List.getElem?_cons_zero, List.getElem?_cons_succ, len_nils, len_imm, len_sl, len_str, natOf, readA, okU, Option.bind_some, h20, hnl, hL1, hL2, initT]); with_reducible exact rfl)))
      | ((with_reducible refine wr_no ?hg ?_); case hg => (simp only [aop, evalO, nlO, nl_bool, nl_int, nl_ptr, nl_nilp, nl_nils, nl_imm, nl_tup, nl_agg, nl_func, nl_str, nl_sl, nl_iptr, nlAll, ok1, callA, List.append_nil, List.nil_append, get_nd, cond_true, cond_false, Option.getD_some, Nat.beq, b_gtr, b_geq, b_leq, b_lss, b_eql, b_neq, b_add, b_sub, on_lt, on_le, on_gt, on_ge, on_eq, on_ne, decide_true, decide_false, Nat.reduceEqDiff, Nat.reduceLT, Bool.not_true, Bool.not_false, List.getElem?_cons_zero, List.getElem?_cons_succ, len_nils, len_imm, len_sl, len_str, natOf, readA, okU, Option.bind_some, h20, hnl, hL1, hL2, initT]))
      | ((with_reducible refine wc_true ?hc ?_); case hc => (simp only [aop, evalO, nlO, nl_bool, nl_int, nl_ptr, nl_nilp, nl_nils, nl_imm, nl_tup, nl_agg, nl_func, nl_str, nl_sl, nl_iptr, nlAll, ok1, callA, List.append_nil, List.nil_append, get_nd, cond_true, cond_false, Option.getD_some, Nat.beq, b_gtr, b_geq, b_leq, b_lss, b_eql, b_neq, b_add, b_sub, on_lt, on_le, on_gt, on_ge, on_eq, on_ne, decide_true, decide_false, Nat.reduceEqDiff, Nat.reduceLT, Bool.not_true, Bool.not_false, List.getElem?_cons_zero, List.getElem?_cons_succ, len_nils, len_imm, len_sl, len_str, natOf, readA, okU, Option.bind_some, h20, hnl, hL1, hL2, initT]))
      | ((with_reducible refine wc_false ?hc ?_); case hc => (simp only [aop, evalO, nlO, nl_bool, nl_int, nl_ptr, nl_nilp, nl_nils, nl_imm, nl_tup, nl_agg, nl_func, nl_str, nl_sl, nl_iptr, nlAll, ok1, callA, List.append_nil, List.nil_append, get_nd, cond_true, cond_false, Option.getD_some, Nat.beq, b_gtr, b_geq, b_leq, b_lss, b_eql, b_neq, b_add, b_sub, on_lt, on_le, on_gt, on_ge, on_eq, on_ne, decide_true, decide_false, Nat.reduceEqDiff, Nat.reduceLT, Bool.not_true, Bool.not_false, List.getElem?_cons_zero, List.getElem?_cons_succ, len_nils, len_imm, len_sl, len_str, natOf, readA, okU, Option.bind_some, h20, hnl, hL1, hL2, initT]))
      | with_reducible refine wc_skip ?_
      | with_reducible refine wc_ret ?_
      | with_reducible refine wc_exit ?_
      | with_reducible refine sk_ret ?_
      | with_reducible refine sk_exit ?_
      | with_reducible refine bk_normal ?_
      | with_reducible refine bk_ret ?_
      | with_reducible refine bk_here ?_)
    exact ⟨.inr rfl, rfl, [.int .i64 (.ofNat m), .int .i64 (.ofNat 0)], by simp only [resA, get_nd, Nat.beq, cond_true, cond_false, Option.getD_some, nl_bool, nl_int, nl_nils, nl_imm, nl_agg, nl_str, nl_ptr, nl_nilp, nl_sl], rfl⟩
  | none =>
    have hr : r = .tup [.nils, .int .i64 (.ofNat 5)] := hr
    subst hr
    repeat (first
      | with_reducible refine wc_seq ?_
      | with_reducible refine wc_region ?_
      | with_reducible refine wr_nil ?_
      | with_reducible refine sk_normal ?_
      | with_reducible refine wc_block ?_
      | ((with_reducible apply wr_some); case ho => ((simp only [aop, evalO, nlO, nl_bool, nl_int, nl_ptr, nl_nilp, nl_nils, nl_imm, nl_tup, nl_agg, nl_func, nl_str, nl_sl, nl_iptr, nlAll, ok1, callA, List.append_nil, List.nil_append, get_nd, cond_true, cond_false, Option.getD_some, Nat.beq, b_gtr, b_geq, b_leq, b_lss, b_eql, b_neq, b_add, b_sub, on_lt, on_le, on_gt, on_ge, on_eq, on_ne, decide_true, decide_false, Nat.reduceEqDiff, Nat.reduceLT, Bool.not_true, Bool.not_false, List.getElem?_cons_zero, List.getElem?_cons_succ, len_nils, len_imm, len_sl, len_str, natOf, readA, okU, Option.bind_some, h20, hnl, initT]); with_reducible exact rfl))
      | ((with_reducible apply wr_none); case ho => ((simp only [aop, evalO, nlO, nl_bool, nl_int, nl_ptr, nl_nilp, nl_nils, nl_imm, nl_tup, nl_agg, nl_func, nl_str, nl_sl, nl_iptr, nlAll, ok1, callA, List.append_nil, List.nil_append, get_nd, cond_true, cond_false, Option.getD_some, Nat.beq, b_gtr, b_geq, b_leq, b_lss, b_eql, b_neq, b_add, b_sub, on_lt, on_le, on_gt, on_ge, on_eq, on_ne, decide_true, decide_false, Nat.reduceEqDiff, Nat.reduceLT, Bool.not_true, Bool.not_false, List.getElem?_cons_zero, List.getElem?_cons_succ, len_nils, len_imm, len_sl, len_str, natOf, readA, okU, Option.bind_some, h20, hnl, initT]); with_reducible exact rfl))
      | ((with_reducible apply wr_yes); (case hg => (simp only [aop, evalO, nlO, nl_bool, nl_int, nl_ptr, nl_nilp, nl_nils, nl_imm, nl_tup, nl_agg, nl_func, nl_str, nl_sl, nl_iptr, nlAll, ok1, callA, List.append_nil, List.nil_append, get_nd, cond_true, cond_false, Option.getD_some, Nat.beq, b_gtr, b_geq, b_leq, b_lss, b_eql, b_neq, b_add, b_sub, on_lt, on_le, on_gt, on_ge, on_eq, on_ne, decide_true, decide_false, Nat.reduceEqDiff, Nat.reduceLT, Bool.not_true, Bool.not_false, List.getElem?_cons_zero, List.getElem?_cons_succ, len_nils, len_imm, len_sl, len_str, natOf, readA, okU, Option.bind_some, h20, hnl, initT])); (case ho => ((simp only [aop, evalO, nlO, nl_bool, nl_int, nl_ptr, nl_nilp, nl_nils, nl_imm, nl_tup, nl_agg, nl_func, nl_str, nl_sl, nl_iptr, nlAll, ok1, callA, List.append_nil, List.nil_append, get_nd, cond_true, cond_false, Option.getD_some, Nat.beq, b_gtr, b_geq, b_leq, b_lss, b_eql, b_neq, b_add, b_sub, on_lt, on_le, on_gt, on_ge, on_eq, on_ne, decide_true, decide_false, Nat.reduceEqDiff, Nat.reduceLT, Bool.not_true, Bool.not_false, List.getElem?_cons_zero, List.getElem?_cons_succ, len_nils, len_imm, len_sl, len_str, natOf, readA, okU, Option.bind_some, h20, hnl, initT]); with_reducible exact rfl)))
      | ((with_reducible refine wr_no ?hg ?_); case hg => (simp only [aop, evalO, nlO, nl_bool, nl_int, nl_ptr, nl_nilp, nl_nils, nl_imm, nl_tup, nl_agg, nl_func, nl_str, nl_sl, nl_iptr, nlAll, ok1, callA, List.append_nil, List.nil_append, get_nd, cond_true, cond_false, Option.getD_some, Nat.beq, b_gtr, b_geq, b_leq, b_lss, b_eql, b_neq, b_add, b_sub, on_lt, on_le, on_gt, on_ge, on_eq, on_ne, decide_true, decide_false, Nat.reduceEqDiff, Nat.reduceLT, Bool.not_true, Bool.not_false, List.getElem?_cons_zero, List.getElem?_cons_succ, len_nils, len_imm, len_sl, len_str, natOf, readA, okU, Option.bind_some, h20, hnl, initT]))
      | ((with_reducible refine wc_true ?hc ?_); case hc => (simp only [aop, evalO, nlO, nl_bool, nl_int, nl_ptr, nl_nilp, nl_nils, nl_imm, nl_tup, nl_agg, nl_func, nl_str, nl_sl, nl_iptr, nlAll, ok1, callA, List.append_nil, List.nil_append, get_nd, cond_true, cond_false, Option.getD_some, Nat.beq, b_gtr, b_geq, b_leq, b_lss, b_eql, b_neq, b_add, b_sub, on_lt, on_le, on_gt, on_ge, on_eq, on_ne, decide_true, decide_false, Nat.reduceEqDiff, Nat.reduceLT, Bool.not_true, Bool.not_false, List.getElem?_cons_zero, List.getElem?_cons_succ, len_nils, len_imm, len_sl, len_str, natOf, readA, okU, Option.bind_some, h20, hnl, initT]))
      | ((with_reducible refine wc_false ?hc ?_); case hc => (simp only [aop, evalO, nlO, nl_bool, nl_int, nl_ptr, nl_nilp, nl_nils, nl_imm, nl_tup, nl_agg, nl_func, nl_str, nl_sl, nl_iptr, nlAll, ok1, callA, List.append_nil, List.nil_append, get_nd, cond_true, cond_false, Option.getD_some, Nat.beq, b_gtr, b_geq, b_leq, b_lss, b_eql, b_neq, b_add, b_sub, on_lt, on_le, on_gt, on_ge, on_eq, on_ne, decide_true, decide_false, Nat.reduceEqDiff, Nat.reduceLT, Bool.not_true, Bool.not_false, List.getElem?_cons_zero, List.getElem?_cons_succ, len_nils, len_imm, len_sl, len_str, natOf, readA, okU, Option.bind_some, h20, hnl, initT]))
      | with_reducible refine wc_skip ?_
      | with_reducible refine wc_ret ?_
      | with_reducible refine wc_exit ?_
      | with_reducible refine sk_ret ?_
      | with_reducible refine sk_exit ?_
      | with_reducible refine bk_normal ?_
      | with_reducible refine bk_ret ?_
      | with_reducible refine bk_here ?_)
    exact ⟨.inr rfl, rfl, [.int .i64 (.ofNat 0), .int .i64 (.ofNat 5)], by simp only [resA, get_nd, Nat.beq, cond_true, cond_false, Option.getD_some, nl_bool, nl_int, nl_nils, nl_imm, nl_agg, nl_str, nl_ptr, nl_nilp, nl_sl], rfl⟩

theorem rem30 (a : Nat) : intBin .rem .u32 (Int.ofNat a) (Int.ofNat 1073741824) = some (.int .u32 (Int.ofNat (a % 1073741824))) := rfl

theorem law4O (O D : Oracle) (n : Nat) (x z : AVal) (G : Option Nat) (M R : Nat) (fan : Int) (hx : nl x = some x) (hz : nl z = some z) (h9 : O 9 [x] h00 = some (z, h00))
    (h10 : ∀ h, O 10 [z, .int .i64 (.ofNat (M % 1073741824))] h = some (resP G, h)) (h11 : ∀ h, O 11 [z, .int .i64 (.ofNat (M % 1073741824))] h = some (resP G, h)) (h5 : O 5 [] h00 = some (.bool true, h00))
    (h12 : ∀ r h, r ≤ 1073741824 → O 12 [.int .i64 r, .int .i64 fan] h = some (.int .i64 (.ofNat (pasI r fan)), h)) (h13 : ∀ r h, r ≤ 1073741824 → O 13 [.int .i64 r, .int .i64 fan] h = some (.int .i64 (.ofNat (pasI r fan)), h)) (hn : 8 < n) :
    runFn O D n ProgZ.a4 [x, .int .u32 (.ofNat M), .int .u32 (.ofNat R), .int .i64 fan] h00 = some (.bool true, h00) := by
  obtain ⟨n, rfl⟩ : ∃ m, n = m + 8 := ⟨n - 8, by omega⟩
  refine fn_pure ?_
  change WC O (n + 8) _ ⟨initT [x, .int .u32 (.ofNat M), .int .u32 (.ofNat R), .int .i64 fan] 0 .lf, .lf, h00, []⟩ _
  have hR : R % 1073741824 < 1073741824 := Nat.mod_lt _ (by decide)
  have w1 := wrap64 (M % 1073741824) (by have := Nat.mod_lt M (show 1073741824 > 0 by decide); omega)
  have w2 := wrap64 (R % 1073741824) (by omega)
  have p1 := h12 (.ofNat (R % 1073741824)) h00 (by show ((R % 1073741824 : Nat) : Int) ≤ 1073741824; omega)
  have p2 := h13 (.ofNat (R % 1073741824)) h00 (by show ((R % 1073741824 : Nat) : Int) ≤ 1073741824; omega)
  have w3 : wrapI .i64 (0 - Int.ofNat (R % 1073741824)) = 0 - Int.ofNat (R % 1073741824) := IntWalk.i64_in _ ⟨(by show (-9223372036854775808 : Int) ≤ 0 - ((R % 1073741824 : Nat) : Int); omega), (by show 0 - ((R % 1073741824 : Nat) : Int) ≤ 9223372036854775807; omega)⟩
  have p3 := h12 (0 - Int.ofNat (R % 1073741824)) h00 (by show 0 - ((R % 1073741824 : Nat) : Int) ≤ 1073741824; omega)
  have e3 : pasI (0 - Int.ofNat (R % 1073741824)) fan = 0 := if_pos (.inl (by show 0 - ((R % 1073741824 : Nat) : Int) < 1; omega))
  rw [e3] at p3
  have q9 := h9
  have q10 := h10 h00
  have q11 := h11 h00
  cases G with
  | some m =>
    simp only [resP] at q10 q11
    repeat (first
      | with_reducible refine wc_seq ?_
      | with_reducible refine wc_region ?_
      | with_reducible refine wr_nil ?_
      | with_reducible refine sk_normal ?_
      | with_reducible refine wc_block ?_
      | ((with_reducible apply wr_some); case ho => ((simp only [aop, evalO, nlO, nl_bool, nl_int, nl_ptr, nl_nilp, nl_nils, nl_imm, nl_tup, nl_agg, nl_func, nl_str, nl_sl, nl_iptr, nlAll, ok1, callA, List.append_nil, List.nil_append, get_nd, cond_true, cond_false, Option.getD_some, Nat.beq, b_gtr, b_geq, b_leq, b_lss, b_eql, b_neq, b_add, b_sub, on_lt, on_le, on_gt, on_ge, on_eq, on_ne, decide_true, decide_false, Nat.reduceEqDiff, Nat.reduceLT, Bool.not_true, Bool.not_false, List.getElem?_cons_zero, List.getElem?_cons_succ, len_nils, len_imm, len_sl, len_str, natOf, readA, okU, Option.bind_some, q9, q10, q11, h5, p1, p2, p3, w1, w2, w3, hx, hz, b_rem, rem30, unA, initT, eq_self]); with_reducible exact rfl))
      | ((with_reducible apply wr_none); case ho => ((simp only [aop, evalO, nlO, nl_bool, nl_int, nl_ptr, nl_nilp, nl_nils, nl_imm, nl_tup, nl_agg, nl_func, nl_str, nl_sl, nl_iptr, nlAll, ok1, callA, List.append_nil, List.nil_append, get_nd, cond_true, cond_false, Option.getD_some, Nat.beq, b_gtr, b_geq, b_leq, b_lss, b_eql, b_neq, b_add, b_sub, on_lt, on_le, on_gt, on_ge, on_eq, on_ne, decide_true, decide_false, Nat.reduceEqDiff, Nat.reduceLT, Bool.not_true, Bool.not_false, List.getElem?_cons_zero, List.getElem?_cons_succ, len_nils, len_imm, len_sl, len_str, natOf, readA, okU, Option.bind_some, q9, q10, q11, h5, p1, p2, p3, w1, w2, w3, hx, hz, b_rem, rem30, unA, initT, eq_self]); with_reducible exact rfl))
      | ((with_reducible apply wr_yes); (case hg => (simp only [aop, evalO, nlO, nl_bool, nl_int, nl_ptr, nl_nilp, nl_nils, nl_imm, nl_tup, nl_agg, nl_func, nl_str, nl_sl, nl_iptr, nlAll, ok1, callA, List.append_nil, List.nil_append, get_nd, cond_true, cond_false, Option.getD_some, Nat.beq, b_gtr, b_geq, b_leq, b_lss, b_eql, b_neq, b_add, b_sub, on_lt, on_le, on_gt, on_ge, on_eq, on_ne, decide_true, decide_false, Nat.reduceEqDiff, Nat.reduceLT, Bool.not_true, Bool.not_false, List.getElem?_cons_zero, List.getElem?_cons_succ, len_nils, len_imm, len_sl, len_str, natOf, readA, okU, Option.bind_some, q9, q10, q11, h5, p1, p2, p3, w1, w2, w3, hx, hz, b_rem, rem30, unA, initT, eq_self])); (case ho => ((simp only [aop, evalO, nlO, nl_bool, nl_int, nl_ptr, nl_nilp, nl_nils, nl_imm, nl_tup, nl_agg, nl_func, nl_str, nl_sl, nl_iptr, nlAll, ok1, callA, List.append_nil, List.nil_append, get_nd, cond_true, cond_false, Option.getD_some, Nat.beq, b_gtr, b_geq, b_leq, b_lss, b_eql, b_neq, b_add, b_sub, on_lt, on_le, on_gt, on_ge, on_eq, on_ne, decide_true, decide_false, Nat.reduceEqDiff, Nat.reduceLT, Bool.not_true, Bool.not_false, List.getElem?_cons_zero, List.getElem?_cons_succ, len_nils, len_imm, len_sl, len_str, natOf, readA, okU, Option.bind_some, q9, q10, q11, h5, p1, p2, p3, w1, w2, w3, hx, hz, b_rem, rem30, unA, initT, eq_self]); with_reducible exact rfl)))
      | ((with_reducible refine wr_no ?hg ?_); case hg => (simp only [aop, evalO, nlO, nl_bool, nl_int, nl_ptr, nl_nilp, nl_nils, nl_imm, nl_tup, nl_agg, nl_func, nl_str, nl_sl, nl_iptr, nlAll, ok1, callA, List.append_nil, List.nil_append, get_nd, cond_true, cond_false, Option.getD_some, Nat.beq, b_gtr, b_geq, b_leq, b_lss, b_eql, b_neq, b_add, b_sub, on_lt, on_le, on_gt, on_ge, on_eq, on_ne, decide_true, decide_false, Nat.reduceEqDiff, Nat.reduceLT, Bool.not_true, Bool.not_false, List.getElem?_cons_zero, List.getElem?_cons_succ, len_nils, len_imm, len_sl, len_str, natOf, readA, okU, Option.bind_some, q9, q10, q11, h5, p1, p2, p3, w1, w2, w3, hx, hz, b_rem, rem30, unA, initT, eq_self]))
      | ((with_reducible refine wc_true ?hc ?_); case hc => (simp only [aop, evalO, nlO, nl_bool, nl_int, nl_ptr, nl_nilp, nl_nils, nl_imm, nl_tup, nl_agg, nl_func, nl_str, nl_sl, nl_iptr, nlAll, ok1, callA, List.append_nil, List.nil_append, get_nd, cond_true, cond_false, Option.getD_some, Nat.beq, b_gtr, b_geq, b_leq, b_lss, b_eql, b_neq, b_add, b_sub, on_lt, on_le, on_gt, on_ge, on_eq, on_ne, decide_true, decide_false, Nat.reduceEqDiff, Nat.reduceLT, Bool.not_true, Bool.not_false, List.getElem?_cons_zero, List.getElem?_cons_succ, len_nils, len_imm, len_sl, len_str, natOf, readA, okU, Option.bind_some, q9, q10, q11, h5, p1, p2, p3, w1, w2, w3, hx, hz, b_rem, rem30, unA, initT, eq_self]))
      | ((with_reducible refine wc_false ?hc ?_); case hc => (simp only [aop, evalO, nlO, nl_bool, nl_int, nl_ptr, nl_nilp, nl_nils, nl_imm, nl_tup, nl_agg, nl_func, nl_str, nl_sl, nl_iptr, nlAll, ok1, callA, List.append_nil, List.nil_append, get_nd, cond_true, cond_false, Option.getD_some, Nat.beq, b_gtr, b_geq, b_leq, b_lss, b_eql, b_neq, b_add, b_sub, on_lt, on_le, on_gt, on_ge, on_eq, on_ne, decide_true, decide_false, Nat.reduceEqDiff, Nat.reduceLT, Bool.not_true, Bool.not_false, List.getElem?_cons_zero, List.getElem?_cons_succ, len_nils, len_imm, len_sl, len_str, natOf, readA, okU, Option.bind_some, q9, q10, q11, h5, p1, p2, p3, w1, w2, w3, hx, hz, b_rem, rem30, unA, initT, eq_self]))
      | with_reducible refine wc_skip ?_
      | with_reducible refine wc_ret ?_
      | with_reducible refine wc_exit ?_
      | with_reducible refine sk_ret ?_
      | with_reducible refine sk_exit ?_
      | with_reducible refine bk_normal ?_
      | with_reducible refine bk_ret ?_
      | with_reducible refine bk_here ?_)
    exact ⟨.inr rfl, rfl, [.bool true], by simp only [resA, get_nd, Nat.beq, cond_true, cond_false, Option.getD_some, nl_bool, nl_int, nl_nils, nl_imm, nl_agg, nl_str, nl_ptr, nl_nilp, nl_sl], rfl⟩
  | none =>
    simp only [resP] at q10 q11
    repeat (first
      | with_reducible refine wc_seq ?_
      | with_reducible refine wc_region ?_
      | with_reducible refine wr_nil ?_
      | with_reducible refine sk_normal ?_
      | with_reducible refine wc_block ?_
      | ((with_reducible apply wr_some); case ho => ((simp only [aop, evalO, nlO, nl_bool, nl_int, nl_ptr, nl_nilp, nl_nils, nl_imm, nl_tup, nl_agg, nl_func, nl_str, nl_sl, nl_iptr, nlAll, ok1, callA, List.append_nil, List.nil_append, get_nd, cond_true, cond_false, Option.getD_some, Nat.beq, b_gtr, b_geq, b_leq, b_lss, b_eql, b_neq, b_add, b_sub, on_lt, on_le, on_gt, on_ge, on_eq, on_ne, decide_true, decide_false, Nat.reduceEqDiff, Nat.reduceLT, Bool.not_true, Bool.not_false, List.getElem?_cons_zero, List.getElem?_cons_succ, len_nils, len_imm, len_sl, len_str, natOf, readA, okU, Option.bind_some, q9, q10, q11, h5, p1, p2, p3, w1, w2, w3, hx, hz, b_rem, rem30, unA, initT, eq_self]); with_reducible exact rfl))
      | ((with_reducible apply wr_none); case ho => ((simp only [aop, evalO, nlO, nl_bool, nl_int, nl_ptr, nl_nilp, nl_nils, nl_imm, nl_tup, nl_agg, nl_func, nl_str, nl_sl, nl_iptr, nlAll, ok1, callA, List.append_nil, List.nil_append, get_nd, cond_true, cond_false, Option.getD_some, Nat.beq, b_gtr, b_geq, b_leq, b_lss, b_eql, b_neq, b_add, b_sub, on_lt, on_le, on_gt, on_ge, on_eq, on_ne, decide_true, decide_false, Nat.reduceEqDiff, Nat.reduceLT, Bool.not_true, Bool.not_false, List.getElem?_cons_zero, List.getElem?_cons_succ, len_nils, len_imm, len_sl, len_str, natOf, readA, okU, Option.bind_some, q9, q10, q11, h5, p1, p2, p3, w1, w2, w3, hx, hz, b_rem, rem30, unA, initT, eq_self]); with_reducible exact rfl))
      | ((with_reducible apply wr_yes); (case hg => (simp only [aop, evalO, nlO, nl_bool, nl_int, nl_ptr, nl_nilp, nl_nils, nl_imm, nl_tup, nl_agg, nl_func, nl_str, nl_sl, nl_iptr, nlAll, ok1, callA, List.append_nil, List.nil_append, get_nd, cond_true, cond_false, Option.getD_some, Nat.beq, b_gtr, b_geq, b_leq, b_lss, b_eql, b_neq, b_add, b_sub, on_lt, on_le, on_gt, on_ge, on_eq, on_ne, decide_true, decide_false, Nat.reduceEqDiff, Nat.reduceLT, Bool.not_true, Bool.not_false, List.getElem?_cons_zero, List.getElem?_cons_succ, len_nils, len_imm, len_sl, len_str, natOf, readA, okU, Option.bind_some, q9, q10, q11, h5, p1, p2, p3, w1, w2, w3, hx, hz, b_rem, rem30, unA, initT, eq_self])); (case ho => ((simp only [aop, evalO, nlO, nl_bool, nl_int, nl_ptr, nl_nilp, nl_nils, nl_imm, nl_tup, nl_agg, nl_func, nl_str, nl_sl, nl_iptr, nlAll, ok1, callA, List.append_nil, List.nil_append, get_nd, cond_true, cond_false, Option.getD_some, Nat.beq, b_gtr, b_geq, b_leq, b_lss, b_eql, b_neq, b_add, b_sub, on_lt, on_le, on_gt, on_ge, on_eq, on_ne, decide_true, decide_false, Nat.reduceEqDiff, Nat.reduceLT, Bool.not_true, Bool.not_false, List.getElem?_cons_zero, List.getElem?_cons_succ, len_nils, len_imm, len_sl, len_str, natOf, readA, okU, Option.bind_some, q9, q10, q11, h5, p1, p2, p3, w1, w2, w3, hx, hz, b_rem, rem30, unA, initT, eq_self]); with_reducible exact rfl)))
      | ((with_reducible refine wr_no ?hg ?_); case hg => (simp only [aop, evalO, nlO, nl_bool, nl_int, nl_ptr, nl_nilp, nl_nils, nl_imm, nl_tup, nl_agg, nl_func, nl_str, nl_sl, nl_iptr, nlAll, ok1, callA, List.append_nil, List.nil_append, get_nd, cond_true, cond_false, Option.getD_some, Nat.beq, b_gtr, b_geq, b_leq, b_lss, b_eql, b_neq, b_add, b_sub, on_lt, on_le, on_gt, on_ge, on_eq, on_ne, decide_true, decide_false, Nat.reduceEqDiff, Nat.reduceLT, Bool.not_true, Bool.not_false, List.getElem?_cons_zero, List.getElem?_cons_succ, len_nils, len_imm, len_sl, len_str, natOf, readA, okU, Option.bind_some, q9, q10, q11, h5, p1, p2, p3, w1, w2, w3, hx, hz, b_rem, rem30, unA, initT, eq_self]))
      | ((with_reducible refine wc_true ?hc ?_); case hc => (simp only [aop, evalO, nlO, nl_bool, nl_int, nl_ptr, nl_nilp, nl_nils, nl_imm, nl_tup, nl_agg, nl_func, nl_str, nl_sl, nl_iptr, nlAll, ok1, callA, List.append_nil, List.nil_append, get_nd, cond_true, cond_false, Option.getD_some, Nat.beq, b_gtr, b_geq, b_leq, b_lss, b_eql, b_neq, b_add, b_sub, on_lt, on_le, on_gt, on_ge, on_eq, on_ne, decide_true, decide_false, Nat.reduceEqDiff, Nat.reduceLT, Bool.not_true, Bool.not_false, List.getElem?_cons_zero, List.getElem?_cons_succ, len_nils, len_imm, len_sl, len_str, natOf, readA, okU, Option.bind_some, q9, q10, q11, h5, p1, p2, p3, w1, w2, w3, hx, hz, b_rem, rem30, unA, initT, eq_self]))
      | ((with_reducible refine wc_false ?hc ?_); case hc => (simp only [aop, evalO, nlO, nl_bool, nl_int, nl_ptr, nl_nilp, nl_nils, nl_imm, nl_tup, nl_agg, nl_func, nl_str, nl_sl, nl_iptr, nlAll, ok1, callA, List.append_nil, List.nil_append, get_nd, cond_true, cond_false, Option.getD_some, Nat.beq, b_gtr, b_geq, b_leq, b_lss, b_eql, b_neq, b_add, b_sub, on_lt, on_le, on_gt, on_ge, on_eq, on_ne, decide_true, decide_false, Nat.reduceEqDiff, Nat.reduceLT, Bool.not_true, Bool.not_false, List.getElem?_cons_zero, List.getElem?_cons_succ, len_nils, len_imm, len_sl, len_str, natOf, readA, okU, Option.bind_some, q9, q10, q11, h5, p1, p2, p3, w1, w2, w3, hx, hz, b_rem, rem30, unA, initT, eq_self]))
      | with_reducible refine wc_skip ?_
      | with_reducible refine wc_ret ?_
      | with_reducible refine wc_exit ?_
      | with_reducible refine sk_ret ?_
      | with_reducible refine sk_exit ?_
      | with_reducible refine bk_normal ?_
      | with_reducible refine bk_ret ?_
      | with_reducible refine bk_here ?_)
    exact ⟨.inr rfl, rfl, [.bool true], by simp only [resA, get_nd, Nat.beq, cond_true, cond_false, Option.getD_some, nl_bool, nl_int, nl_nils, nl_imm, nl_agg, nl_str, nl_ptr, nl_nilp, nl_sl], rfl⟩
end ZC
