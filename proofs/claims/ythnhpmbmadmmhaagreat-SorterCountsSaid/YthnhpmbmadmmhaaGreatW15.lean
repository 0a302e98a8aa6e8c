/- Part 16 of this claim: an abstract interpreter over the model, its soundness, and what is run in it. -/
import Derived.Test.YthnhpmbmadmmhaaGreatW14
set_option maxRecDepth 20000
set_option linter.unusedSimpArgs false
set_option linter.unusedVariables false
/- SorterCounts: how often runs are merged, in the program and in the reference. -/
open Wab Go
namespace ZC
set_option maxRecDepth 100000
set_option linter.unusedSimpArgs false
set_option linter.unusedVariables false

def pas (fan : Nat) : Nat → Nat → Nat → Nat
  | 0, _, n => n
  | f + 1, r, n => if fan < r then pas fan f ((r - 1) / fan + 1) (n + 1) else if 1 < r then n + 1 else n
def pasI (runs fan : Int) : Nat := if runs < 1 ∨ fan < 2 then 0 else pas fan.toNat runs.toNat runs.toNat 0
theorem pas_fuel (fan : Nat) (hf : 2 ≤ fan) : ∀ (f g r n : Nat), r ≤ f → r ≤ g → 1 ≤ r → pas fan f r n = pas fan g r n
  | 0, _, r, n, h1, _, h3 => by omega
  | f + 1, 0, r, n, _, h2, h3 => by omega
  | f + 1, g + 1, r, n, h1, h2, h3 => by
    simp only [pas]
    by_cases h : fan < r
    · rw [if_pos h, if_pos h]
      have : (r - 1) / fan ≤ (r - 1) / 2 := Nat.div_le_div_left hf (by omega)
      generalize (r - 1) / fan = d at *
      exact pas_fuel fan hf f g _ _ (by omega) (by omega) (by omega)
    · rw [if_neg h, if_neg h]
theorem quo64 (a b : Nat) (hb : 0 < b) (h : a ≤ 9223372036854775807) : intBin .quo .i64 (Int.ofNat a) (Int.ofNat b) = some (.int .i64 (Int.ofNat (a / b))) := by
  have h0 : decide (Int.ofNat b = 0) = false := by
    rw [decide_eq_false_iff_not]; intro e; have : (b : Int) = 0 := e; omega
  simp only [intBin, h0, cond_false]
  have h1 : (Int.ofNat a).tdiv (Int.ofNat b) = Int.ofNat (a / b) := rfl
  rw [h1, wrap64 _ (Nat.le_trans (Nat.div_le_self _ _) h)]

theorem passes12 (O D : Oracle) (n : Nat) (runs fan : Int) (hr : runs ≤ 1073741824) (hn : 1073741900 < n) (h : AHeap) :
    runFn O D n ProgZ.a12 [.int .i64 runs, .int .i64 fan] h = some (.int .i64 (.ofNat (pasI runs fan)), h) := by
  obtain ⟨n, rfl⟩ : ∃ m, n = m + 1 := ⟨n - 1, by omega⟩
  refine fn_pure ?_
  generalize ({ h with lock := h.next } : AHeap) = H
  by_cases hr1 : runs < 1
  · have g1 : decide (runs < Int.ofNat 1) = true := by simpa using hr1
    have e0 : pasI runs fan = 0 := if_pos (.inl hr1)
    rw [e0]
    repeat (first
      | with_reducible refine wc_seq ?_
      | with_reducible refine wc_region ?_
      | with_reducible refine wr_nil ?_
      | with_reducible refine sk_normal ?_
      | with_reducible refine wc_block ?_
      | ((with_reducible apply wr_some); case ho => ((simp only [aop, evalO, nlO, nl_bool, nl_int, nl_ptr, nl_nilp, nl_nils, nl_imm, nl_tup, nl_agg, nl_func, nl_str, nl_sl, nl_iptr, nlAll, ok1, callA, List.append_nil, List.nil_append, get_nd, cond_true, cond_false, Option.getD_some, Nat.beq, b_gtr, b_geq, b_leq, b_lss, b_eql, b_neq, b_add, b_sub, on_lt, on_le, on_gt, on_ge, on_eq, on_ne, decide_true, decide_false, Nat.reduceEqDiff, Nat.reduceLT, Bool.not_true, Bool.not_false, List.getElem?_cons_zero, List.getElem?_cons_succ, len_nils, len_imm, len_sl, len_str, natOf, readA, okU, Option.bind_some, g1, initT]); with_reducible exact rfl))
      | ((with_reducible apply wr_none); case ho => ((simp only [aop, evalO, nlO, nl_bool, nl_int, nl_ptr, nl_nilp, nl_nils, nl_imm, nl_tup, nl_agg, nl_func, nl_str, nl_sl, nl_iptr, nlAll, ok1, callA, List.append_nil, List.nil_append, get_nd, cond_true, cond_false, Option.getD_some, Nat.beq, b_gtr, b_geq, b_leq, b_lss, b_eql, b_neq, b_add, b_sub, on_lt, on_le, on_gt, on_ge, on_eq, on_ne, decide_true, decide_false, Nat.reduceEqDiff, Nat.reduceLT, Bool.not_true, Bool.not_false, List.getElem?_cons_zero, List.getElem?_cons_succ, len_nils, len_imm, len_sl, len_str, natOf, readA, okU, Option.bind_some, g1, initT]); with_reducible exact rfl))
      | ((with_reducible apply wr_yes); (case hg => (simp only [aop, evalO, nlO, nl_bool, nl_int, nl_ptr, nl_nilp, nl_nils, nl_imm, nl_tup, nl_agg, nl_func, nl_str, nl_sl, nl_iptr, nlAll, ok1, callA, List.append_nil, List.nil_append, get_nd, cond_true, cond_false, Option.getD_some, Nat.beq, b_gtr, b_geq, b_leq, b_lss, b_eql, b_neq, b_add, b_sub, on_lt, on_le, on_gt, on_ge, on_eq, on_ne, decide_true, decide_false, Nat.reduceEqDiff, Nat.reduceLT, Bool.not_true, Bool.not_false, List.getElem?_cons_zero, List.getElem?_cons_succ, len_nils, len_imm, len_sl, len_str, natOf, readA, okU, Option.bind_some, g1, initT])); (case ho => ((simp only [aop, evalO, nlO, nl_bool, nl_int, nl_ptr, nl_nilp, nl_nils, nl_imm, nl_tup, nl_agg, nl_func, nl_str, nl_sl, nl_iptr, nlAll, ok1, callA, List.append_nil, List.nil_append, get_nd, cond_true, cond_false, Option.getD_some, Nat.beq, b_gtr, b_geq, b_leq, b_lss, b_eql, b_neq, b_add, b_sub, on_lt, on_le, on_gt, on_ge, on_eq, on_ne, decide_true, decide_false, Nat.reduceEqDiff, Nat.reduceLT, Bool.not_true, Bool.not_false, List.getElem?_cons_zero, List.getElem?_cons_succ, len_nils, len_imm, len_sl, len_str, natOf, readA, okU, Option.bind_some, g1, initT]); with_reducible exact rfl)))
      | ((with_reducible refine wr_no ?hg ?_); case hg => (simp only [aop, evalO, nlO, nl_bool, nl_int, nl_ptr, nl_nilp, nl_nils, nl_imm, nl_tup, nl_agg, nl_func, nl_str, nl_sl, nl_iptr, nlAll, ok1, callA, List.append_nil, List.nil_append, get_nd, cond_true, cond_false, Option.getD_some, Nat.beq, b_gtr, b_geq, b_leq, b_lss, b_eql, b_neq, b_add, b_sub, on_lt, on_le, on_gt, on_ge, on_eq, on_ne, decide_true, decide_false, Nat.reduceEqDiff, Nat.reduceLT, Bool.not_true, Bool.not_false, List.getElem?_cons_zero, List.getElem?_cons_succ, len_nils, len_imm, len_sl, len_str, natOf, readA, okU, Option.bind_some, g1, initT]))
      | ((with_reducible refine wc_true ?hc ?_); case hc => (simp only [aop, evalO, nlO, nl_bool, nl_int, nl_ptr, nl_nilp, nl_nils, nl_imm, nl_tup, nl_agg, nl_func, nl_str, nl_sl, nl_iptr, nlAll, ok1, callA, List.append_nil, List.nil_append, get_nd, cond_true, cond_false, Option.getD_some, Nat.beq, b_gtr, b_geq, b_leq, b_lss, b_eql, b_neq, b_add, b_sub, on_lt, on_le, on_gt, on_ge, on_eq, on_ne, decide_true, decide_false, Nat.reduceEqDiff, Nat.reduceLT, Bool.not_true, Bool.not_false, List.getElem?_cons_zero, List.getElem?_cons_succ, len_nils, len_imm, len_sl, len_str, natOf, readA, okU, Option.bind_some, g1, initT]))
      | ((with_reducible refine wc_false ?hc ?_); case hc => (simp only [aop, evalO, nlO, nl_bool, nl_int, nl_ptr, nl_nilp, nl_nils, nl_imm, nl_tup, nl_agg, nl_func, nl_str, nl_sl, nl_iptr, nlAll, ok1, callA, List.append_nil, List.nil_append, get_nd, cond_true, cond_false, Option.getD_some, Nat.beq, b_gtr, b_geq, b_leq, b_lss, b_eql, b_neq, b_add, b_sub, on_lt, on_le, on_gt, on_ge, on_eq, on_ne, decide_true, decide_false, Nat.reduceEqDiff, Nat.reduceLT, Bool.not_true, Bool.not_false, List.getElem?_cons_zero, List.getElem?_cons_succ, len_nils, len_imm, len_sl, len_str, natOf, readA, okU, Option.bind_some, g1, initT]))
      | with_reducible refine wc_skip ?_
      | with_reducible refine wc_ret ?_
      | with_reducible refine wc_exit ?_
      | with_reducible refine sk_ret ?_
      | with_reducible refine sk_exit ?_
      | with_reducible refine bk_normal ?_
      | with_reducible refine bk_ret ?_
      | with_reducible refine bk_here ?_)
    exact ⟨.inr rfl, rfl, [.int .i64 (.ofNat 0)], by simp only [resA, get_nd, Nat.beq, cond_true, cond_false, Option.getD_some, nl_bool, nl_int, nl_nils, nl_imm, nl_agg, nl_str, nl_ptr, nl_nilp, nl_sl], rfl⟩
  · have g1 : decide (runs < Int.ofNat 1) = false := by simpa using hr1
    by_cases hf2 : fan < 2
    · have g2 : decide (fan < Int.ofNat 2) = true := by simpa using hf2
      have e0 : pasI runs fan = 0 := if_pos (.inr hf2)
      rw [e0]
      repeat (first
        | with_reducible refine wc_seq ?_
        | with_reducible refine wc_region ?_
        | with_reducible refine wr_nil ?_
        | with_reducible refine sk_normal ?_
        | with_reducible refine wc_block ?_
        | ((with_reducible apply wr_some); case ho => ((simp only [aop, evalO, nlO, nl_bool, nl_int, nl_ptr, nl_nilp, nl_nils, nl_imm, nl_tup, nl_agg, nl_func, nl_str, nl_sl, nl_iptr, nlAll, ok1, callA, List.append_nil, List.nil_append, get_nd, cond_true, cond_false, Option.getD_some, Nat.beq, b_gtr, b_geq, b_leq, b_lss, b_eql, b_neq, b_add, b_sub, on_lt, on_le, on_gt, on_ge, on_eq, on_ne, decide_true, decide_false, Nat.reduceEqDiff, Nat.reduceLT, Bool.not_true, Bool.not_false, List.getElem?_cons_zero, List.getElem?_cons_succ, len_nils, len_imm, len_sl, len_str, natOf, readA, okU, Option.bind_some, g1, g2, initT]); with_reducible exact rfl))
        | ((with_reducible apply wr_none); case ho => ((simp only [aop, evalO, nlO, nl_bool, nl_int, nl_ptr, nl_nilp, nl_nils, nl_imm, nl_tup, nl_agg, nl_func, nl_str, nl_sl, nl_iptr, nlAll, ok1, callA, List.append_nil, List.nil_append, get_nd, cond_true, cond_false, Option.getD_some, Nat.beq, b_gtr, b_geq, b_leq, b_lss, b_eql, b_neq, b_add, b_sub, on_lt, on_le, on_gt, on_ge, on_eq, on_ne, decide_true, decide_false, Nat.reduceEqDiff, Nat.reduceLT, Bool.not_true, Bool.not_false, List.getElem?_cons_zero, List.getElem?_cons_succ, len_nils, len_imm, len_sl, len_str, natOf, readA, okU, Option.bind_some, g1, g2, initT]); with_reducible exact rfl))
        | ((with_reducible apply wr_yes); (case hg => (simp only [aop, evalO, nlO, nl_bool, nl_int, nl_ptr, nl_nilp, nl_nils, nl_imm, nl_tup, nl_agg, nl_func, nl_str, nl_sl, nl_iptr, nlAll, ok1, callA, List.append_nil, List.nil_append, get_nd, cond_true, cond_false, Option.getD_some, Nat.beq, b_gtr, b_geq, b_leq, b_lss, b_eql, b_neq, b_add, b_sub, on_lt, on_le, on_gt, on_ge, on_eq, on_ne, decide_true, decide_false, Nat.reduceEqDiff, Nat.reduceLT, Bool.not_true, Bool.not_false, List.getElem?_cons_zero, List.getElem?_cons_succ, len_nils, len_imm, len_sl, len_str, natOf, readA, okU, Option.bind_some, g1, g2, initT])); (case ho => ((simp only [aop, evalO, nlO, nl_bool, nl_int, nl_ptr, nl_nilp, nl_nils, nl_imm, nl_tup, nl_agg, nl_func, nl_str, nl_sl, nl_iptr, nlAll, ok1, callA, List.append_nil, List.nil_append, get_nd, cond_true, cond_false, Option.getD_some, Nat.beq, b_gtr, b_geq, b_leq, b_lss, b_eql, b_neq, b_add, b_sub, on_lt, on_le, on_gt, on_ge, on_eq, on_ne, decide_true, decide_false, Nat.reduceEqDiff, Nat.reduceLT, Bool.not_true, Bool.not_false, List.getElem?_cons_zero, List.getElem?_cons_succ, len_nils, len_imm, len_sl, len_str, natOf, readA, okU, Option.bind_some, g1, g2, initT]); with_reducible exact rfl)))
        | ((with_reducible refine wr_no ?hg ?_); case hg => (simp only [aop, evalO, nlO, nl_bool, nl_int, nl_ptr, nl_nilp, nl_nils, nl_imm, nl_tup, nl_agg, nl_func, nl_str, nl_sl, nl_iptr, nlAll, ok1, callA, List.append_nil, List.nil_append, get_nd, cond_true, cond_false, Option.getD_some, Nat.beq, b_gtr, b_geq, b_leq, b_lss, b_eql, b_neq, b_add, b_sub, on_lt, on_le, on_gt, on_ge, on_eq, on_ne, decide_true, decide_false, Nat.reduceEqDiff, Nat.reduceLT, Bool.not_true, Bool.not_false, List.getElem?_cons_zero, List.getElem?_cons_succ, len_nils, len_imm, len_sl, len_str, natOf, readA, okU, Option.bind_some, g1, g2, initT]))
        | ((with_reducible refine wc_true ?hc ?_); case hc => (simp only [aop, evalO, nlO, nl_bool, nl_int, nl_ptr, nl_nilp, nl_nils, nl_imm, nl_tup, nl_agg, nl_func, nl_str, nl_sl, nl_iptr, nlAll, ok1, callA, List.append_nil, List.nil_append, get_nd, cond_true, cond_false, Option.getD_some, Nat.beq, b_gtr, b_geq, b_leq, b_lss, b_eql, b_neq, b_add, b_sub, on_lt, on_le, on_gt, on_ge, on_eq, on_ne, decide_true, decide_false, Nat.reduceEqDiff, Nat.reduceLT, Bool.not_true, Bool.not_false, List.getElem?_cons_zero, List.getElem?_cons_succ, len_nils, len_imm, len_sl, len_str, natOf, readA, okU, Option.bind_some, g1, g2, initT]))
        | ((with_reducible refine wc_false ?hc ?_); case hc => (simp only [aop, evalO, nlO, nl_bool, nl_int, nl_ptr, nl_nilp, nl_nils, nl_imm, nl_tup, nl_agg, nl_func, nl_str, nl_sl, nl_iptr, nlAll, ok1, callA, List.append_nil, List.nil_append, get_nd, cond_true, cond_false, Option.getD_some, Nat.beq, b_gtr, b_geq, b_leq, b_lss, b_eql, b_neq, b_add, b_sub, on_lt, on_le, on_gt, on_ge, on_eq, on_ne, decide_true, decide_false, Nat.reduceEqDiff, Nat.reduceLT, Bool.not_true, Bool.not_false, List.getElem?_cons_zero, List.getElem?_cons_succ, len_nils, len_imm, len_sl, len_str, natOf, readA, okU, Option.bind_some, g1, g2, initT]))
        | with_reducible refine wc_skip ?_
        | with_reducible refine wc_ret ?_
        | with_reducible refine wc_exit ?_
        | with_reducible refine sk_ret ?_
        | with_reducible refine sk_exit ?_
        | with_reducible refine bk_normal ?_
        | with_reducible refine bk_ret ?_
        | with_reducible refine bk_here ?_)
      exact ⟨.inr rfl, rfl, [.int .i64 (.ofNat 0)], by simp only [resA, get_nd, Nat.beq, cond_true, cond_false, Option.getD_some, nl_bool, nl_int, nl_nils, nl_imm, nl_agg, nl_str, nl_ptr, nl_nilp, nl_sl], rfl⟩
    · have g2 : decide (fan < Int.ofNat 2) = false := by simpa using hf2
      have e0 : pasI runs fan = pas fan.toNat runs.toNat runs.toNat 0 := if_neg (fun h => h.elim hr1 hf2)
      rw [e0]
      obtain ⟨R, rfl⟩ : ∃ R : Nat, runs = Int.ofNat R := ⟨runs.toNat, by simp; omega⟩
      obtain ⟨F, rfl⟩ : ∃ F : Nat, fan = Int.ofNat F := ⟨fan.toNat, by simp; omega⟩
      have hR : 1 ≤ R := by
        have : ¬ ((R : Int) < 1) := hr1
        omega
      have hRm : R ≤ 1073741824 := by
        have : (R : Int) ≤ 1073741824 := hr
        omega
      have hF : 2 ≤ F := by
        have : ¬ ((F : Int) < 2) := hf2
        omega
      show WC _ _ _ _ (retP _ _ _ (.int .i64 (.ofNat (pas F R R 0))))
      repeat (first
        | with_reducible refine wc_seq ?_
        | with_reducible refine wc_region ?_
        | with_reducible refine wr_nil ?_
        | with_reducible refine sk_normal ?_
        | with_reducible refine wc_block ?_
        | ((with_reducible apply wr_some); case ho => ((simp only [aop, evalO, nlO, nl_bool, nl_int, nl_ptr, nl_nilp, nl_nils, nl_imm, nl_tup, nl_agg, nl_func, nl_str, nl_sl, nl_iptr, nlAll, ok1, callA, List.append_nil, List.nil_append, get_nd, cond_true, cond_false, Option.getD_some, Nat.beq, b_gtr, b_geq, b_leq, b_lss, b_eql, b_neq, b_add, b_sub, on_lt, on_le, on_gt, on_ge, on_eq, on_ne, decide_true, decide_false, Nat.reduceEqDiff, Nat.reduceLT, Bool.not_true, Bool.not_false, List.getElem?_cons_zero, List.getElem?_cons_succ, len_nils, len_imm, len_sl, len_str, natOf, readA, okU, Option.bind_some, g1, g2, initT]); with_reducible exact rfl))
        | ((with_reducible apply wr_none); case ho => ((simp only [aop, evalO, nlO, nl_bool, nl_int, nl_ptr, nl_nilp, nl_nils, nl_imm, nl_tup, nl_agg, nl_func, nl_str, nl_sl, nl_iptr, nlAll, ok1, callA, List.append_nil, List.nil_append, get_nd, cond_true, cond_false, Option.getD_some, Nat.beq, b_gtr, b_geq, b_leq, b_lss, b_eql, b_neq, b_add, b_sub, on_lt, on_le, on_gt, on_ge, on_eq, on_ne, decide_true, decide_false, Nat.reduceEqDiff, Nat.reduceLT, Bool.not_true, Bool.not_false, List.getElem?_cons_zero, List.getElem?_cons_succ, len_nils, len_imm, len_sl, len_str, natOf, readA, okU, Option.bind_some, g1, g2, initT]); with_reducible exact rfl))
        | ((with_reducible apply wr_yes); (case hg => (simp only [aop, evalO, nlO, nl_bool, nl_int, nl_ptr, nl_nilp, nl_nils, nl_imm, nl_tup, nl_agg, nl_func, nl_str, nl_sl, nl_iptr, nlAll, ok1, callA, List.append_nil, List.nil_append, get_nd, cond_true, cond_false, Option.getD_some, Nat.beq, b_gtr, b_geq, b_leq, b_lss, b_eql, b_neq, b_add, b_sub, on_lt, on_le, on_gt, on_ge, on_eq, on_ne, decide_true, decide_false, Nat.reduceEqDiff, Nat.reduceLT, Bool.not_true, Bool.not_false, List.getElem?_cons_zero, List.getElem?_cons_succ, len_nils, len_imm, len_sl, len_str, natOf, readA, okU, Option.bind_some, g1, g2, initT])); (case ho => ((simp only [aop, evalO, nlO, nl_bool, nl_int, nl_ptr, nl_nilp, nl_nils, nl_imm, nl_tup, nl_agg, nl_func, nl_str, nl_sl, nl_iptr, nlAll, ok1, callA, List.append_nil, List.nil_append, get_nd, cond_true, cond_false, Option.getD_some, Nat.beq, b_gtr, b_geq, b_leq, b_lss, b_eql, b_neq, b_add, b_sub, on_lt, on_le, on_gt, on_ge, on_eq, on_ne, decide_true, decide_false, Nat.reduceEqDiff, Nat.reduceLT, Bool.not_true, Bool.not_false, List.getElem?_cons_zero, List.getElem?_cons_succ, len_nils, len_imm, len_sl, len_str, natOf, readA, okU, Option.bind_some, g1, g2, initT]); with_reducible exact rfl)))
        | ((with_reducible refine wr_no ?hg ?_); case hg => (simp only [aop, evalO, nlO, nl_bool, nl_int, nl_ptr, nl_nilp, nl_nils, nl_imm, nl_tup, nl_agg, nl_func, nl_str, nl_sl, nl_iptr, nlAll, ok1, callA, List.append_nil, List.nil_append, get_nd, cond_true, cond_false, Option.getD_some, Nat.beq, b_gtr, b_geq, b_leq, b_lss, b_eql, b_neq, b_add, b_sub, on_lt, on_le, on_gt, on_ge, on_eq, on_ne, decide_true, decide_false, Nat.reduceEqDiff, Nat.reduceLT, Bool.not_true, Bool.not_false, List.getElem?_cons_zero, List.getElem?_cons_succ, len_nils, len_imm, len_sl, len_str, natOf, readA, okU, Option.bind_some, g1, g2, initT]))
        | ((with_reducible refine wc_true ?hc ?_); case hc => (simp only [aop, evalO, nlO, nl_bool, nl_int, nl_ptr, nl_nilp, nl_nils, nl_imm, nl_tup, nl_agg, nl_func, nl_str, nl_sl, nl_iptr, nlAll, ok1, callA, List.append_nil, List.nil_append, get_nd, cond_true, cond_false, Option.getD_some, Nat.beq, b_gtr, b_geq, b_leq, b_lss, b_eql, b_neq, b_add, b_sub, on_lt, on_le, on_gt, on_ge, on_eq, on_ne, decide_true, decide_false, Nat.reduceEqDiff, Nat.reduceLT, Bool.not_true, Bool.not_false, List.getElem?_cons_zero, List.getElem?_cons_succ, len_nils, len_imm, len_sl, len_str, natOf, readA, okU, Option.bind_some, g1, g2, initT]))
        | ((with_reducible refine wc_false ?hc ?_); case hc => (simp only [aop, evalO, nlO, nl_bool, nl_int, nl_ptr, nl_nilp, nl_nils, nl_imm, nl_tup, nl_agg, nl_func, nl_str, nl_sl, nl_iptr, nlAll, ok1, callA, List.append_nil, List.nil_append, get_nd, cond_true, cond_false, Option.getD_some, Nat.beq, b_gtr, b_geq, b_leq, b_lss, b_eql, b_neq, b_add, b_sub, on_lt, on_le, on_gt, on_ge, on_eq, on_ne, decide_true, decide_false, Nat.reduceEqDiff, Nat.reduceLT, Bool.not_true, Bool.not_false, List.getElem?_cons_zero, List.getElem?_cons_succ, len_nils, len_imm, len_sl, len_str, natOf, readA, okU, Option.bind_some, g1, g2, initT]))
        | with_reducible refine wc_skip ?_
        | with_reducible refine wc_ret ?_
        | with_reducible refine wc_exit ?_
        | with_reducible refine sk_ret ?_
        | with_reducible refine sk_exit ?_
        | with_reducible refine bk_normal ?_
        | with_reducible refine bk_ret ?_
        | with_reducible refine bk_here ?_)
      refine wc_loop (fun j s => ∃ t l q, s = ⟨t, l, H, []⟩ ∧ 1 ≤ j ∧ j + q ≤ R ∧ t.get 0 = some (.int .i64 (.ofNat j)) ∧ t.get 1 = some (.int .i64 (.ofNat F)) ∧ t.get 5 = some (.int .i64 (.ofNat q)) ∧ pas F j j q = pas F R R 0) ?_ R (by omega) ?_
      · rintro j s ⟨t, l, q, rfl, hj, hjq, h0, h1, h5, hp⟩
        by_cases hlt : F < j
        · have hd : decide (F < j) = true := by simpa using hlt
          have a1 := sub64 j 1 (by omega) (by omega)
          have a2 := quo64 (j - 1) F (by omega) (by omega)
          have hle : (j - 1) / F ≤ (j - 1) / 2 := Nat.div_le_div_left hF (by omega)
          have k3 : (j - 1) / F + 1 < j ∧ 1 ≤ (j - 1) / F + 1 ∧ (j - 1) / F + 1 + (q + 1) ≤ R ∧ (j - 1) / F + 1 ≤ 9223372036854775807 := by
            revert hle; generalize (j - 1) / F = d; intro hle; omega
          have a3 := add64 ((j - 1) / F) 1 k3.2.2.2
          have a4 := add64 q 1 (by omega)
          repeat (first
            | with_reducible refine wc_seq ?_
            | with_reducible refine wc_region ?_
            | with_reducible refine wr_nil ?_
            | with_reducible refine sk_normal ?_
            | with_reducible refine wc_block ?_
            | ((with_reducible apply wr_some); case ho => ((simp only [aop, evalO, nlO, nl_bool, nl_int, nl_ptr, nl_nilp, nl_nils, nl_imm, nl_tup, nl_agg, nl_func, nl_str, nl_sl, nl_iptr, nlAll, ok1, callA, List.append_nil, List.nil_append, get_nd, cond_true, cond_false, Option.getD_some, Nat.beq, b_gtr, b_geq, b_leq, b_lss, b_eql, b_neq, b_add, b_sub, on_lt, on_le, on_gt, on_ge, on_eq, on_ne, decide_true, decide_false, Nat.reduceEqDiff, Nat.reduceLT, Bool.not_true, Bool.not_false, List.getElem?_cons_zero, List.getElem?_cons_succ, len_nils, len_imm, len_sl, len_str, natOf, readA, okU, Option.bind_some, h0, h1, h5, a1, a2, a3, a4, b_quo, hd]); with_reducible exact rfl))
            | ((with_reducible apply wr_none); case ho => ((simp only [aop, evalO, nlO, nl_bool, nl_int, nl_ptr, nl_nilp, nl_nils, nl_imm, nl_tup, nl_agg, nl_func, nl_str, nl_sl, nl_iptr, nlAll, ok1, callA, List.append_nil, List.nil_append, get_nd, cond_true, cond_false, Option.getD_some, Nat.beq, b_gtr, b_geq, b_leq, b_lss, b_eql, b_neq, b_add, b_sub, on_lt, on_le, on_gt, on_ge, on_eq, on_ne, decide_true, decide_false, Nat.reduceEqDiff, Nat.reduceLT, Bool.not_true, Bool.not_false, List.getElem?_cons_zero, List.getElem?_cons_succ, len_nils, len_imm, len_sl, len_str, natOf, readA, okU, Option.bind_some, h0, h1, h5, a1, a2, a3, a4, b_quo, hd]); with_reducible exact rfl))
            | ((with_reducible apply wr_yes); (case hg => (simp only [aop, evalO, nlO, nl_bool, nl_int, nl_ptr, nl_nilp, nl_nils, nl_imm, nl_tup, nl_agg, nl_func, nl_str, nl_sl, nl_iptr, nlAll, ok1, callA, List.append_nil, List.nil_append, get_nd, cond_true, cond_false, Option.getD_some, Nat.beq, b_gtr, b_geq, b_leq, b_lss, b_eql, b_neq, b_add, b_sub, on_lt, on_le, on_gt, on_ge, on_eq, on_ne, decide_true, decide_false, Nat.reduceEqDiff, Nat.reduceLT, Bool.not_true, Bool.not_false, List.getElem?_cons_zero, List.getElem?_cons_succ, len_nils, len_imm, len_sl, len_str, natOf, readA, okU, Option.bind_some, h0, h1, h5, a1, a2, a3, a4, b_quo, hd])); (case ho => ((simp only [aop, evalO, nlO, nl_bool, nl_int, nl_ptr, nl_nilp, nl_nils, nl_imm, nl_tup, nl_agg, nl_func, nl_str, nl_sl, nl_iptr, nlAll, ok1, callA, List.append_nil, List.nil_append, get_nd, cond_true, cond_false, Option.getD_some, Nat.beq, b_gtr, b_geq, b_leq, b_lss, b_eql, b_neq, b_add, b_sub, on_lt, on_le, on_gt, on_ge, on_eq, on_ne, decide_true, decide_false, Nat.reduceEqDiff, Nat.reduceLT, Bool.not_true, Bool.not_false, List.getElem?_cons_zero, List.getElem?_cons_succ, len_nils, len_imm, len_sl, len_str, natOf, readA, okU, Option.bind_some, h0, h1, h5, a1, a2, a3, a4, b_quo, hd]); with_reducible exact rfl)))
            | ((with_reducible refine wr_no ?hg ?_); case hg => (simp only [aop, evalO, nlO, nl_bool, nl_int, nl_ptr, nl_nilp, nl_nils, nl_imm, nl_tup, nl_agg, nl_func, nl_str, nl_sl, nl_iptr, nlAll, ok1, callA, List.append_nil, List.nil_append, get_nd, cond_true, cond_false, Option.getD_some, Nat.beq, b_gtr, b_geq, b_leq, b_lss, b_eql, b_neq, b_add, b_sub, on_lt, on_le, on_gt, on_ge, on_eq, on_ne, decide_true, decide_false, Nat.reduceEqDiff, Nat.reduceLT, Bool.not_true, Bool.not_false, List.getElem?_cons_zero, List.getElem?_cons_succ, len_nils, len_imm, len_sl, len_str, natOf, readA, okU, Option.bind_some, h0, h1, h5, a1, a2, a3, a4, b_quo, hd]))
            | ((with_reducible refine wc_true ?hc ?_); case hc => (simp only [aop, evalO, nlO, nl_bool, nl_int, nl_ptr, nl_nilp, nl_nils, nl_imm, nl_tup, nl_agg, nl_func, nl_str, nl_sl, nl_iptr, nlAll, ok1, callA, List.append_nil, List.nil_append, get_nd, cond_true, cond_false, Option.getD_some, Nat.beq, b_gtr, b_geq, b_leq, b_lss, b_eql, b_neq, b_add, b_sub, on_lt, on_le, on_gt, on_ge, on_eq, on_ne, decide_true, decide_false, Nat.reduceEqDiff, Nat.reduceLT, Bool.not_true, Bool.not_false, List.getElem?_cons_zero, List.getElem?_cons_succ, len_nils, len_imm, len_sl, len_str, natOf, readA, okU, Option.bind_some, h0, h1, h5, a1, a2, a3, a4, b_quo, hd]))
            | ((with_reducible refine wc_false ?hc ?_); case hc => (simp only [aop, evalO, nlO, nl_bool, nl_int, nl_ptr, nl_nilp, nl_nils, nl_imm, nl_tup, nl_agg, nl_func, nl_str, nl_sl, nl_iptr, nlAll, ok1, callA, List.append_nil, List.nil_append, get_nd, cond_true, cond_false, Option.getD_some, Nat.beq, b_gtr, b_geq, b_leq, b_lss, b_eql, b_neq, b_add, b_sub, on_lt, on_le, on_gt, on_ge, on_eq, on_ne, decide_true, decide_false, Nat.reduceEqDiff, Nat.reduceLT, Bool.not_true, Bool.not_false, List.getElem?_cons_zero, List.getElem?_cons_succ, len_nils, len_imm, len_sl, len_str, natOf, readA, okU, Option.bind_some, h0, h1, h5, a1, a2, a3, a4, b_quo, hd]))
            | with_reducible refine wc_skip ?_
            | with_reducible refine wc_ret ?_
            | with_reducible refine wc_exit ?_
            | with_reducible refine sk_ret ?_
            | with_reducible refine sk_exit ?_
            | with_reducible refine bk_normal ?_
            | with_reducible refine bk_ret ?_
            | with_reducible refine bk_here ?_)
          refine ⟨(j - 1) / F + 1, k3.1, _, _, q + 1, rfl, k3.2.1, k3.2.2.1, ?_⟩
          simp only [get_nd, Nat.beq, cond_true, cond_false, h1, true_and]
          rw [← hp]
          obtain ⟨j, rfl⟩ : ∃ k, j = k + 1 := ⟨j - 1, by omega⟩
          conv => rhs; rw [pas, if_pos hlt]
          exact pas_fuel F hF _ _ _ _ (Nat.le_refl _) (Nat.le_of_lt_succ k3.1) k3.2.1
        · have hd : decide (F < j) = false := by simpa using hlt
          have a4 := add64 q 1 (by omega)
          by_cases h1j : 1 < j
          · have hd1 : decide (1 < j) = true := by simpa using h1j
            have e1 : pas F R R 0 = q + 1 := by
              rw [← hp]
              obtain ⟨j, rfl⟩ : ∃ k, j = k + 1 := ⟨j - 1, by omega⟩
              rw [pas, if_neg hlt, if_pos h1j]
            rw [e1]
            repeat (first
              | with_reducible refine wc_seq ?_
              | with_reducible refine wc_region ?_
              | with_reducible refine wr_nil ?_
              | with_reducible refine sk_normal ?_
              | with_reducible refine wc_block ?_
              | ((with_reducible apply wr_some); case ho => ((simp only [aop, evalO, nlO, nl_bool, nl_int, nl_ptr, nl_nilp, nl_nils, nl_imm, nl_tup, nl_agg, nl_func, nl_str, nl_sl, nl_iptr, nlAll, ok1, callA, List.append_nil, List.nil_append, get_nd, cond_true, cond_false, Option.getD_some, Nat.beq, b_gtr, b_geq, b_leq, b_lss, b_eql, b_neq, b_add, b_sub, on_lt, on_le, on_gt, on_ge, on_eq, on_ne, decide_true, decide_false, Nat.reduceEqDiff, Nat.reduceLT, Bool.not_true, Bool.not_false, List.getElem?_cons_zero, List.getElem?_cons_succ, len_nils, len_imm, len_sl, len_str, natOf, readA, okU, Option.bind_some, h0, h1, h5, hd, hd1, a4]); with_reducible exact rfl))
              | ((with_reducible apply wr_none); case ho => ((simp only [aop, evalO, nlO, nl_bool, nl_int, nl_ptr, nl_nilp, nl_nils, nl_imm, nl_tup, nl_agg, nl_func, nl_str, nl_sl, nl_iptr, nlAll, ok1, callA, List.append_nil, List.nil_append, get_nd, cond_true, cond_false, Option.getD_some, Nat.beq, b_gtr, b_geq, b_leq, b_lss, b_eql, b_neq, b_add, b_sub, on_lt, on_le, on_gt, on_ge, on_eq, on_ne, decide_true, decide_false, Nat.reduceEqDiff, Nat.reduceLT, Bool.not_true, Bool.not_false, List.getElem?_cons_zero, List.getElem?_cons_succ, len_nils, len_imm, len_sl, len_str, natOf, readA, okU, Option.bind_some, h0, h1, h5, hd, hd1, a4]); with_reducible exact rfl))
              | ((with_reducible apply wr_yes); (case hg => (simp only [aop, evalO, nlO, nl_bool, nl_int, nl_ptr, nl_nilp, nl_nils, nl_imm, nl_tup, nl_agg, nl_func, nl_str, nl_sl, nl_iptr, nlAll, ok1, callA, List.append_nil, List.nil_append, get_nd, cond_true, cond_false, Option.getD_some, Nat.beq, b_gtr, b_geq, b_leq, b_lss, b_eql, b_neq, b_add, b_sub, on_lt, on_le, on_gt, on_ge, on_eq, on_ne, decide_true, decide_false, Nat.reduceEqDiff, Nat.reduceLT, Bool.not_true, Bool.not_false, List.getElem?_cons_zero, List.getElem?_cons_succ, len_nils, len_imm, len_sl, len_str, natOf, readA, okU, Option.bind_some, h0, h1, h5, hd, hd1, a4])); (case ho => ((simp only [aop, evalO, nlO, nl_bool, nl_int, nl_ptr, nl_nilp, nl_nils, nl_imm, nl_tup, nl_agg, nl_func, nl_str, nl_sl, nl_iptr, nlAll, ok1, callA, List.append_nil, List.nil_append, get_nd, cond_true, cond_false, Option.getD_some, Nat.beq, b_gtr, b_geq, b_leq, b_lss, b_eql, b_neq, b_add, b_sub, on_lt, on_le, on_gt, on_ge, on_eq, on_ne, decide_true, decide_false, Nat.reduceEqDiff, Nat.reduceLT, Bool.not_true, Bool.not_false, List.getElem?_cons_zero, List.getElem?_cons_succ, len_nils, len_imm, len_sl, len_str, natOf, readA, okU, Option.bind_some, h0, h1, h5, hd, hd1, a4]); with_reducible exact rfl)))
              | ((with_reducible refine wr_no ?hg ?_); case hg => (simp only [aop, evalO, nlO, nl_bool, nl_int, nl_ptr, nl_nilp, nl_nils, nl_imm, nl_tup, nl_agg, nl_func, nl_str, nl_sl, nl_iptr, nlAll, ok1, callA, List.append_nil, List.nil_append, get_nd, cond_true, cond_false, Option.getD_some, Nat.beq, b_gtr, b_geq, b_leq, b_lss, b_eql, b_neq, b_add, b_sub, on_lt, on_le, on_gt, on_ge, on_eq, on_ne, decide_true, decide_false, Nat.reduceEqDiff, Nat.reduceLT, Bool.not_true, Bool.not_false, List.getElem?_cons_zero, List.getElem?_cons_succ, len_nils, len_imm, len_sl, len_str, natOf, readA, okU, Option.bind_some, h0, h1, h5, hd, hd1, a4]))
              | ((with_reducible refine wc_true ?hc ?_); case hc => (simp only [aop, evalO, nlO, nl_bool, nl_int, nl_ptr, nl_nilp, nl_nils, nl_imm, nl_tup, nl_agg, nl_func, nl_str, nl_sl, nl_iptr, nlAll, ok1, callA, List.append_nil, List.nil_append, get_nd, cond_true, cond_false, Option.getD_some, Nat.beq, b_gtr, b_geq, b_leq, b_lss, b_eql, b_neq, b_add, b_sub, on_lt, on_le, on_gt, on_ge, on_eq, on_ne, decide_true, decide_false, Nat.reduceEqDiff, Nat.reduceLT, Bool.not_true, Bool.not_false, List.getElem?_cons_zero, List.getElem?_cons_succ, len_nils, len_imm, len_sl, len_str, natOf, readA, okU, Option.bind_some, h0, h1, h5, hd, hd1, a4]))
              | ((with_reducible refine wc_false ?hc ?_); case hc => (simp only [aop, evalO, nlO, nl_bool, nl_int, nl_ptr, nl_nilp, nl_nils, nl_imm, nl_tup, nl_agg, nl_func, nl_str, nl_sl, nl_iptr, nlAll, ok1, callA, List.append_nil, List.nil_append, get_nd, cond_true, cond_false, Option.getD_some, Nat.beq, b_gtr, b_geq, b_leq, b_lss, b_eql, b_neq, b_add, b_sub, on_lt, on_le, on_gt, on_ge, on_eq, on_ne, decide_true, decide_false, Nat.reduceEqDiff, Nat.reduceLT, Bool.not_true, Bool.not_false, List.getElem?_cons_zero, List.getElem?_cons_succ, len_nils, len_imm, len_sl, len_str, natOf, readA, okU, Option.bind_some, h0, h1, h5, hd, hd1, a4]))
              | with_reducible refine wc_skip ?_
              | with_reducible refine wc_ret ?_
              | with_reducible refine wc_exit ?_
              | with_reducible refine sk_ret ?_
              | with_reducible refine sk_exit ?_
              | with_reducible refine bk_normal ?_
              | with_reducible refine bk_ret ?_
              | with_reducible refine bk_here ?_)
            exact ⟨.inr rfl, rfl, [.int .i64 (.ofNat (q + 1))], by simp only [resA, get_nd, Nat.beq, cond_true, cond_false, Option.getD_some, nl_bool, nl_int, nl_nils, nl_imm, nl_agg, nl_str, nl_ptr, nl_nilp, nl_sl], rfl⟩
          · have hd1 : decide (1 < j) = false := by simpa using h1j
            have e1 : pas F R R 0 = q := by
              rw [← hp]
              obtain ⟨j, rfl⟩ : ∃ k, j = k + 1 := ⟨j - 1, by omega⟩
              rw [pas, if_neg hlt, if_neg h1j]
            rw [e1]
            repeat (first
              | with_reducible refine wc_seq ?_
              | with_reducible refine wc_region ?_
              | with_reducible refine wr_nil ?_
              | with_reducible refine sk_normal ?_
              | with_reducible refine wc_block ?_
              | ((with_reducible apply wr_some); case ho => ((simp only [aop, evalO, nlO, nl_bool, nl_int, nl_ptr, nl_nilp, nl_nils, nl_imm, nl_tup, nl_agg, nl_func, nl_str, nl_sl, nl_iptr, nlAll, ok1, callA, List.append_nil, List.nil_append, get_nd, cond_true, cond_false, Option.getD_some, Nat.beq, b_gtr, b_geq, b_leq, b_lss, b_eql, b_neq, b_add, b_sub, on_lt, on_le, on_gt, on_ge, on_eq, on_ne, decide_true, decide_false, Nat.reduceEqDiff, Nat.reduceLT, Bool.not_true, Bool.not_false, List.getElem?_cons_zero, List.getElem?_cons_succ, len_nils, len_imm, len_sl, len_str, natOf, readA, okU, Option.bind_some, h0, h1, h5, hd, hd1]); with_reducible exact rfl))
              | ((with_reducible apply wr_none); case ho => ((simp only [aop, evalO, nlO, nl_bool, nl_int, nl_ptr, nl_nilp, nl_nils, nl_imm, nl_tup, nl_agg, nl_func, nl_str, nl_sl, nl_iptr, nlAll, ok1, callA, List.append_nil, List.nil_append, get_nd, cond_true, cond_false, Option.getD_some, Nat.beq, b_gtr, b_geq, b_leq, b_lss, b_eql, b_neq, b_add, b_sub, on_lt, on_le, on_gt, on_ge, on_eq, on_ne, decide_true, decide_false, Nat.reduceEqDiff, Nat.reduceLT, Bool.not_true, Bool.not_false, List.getElem?_cons_zero, List.getElem?_cons_succ, len_nils, len_imm, len_sl, len_str, natOf, readA, okU, Option.bind_some, h0, h1, h5, hd, hd1]); with_reducible exact rfl))
              | ((with_reducible apply wr_yes); (case hg => (simp only [aop, evalO, nlO, nl_bool, nl_int, nl_ptr, nl_nilp, nl_nils, nl_imm, nl_tup, nl_agg, nl_func, nl_str, nl_sl, nl_iptr, nlAll, ok1, callA, List.append_nil, List.nil_append, get_nd, cond_true, cond_false, Option.getD_some, Nat.beq, b_gtr, b_geq, b_leq, b_lss, b_eql, b_neq, b_add, b_sub, on_lt, on_le, on_gt, on_ge, on_eq, on_ne, decide_true, decide_false, Nat.reduceEqDiff, Nat.reduceLT, Bool.not_true, Bool.not_false, List.getElem?_cons_zero, List.getElem?_cons_succ, len_nils, len_imm, len_sl, len_str, natOf, readA, okU, Option.bind_some, h0, h1, h5, hd, hd1])); (case ho => ((simp only [aop, evalO, nlO, nl_bool, nl_int, nl_ptr, nl_nilp, nl_nils, nl_imm, nl_tup, nl_agg, nl_func, nl_str, nl_sl, nl_iptr, nlAll, ok1, callA, List.append_nil, List.nil_append, get_nd, cond_true, cond_false, Option.getD_some, Nat.beq, b_gtr, b_geq, b_leq, b_lss, b_eql, b_neq, b_add, b_sub, on_lt, on_le, on_gt, on_ge, on_eq, on_ne, decide_true, decide_false, Nat.reduceEqDiff, Nat.reduceLT, Bool.not_true, Bool.not_false, List.getElem?_cons_zero, List.getElem?_cons_succ, len_nils, len_imm, len_sl, len_str, natOf, readA, okU, Option.bind_some, h0, h1, h5, hd, hd1]); with_reducible exact rfl)))
              | ((with_reducible refine wr_no ?hg ?_); case hg => (simp only [aop, evalO, nlO, nl_bool, nl_int, nl_ptr, nl_nilp, nl_nils, nl_imm, nl_tup, nl_agg, nl_func, nl_str, nl_sl, nl_iptr, nlAll, ok1, callA, List.append_nil, List.nil_append, get_nd, cond_true, cond_false, Option.getD_some, Nat.beq, b_gtr, b_geq, b_leq, b_lss, b_eql, b_neq, b_add, b_sub, on_lt, on_le, on_gt, on_ge, on_eq, on_ne, decide_true, decide_false, Nat.reduceEqDiff, Nat.reduceLT, Bool.not_true, Bool.not_false, List.getElem?_cons_zero, List.getElem?_cons_succ, len_nils, len_imm, len_sl, len_str, natOf, readA, okU, Option.bind_some, h0, h1, h5, hd, hd1]))
              | ((with_reducible refine wc_true ?hc ?_); case hc => (simp only [aop, evalO, nlO, nl_bool, nl_int, nl_ptr, nl_nilp, nl_nils, nl_imm, nl_tup, nl_agg, nl_func, nl_str, nl_sl, nl_iptr, nlAll, ok1, callA, List.append_nil, List.nil_append, get_nd, cond_true, cond_false, Option.getD_some, Nat.beq, b_gtr, b_geq, b_leq, b_lss, b_eql, b_neq, b_add, b_sub, on_lt, on_le, on_gt, on_ge, on_eq, on_ne, decide_true, decide_false, Nat.reduceEqDiff, Nat.reduceLT, Bool.not_true, Bool.not_false, List.getElem?_cons_zero, List.getElem?_cons_succ, len_nils, len_imm, len_sl, len_str, natOf, readA, okU, Option.bind_some, h0, h1, h5, hd, hd1]))
              | ((with_reducible refine wc_false ?hc ?_); case hc => (simp only [aop, evalO, nlO, nl_bool, nl_int, nl_ptr, nl_nilp, nl_nils, nl_imm, nl_tup, nl_agg, nl_func, nl_str, nl_sl, nl_iptr, nlAll, ok1, callA, List.append_nil, List.nil_append, get_nd, cond_true, cond_false, Option.getD_some, Nat.beq, b_gtr, b_geq, b_leq, b_lss, b_eql, b_neq, b_add, b_sub, on_lt, on_le, on_gt, on_ge, on_eq, on_ne, decide_true, decide_false, Nat.reduceEqDiff, Nat.reduceLT, Bool.not_true, Bool.not_false, List.getElem?_cons_zero, List.getElem?_cons_succ, len_nils, len_imm, len_sl, len_str, natOf, readA, okU, Option.bind_some, h0, h1, h5, hd, hd1]))
              | with_reducible refine wc_skip ?_
              | with_reducible refine wc_ret ?_
              | with_reducible refine wc_exit ?_
              | with_reducible refine sk_ret ?_
              | with_reducible refine sk_exit ?_
              | with_reducible refine bk_normal ?_
              | with_reducible refine bk_ret ?_
              | with_reducible refine bk_here ?_)
            exact ⟨.inr rfl, rfl, [.int .i64 (.ofNat q)], by simp only [resA, get_nd, Nat.beq, cond_true, cond_false, Option.getD_some, nl_bool, nl_int, nl_nils, nl_imm, nl_agg, nl_str, nl_ptr, nl_nilp, nl_sl, h5], rfl⟩
      · exact ⟨_, _, 0, rfl, hR, by omega, by simp [get_nd, Nat.beq], by simp [get_nd, Nat.beq], by simp [get_nd, Nat.beq], rfl⟩

theorem passes13 (O D : Oracle) (n : Nat) (runs fan : Int) (hr : runs ≤ 1073741824) (hn : 1073741900 < n) (h : AHeap) :
    runFn O D n ProgZ.a13 [.int .i64 runs, .int .i64 fan] h = some (.int .i64 (.ofNat (pasI runs fan)), h) := by
  obtain ⟨n, rfl⟩ : ∃ m, n = m + 1 := ⟨n - 1, by omega⟩
  refine fn_pure ?_
  generalize ({ h with lock := h.next } : AHeap) = H
  by_cases hr1 : runs < 1
  · have g1 : decide (runs < Int.ofNat 1) = true := by simpa using hr1
    have e0 : pasI runs fan = 0 := if_pos (.inl hr1)
    rw [e0]
    repeat (first
      | with_reducible refine wc_seq ?_
      | with_reducible refine wc_region ?_
      | with_reducible refine wr_nil ?_
      | with_reducible refine sk_normal ?_
      | with_reducible refine wc_block ?_
      | ((with_reducible apply wr_some); case ho => ((simp only [aop, evalO, nlO, nl_bool, nl_int, nl_ptr, nl_nilp, nl_nils, nl_imm, nl_tup, nl_agg, nl_func, nl_str, nl_sl, nl_iptr, nlAll, ok1, callA, List.append_nil, List.nil_append, get_nd, cond_true, cond_false, Option.getD_some, Nat.beq, b_gtr, b_geq, b_leq, b_lss, b_eql, b_neq, b_add, b_sub, on_lt, on_le, on_gt, on_ge, on_eq, on_ne, decide_true, decide_false, Nat.reduceEqDiff, Nat.reduceLT, Bool.not_true, Bool.not_false, List.getElem?_cons_zero, List.getElem?_cons_succ, len_nils, len_imm, len_sl, len_str, natOf, readA, okU, Option.bind_some, g1, initT]); with_reducible exact rfl))
      | ((with_reducible apply wr_none); case ho => ((simp only [aop, evalO, nlO, nl_bool, nl_int, nl_ptr, nl_nilp, nl_nils, nl_imm, nl_tup, nl_agg, nl_func, nl_str, nl_sl, nl_iptr, nlAll, ok1, callA, List.append_nil, List.nil_append, get_nd, cond_true, cond_false, Option.getD_some, Nat.beq, b_gtr, b_geq, b_leq, b_lss, b_eql, b_neq, b_add, b_sub, on_lt, on_le, on_gt, on_ge, on_eq, on_ne, decide_true, decide_false, Nat.reduceEqDiff, Nat.reduceLT, Bool.not_true, Bool.not_false, List.getElem?_cons_zero, List.getElem?_cons_succ, len_nils, len_imm, len_sl, len_str, natOf, readA, okU, Option.bind_some, g1, initT]); with_reducible exact rfl))
      | ((with_reducible apply wr_yes); (case hg => (simp only [aop, evalO, nlO, nl_bool, nl_int, nl_ptr, nl_nilp, nl_nils, nl_imm, nl_tup, nl_agg, nl_func, nl_str, nl_sl, nl_iptr, nlAll, ok1, callA, List.append_nil, List.nil_append, get_nd, cond_true, cond_false, Option.getD_some, Nat.beq, b_gtr, b_geq, b_leq, b_lss, b_eql, b_neq, b_add, b_sub, on_lt, on_le, on_gt, on_ge, on_eq, on_ne, decide_true, decide_false, Nat.reduceEqDiff, Nat.reduceLT, Bool.not_true, Bool.not_false, List.getElem?_cons_zero, List.getElem?_cons_succ, len_nils, len_imm, len_sl, len_str, natOf, readA, okU, Option.bind_some, g1, initT])); (case ho => ((simp only [aop, evalO, nlO, nl_bool, nl_int, nl_ptr, nl_nilp, nl_nils, nl_imm, nl_tup, nl_agg, nl_func, nl_str, nl_sl, nl_iptr, nlAll, ok1, callA, List.append_nil, List.nil_append, get_nd, cond_true, cond_false, Option.getD_some, Nat.beq, b_gtr, b_geq, b_leq, b_lss, b_eql, b_neq, b_add, b_sub, on_lt, on_le, on_gt, on_ge, on_eq, on_ne, decide_true, decide_false, Nat.reduceEqDiff, Nat.reduceLT, Bool.not_true, Bool.not_false, List.getElem?_cons_zero, List.getElem?_cons_succ, len_nils, len_imm, len_sl, len_str, natOf, readA, okU, Option.bind_some, g1, initT]); with_reducible exact rfl)))
      | ((with_reducible refine wr_no ?hg ?_); case hg => (simp only [aop, evalO, nlO, nl_bool, nl_int, nl_ptr, nl_nilp, nl_nils, nl_imm, nl_tup, nl_agg, nl_func, nl_str, nl_sl, nl_iptr, nlAll, ok1, callA, List.append_nil, List.nil_append, get_nd, cond_true, cond_false, Option.getD_some, Nat.beq, b_gtr, b_geq, b_leq, b_lss, b_eql, b_neq, b_add, b_sub, on_lt, on_le, on_gt, on_ge, on_eq, on_ne, decide_true, decide_false, Nat.reduceEqDiff, Nat.reduceLT, Bool.not_true, Bool.not_false, List.getElem?_cons_zero, List.getElem?_cons_succ, len_nils, len_imm, len_sl, len_str, natOf, readA, okU, Option.bind_some, g1, initT]))
      | ((with_reducible refine wc_true ?hc ?_); case hc => (simp only [aop, evalO, nlO, nl_bool, nl_int, nl_ptr, nl_nilp, nl_nils, nl_imm, nl_tup, nl_agg, nl_func, nl_str, nl_sl, nl_iptr, nlAll, ok1, callA, List.append_nil, List.nil_append, get_nd, cond_true, cond_false, Option.getD_some, Nat.beq, b_gtr, b_geq, b_leq, b_lss, b_eql, b_neq, b_add, b_sub, on_lt, on_le, on_gt, on_ge, on_eq, on_ne, decide_true, decide_false, Nat.reduceEqDiff, Nat.reduceLT, Bool.not_true, Bool.not_false, List.getElem?_cons_zero, List.getElem?_cons_succ, len_nils, len_imm, len_sl, len_str, natOf, readA, okU, Option.bind_some, g1, initT]))
      | ((with_reducible refine wc_false ?hc ?_); case hc => (simp only [aop, evalO, nlO, nl_bool, nl_int, nl_ptr, nl_nilp, nl_nils, nl_imm, nl_tup, nl_agg, nl_func, nl_str, nl_sl, nl_iptr, nlAll, ok1, callA, List.append_nil, List.nil_append, get_nd, cond_true, cond_false, Option.getD_some, Nat.beq, b_gtr, b_geq, b_leq, b_lss, b_eql, b_neq, b_add, b_sub, on_lt, on_le, on_gt, on_ge, on_eq, on_ne, decide_true, decide_false, Nat.reduceEqDiff, Nat.reduceLT, Bool.not_true, Bool.not_false, List.getElem?_cons_zero, List.getElem?_cons_succ, len_nils, len_imm, len_sl, len_str, natOf, readA, okU, Option.bind_some, g1, initT]))
      | with_reducible refine wc_skip ?_
      | with_reducible refine wc_ret ?_
      | with_reducible refine wc_exit ?_
      | with_reducible refine sk_ret ?_
      | with_reducible refine sk_exit ?_
      | with_reducible refine bk_normal ?_
      | with_reducible refine bk_ret ?_
      | with_reducible refine bk_here ?_)
    exact ⟨.inr rfl, rfl, [.int .i64 (.ofNat 0)], by simp only [resA, get_nd, Nat.beq, cond_true, cond_false, Option.getD_some, nl_bool, nl_int, nl_nils, nl_imm, nl_agg, nl_str, nl_ptr, nl_nilp, nl_sl], rfl⟩
  · have g1 : decide (runs < Int.ofNat 1) = false := by simpa using hr1
    by_cases hf2 : fan < 2
    · have g2 : decide (fan < Int.ofNat 2) = true := by simpa using hf2
      have e0 : pasI runs fan = 0 := if_pos (.inr hf2)
      rw [e0]
      repeat (first
        | with_reducible refine wc_seq ?_
        | with_reducible refine wc_region ?_
        | with_reducible refine wr_nil ?_
        | with_reducible refine sk_normal ?_
        | with_reducible refine wc_block ?_
        | ((with_reducible apply wr_some); case ho => ((simp only [aop, evalO, nlO, nl_bool, nl_int, nl_ptr, nl_nilp, nl_nils, nl_imm, nl_tup, nl_agg, nl_func, nl_str, nl_sl, nl_iptr, nlAll, ok1, callA, List.append_nil, List.nil_append, get_nd, cond_true, cond_false, Option.getD_some, Nat.beq, b_gtr, b_geq, b_leq, b_lss, b_eql, b_neq, b_add, b_sub, on_lt, on_le, on_gt, on_ge, on_eq, on_ne, decide_true, decide_false, Nat.reduceEqDiff, Nat.reduceLT, Bool.not_true, Bool.not_false, List.getElem?_cons_zero, List.getElem?_cons_succ, len_nils, len_imm, len_sl, len_str, natOf, readA, okU, Option.bind_some, g1, g2, initT]); with_reducible exact rfl))
        | ((with_reducible apply wr_none); case ho => ((simp only [aop, evalO, nlO, nl_bool, nl_int, nl_ptr, nl_nilp, nl_nils, nl_imm, nl_tup, nl_agg, nl_func, nl_str, nl_sl, nl_iptr, nlAll, ok1, callA, List.append_nil, List.nil_append, get_nd, cond_true, cond_false, Option.getD_some, Nat.beq, b_gtr, b_geq, b_leq, b_lss, b_eql, b_neq, b_add, b_sub, on_lt, on_le, on_gt, on_ge, on_eq, on_ne, decide_true, decide_false, Nat.reduceEqDiff, Nat.reduceLT, Bool.not_true, Bool.not_false, List.getElem?_cons_zero, List.getElem?_cons_succ, len_nils, len_imm, len_sl, len_str, natOf, readA, okU, Option.bind_some, g1, g2, initT]); with_reducible exact rfl))
        | ((with_reducible apply wr_yes); (case hg => (simp only [aop, evalO, nlO, nl_bool, nl_int, nl_ptr, nl_nilp, nl_nils, nl_imm, nl_tup, nl_agg, nl_func, nl_str, nl_sl, nl_iptr, nlAll, ok1, callA, List.append_nil, List.nil_append, get_nd, cond_true, cond_false, Option.getD_some, Nat.beq, b_gtr, b_geq, b_leq, b_lss, b_eql, b_neq, b_add, b_sub, on_lt, on_le, on_gt, on_ge, on_eq, on_ne, decide_true, decide_false, Nat.reduceEqDiff, Nat.reduceLT, Bool.not_true, Bool.not_false, List.getElem?_cons_zero, List.getElem?_cons_succ, len_nils, len_imm, len_sl, len_str, natOf, readA, okU, Option.bind_some, g1, g2, initT])); (case ho => ((simp only [aop, evalO, nlO, nl_bool, nl_int, nl_ptr, nl_nilp, nl_nils, nl_imm, nl_tup, nl_agg, nl_func, nl_str, nl_sl, nl_iptr, nlAll, ok1, callA, List.append_nil, List.nil_append, get_nd, cond_true, cond_false, Option.getD_some, Nat.beq, b_gtr, b_geq, b_leq, b_lss, b_eql, b_neq, b_add, b_sub, on_lt, on_le, on_gt, on_ge, on_eq, on_ne, decide_true, decide_false, Nat.reduceEqDiff, Nat.reduceLT, Bool.not_true, Bool.not_false, List.getElem?_cons_zero, List.getElem?_cons_succ, len_nils, len_imm, len_sl, len_str, natOf, readA, okU, Option.bind_some, g1, g2, initT]); with_reducible exact rfl)))
        | ((with_reducible refine wr_no ?hg ?_); case hg => (simp only [aop, evalO, nlO, nl_bool, nl_int, nl_ptr, nl_nilp, nl_nils, nl_imm, nl_tup, nl_agg, nl_func, nl_str, nl_sl, nl_iptr, nlAll, ok1, callA, List.append_nil, List.nil_append, get_nd, cond_true, cond_false, Option.getD_some, Nat.beq, b_gtr, b_geq, b_leq, b_lss, b_eql, b_neq, b_add, b_sub, on_lt, on_le, on_gt, on_ge, on_eq, on_ne, decide_true, decide_false, Nat.reduceEqDiff, Nat.reduceLT, Bool.not_true, Bool.not_false, List.getElem?_cons_zero, List.getElem?_cons_succ, len_nils, len_imm, len_sl, len_str, natOf, readA, okU, Option.bind_some, g1, g2, initT]))
        | ((with_reducible refine wc_true ?hc ?_); case hc => (simp only [aop, evalO, nlO, nl_bool, nl_int, nl_ptr, nl_nilp, nl_nils, nl_imm, nl_tup, nl_agg, nl_func, nl_str, nl_sl, nl_iptr, nlAll, ok1, callA, List.append_nil, List.nil_append, get_nd, cond_true, cond_false, Option.getD_some, Nat.beq, b_gtr, b_geq, b_leq, b_lss, b_eql, b_neq, b_add, b_sub, on_lt, on_le, on_gt, on_ge, on_eq, on_ne, decide_true, decide_false, Nat.reduceEqDiff, Nat.reduceLT, Bool.not_true, Bool.not_false, List.getElem?_cons_zero, List.getElem?_cons_succ, len_nils, len_imm, len_sl, len_str, natOf, readA, okU, Option.bind_some, g1, g2, initT]))
        | ((with_reducible refine wc_false ?hc ?_); case hc => (simp only [aop, evalO, nlO, nl_bool, nl_int, nl_ptr, nl_nilp, nl_nils, nl_imm, nl_tup, nl_agg, nl_func, nl_str, nl_sl, nl_iptr, nlAll, ok1, callA, List.append_nil, List.nil_append, get_nd, cond_true, cond_false, Option.getD_some, Nat.beq, b_gtr, b_geq, b_leq, b_lss, b_eql, b_neq, b_add, b_sub, on_lt, on_le, on_gt, on_ge, on_eq, on_ne, decide_true, decide_false, Nat.reduceEqDiff, Nat.reduceLT, Bool.not_true, Bool.not_false, List.getElem?_cons_zero, List.getElem?_cons_succ, len_nils, len_imm, len_sl, len_str, natOf, readA, okU, Option.bind_some, g1, g2, initT]))
        | with_reducible refine wc_skip ?_
        | with_reducible refine wc_ret ?_
        | with_reducible refine wc_exit ?_
        | with_reducible refine sk_ret ?_
        | with_reducible refine sk_exit ?_
        | with_reducible refine bk_normal ?_
        | with_reducible refine bk_ret ?_
        | with_reducible refine bk_here ?_)
      exact ⟨.inr rfl, rfl, [.int .i64 (.ofNat 0)], by simp only [resA, get_nd, Nat.beq, cond_true, cond_false, Option.getD_some, nl_bool, nl_int, nl_nils, nl_imm, nl_agg, nl_str, nl_ptr, nl_nilp, nl_sl], rfl⟩
    · have g2 : decide (fan < Int.ofNat 2) = false := by simpa using hf2
      have e0 : pasI runs fan = pas fan.toNat runs.toNat runs.toNat 0 := if_neg (fun h => h.elim hr1 hf2)
      rw [e0]
      obtain ⟨R, rfl⟩ : ∃ R : Nat, runs = Int.ofNat R := ⟨runs.toNat, by simp; omega⟩
      obtain ⟨F, rfl⟩ : ∃ F : Nat, fan = Int.ofNat F := ⟨fan.toNat, by simp; omega⟩
      have hR : 1 ≤ R := by
        have : ¬ ((R : Int) < 1) := hr1
        omega
      have hRm : R ≤ 1073741824 := by
        have : (R : Int) ≤ 1073741824 := hr
        omega
      have hF : 2 ≤ F := by
        have : ¬ ((F : Int) < 2) := hf2
        omega
      show WC _ _ _ _ (retP _ _ _ (.int .i64 (.ofNat (pas F R R 0))))
      repeat (first
        | with_reducible refine wc_seq ?_
        | with_reducible refine wc_region ?_
        | with_reducible refine wr_nil ?_
        | with_reducible refine sk_normal ?_
        | with_reducible refine wc_block ?_
        | ((with_reducible apply wr_some); case ho => ((simp only [aop, evalO, nlO, nl_bool, nl_int, nl_ptr, nl_nilp, nl_nils, nl_imm, nl_tup, nl_agg, nl_func, nl_str, nl_sl, nl_iptr, nlAll, ok1, callA, List.append_nil, List.nil_append, get_nd, cond_true, cond_false, Option.getD_some, Nat.beq, b_gtr, b_geq, b_leq, b_lss, b_eql, b_neq, b_add, b_sub, on_lt, on_le, on_gt, on_ge, on_eq, on_ne, decide_true, decide_false, Nat.reduceEqDiff, Nat.reduceLT, Bool.not_true, Bool.not_false, List.getElem?_cons_zero, List.getElem?_cons_succ, len_nils, len_imm, len_sl, len_str, natOf, readA, okU, Option.bind_some, g1, g2, initT]); with_reducible exact rfl))
        | ((with_reducible apply wr_none); case ho => ((simp only [aop, evalO, nlO, nl_bool, nl_int, nl_ptr, nl_nilp, nl_nils, nl_imm, nl_tup, nl_agg, nl_func, nl_str, nl_sl, nl_iptr, nlAll, ok1, callA, List.append_nil, List.nil_append, get_nd, cond_true, cond_false, Option.getD_some, Nat.beq, b_gtr, b_geq, b_leq, b_lss, b_eql, b_neq, b_add, b_sub, on_lt, on_le, on_gt, on_ge, on_eq, on_ne, decide_true, decide_false, Nat.reduceEqDiff, Nat.reduceLT, Bool.not_true, Bool.not_false, List.getElem?_cons_zero, List.getElem?_cons_succ, len_nils, len_imm, len_sl, len_str, natOf, readA, okU, Option.bind_some, g1, g2, initT]); with_reducible exact rfl))
        | ((with_reducible apply wr_yes); (case hg => (simp only [aop, evalO, nlO, nl_bool, nl_int, nl_ptr, nl_nilp, nl_nils, nl_imm, nl_tup, nl_agg, nl_func, nl_str, nl_sl, nl_iptr, nlAll, ok1, callA, List.append_nil, List.nil_append, get_nd, cond_true, cond_false, Option.getD_some, Nat.beq, b_gtr, b_geq, b_leq, b_lss, b_eql, b_neq, b_add, b_sub, on_lt, on_le, on_gt, on_ge, on_eq, on_ne, decide_true, decide_false, Nat.reduceEqDiff, Nat.reduceLT, Bool.not_true, Bool.not_false, List.getElem?_cons_zero, List.getElem?_cons_succ, len_nils, len_imm, len_sl, len_str, natOf, readA, okU, Option.bind_some, g1, g2, initT])); (case ho => ((simp only [aop, evalO, nlO, nl_bool, nl_int, nl_ptr, nl_nilp, nl_nils, nl_imm, nl_tup, nl_agg, nl_func, nl_str, nl_sl, nl_iptr, nlAll, ok1, callA, List.append_nil, List.nil_append, get_nd, cond_true, cond_false, Option.getD_some, Nat.beq, b_gtr, b_geq, b_leq, b_lss, b_eql, b_neq, b_add, b_sub, on_lt, on_le, on_gt, on_ge, on_eq, on_ne, decide_true, decide_false, Nat.reduceEqDiff, Nat.reduceLT, Bool.not_true, Bool.not_false, List.getElem?_cons_zero, List.getElem?_cons_succ, len_nils, len_imm, len_sl, len_str, natOf, readA, okU, Option.bind_some, g1, g2, initT]); with_reducible exact rfl)))
        | ((with_reducible refine wr_no ?hg ?_); case hg => (simp only [aop, evalO, nlO, nl_bool, nl_int, nl_ptr, nl_nilp, nl_nils, nl_imm, nl_tup, nl_agg, nl_func, nl_str, nl_sl, nl_iptr, nlAll, ok1, callA, List.append_nil, List.nil_append, get_nd, cond_true, cond_false, Option.getD_some, Nat.beq, b_gtr, b_geq, b_leq, b_lss, b_eql, b_neq, b_add, b_sub, on_lt, on_le, on_gt, on_ge, on_eq, on_ne, decide_true, decide_false, Nat.reduceEqDiff, Nat.reduceLT, Bool.not_true, Bool.not_false, List.getElem?_cons_zero, List.getElem?_cons_succ, len_nils, len_imm, len_sl, len_str, natOf, readA, okU, Option.bind_some, g1, g2, initT]))
        | ((with_reducible refine wc_true ?hc ?_); case hc => (simp only [aop, evalO, nlO, nl_bool, nl_int, nl_ptr, nl_nilp, nl_nils, nl_imm, nl_tup, nl_agg, nl_func, nl_str, nl_sl, nl_iptr, nlAll, ok1, callA, List.append_nil, List.nil_append, get_nd, cond_true, cond_false, Option.getD_some, Nat.beq, b_gtr, b_geq, b_leq, b_lss, b_eql, b_neq, b_add, b_sub, on_lt, on_le, on_gt, on_ge, on_eq, on_ne, decide_true, decide_false, Nat.reduceEqDiff, Nat.reduceLT, Bool.not_true, Bool.not_false, List.getElem?_cons_zero, List.getElem?_cons_succ, len_nils, len_imm, len_sl, len_str, natOf, readA, okU, Option.bind_some, g1, g2, initT]))
        | ((with_reducible refine wc_false ?hc ?_); case hc => (simp only [aop, evalO, nlO, nl_bool, nl_int, nl_ptr, nl_nilp, nl_nils, nl_imm, nl_tup, nl_agg, nl_func, nl_str, nl_sl, nl_iptr, nlAll, ok1, callA, List.append_nil, List.nil_append, get_nd, cond_true, cond_false, Option.getD_some, Nat.beq, b_gtr, b_geq, b_leq, b_lss, b_eql, b_neq, b_add, b_sub, on_lt, on_le, on_gt, on_ge, on_eq, on_ne, decide_true, decide_false, Nat.reduceEqDiff, Nat.reduceLT, Bool.not_true, Bool.not_false, List.getElem?_cons_zero, List.getElem?_cons_succ, len_nils, len_imm, len_sl, len_str, natOf, readA, okU, Option.bind_some, g1, g2, initT]))
        | with_reducible refine wc_skip ?_
        | with_reducible refine wc_ret ?_
        | with_reducible refine wc_exit ?_
        | with_reducible refine sk_ret ?_
        | with_reducible refine sk_exit ?_
        | with_reducible refine bk_normal ?_
        | with_reducible refine bk_ret ?_
        | with_reducible refine bk_here ?_)
      refine wc_loop (fun j s => ∃ t l q, s = ⟨t, l, H, []⟩ ∧ 1 ≤ j ∧ j + q ≤ R ∧ t.get 0 = some (.int .i64 (.ofNat j)) ∧ t.get 1 = some (.int .i64 (.ofNat F)) ∧ t.get 5 = some (.int .i64 (.ofNat q)) ∧ pas F j j q = pas F R R 0) ?_ R (by omega) ?_
      · rintro j s ⟨t, l, q, rfl, hj, hjq, h0, h1, h5, hp⟩
        by_cases hlt : F < j
        · have hd : decide (F < j) = true := by simpa using hlt
          have a1 := sub64 j 1 (by omega) (by omega)
          have a2 := quo64 (j - 1) F (by omega) (by omega)
          have hle : (j - 1) / F ≤ (j - 1) / 2 := Nat.div_le_div_left hF (by omega)
          have k3 : (j - 1) / F + 1 < j ∧ 1 ≤ (j - 1) / F + 1 ∧ (j - 1) / F + 1 + (q + 1) ≤ R ∧ (j - 1) / F + 1 ≤ 9223372036854775807 := by
            revert hle; generalize (j - 1) / F = d; intro hle; omega
          have a3 := add64 ((j - 1) / F) 1 k3.2.2.2
          have a4 := add64 q 1 (by omega)
          repeat (first
            | with_reducible refine wc_seq ?_
            | with_reducible refine wc_region ?_
            | with_reducible refine wr_nil ?_
            | with_reducible refine sk_normal ?_
            | with_reducible refine wc_block ?_
            | ((with_reducible apply wr_some); case ho => ((simp only [aop, evalO, nlO, nl_bool, nl_int, nl_ptr, nl_nilp, nl_nils, nl_imm, nl_tup, nl_agg, nl_func, nl_str, nl_sl, nl_iptr, nlAll, ok1, callA, List.append_nil, List.nil_append, get_nd, cond_true, cond_false, Option.getD_some, Nat.beq, b_gtr, b_geq, b_leq, b_lss, b_eql, b_neq, b_add, b_sub, on_lt, on_le, on_gt, on_ge, on_eq, on_ne, decide_true, decide_false, Nat.reduceEqDiff, Nat.reduceLT, Bool.not_true, Bool.not_false, List.getElem?_cons_zero, List.getElem?_cons_succ, len_nils, len_imm, len_sl, len_str, natOf, readA, okU, Option.bind_some, h0, h1, h5, a1, a2, a3, a4, b_quo, hd]); with_reducible exact rfl))
            | ((with_reducible apply wr_none); case ho => ((simp only [aop, evalO, nlO, nl_bool, nl_int, nl_ptr, nl_nilp, nl_nils, nl_imm, nl_tup, nl_agg, nl_func, nl_str, nl_sl, nl_iptr, nlAll, ok1, callA, List.append_nil, List.nil_append, get_nd, cond_true, cond_false, Option.getD_some, Nat.beq, b_gtr, b_geq, b_leq, b_lss, b_eql, b_neq, b_add, b_sub, on_lt, on_le, on_gt, on_ge, on_eq, on_ne, decide_true, decide_false, Nat.reduceEqDiff, Nat.reduceLT, Bool.not_true, Bool.not_false, List.getElem?_cons_zero, List.getElem?_cons_succ, len_nils, len_imm, len_sl, len_str, natOf, readA, okU, Option.bind_some, h0, h1, h5, a1, a2, a3, a4, b_quo, hd]); with_reducible exact rfl))
            | ((with_reducible apply wr_yes); (case hg => (simp only [aop, evalO, nlO, nl_bool, nl_int, nl_ptr, nl_nilp, nl_nils, nl_imm, nl_tup, nl_agg, nl_func, nl_str, nl_sl, nl_iptr, nlAll, ok1, callA, List.append_nil, List.nil_append, get_nd, cond_true, cond_false, Option.getD_some, Nat.beq, b_gtr, b_geq, b_leq, b_lss, b_eql, b_neq, b_add, b_sub, on_lt, on_le, on_gt, on_ge, on_eq, on_ne, decide_true, decide_false, Nat.reduceEqDiff, Nat.reduceLT, Bool.not_true, Bool.not_false, List.getElem?_cons_zero, List.getElem?_cons_succ, len_nils, len_imm, len_sl, len_str, natOf, readA, okU, Option.bind_some, h0, h1, h5, a1, a2, a3, a4, b_quo, hd])); (case ho => ((simp only [aop, evalO, nlO, nl_bool, nl_int, nl_ptr, nl_nilp, nl_nils, nl_imm, nl_tup, nl_agg, nl_func, nl_str, nl_sl, nl_iptr, nlAll, ok1, callA, List.append_nil, List.nil_append, get_nd, cond_true, cond_false, Option.getD_some, Nat.beq, b_gtr, b_geq, b_leq, b_lss, b_eql, b_neq, b_add, b_sub, on_lt, on_le, on_gt, on_ge, on_eq, on_ne, decide_true, decide_false, Nat.reduceEqDiff, Nat.reduceLT, Bool.not_true, Bool.not_false, List.getElem?_cons_zero, List.getElem?_cons_succ, len_nils, len_imm, len_sl, len_str, natOf, readA, okU, Option.bind_some, h0, h1, h5, a1, a2, a3, a4, b_quo, hd]); with_reducible exact rfl)))
            | ((with_reducible refine wr_no ?hg ?_); case hg => (simp only [aop, evalO, nlO, nl_bool, nl_int, nl_ptr, nl_nilp, nl_nils, nl_imm, nl_tup, nl_agg, nl_func, nl_str, nl_sl, nl_iptr, nlAll, ok1, callA, List.append_nil, List.nil_append, get_nd, cond_true, cond_false, Option.getD_some, Nat.beq, b_gtr, b_geq, b_leq, b_lss, b_eql, b_neq, b_add, b_sub, on_lt, on_le, on_gt, on_ge, on_eq, on_ne, decide_true, decide_false, Nat.reduceEqDiff, Nat.reduceLT, Bool.not_true, Bool.not_false, List.getElem?_cons_zero, List.getElem?_cons_succ, len_nils, len_imm, len_sl, len_str, natOf, readA, okU, Option.bind_some, h0, h1, h5, a1, a2, a3, a4, b_quo, hd]))
            | ((with_reducible refine wc_true ?hc ?_); case hc => (simp only [aop, evalO, nlO, nl_bool, nl_int, nl_ptr, nl_nilp, nl_nils, nl_imm, nl_tup, nl_agg, nl_func, nl_str, nl_sl, nl_iptr, nlAll, ok1, callA, List.append_nil, List.nil_append, get_nd, cond_true, cond_false, Option.getD_some, Nat.beq, b_gtr, b_geq, b_leq, b_lss, b_eql, b_neq, b_add, b_sub, on_lt, on_le, on_gt, on_ge, on_eq, on_ne, decide_true, decide_false, Nat.reduceEqDiff, Nat.reduceLT, Bool.not_true, Bool.not_false, List.getElem?_cons_zero, List.getElem?_cons_succ, len_nils, len_imm, len_sl, len_str, natOf, readA, okU, Option.bind_some, h0, h1, h5, a1, a2, a3, a4, b_quo, hd]))
            | ((with_reducible refine wc_false ?hc ?_); case hc => (simp only [aop, evalO, nlO, nl_bool, nl_int, nl_ptr, nl_nilp, nl_nils, nl_imm, nl_tup, nl_agg, nl_func, nl_str, nl_sl, nl_iptr, nlAll, ok1, callA, List.append_nil, List.nil_append, get_nd, cond_true, cond_false, Option.getD_some, Nat.beq, b_gtr, b_geq, b_leq, b_lss, b_eql, b_neq, b_add, b_sub, on_lt, on_le, on_gt, on_ge, on_eq, on_ne, decide_true, decide_false, Nat.reduceEqDiff, Nat.reduceLT, Bool.not_true, Bool.not_false, List.getElem?_cons_zero, List.getElem?_cons_succ, len_nils, len_imm, len_sl, len_str, natOf, readA, okU, Option.bind_some, h0, h1, h5, a1, a2, a3, a4, b_quo, hd]))
            | with_reducible refine wc_skip ?_
            | with_reducible refine wc_ret ?_
            | with_reducible refine wc_exit ?_
            | with_reducible refine sk_ret ?_
            | with_reducible refine sk_exit ?_
            | with_reducible refine bk_normal ?_
            | with_reducible refine bk_ret ?_
            | with_reducible refine bk_here ?_)
          refine ⟨(j - 1) / F + 1, k3.1, _, _, q + 1, rfl, k3.2.1, k3.2.2.1, ?_⟩
          simp only [get_nd, Nat.beq, cond_true, cond_false, h1, true_and]
          rw [← hp]
          obtain ⟨j, rfl⟩ : ∃ k, j = k + 1 := ⟨j - 1, by omega⟩
          conv => rhs; rw [pas, if_pos hlt]
          exact pas_fuel F hF _ _ _ _ (Nat.le_refl _) (Nat.le_of_lt_succ k3.1) k3.2.1
        · have hd : decide (F < j) = false := by simpa using hlt
          have a4 := add64 q 1 (by omega)
          by_cases h1j : 1 < j
          · have hd1 : decide (1 < j) = true := by simpa using h1j
            have e1 : pas F R R 0 = q + 1 := by
              rw [← hp]
              obtain ⟨j, rfl⟩ : ∃ k, j = k + 1 := ⟨j - 1, by omega⟩
              rw [pas, if_neg hlt, if_pos h1j]
            rw [e1]
            repeat (first
              | with_reducible refine wc_seq ?_
              | with_reducible refine wc_region ?_
              | with_reducible refine wr_nil ?_
              | with_reducible refine sk_normal ?_
              | with_reducible refine wc_block ?_
              | ((with_reducible apply wr_some); case ho => ((simp only [aop, evalO, nlO, nl_bool, nl_int, nl_ptr, nl_nilp, nl_nils, nl_imm, nl_tup, nl_agg, nl_func, nl_str, nl_sl, nl_iptr, nlAll, ok1, callA, List.append_nil, List.nil_append, get_nd, cond_true, cond_false, Option.getD_some, Nat.beq, b_gtr, b_geq, b_leq, b_lss, b_eql, b_neq, b_add, b_sub, on_lt, on_le, on_gt, on_ge, on_eq, on_ne, decide_true, decide_false, Nat.reduceEqDiff, Nat.reduceLT, Bool.not_true, Bool.not_false, List.getElem?_cons_zero, List.getElem?_cons_succ, len_nils, len_imm, len_sl, len_str, natOf, readA, okU, Option.bind_some, h0, h1, h5, hd, hd1, a4]); with_reducible exact rfl))
              | ((with_reducible apply wr_none); case ho => ((simp only [aop, evalO, nlO, nl_bool, nl_int, nl_ptr, nl_nilp, nl_nils, nl_imm, nl_tup, nl_agg, nl_func, nl_str, nl_sl, nl_iptr, nlAll, ok1, callA, List.append_nil, List.nil_append, get_nd, cond_true, cond_false, Option.getD_some, Nat.beq, b_gtr, b_geq, b_leq, b_lss, b_eql, b_neq, b_add, b_sub, on_lt, on_le, on_gt, on_ge, on_eq, on_ne, decide_true, decide_false, Nat.reduceEqDiff, Nat.reduceLT, Bool.not_true, Bool.not_false, List.getElem?_cons_zero, List.getElem?_cons_succ, len_nils, len_imm, len_sl, len_str, natOf, readA, okU, Option.bind_some, h0, h1, h5, hd, hd1, a4]); with_reducible exact rfl))
              | ((with_reducible apply wr_yes); (case hg => (simp only [aop, evalO, nlO, nl_bool, nl_int, nl_ptr, nl_nilp, nl_nils, nl_imm, nl_tup, nl_agg, nl_func, nl_str, nl_sl, nl_iptr, nlAll, ok1, callA, List.append_nil, List.nil_append, get_nd, cond_true, cond_false, Option.getD_some, Nat.beq, b_gtr, b_geq, b_leq, b_lss, b_eql, b_neq, b_add, b_sub, on_lt, on_le, on_gt, on_ge, on_eq, on_ne, decide_true, decide_false, Nat.reduceEqDiff, Nat.reduceLT, Bool.not_true, Bool.not_false, List.getElem?_cons_zero, List.getElem?_cons_succ, len_nils, len_imm, len_sl, len_str, natOf, readA, okU, Option.bind_some, h0, h1, h5, hd, hd1, a4])); (case ho => ((simp only [aop, evalO, nlO, nl_bool, nl_int, nl_ptr, nl_nilp, nl_nils, nl_imm, nl_tup, nl_agg, nl_func, nl_str, nl_sl, nl_iptr, nlAll, ok1, callA, List.append_nil, List.nil_append, get_nd, cond_true, cond_false, Option.getD_some, Nat.beq, b_gtr, b_geq, b_leq, b_lss, b_eql, b_neq, b_add, b_sub, on_lt, on_le, on_gt, on_ge, on_eq, on_ne, decide_true, decide_false, Nat.reduceEqDiff, Nat.reduceLT, Bool.not_true, Bool.not_false, List.getElem?_cons_zero, List.getElem?_cons_succ, len_nils, len_imm, len_sl, len_str, natOf, readA, okU, Option.bind_some, h0, h1, h5, hd, hd1, a4]); with_reducible exact rfl)))
              | ((with_reducible refine wr_no ?hg ?_); case hg => (simp only [aop, evalO, nlO, nl_bool, nl_int, nl_ptr, nl_nilp, nl_nils, nl_imm, nl_tup, nl_agg, nl_func, nl_str, nl_sl, nl_iptr, nlAll, ok1, callA, List.append_nil, List.nil_append, get_nd, cond_true, cond_false, Option.getD_some, Nat.beq, b_gtr, b_geq, b_leq, b_lss, b_eql, b_neq, b_add, b_sub, on_lt, on_le, on_gt, on_ge, on_eq, on_ne, decide_true, decide_false, Nat.reduceEqDiff, Nat.reduceLT, Bool.not_true, Bool.not_false, List.getElem?_cons_zero, List.getElem?_cons_succ, len_nils, len_imm, len_sl, len_str, natOf, readA, okU, Option.bind_some, h0, h1, h5, hd, hd1, a4]))
              | ((with_reducible refine wc_true ?hc ?_); case hc => (simp only [aop, evalO, nlO, nl_bool, nl_int, nl_ptr, nl_nilp, nl_nils, nl_imm, nl_tup, nl_agg, nl_func, nl_str, nl_sl, nl_iptr, nlAll, ok1, callA, List.append_nil, List.nil_append, get_nd, cond_true, cond_false, Option.getD_some, Nat.beq, b_gtr, b_geq, b_leq, b_lss, b_eql, b_neq, b_add, b_sub, on_lt, on_le, on_gt, on_ge, on_eq, on_ne, decide_true, decide_false, Nat.reduceEqDiff, Nat.reduceLT, Bool.not_true, Bool.not_false, List.getElem?_cons_zero, List.getElem?_cons_succ, len_nils, len_imm, len_sl, len_str, natOf, readA, okU, Option.bind_some, h0, h1, h5, hd, hd1, a4]))
              | ((with_reducible refine wc_false ?hc ?_); case hc => (simp only [aop, evalO, nlO, nl_bool, nl_int, nl_ptr, nl_nilp, nl_nils, nl_imm, nl_tup, nl_agg, nl_func, nl_str, nl_sl, nl_iptr, nlAll, ok1, callA, List.append_nil, List.nil_append, get_nd, cond_true, cond_false, Option.getD_some, Nat.beq, b_gtr, b_geq, b_leq, b_lss, b_eql, b_neq, b_add, b_sub, on_lt, on_le, on_gt, on_ge, on_eq, on_ne, decide_true, decide_false, Nat.reduceEqDiff, Nat.reduceLT, Bool.not_true, Bool.not_false, List.getElem?_cons_zero, List.getElem?_cons_succ, len_nils, len_imm, len_sl, len_str, natOf, readA, okU, Option.bind_some, h0, h1, h5, hd, hd1, a4]))
              | with_reducible refine wc_skip ?_
              | with_reducible refine wc_ret ?_
              | with_reducible refine wc_exit ?_
              | with_reducible refine sk_ret ?_
              | with_reducible refine sk_exit ?_
              | with_reducible refine bk_normal ?_
              | with_reducible refine bk_ret ?_
              | with_reducible refine bk_here ?_)
            exact ⟨.inr rfl, rfl, [.int .i64 (.ofNat (q + 1))], by simp only [resA, get_nd, Nat.beq, cond_true, cond_false, Option.getD_some, nl_bool, nl_int, nl_nils, nl_imm, nl_agg, nl_str, nl_ptr, nl_nilp, nl_sl], rfl⟩
          · have hd1 : decide (1 < j) = false := by simpa using h1j
            have e1 : pas F R R 0 = q := by
              rw [← hp]
              obtain ⟨j, rfl⟩ : ∃ k, j = k + 1 := ⟨j - 1, by omega⟩
              rw [pas, if_neg hlt, if_neg h1j]
            rw [e1]
            repeat (first
              | with_reducible refine wc_seq ?_
              | with_reducible refine wc_region ?_
              | with_reducible refine wr_nil ?_
              | with_reducible refine sk_normal ?_
              | with_reducible refine wc_block ?_
              | ((with_reducible apply wr_some); case ho => ((simp only [aop, evalO, nlO, nl_bool, nl_int, nl_ptr, nl_nilp, nl_nils, nl_imm, nl_tup, nl_agg, nl_func, nl_str, nl_sl, nl_iptr, nlAll, ok1, callA, List.append_nil, List.nil_append, get_nd, cond_true, cond_false, Option.getD_some, Nat.beq, b_gtr, b_geq, b_leq, b_lss, b_eql, b_neq, b_add, b_sub, on_lt, on_le, on_gt, on_ge, on_eq, on_ne, decide_true, decide_false, Nat.reduceEqDiff, Nat.reduceLT, Bool.not_true, Bool.not_false, List.getElem?_cons_zero, List.getElem?_cons_succ, len_nils, len_imm, len_sl, len_str, natOf, readA, okU, Option.bind_some, h0, h1, h5, hd, hd1]); with_reducible exact rfl))
              | ((with_reducible apply wr_none); case ho => ((simp only [aop, evalO, nlO, nl_bool, nl_int, nl_ptr, nl_nilp, nl_nils, nl_imm, nl_tup, nl_agg, nl_func, nl_str, nl_sl, nl_iptr, nlAll, ok1, callA, List.append_nil, List.nil_append, get_nd, cond_true, cond_false, Option.getD_some, Nat.beq, b_gtr, b_geq, b_leq, b_lss, b_eql, b_neq, b_add, b_sub, on_lt, on_le, on_gt, on_ge, on_eq, on_ne, decide_true, decide_false, Nat.reduceEqDiff, Nat.reduceLT, Bool.not_true, Bool.not_false, List.getElem?_cons_zero, List.getElem?_cons_succ, len_nils, len_imm, len_sl, len_str, natOf, readA, okU, Option.bind_some, h0, h1, h5, hd, hd1]); with_reducible exact rfl))
              | ((with_reducible apply wr_yes); (case hg => (simp only [aop, evalO, nlO, nl_bool, nl_int, nl_ptr, nl_nilp, nl_nils, nl_imm, nl_tup, nl_agg, nl_func, nl_str, nl_sl, nl_iptr, nlAll, ok1, callA, List.append_nil, List.nil_append, get_nd, cond_true, cond_false, Option.getD_some, Nat.beq, b_gtr, b_geq, b_leq, b_lss, b_eql, b_neq, b_add, b_sub, on_lt, on_le, on_gt, on_ge, on_eq, on_ne, decide_true, decide_false, Nat.reduceEqDiff, Nat.reduceLT, Bool.not_true, Bool.not_false, List.getElem?_cons_zero, List.getElem?_cons_succ, len_nils, len_imm, len_sl, len_str, natOf, readA, okU, Option.bind_some, h0, h1, h5, hd, hd1])); (case ho => ((simp only [aop, evalO, nlO, nl_bool, nl_int, nl_ptr, nl_nilp, nl_nils, nl_imm, nl_tup, nl_agg, nl_func, nl_str, nl_sl, nl_iptr, nlAll, ok1, callA, List.append_nil, List.nil_append, get_nd, cond_true, cond_false, Option.getD_some, Nat.beq, b_gtr, b_geq, b_leq, b_lss, b_eql, b_neq, b_add, b_sub, on_lt, on_le, on_gt, on_ge, on_eq, on_ne, decide_true, decide_false, Nat.reduceEqDiff, Nat.reduceLT, Bool.not_true, Bool.not_false, List.getElem?_cons_zero, List.getElem?_cons_succ, len_nils, len_imm, len_sl, len_str, natOf, readA, okU, Option.bind_some, h0, h1, h5, hd, hd1]); with_reducible exact rfl)))
              | ((with_reducible refine wr_no ?hg ?_); case hg => (simp only [aop, evalO, nlO, nl_bool, nl_int, nl_ptr, nl_nilp, nl_nils, nl_imm, nl_tup, nl_agg, nl_func, nl_str, nl_sl, nl_iptr, nlAll, ok1, callA, List.append_nil, List.nil_append, get_nd, cond_true, cond_false, Option.getD_some, Nat.beq, b_gtr, b_geq, b_leq, b_lss, b_eql, b_neq, b_add, b_sub, on_lt, on_le, on_gt, on_ge, on_eq, on_ne, decide_true, decide_false, Nat.reduceEqDiff, Nat.reduceLT, Bool.not_true, Bool.not_false, List.getElem?_cons_zero, List.getElem?_cons_succ, len_nils, len_imm, len_sl, len_str, natOf, readA, okU, Option.bind_some, h0, h1, h5, hd, hd1]))
              | ((with_reducible refine wc_true ?hc ?_); case hc => (simp only [aop, evalO, nlO, nl_bool, nl_int, nl_ptr, nl_nilp, nl_nils, nl_imm, nl_tup, nl_agg, nl_func, nl_str, nl_sl, nl_iptr, nlAll, ok1, callA, List.append_nil, List.nil_append, get_nd, cond_true, cond_false, Option.getD_some, Nat.beq, b_gtr, b_geq, b_leq, b_lss, b_eql, b_neq, b_add, b_sub, on_lt, on_le, on_gt, on_ge, on_eq, on_ne, decide_true, decide_false, Nat.reduceEqDiff, Nat.reduceLT, Bool.not_true, Bool.not_false, List.getElem?_cons_zero, List.getElem?_cons_succ, len_nils, len_imm, len_sl, len_str, natOf, readA, okU, Option.bind_some, h0, h1, h5, hd, hd1]))
              | ((with_reducible refine wc_false ?hc ?_); case hc => (simp only [aop, evalO, nlO, nl_bool, nl_int, nl_ptr, nl_nilp, nl_nils, nl_imm, nl_tup, nl_agg, nl_func, nl_str, nl_sl, nl_iptr, nlAll, ok1, callA, List.append_nil, List.nil_append, get_nd, cond_true, cond_false, Option.getD_some, Nat.beq, b_gtr, b_geq, b_leq, b_lss, b_eql, b_neq, b_add, b_sub, on_lt, on_le, on_gt, on_ge, on_eq, on_ne, decide_true, decide_false, Nat.reduceEqDiff, Nat.reduceLT, Bool.not_true, Bool.not_false, List.getElem?_cons_zero, List.getElem?_cons_succ, len_nils, len_imm, len_sl, len_str, natOf, readA, okU, Option.bind_some, h0, h1, h5, hd, hd1]))
              | with_reducible refine wc_skip ?_
              | with_reducible refine wc_ret ?_
              | with_reducible refine wc_exit ?_
              | with_reducible refine sk_ret ?_
              | with_reducible refine sk_exit ?_
              | with_reducible refine bk_normal ?_
              | with_reducible refine bk_ret ?_
              | with_reducible refine bk_here ?_)
            exact ⟨.inr rfl, rfl, [.int .i64 (.ofNat q)], by simp only [resA, get_nd, Nat.beq, cond_true, cond_false, Option.getD_some, nl_bool, nl_int, nl_nils, nl_imm, nl_agg, nl_str, nl_ptr, nl_nilp, nl_sl, h5], rfl⟩
      · exact ⟨_, _, 0, rfl, hR, by omega, by simp [get_nd, Nat.beq], by simp [get_nd, Nat.beq], by simp [get_nd, Nat.beq], rfl⟩
end ZC
