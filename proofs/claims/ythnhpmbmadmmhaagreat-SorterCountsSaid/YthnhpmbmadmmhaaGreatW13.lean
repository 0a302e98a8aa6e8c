/- Part 14 of this claim: an abstract interpreter over the model, its soundness, and what is run in it. -/
import Derived.Test.YthnhpmbmadmmhaaGreatW12
set_option maxRecDepth 20000
set_option linter.unusedSimpArgs false
set_option linter.unusedVariables false
/- SorterCounts: into how many runs rows are cut, in the program. -/
open Wab Go
namespace ZC
set_option maxRecDepth 100000
set_option linter.unusedSimpArgs false
set_option linter.unusedVariables false

/-- How the rows are cut: how many runs there are, how much room is left. -/
def go (most : Nat) : List Nat → Nat → Nat → Option Nat
  | [], n, _ => some n
  | c :: cs, n, left => if most < c then none else if n = 0 ∨ left < c then go most cs (n + 1) (most - c) else go most cs n (left - c)
def costOf : List AVal → Nat
  | [.imm _ ys _] => rowN ys
  | _ => rowN []
theorem costOf_row {v : AVal} {ys : List (List AVal)} (h : RowV v ys) : costOf [v] = rowN ys := by
  rcases h with ⟨rfl, rfl⟩ | ⟨ex, rfl⟩ <;> rfl
theorem sumN_le : ∀ (ys : List (List AVal)), (∀ y ∈ ys, strN y ≤ 300) → sumN ys ≤ 308 * ys.length
  | [], _ => by simp [sumN]
  | y :: ys, h => by
    have h1 := h y List.mem_cons_self
    have h2 := sumN_le ys fun z hz => h z (List.mem_cons_of_mem _ hz)
    simp only [sumN, List.length_cons]; omega
def resP : Option Nat → AVal
  | some n => .tup [.int .i64 (.ofNat n), .int .i64 (.ofNat 0)]
  | none => .tup [.int .i64 (.ofNat 0), .int .i64 (.ofNat 5)]
theorem sub64 (a b : Nat) (hb : b ≤ a) (h : a ≤ 9223372036854775807) : wrapI .i64 (Int.ofNat a - Int.ofNat b) = Int.ofNat (a - b) := by
  have : Int.ofNat a - Int.ofNat b = Int.ofNat (a - b) := by
    show (a : Int) - (b : Int) = ((a - b : Nat) : Int); omega
  rw [this]; exact wrap64 _ (by omega)

theorem runs10 (O D : Oracle) (n : Nat) (hR : ∀ v ys h, RowV v ys → (∀ y ∈ ys, V3 y) → rowN ys ≤ 20000 → ys.length ≤ 40 → O 19 [v] h = some (.int .i64 (.ofNat (rowN ys)), h)) (x : AVal) (xs : List (List AVal)) (hx : RowsV x xs) (hv : ∀ c ∈ xs, Good c) (hl : xs.length ≤ 9223372036854775806) (most : Nat) (hm : most ≤ 1073741824) (hn : xs.length + 9 < n) (h : AHeap) :
    runFn O D n ProgZ.a10 [x, .int .i64 (.ofNat most)] h = some (resP (go most (xs.map costOf) 0 0), h) := by
  have hlen := hx.len
  have hnl := hx.nl
  obtain ⟨n, rfl⟩ : ∃ m, n = m + 8 := ⟨n - 8, by omega⟩
  refine fn_pure ?_
  generalize ({ h with lock := h.next } : AHeap) = H
  repeat (first
    | with_reducible refine wc_seq ?_
    | with_reducible refine wc_region ?_
    | with_reducible refine wr_nil ?_
    | with_reducible refine sk_normal ?_
    | with_reducible refine wc_block ?_
    | ((with_reducible apply wr_some); case ho => ((simp only [aop, evalO, nlO, nl_bool, nl_int, nl_ptr, nl_nilp, nl_nils, nl_imm, nl_tup, nl_agg, nl_func, nl_str, nl_sl, nl_iptr, nlAll, ok1, callA, List.append_nil, List.nil_append, get_nd, cond_true, cond_false, Option.getD_some, Nat.beq, b_gtr, b_geq, b_leq, b_lss, b_eql, b_neq, b_add, b_sub, on_lt, on_le, on_gt, on_ge, on_eq, on_ne, decide_true, decide_false, Nat.reduceEqDiff, Nat.reduceLT, Bool.not_true, Bool.not_false, List.getElem?_cons_zero, List.getElem?_cons_succ, len_nils, len_imm, len_sl, len_str, natOf, readA, okU, Option.bind_some, hlen, hnl, initT]); with_reducible exact rfl))
    | ((with_reducible apply wr_none); case ho => ((simp only [aop, evalO, nlO, nl_bool, nl_int, nl_ptr, nl_nilp, nl_nils, nl_imm, nl_tup, nl_agg, nl_func, nl_str, nl_sl, nl_iptr, nlAll, ok1, callA, List.append_nil, List.nil_append, get_nd, cond_true, cond_false, Option.getD_some, Nat.beq, b_gtr, b_geq, b_leq, b_lss, b_eql, b_neq, b_add, b_sub, on_lt, on_le, on_gt, on_ge, on_eq, on_ne, decide_true, decide_false, Nat.reduceEqDiff, Nat.reduceLT, Bool.not_true, Bool.not_false, List.getElem?_cons_zero, List.getElem?_cons_succ, len_nils, len_imm, len_sl, len_str, natOf, readA, okU, Option.bind_some, hlen, hnl, initT]); with_reducible exact rfl))
    | ((with_reducible apply wr_yes); (case hg => (simp only [aop, evalO, nlO, nl_bool, nl_int, nl_ptr, nl_nilp, nl_nils, nl_imm, nl_tup, nl_agg, nl_func, nl_str, nl_sl, nl_iptr, nlAll, ok1, callA, List.append_nil, List.nil_append, get_nd, cond_true, cond_false, Option.getD_some, Nat.beq, b_gtr, b_geq, b_leq, b_lss, b_eql, b_neq, b_add, b_sub, on_lt, on_le, on_gt, on_ge, on_eq, on_ne, decide_true, decide_false, Nat.reduceEqDiff, Nat.reduceLT, Bool.not_true, Bool.not_false, List.getElem?_cons_zero, List.getElem?_cons_succ, len_nils, len_imm, len_sl, len_str, natOf, readA, okU, Option.bind_some, hlen, hnl, initT])); (case ho => ((simp only [aop, evalO, nlO, nl_bool, nl_int, nl_ptr, nl_nilp, nl_nils, nl_imm, nl_tup, nl_agg, nl_func, nl_str, nl_sl, nl_iptr, nlAll, ok1, callA, List.append_nil, List.nil_append, get_nd, cond_true, cond_false, Option.getD_some, Nat.beq, b_gtr, b_geq, b_leq, b_lss, b_eql, b_neq, b_add, b_sub, on_lt, on_le, on_gt, on_ge, on_eq, on_ne, decide_true, decide_false, Nat.reduceEqDiff, Nat.reduceLT, Bool.not_true, Bool.not_false, List.getElem?_cons_zero, List.getElem?_cons_succ, len_nils, len_imm, len_sl, len_str, natOf, readA, okU, Option.bind_some, hlen, hnl, initT]); with_reducible exact rfl)))
    | ((with_reducible refine wr_no ?hg ?_); case hg => (simp only [aop, evalO, nlO, nl_bool, nl_int, nl_ptr, nl_nilp, nl_nils, nl_imm, nl_tup, nl_agg, nl_func, nl_str, nl_sl, nl_iptr, nlAll, ok1, callA, List.append_nil, List.nil_append, get_nd, cond_true, cond_false, Option.getD_some, Nat.beq, b_gtr, b_geq, b_leq, b_lss, b_eql, b_neq, b_add, b_sub, on_lt, on_le, on_gt, on_ge, on_eq, on_ne, decide_true, decide_false, Nat.reduceEqDiff, Nat.reduceLT, Bool.not_true, Bool.not_false, List.getElem?_cons_zero, List.getElem?_cons_succ, len_nils, len_imm, len_sl, len_str, natOf, readA, okU, Option.bind_some, hlen, hnl, initT]))
    | ((with_reducible refine wc_true ?hc ?_); case hc => (simp only [aop, evalO, nlO, nl_bool, nl_int, nl_ptr, nl_nilp, nl_nils, nl_imm, nl_tup, nl_agg, nl_func, nl_str, nl_sl, nl_iptr, nlAll, ok1, callA, List.append_nil, List.nil_append, get_nd, cond_true, cond_false, Option.getD_some, Nat.beq, b_gtr, b_geq, b_leq, b_lss, b_eql, b_neq, b_add, b_sub, on_lt, on_le, on_gt, on_ge, on_eq, on_ne, decide_true, decide_false, Nat.reduceEqDiff, Nat.reduceLT, Bool.not_true, Bool.not_false, List.getElem?_cons_zero, List.getElem?_cons_succ, len_nils, len_imm, len_sl, len_str, natOf, readA, okU, Option.bind_some, hlen, hnl, initT]))
    | ((with_reducible refine wc_false ?hc ?_); case hc => (simp only [aop, evalO, nlO, nl_bool, nl_int, nl_ptr, nl_nilp, nl_nils, nl_imm, nl_tup, nl_agg, nl_func, nl_str, nl_sl, nl_iptr, nlAll, ok1, callA, List.append_nil, List.nil_append, get_nd, cond_true, cond_false, Option.getD_some, Nat.beq, b_gtr, b_geq, b_leq, b_lss, b_eql, b_neq, b_add, b_sub, on_lt, on_le, on_gt, on_ge, on_eq, on_ne, decide_true, decide_false, Nat.reduceEqDiff, Nat.reduceLT, Bool.not_true, Bool.not_false, List.getElem?_cons_zero, List.getElem?_cons_succ, len_nils, len_imm, len_sl, len_str, natOf, readA, okU, Option.bind_some, hlen, hnl, initT]))
    | with_reducible refine wc_skip ?_
    | with_reducible refine wc_ret ?_
    | with_reducible refine wc_exit ?_
    | with_reducible refine sk_ret ?_
    | with_reducible refine sk_exit ?_
    | with_reducible refine bk_normal ?_
    | with_reducible refine bk_ret ?_
    | with_reducible refine bk_here ?_)
  refine wc_loop (fun j s => ∃ k t l m left, s = ⟨t, l, H, []⟩ ∧ k + j = xs.length ∧ t.get 1 = some (.int .i64 (.ofNat most)) ∧ t.get 11 = some x ∧ t.get 12 = some (.int .i64 (.ofNat xs.length)) ∧ t.get 13 = some (.int .i64 (.ofNat k)) ∧ t.get 6 = some (.int .i64 (.ofNat m)) ∧ t.get 7 = some (.int .i64 (.ofNat left)) ∧
      m ≤ k ∧ left ≤ most ∧ go most ((xs.drop k).map costOf) m left = go most (xs.map costOf) 0 0) ?_ xs.length (by omega) ?_
  · rintro j s ⟨k, t, l, m, left, rfl, hk, h1, h11, h12, h13, h6, h7, hmk, hlm, hgo⟩
    by_cases hlt : k < xs.length
    · have hd : decide (k < xs.length) = true := by simpa using hlt
      have hyk := List.getElem?_eq_getElem hlt
      obtain ⟨v, ys, hs, hrv, hy3, hyl⟩ := hv _ (List.getElem_mem hlt)
      have hcost : rowN ys ≤ 20000 := by
        have := sumN_le ys fun y hy => (hy3 y hy).2
        unfold rowN; omega
      have hrow := hR v ys H hrv (fun y hy => (hy3 y hy).1) hcost hyl
      rw [List.drop_eq_getElem_cons hlt, hs, List.map_cons, costOf_row hrv] at hgo
      rw [hs] at hyk
      have hvl := hrv.len
      have hvn := hrv.nl
      have a3 := add64 k 1 (by omega)
      have a4 := add64 m 1 (by omega)
      generalize rowN ys = c at *
      simp only [go] at hgo
      rcases hx with ⟨rfl, rfl⟩ | ⟨ex, rfl⟩
      · simp at hlt
      by_cases hcm : most < c
      · have g1 : decide (most < c) = true := by simpa using hcm
        rw [if_pos hcm] at hgo
        repeat (first
          | with_reducible refine wc_seq ?_
          | with_reducible refine wc_region ?_
          | with_reducible refine wr_nil ?_
          | with_reducible refine sk_normal ?_
          | with_reducible refine wc_block ?_
          | ((with_reducible apply wr_some); case ho => ((simp only [aop, evalO, nlO, nl_bool, nl_int, nl_ptr, nl_nilp, nl_nils, nl_imm, nl_tup, nl_agg, nl_func, nl_str, nl_sl, nl_iptr, nlAll, ok1, callA, List.append_nil, List.nil_append, get_nd, cond_true, cond_false, Option.getD_some, Nat.beq, b_gtr, b_geq, b_leq, b_lss, b_eql, b_neq, b_add, b_sub, on_lt, on_le, on_gt, on_ge, on_eq, on_ne, decide_true, decide_false, Nat.reduceEqDiff, Nat.reduceLT, Bool.not_true, Bool.not_false, List.getElem?_cons_zero, List.getElem?_cons_succ, len_nils, len_imm, len_sl, len_str, natOf, readA, okU, Option.bind_some, hd, hyk, h1, h6, h7, h11, h12, h13, hvl, hvn, hlen, hnl, get1, ofc_one, a3, a4, hrow, g1]); with_reducible exact rfl))
          | ((with_reducible apply wr_none); case ho => ((simp only [aop, evalO, nlO, nl_bool, nl_int, nl_ptr, nl_nilp, nl_nils, nl_imm, nl_tup, nl_agg, nl_func, nl_str, nl_sl, nl_iptr, nlAll, ok1, callA, List.append_nil, List.nil_append, get_nd, cond_true, cond_false, Option.getD_some, Nat.beq, b_gtr, b_geq, b_leq, b_lss, b_eql, b_neq, b_add, b_sub, on_lt, on_le, on_gt, on_ge, on_eq, on_ne, decide_true, decide_false, Nat.reduceEqDiff, Nat.reduceLT, Bool.not_true, Bool.not_false, List.getElem?_cons_zero, List.getElem?_cons_succ, len_nils, len_imm, len_sl, len_str, natOf, readA, okU, Option.bind_some, hd, hyk, h1, h6, h7, h11, h12, h13, hvl, hvn, hlen, hnl, get1, ofc_one, a3, a4, hrow, g1]); with_reducible exact rfl))
          | ((with_reducible apply wr_yes); (case hg => (simp only [aop, evalO, nlO, nl_bool, nl_int, nl_ptr, nl_nilp, nl_nils, nl_imm, nl_tup, nl_agg, nl_func, nl_str, nl_sl, nl_iptr, nlAll, ok1, callA, List.append_nil, List.nil_append, get_nd, cond_true, cond_false, Option.getD_some, Nat.beq, b_gtr, b_geq, b_leq, b_lss, b_eql, b_neq, b_add, b_sub, on_lt, on_le, on_gt, on_ge, on_eq, on_ne, decide_true, decide_false, Nat.reduceEqDiff, Nat.reduceLT, Bool.not_true, Bool.not_false, List.getElem?_cons_zero, List.getElem?_cons_succ, len_nils, len_imm, len_sl, len_str, natOf, readA, okU, Option.bind_some, hd, hyk, h1, h6, h7, h11, h12, h13, hvl, hvn, hlen, hnl, get1, ofc_one, a3, a4, hrow, g1])); (case ho => ((simp only [aop, evalO, nlO, nl_bool, nl_int, nl_ptr, nl_nilp, nl_nils, nl_imm, nl_tup, nl_agg, nl_func, nl_str, nl_sl, nl_iptr, nlAll, ok1, callA, List.append_nil, List.nil_append, get_nd, cond_true, cond_false, Option.getD_some, Nat.beq, b_gtr, b_geq, b_leq, b_lss, b_eql, b_neq, b_add, b_sub, on_lt, on_le, on_gt, on_ge, on_eq, on_ne, decide_true, decide_false, Nat.reduceEqDiff, Nat.reduceLT, Bool.not_true, Bool.not_false, List.getElem?_cons_zero, List.getElem?_cons_succ, len_nils, len_imm, len_sl, len_str, natOf, readA, okU, Option.bind_some, hd, hyk, h1, h6, h7, h11, h12, h13, hvl, hvn, hlen, hnl, get1, ofc_one, a3, a4, hrow, g1]); with_reducible exact rfl)))
          | ((with_reducible refine wr_no ?hg ?_); case hg => (simp only [aop, evalO, nlO, nl_bool, nl_int, nl_ptr, nl_nilp, nl_nils, nl_imm, nl_tup, nl_agg, nl_func, nl_str, nl_sl, nl_iptr, nlAll, ok1, callA, List.append_nil, List.nil_append, get_nd, cond_true, cond_false, Option.getD_some, Nat.beq, b_gtr, b_geq, b_leq, b_lss, b_eql, b_neq, b_add, b_sub, on_lt, on_le, on_gt, on_ge, on_eq, on_ne, decide_true, decide_false, Nat.reduceEqDiff, Nat.reduceLT, Bool.not_true, Bool.not_false, List.getElem?_cons_zero, List.getElem?_cons_succ, len_nils, len_imm, len_sl, len_str, natOf, readA, okU, Option.bind_some, hd, hyk, h1, h6, h7, h11, h12, h13, hvl, hvn, hlen, hnl, get1, ofc_one, a3, a4, hrow, g1]))
          | ((with_reducible refine wc_true ?hc ?_); case hc => (simp only [aop, evalO, nlO, nl_bool, nl_int, nl_ptr, nl_nilp, nl_nils, nl_imm, nl_tup, nl_agg, nl_func, nl_str, nl_sl, nl_iptr, nlAll, ok1, callA, List.append_nil, List.nil_append, get_nd, cond_true, cond_false, Option.getD_some, Nat.beq, b_gtr, b_geq, b_leq, b_lss, b_eql, b_neq, b_add, b_sub, on_lt, on_le, on_gt, on_ge, on_eq, on_ne, decide_true, decide_false, Nat.reduceEqDiff, Nat.reduceLT, Bool.not_true, Bool.not_false, List.getElem?_cons_zero, List.getElem?_cons_succ, len_nils, len_imm, len_sl, len_str, natOf, readA, okU, Option.bind_some, hd, hyk, h1, h6, h7, h11, h12, h13, hvl, hvn, hlen, hnl, get1, ofc_one, a3, a4, hrow, g1]))
          | ((with_reducible refine wc_false ?hc ?_); case hc => (simp only [aop, evalO, nlO, nl_bool, nl_int, nl_ptr, nl_nilp, nl_nils, nl_imm, nl_tup, nl_agg, nl_func, nl_str, nl_sl, nl_iptr, nlAll, ok1, callA, List.append_nil, List.nil_append, get_nd, cond_true, cond_false, Option.getD_some, Nat.beq, b_gtr, b_geq, b_leq, b_lss, b_eql, b_neq, b_add, b_sub, on_lt, on_le, on_gt, on_ge, on_eq, on_ne, decide_true, decide_false, Nat.reduceEqDiff, Nat.reduceLT, Bool.not_true, Bool.not_false, List.getElem?_cons_zero, List.getElem?_cons_succ, len_nils, len_imm, len_sl, len_str, natOf, readA, okU, Option.bind_some, hd, hyk, h1, h6, h7, h11, h12, h13, hvl, hvn, hlen, hnl, get1, ofc_one, a3, a4, hrow, g1]))
          | with_reducible refine wc_skip ?_
          | with_reducible refine wc_ret ?_
          | with_reducible refine wc_exit ?_
          | with_reducible refine sk_ret ?_
          | with_reducible refine sk_exit ?_
          | with_reducible refine bk_normal ?_
          | with_reducible refine bk_ret ?_
          | with_reducible refine bk_here ?_)
        rw [← hgo]
        refine ⟨.inr rfl, rfl, [.int .i64 (.ofNat 0), .int .i64 (.ofNat 5)], ?_, rfl⟩
        simp only [resA, get_nd, Nat.beq, cond_true, cond_false, Option.getD_some, nl_bool, nl_int, nl_nils, nl_imm, nl_agg, nl_str, nl_ptr, nl_nilp, nl_sl]
      · have g1 : decide (most < c) = false := by simpa using hcm
        rw [if_neg hcm] at hgo
        by_cases hm0 : m = 0
        · subst hm0
          have g2 : decide ((0 : Nat) = 0) = true := rfl
          have b1 := sub64 most c (by omega) (by omega)
          rw [if_pos (.inl rfl)] at hgo
          repeat (first
            | with_reducible refine wc_seq ?_
            | with_reducible refine wc_region ?_
            | with_reducible refine wr_nil ?_
            | with_reducible refine sk_normal ?_
            | with_reducible refine wc_block ?_
            | ((with_reducible apply wr_some); case ho => ((simp only [aop, evalO, nlO, nl_bool, nl_int, nl_ptr, nl_nilp, nl_nils, nl_imm, nl_tup, nl_agg, nl_func, nl_str, nl_sl, nl_iptr, nlAll, ok1, callA, List.append_nil, List.nil_append, get_nd, cond_true, cond_false, Option.getD_some, Nat.beq, b_gtr, b_geq, b_leq, b_lss, b_eql, b_neq, b_add, b_sub, on_lt, on_le, on_gt, on_ge, on_eq, on_ne, decide_true, decide_false, Nat.reduceEqDiff, Nat.reduceLT, Bool.not_true, Bool.not_false, List.getElem?_cons_zero, List.getElem?_cons_succ, len_nils, len_imm, len_sl, len_str, natOf, readA, okU, Option.bind_some, hd, hyk, h1, h6, h7, h11, h12, h13, hvl, hvn, hlen, hnl, get1, ofc_one, a3, a4, hrow, g1, g2, b1]); with_reducible exact rfl))
            | ((with_reducible apply wr_none); case ho => ((simp only [aop, evalO, nlO, nl_bool, nl_int, nl_ptr, nl_nilp, nl_nils, nl_imm, nl_tup, nl_agg, nl_func, nl_str, nl_sl, nl_iptr, nlAll, ok1, callA, List.append_nil, List.nil_append, get_nd, cond_true, cond_false, Option.getD_some, Nat.beq, b_gtr, b_geq, b_leq, b_lss, b_eql, b_neq, b_add, b_sub, on_lt, on_le, on_gt, on_ge, on_eq, on_ne, decide_true, decide_false, Nat.reduceEqDiff, Nat.reduceLT, Bool.not_true, Bool.not_false, List.getElem?_cons_zero, List.getElem?_cons_succ, len_nils, len_imm, len_sl, len_str, natOf, readA, okU, Option.bind_some, hd, hyk, h1, h6, h7, h11, h12, h13, hvl, hvn, hlen, hnl, get1, ofc_one, a3, a4, hrow, g1, g2, b1]); with_reducible exact rfl))
            | ((with_reducible apply wr_yes); (case hg => (simp only [aop, evalO, nlO, nl_bool, nl_int, nl_ptr, nl_nilp, nl_nils, nl_imm, nl_tup, nl_agg, nl_func, nl_str, nl_sl, nl_iptr, nlAll, ok1, callA, List.append_nil, List.nil_append, get_nd, cond_true, cond_false, Option.getD_some, Nat.beq, b_gtr, b_geq, b_leq, b_lss, b_eql, b_neq, b_add, b_sub, on_lt, on_le, on_gt, on_ge, on_eq, on_ne, decide_true, decide_false, Nat.reduceEqDiff, Nat.reduceLT, Bool.not_true, Bool.not_false, List.getElem?_cons_zero, List.getElem?_cons_succ, len_nils, len_imm, len_sl, len_str, natOf, readA, okU, Option.bind_some, hd, hyk, h1, h6, h7, h11, h12, h13, hvl, hvn, hlen, hnl, get1, ofc_one, a3, a4, hrow, g1, g2, b1])); (case ho => ((simp only [aop, evalO, nlO, nl_bool, nl_int, nl_ptr, nl_nilp, nl_nils, nl_imm, nl_tup, nl_agg, nl_func, nl_str, nl_sl, nl_iptr, nlAll, ok1, callA, List.append_nil, List.nil_append, get_nd, cond_true, cond_false, Option.getD_some, Nat.beq, b_gtr, b_geq, b_leq, b_lss, b_eql, b_neq, b_add, b_sub, on_lt, on_le, on_gt, on_ge, on_eq, on_ne, decide_true, decide_false, Nat.reduceEqDiff, Nat.reduceLT, Bool.not_true, Bool.not_false, List.getElem?_cons_zero, List.getElem?_cons_succ, len_nils, len_imm, len_sl, len_str, natOf, readA, okU, Option.bind_some, hd, hyk, h1, h6, h7, h11, h12, h13, hvl, hvn, hlen, hnl, get1, ofc_one, a3, a4, hrow, g1, g2, b1]); with_reducible exact rfl)))
            | ((with_reducible refine wr_no ?hg ?_); case hg => (simp only [aop, evalO, nlO, nl_bool, nl_int, nl_ptr, nl_nilp, nl_nils, nl_imm, nl_tup, nl_agg, nl_func, nl_str, nl_sl, nl_iptr, nlAll, ok1, callA, List.append_nil, List.nil_append, get_nd, cond_true, cond_false, Option.getD_some, Nat.beq, b_gtr, b_geq, b_leq, b_lss, b_eql, b_neq, b_add, b_sub, on_lt, on_le, on_gt, on_ge, on_eq, on_ne, decide_true, decide_false, Nat.reduceEqDiff, Nat.reduceLT, Bool.not_true, Bool.not_false, List.getElem?_cons_zero, List.getElem?_cons_succ, len_nils, len_imm, len_sl, len_str, natOf, readA, okU, Option.bind_some, hd, hyk, h1, h6, h7, h11, h12, h13, hvl, hvn, hlen, hnl, get1, ofc_one, a3, a4, hrow, g1, g2, b1]))
            | ((with_reducible refine wc_true ?hc ?_); case hc => (simp only [aop, evalO, nlO, nl_bool, nl_int, nl_ptr, nl_nilp, nl_nils, nl_imm, nl_tup, nl_agg, nl_func, nl_str, nl_sl, nl_iptr, nlAll, ok1, callA, List.append_nil, List.nil_append, get_nd, cond_true, cond_false, Option.getD_some, Nat.beq, b_gtr, b_geq, b_leq, b_lss, b_eql, b_neq, b_add, b_sub, on_lt, on_le, on_gt, on_ge, on_eq, on_ne, decide_true, decide_false, Nat.reduceEqDiff, Nat.reduceLT, Bool.not_true, Bool.not_false, List.getElem?_cons_zero, List.getElem?_cons_succ, len_nils, len_imm, len_sl, len_str, natOf, readA, okU, Option.bind_some, hd, hyk, h1, h6, h7, h11, h12, h13, hvl, hvn, hlen, hnl, get1, ofc_one, a3, a4, hrow, g1, g2, b1]))
            | ((with_reducible refine wc_false ?hc ?_); case hc => (simp only [aop, evalO, nlO, nl_bool, nl_int, nl_ptr, nl_nilp, nl_nils, nl_imm, nl_tup, nl_agg, nl_func, nl_str, nl_sl, nl_iptr, nlAll, ok1, callA, List.append_nil, List.nil_append, get_nd, cond_true, cond_false, Option.getD_some, Nat.beq, b_gtr, b_geq, b_leq, b_lss, b_eql, b_neq, b_add, b_sub, on_lt, on_le, on_gt, on_ge, on_eq, on_ne, decide_true, decide_false, Nat.reduceEqDiff, Nat.reduceLT, Bool.not_true, Bool.not_false, List.getElem?_cons_zero, List.getElem?_cons_succ, len_nils, len_imm, len_sl, len_str, natOf, readA, okU, Option.bind_some, hd, hyk, h1, h6, h7, h11, h12, h13, hvl, hvn, hlen, hnl, get1, ofc_one, a3, a4, hrow, g1, g2, b1]))
            | with_reducible refine wc_skip ?_
            | with_reducible refine wc_ret ?_
            | with_reducible refine wc_exit ?_
            | with_reducible refine sk_ret ?_
            | with_reducible refine sk_exit ?_
            | with_reducible refine bk_normal ?_
            | with_reducible refine bk_ret ?_
            | with_reducible refine bk_here ?_)
          refine ⟨j - 1, by omega, k + 1, _, _, 1, most - c, rfl, by omega, ?_⟩
          simp only [get_nd, Nat.beq, cond_true, cond_false, h1, h11, h12, and_self, true_and, Nat.zero_add]
          exact ⟨by omega, by omega, hgo⟩
        · have g2 : decide (m = 0) = false := by simpa using hm0
          by_cases hcl : left < c
          · have g3 : decide (left < c) = true := by simpa using hcl
            have b1 := sub64 most c (by omega) (by omega)
            rw [if_pos (.inr hcl)] at hgo
            repeat (first
              | with_reducible refine wc_seq ?_
              | with_reducible refine wc_region ?_
              | with_reducible refine wr_nil ?_
              | with_reducible refine sk_normal ?_
              | with_reducible refine wc_block ?_
              | ((with_reducible apply wr_some); case ho => ((simp only [aop, evalO, nlO, nl_bool, nl_int, nl_ptr, nl_nilp, nl_nils, nl_imm, nl_tup, nl_agg, nl_func, nl_str, nl_sl, nl_iptr, nlAll, ok1, callA, List.append_nil, List.nil_append, get_nd, cond_true, cond_false, Option.getD_some, Nat.beq, b_gtr, b_geq, b_leq, b_lss, b_eql, b_neq, b_add, b_sub, on_lt, on_le, on_gt, on_ge, on_eq, on_ne, decide_true, decide_false, Nat.reduceEqDiff, Nat.reduceLT, Bool.not_true, Bool.not_false, List.getElem?_cons_zero, List.getElem?_cons_succ, len_nils, len_imm, len_sl, len_str, natOf, readA, okU, Option.bind_some, hd, hyk, h1, h6, h7, h11, h12, h13, hvl, hvn, hlen, hnl, get1, ofc_one, a3, a4, hrow, g1, g2, g3, b1]); with_reducible exact rfl))
              | ((with_reducible apply wr_none); case ho => ((simp only [aop, evalO, nlO, nl_bool, nl_int, nl_ptr, nl_nilp, nl_nils, nl_imm, nl_tup, nl_agg, nl_func, nl_str, nl_sl, nl_iptr, nlAll, ok1, callA, List.append_nil, List.nil_append, get_nd, cond_true, cond_false, Option.getD_some, Nat.beq, b_gtr, b_geq, b_leq, b_lss, b_eql, b_neq, b_add, b_sub, on_lt, on_le, on_gt, on_ge, on_eq, on_ne, decide_true, decide_false, Nat.reduceEqDiff, Nat.reduceLT, Bool.not_true, Bool.not_false, List.getElem?_cons_zero, List.getElem?_cons_succ, len_nils, len_imm, len_sl, len_str, natOf, readA, okU, Option.bind_some, hd, hyk, h1, h6, h7, h11, h12, h13, hvl, hvn, hlen, hnl, get1, ofc_one, a3, a4, hrow, g1, g2, g3, b1]); with_reducible exact rfl))
              | ((with_reducible apply wr_yes); (case hg => (simp only [aop, evalO, nlO, nl_bool, nl_int, nl_ptr, nl_nilp, nl_nils, nl_imm, nl_tup, nl_agg, nl_func, nl_str, nl_sl, nl_iptr, nlAll, ok1, callA, List.append_nil, List.nil_append, get_nd, cond_true, cond_false, Option.getD_some, Nat.beq, b_gtr, b_geq, b_leq, b_lss, b_eql, b_neq, b_add, b_sub, on_lt, on_le, on_gt, on_ge, on_eq, on_ne, decide_true, decide_false, Nat.reduceEqDiff, Nat.reduceLT, Bool.not_true, Bool.not_false, List.getElem?_cons_zero, List.getElem?_cons_succ, len_nils, len_imm, len_sl, len_str, natOf, readA, okU, Option.bind_some, hd, hyk, h1, h6, h7, h11, h12, h13, hvl, hvn, hlen, hnl, get1, ofc_one, a3, a4, hrow, g1, g2, g3, b1])); (case ho => ((simp only [aop, evalO, nlO, nl_bool, nl_int, nl_ptr, nl_nilp, nl_nils, nl_imm, nl_tup, nl_agg, nl_func, nl_str, nl_sl, nl_iptr, nlAll, ok1, callA, List.append_nil, List.nil_append, get_nd, cond_true, cond_false, Option.getD_some, Nat.beq, b_gtr, b_geq, b_leq, b_lss, b_eql, b_neq, b_add, b_sub, on_lt, on_le, on_gt, on_ge, on_eq, on_ne, decide_true, decide_false, Nat.reduceEqDiff, Nat.reduceLT, Bool.not_true, Bool.not_false, List.getElem?_cons_zero, List.getElem?_cons_succ, len_nils, len_imm, len_sl, len_str, natOf, readA, okU, Option.bind_some, hd, hyk, h1, h6, h7, h11, h12, h13, hvl, hvn, hlen, hnl, get1, ofc_one, a3, a4, hrow, g1, g2, g3, b1]); with_reducible exact rfl)))
              | ((with_reducible refine wr_no ?hg ?_); case hg => (simp only [aop, evalO, nlO, nl_bool, nl_int, nl_ptr, nl_nilp, nl_nils, nl_imm, nl_tup, nl_agg, nl_func, nl_str, nl_sl, nl_iptr, nlAll, ok1, callA, List.append_nil, List.nil_append, get_nd, cond_true, cond_false, Option.getD_some, Nat.beq, b_gtr, b_geq, b_leq, b_lss, b_eql, b_neq, b_add, b_sub, on_lt, on_le, on_gt, on_ge, on_eq, on_ne, decide_true, decide_false, Nat.reduceEqDiff, Nat.reduceLT, Bool.not_true, Bool.not_false, List.getElem?_cons_zero, List.getElem?_cons_succ, len_nils, len_imm, len_sl, len_str, natOf, readA, okU, Option.bind_some, hd, hyk, h1, h6, h7, h11, h12, h13, hvl, hvn, hlen, hnl, get1, ofc_one, a3, a4, hrow, g1, g2, g3, b1]))
              | ((with_reducible refine wc_true ?hc ?_); case hc => (simp only [aop, evalO, nlO, nl_bool, nl_int, nl_ptr, nl_nilp, nl_nils, nl_imm, nl_tup, nl_agg, nl_func, nl_str, nl_sl, nl_iptr, nlAll, ok1, callA, List.append_nil, List.nil_append, get_nd, cond_true, cond_false, Option.getD_some, Nat.beq, b_gtr, b_geq, b_leq, b_lss, b_eql, b_neq, b_add, b_sub, on_lt, on_le, on_gt, on_ge, on_eq, on_ne, decide_true, decide_false, Nat.reduceEqDiff, Nat.reduceLT, Bool.not_true, Bool.not_false, List.getElem?_cons_zero, List.getElem?_cons_succ, len_nils, len_imm, len_sl, len_str, natOf, readA, okU, Option.bind_some, hd, hyk, h1, h6, h7, h11, h12, h13, hvl, hvn, hlen, hnl, get1, ofc_one, a3, a4, hrow, g1, g2, g3, b1]))
              | ((with_reducible refine wc_false ?hc ?_); case hc => (simp only [aop, evalO, nlO, nl_bool, nl_int, nl_ptr, nl_nilp, nl_nils, nl_imm, nl_tup, nl_agg, nl_func, nl_str, nl_sl, nl_iptr, nlAll, ok1, callA, List.append_nil, List.nil_append, get_nd, cond_true, cond_false, Option.getD_some, Nat.beq, b_gtr, b_geq, b_leq, b_lss, b_eql, b_neq, b_add, b_sub, on_lt, on_le, on_gt, on_ge, on_eq, on_ne, decide_true, decide_false, Nat.reduceEqDiff, Nat.reduceLT, Bool.not_true, Bool.not_false, List.getElem?_cons_zero, List.getElem?_cons_succ, len_nils, len_imm, len_sl, len_str, natOf, readA, okU, Option.bind_some, hd, hyk, h1, h6, h7, h11, h12, h13, hvl, hvn, hlen, hnl, get1, ofc_one, a3, a4, hrow, g1, g2, g3, b1]))
              | with_reducible refine wc_skip ?_
              | with_reducible refine wc_ret ?_
              | with_reducible refine wc_exit ?_
              | with_reducible refine sk_ret ?_
              | with_reducible refine sk_exit ?_
              | with_reducible refine bk_normal ?_
              | with_reducible refine bk_ret ?_
              | with_reducible refine bk_here ?_)
            refine ⟨j - 1, by omega, k + 1, _, _, m + 1, most - c, rfl, by omega, ?_⟩
            simp only [get_nd, Nat.beq, cond_true, cond_false, h1, h11, h12, and_self, true_and]
            exact ⟨by omega, by omega, hgo⟩
          · have g3 : decide (left < c) = false := by simpa using hcl
            have b1 := sub64 left c (by omega) (by omega)
            rw [if_neg (fun h => h.elim hm0 hcl)] at hgo
            repeat (first
              | with_reducible refine wc_seq ?_
              | with_reducible refine wc_region ?_
              | with_reducible refine wr_nil ?_
              | with_reducible refine sk_normal ?_
              | with_reducible refine wc_block ?_
              | ((with_reducible apply wr_some); case ho => ((simp only [aop, evalO, nlO, nl_bool, nl_int, nl_ptr, nl_nilp, nl_nils, nl_imm, nl_tup, nl_agg, nl_func, nl_str, nl_sl, nl_iptr, nlAll, ok1, callA, List.append_nil, List.nil_append, get_nd, cond_true, cond_false, Option.getD_some, Nat.beq, b_gtr, b_geq, b_leq, b_lss, b_eql, b_neq, b_add, b_sub, on_lt, on_le, on_gt, on_ge, on_eq, on_ne, decide_true, decide_false, Nat.reduceEqDiff, Nat.reduceLT, Bool.not_true, Bool.not_false, List.getElem?_cons_zero, List.getElem?_cons_succ, len_nils, len_imm, len_sl, len_str, natOf, readA, okU, Option.bind_some, hd, hyk, h1, h6, h7, h11, h12, h13, hvl, hvn, hlen, hnl, get1, ofc_one, a3, a4, hrow, g1, g2, g3, b1]); with_reducible exact rfl))
              | ((with_reducible apply wr_none); case ho => ((simp only [aop, evalO, nlO, nl_bool, nl_int, nl_ptr, nl_nilp, nl_nils, nl_imm, nl_tup, nl_agg, nl_func, nl_str, nl_sl, nl_iptr, nlAll, ok1, callA, List.append_nil, List.nil_append, get_nd, cond_true, cond_false, Option.getD_some, Nat.beq, b_gtr, b_geq, b_leq, b_lss, b_eql, b_neq, b_add, b_sub, on_lt, on_le, on_gt, on_ge, on_eq, on_ne, decide_true, decide_false, Nat.reduceEqDiff, Nat.reduceLT, Bool.not_true, Bool.not_false, List.getElem?_cons_zero, List.getElem?_cons_succ, len_nils, len_imm, len_sl, len_str, natOf, readA, okU, Option.bind_some, hd, hyk, h1, h6, h7, h11, h12, h13, hvl, hvn, hlen, hnl, get1, ofc_one, a3, a4, hrow, g1, g2, g3, b1]); with_reducible exact rfl))
              | ((with_reducible apply wr_yes); (case hg => (simp only [aop, evalO, nlO, nl_bool, nl_int, nl_ptr, nl_nilp, nl_nils, nl_imm, nl_tup, nl_agg, nl_func, nl_str, nl_sl, nl_iptr, nlAll, ok1, callA, List.append_nil, List.nil_append, get_nd, cond_true, cond_false, Option.getD_some, Nat.beq, b_gtr, b_geq, b_leq, b_lss, b_eql, b_neq, b_add, b_sub, on_lt, on_le, on_gt, on_ge, on_eq, on_ne, decide_true, decide_false, Nat.reduceEqDiff, Nat.reduceLT, Bool.not_true, Bool.not_false, List.getElem?_cons_zero, List.getElem?_cons_succ, len_nils, len_imm, len_sl, len_str, natOf, readA, okU, Option.bind_some, hd, hyk, h1, h6, h7, h11, h12, h13, hvl, hvn, hlen, hnl, get1, ofc_one, a3, a4, hrow, g1, g2, g3, b1])); (case ho => ((simp only [aop, evalO, nlO, nl_bool, nl_int, nl_ptr, nl_nilp, nl_nils, nl_imm, nl_tup, nl_agg, nl_func, nl_str, nl_sl, nl_iptr, nlAll, ok1, callA, List.append_nil, List.nil_append, get_nd, cond_true, cond_false, Option.getD_some, Nat.beq, b_gtr, b_geq, b_leq, b_lss, b_eql, b_neq, b_add, b_sub, on_lt, on_le, on_gt, on_ge, on_eq, on_ne, decide_true, decide_false, Nat.reduceEqDiff, Nat.reduceLT, Bool.not_true, Bool.not_false, List.getElem?_cons_zero, List.getElem?_cons_succ, len_nils, len_imm, len_sl, len_str, natOf, readA, okU, Option.bind_some, hd, hyk, h1, h6, h7, h11, h12, h13, hvl, hvn, hlen, hnl, get1, ofc_one, a3, a4, hrow, g1, g2, g3, b1]); with_reducible exact rfl)))
              | ((with_reducible refine wr_no ?hg ?_); case hg => (simp only [aop, evalO, nlO, nl_bool, nl_int, nl_ptr, nl_nilp, nl_nils, nl_imm, nl_tup, nl_agg, nl_func, nl_str, nl_sl, nl_iptr, nlAll, ok1, callA, List.append_nil, List.nil_append, get_nd, cond_true, cond_false, Option.getD_some, Nat.beq, b_gtr, b_geq, b_leq, b_lss, b_eql, b_neq, b_add, b_sub, on_lt, on_le, on_gt, on_ge, on_eq, on_ne, decide_true, decide_false, Nat.reduceEqDiff, Nat.reduceLT, Bool.not_true, Bool.not_false, List.getElem?_cons_zero, List.getElem?_cons_succ, len_nils, len_imm, len_sl, len_str, natOf, readA, okU, Option.bind_some, hd, hyk, h1, h6, h7, h11, h12, h13, hvl, hvn, hlen, hnl, get1, ofc_one, a3, a4, hrow, g1, g2, g3, b1]))
              | ((with_reducible refine wc_true ?hc ?_); case hc => (simp only [aop, evalO, nlO, nl_bool, nl_int, nl_ptr, nl_nilp, nl_nils, nl_imm, nl_tup, nl_agg, nl_func, nl_str, nl_sl, nl_iptr, nlAll, ok1, callA, List.append_nil, List.nil_append, get_nd, cond_true, cond_false, Option.getD_some, Nat.beq, b_gtr, b_geq, b_leq, b_lss, b_eql, b_neq, b_add, b_sub, on_lt, on_le, on_gt, on_ge, on_eq, on_ne, decide_true, decide_false, Nat.reduceEqDiff, Nat.reduceLT, Bool.not_true, Bool.not_false, List.getElem?_cons_zero, List.getElem?_cons_succ, len_nils, len_imm, len_sl, len_str, natOf, readA, okU, Option.bind_some, hd, hyk, h1, h6, h7, h11, h12, h13, hvl, hvn, hlen, hnl, get1, ofc_one, a3, a4, hrow, g1, g2, g3, b1]))
              | ((with_reducible refine wc_false ?hc ?_); case hc => (simp only [aop, evalO, nlO, nl_bool, nl_int, nl_ptr, nl_nilp, nl_nils, nl_imm, nl_tup, nl_agg, nl_func, nl_str, nl_sl, nl_iptr, nlAll, ok1, callA, List.append_nil, List.nil_append, get_nd, cond_true, cond_false, Option.getD_some, Nat.beq, b_gtr, b_geq, b_leq, b_lss, b_eql, b_neq, b_add, b_sub, on_lt, on_le, on_gt, on_ge, on_eq, on_ne, decide_true, decide_false, Nat.reduceEqDiff, Nat.reduceLT, Bool.not_true, Bool.not_false, List.getElem?_cons_zero, List.getElem?_cons_succ, len_nils, len_imm, len_sl, len_str, natOf, readA, okU, Option.bind_some, hd, hyk, h1, h6, h7, h11, h12, h13, hvl, hvn, hlen, hnl, get1, ofc_one, a3, a4, hrow, g1, g2, g3, b1]))
              | with_reducible refine wc_skip ?_
              | with_reducible refine wc_ret ?_
              | with_reducible refine wc_exit ?_
              | with_reducible refine sk_ret ?_
              | with_reducible refine sk_exit ?_
              | with_reducible refine bk_normal ?_
              | with_reducible refine bk_ret ?_
              | with_reducible refine bk_here ?_)
            refine ⟨j - 1, by omega, k + 1, _, _, m, left - c, rfl, by omega, ?_⟩
            simp only [get_nd, Nat.beq, cond_true, cond_false, h1, h11, h12, h6, and_self, true_and]
            exact ⟨by omega, by omega, hgo⟩
    · have hd : decide (k < xs.length) = false := by simpa using hlt
      have hk0 : k = xs.length := by omega
      subst hk0
      rw [List.drop_length] at hgo
      rw [← hgo]
      repeat (first
        | with_reducible refine wc_seq ?_
        | with_reducible refine wc_region ?_
        | with_reducible refine wr_nil ?_
        | with_reducible refine sk_normal ?_
        | with_reducible refine wc_block ?_
        | ((with_reducible apply wr_some); case ho => ((simp only [aop, evalO, nlO, nl_bool, nl_int, nl_ptr, nl_nilp, nl_nils, nl_imm, nl_tup, nl_agg, nl_func, nl_str, nl_sl, nl_iptr, nlAll, ok1, callA, List.append_nil, List.nil_append, get_nd, cond_true, cond_false, Option.getD_some, Nat.beq, b_gtr, b_geq, b_leq, b_lss, b_eql, b_neq, b_add, b_sub, on_lt, on_le, on_gt, on_ge, on_eq, on_ne, decide_true, decide_false, Nat.reduceEqDiff, Nat.reduceLT, Bool.not_true, Bool.not_false, List.getElem?_cons_zero, List.getElem?_cons_succ, len_nils, len_imm, len_sl, len_str, natOf, readA, okU, Option.bind_some, hd, h1, h6, h11, h12, h13, hlen]); with_reducible exact rfl))
        | ((with_reducible apply wr_none); case ho => ((simp only [aop, evalO, nlO, nl_bool, nl_int, nl_ptr, nl_nilp, nl_nils, nl_imm, nl_tup, nl_agg, nl_func, nl_str, nl_sl, nl_iptr, nlAll, ok1, callA, List.append_nil, List.nil_append, get_nd, cond_true, cond_false, Option.getD_some, Nat.beq, b_gtr, b_geq, b_leq, b_lss, b_eql, b_neq, b_add, b_sub, on_lt, on_le, on_gt, on_ge, on_eq, on_ne, decide_true, decide_false, Nat.reduceEqDiff, Nat.reduceLT, Bool.not_true, Bool.not_false, List.getElem?_cons_zero, List.getElem?_cons_succ, len_nils, len_imm, len_sl, len_str, natOf, readA, okU, Option.bind_some, hd, h1, h6, h11, h12, h13, hlen]); with_reducible exact rfl))
        | ((with_reducible apply wr_yes); (case hg => (simp only [aop, evalO, nlO, nl_bool, nl_int, nl_ptr, nl_nilp, nl_nils, nl_imm, nl_tup, nl_agg, nl_func, nl_str, nl_sl, nl_iptr, nlAll, ok1, callA, List.append_nil, List.nil_append, get_nd, cond_true, cond_false, Option.getD_some, Nat.beq, b_gtr, b_geq, b_leq, b_lss, b_eql, b_neq, b_add, b_sub, on_lt, on_le, on_gt, on_ge, on_eq, on_ne, decide_true, decide_false, Nat.reduceEqDiff, Nat.reduceLT, Bool.not_true, Bool.not_false, List.getElem?_cons_zero, List.getElem?_cons_succ, len_nils, len_imm, len_sl, len_str, natOf, readA, okU, Option.bind_some, hd, h1, h6, h11, h12, h13, hlen])); (case ho => ((simp only [aop, evalO, nlO, nl_bool, nl_int, nl_ptr, nl_nilp, nl_nils, nl_imm, nl_tup, nl_agg, nl_func, nl_str, nl_sl, nl_iptr, nlAll, ok1, callA, List.append_nil, List.nil_append, get_nd, cond_true, cond_false, Option.getD_some, Nat.beq, b_gtr, b_geq, b_leq, b_lss, b_eql, b_neq, b_add, b_sub, on_lt, on_le, on_gt, on_ge, on_eq, on_ne, decide_true, decide_false, Nat.reduceEqDiff, Nat.reduceLT, Bool.not_true, Bool.not_false, List.getElem?_cons_zero, List.getElem?_cons_succ, len_nils, len_imm, len_sl, len_str, natOf, readA, okU, Option.bind_some, hd, h1, h6, h11, h12, h13, hlen]); with_reducible exact rfl)))
        | ((with_reducible refine wr_no ?hg ?_); case hg => (simp only [aop, evalO, nlO, nl_bool, nl_int, nl_ptr, nl_nilp, nl_nils, nl_imm, nl_tup, nl_agg, nl_func, nl_str, nl_sl, nl_iptr, nlAll, ok1, callA, List.append_nil, List.nil_append, get_nd, cond_true, cond_false, Option.getD_some, Nat.beq, b_gtr, b_geq, b_leq, b_lss, b_eql, b_neq, b_add, b_sub, on_lt, on_le, on_gt, on_ge, on_eq, on_ne, decide_true, decide_false, Nat.reduceEqDiff, Nat.reduceLT, Bool.not_true, Bool.not_false, List.getElem?_cons_zero, List.getElem?_cons_succ, len_nils, len_imm, len_sl, len_str, natOf, readA, okU, Option.bind_some, hd, h1, h6, h11, h12, h13, hlen]))
        | ((with_reducible refine wc_true ?hc ?_); case hc => (simp only [aop, evalO, nlO, nl_bool, nl_int, nl_ptr, nl_nilp, nl_nils, nl_imm, nl_tup, nl_agg, nl_func, nl_str, nl_sl, nl_iptr, nlAll, ok1, callA, List.append_nil, List.nil_append, get_nd, cond_true, cond_false, Option.getD_some, Nat.beq, b_gtr, b_geq, b_leq, b_lss, b_eql, b_neq, b_add, b_sub, on_lt, on_le, on_gt, on_ge, on_eq, on_ne, decide_true, decide_false, Nat.reduceEqDiff, Nat.reduceLT, Bool.not_true, Bool.not_false, List.getElem?_cons_zero, List.getElem?_cons_succ, len_nils, len_imm, len_sl, len_str, natOf, readA, okU, Option.bind_some, hd, h1, h6, h11, h12, h13, hlen]))
        | ((with_reducible refine wc_false ?hc ?_); case hc => (simp only [aop, evalO, nlO, nl_bool, nl_int, nl_ptr, nl_nilp, nl_nils, nl_imm, nl_tup, nl_agg, nl_func, nl_str, nl_sl, nl_iptr, nlAll, ok1, callA, List.append_nil, List.nil_append, get_nd, cond_true, cond_false, Option.getD_some, Nat.beq, b_gtr, b_geq, b_leq, b_lss, b_eql, b_neq, b_add, b_sub, on_lt, on_le, on_gt, on_ge, on_eq, on_ne, decide_true, decide_false, Nat.reduceEqDiff, Nat.reduceLT, Bool.not_true, Bool.not_false, List.getElem?_cons_zero, List.getElem?_cons_succ, len_nils, len_imm, len_sl, len_str, natOf, readA, okU, Option.bind_some, hd, h1, h6, h11, h12, h13, hlen]))
        | with_reducible refine wc_skip ?_
        | with_reducible refine wc_ret ?_
        | with_reducible refine wc_exit ?_
        | with_reducible refine sk_ret ?_
        | with_reducible refine sk_exit ?_
        | with_reducible refine bk_normal ?_
        | with_reducible refine bk_ret ?_
        | with_reducible refine bk_here ?_)
      refine ⟨.inr rfl, rfl, [.int .i64 (.ofNat m), .int .i64 (.ofNat 0)], ?_, rfl⟩
      simp only [resA, get_nd, Nat.beq, cond_true, cond_false, Option.getD_some, nl_bool, nl_int, nl_nils, nl_imm, nl_agg, nl_str, nl_ptr, nl_nilp, nl_sl]
  · exact ⟨0, _, _, 0, 0, rfl, by omega, by simp [get_nd, Nat.beq], by simp [get_nd, Nat.beq], by simp [get_nd, Nat.beq], by simp [get_nd, Nat.beq], by simp [get_nd, Nat.beq], by simp [get_nd, Nat.beq], Nat.le_refl _, Nat.zero_le _, rfl⟩
end ZC
/- SorterCounts: a list of integers that a function makes and turns. -/
open Wab Go
namespace ZC
set_option maxRecDepth 100000
set_option linter.unusedSimpArgs false
set_option linter.unusedVariables false

def ints (cs : List AVal) : Prop := ∀ c ∈ cs, ∃ z, c = .int .i64 z
/-- A list of m integers of the function's own (or nil). -/
def Lst (base : Nat) (h : AHeap) (L : AVal) (m : Nat) : Prop := (m = 0 ∧ L = .nils ∧ base ≤ h.next) ∨ ∃ id v cs, L = .sl id v 0 m none 1 ∧ h.m.get id = some (.cells v 3 cs 0 false) ∧ cs.length = m ∧ ints cs ∧ base ≤ id ∧ 0 < m

theorem lst_len {base : Nat} {h : AHeap} {L : AVal} {m : Nat} (hl : Lst base h L m) : ∀ h, lenA h 1 L = some (.int .i64 (.ofNat m)) := by
  rcases hl with ⟨rfl, rfl, _⟩ | ⟨id, v, cs, rfl, _⟩ <;> intro h <;> rfl
theorem lst_nl {base : Nat} {h : AHeap} {L : AVal} {m : Nat} (hl : Lst base h L m) : nl L = some L := by
  rcases hl with ⟨rfl, rfl, _⟩ | ⟨id, v, cs, rfl, _⟩ <;> rfl

theorem getAt_all (cs : List AVal) (m : Nat) (h : cs.length = m) : getAt cs 0 (m * 1) = some cs := by
  unfold getAt
  rw [show 0 + m * 1 = m from by omega, ble_yes (by omega)]
  simp [← h]
theorem getAt_one (cs : List AVal) (k : Nat) (c : AVal) (h : cs[k]? = some c) : getAt cs (0 + k * 1) 1 = some [c] := by
  unfold getAt
  have hk := (List.getElem?_eq_some_iff.1 h).1
  rw [show 0 + k * 1 = k from by omega, ble_yes (show k + 1 ≤ cs.length by omega)]
  simp only [cond_true, Option.some.injEq]
  rw [List.drop_eq_getElem_cons hk]
  simp only [List.take_succ_cons, List.take_zero]
  rw [List.getElem?_eq_getElem hk] at h
  injection h with h; rw [h]
theorem putAt_one (cs : List AVal) (k : Nat) (c : AVal) (h : k < cs.length) : ∃ cs', putAt cs (0 + k * 1) [c] = some cs' ∧ cs'.length = cs.length ∧ ∀ x ∈ cs', x ∈ cs ∨ x = c := by
  refine ⟨cs.take k ++ [c] ++ cs.drop (k + 1), ?_, ?_, fun x hx => ?_⟩
  · unfold putAt
    rw [show 0 + k * 1 = k from by omega]
    simp only [List.length_singleton]
    rw [ble_yes (show k + 1 ≤ cs.length by omega)]
    simp
  · simp; omega
  · simp only [List.mem_append, List.mem_singleton] at hx
    rcases hx with (hx | hx) | hx
    · exact .inl (List.mem_of_mem_take hx)
    · exact .inr hx
    · exact .inl (List.mem_of_mem_drop hx)

theorem lst_append {base : Nat} {h : AHeap} {L : AVal} {m : Nat} (hl : Lst base h L m) (hlk : h.lock = base) (hm : (m + 1) * 8 ≤ 140737488355328) : ∃ L' h', appendC h 3 1 8 L (some ([.int .i64 (.ofNat 0)], 1)) = some (L', h') ∧ Lst base h' L' (m + 1) ∧ h'.lock = base := by
  rcases hl with ⟨rfl, rfl, hb⟩ | ⟨id, v, cs, rfl, hg, hc, hi, hb, h0⟩
  · refine ⟨.sl h.next 0 0 1 none 1, h.push (.cells 0 3 [.int .i64 (.ofNat 0)] 0 false), rfl, .inr ⟨h.next, 0, [.int .i64 (.ofNat 0)], rfl, ?_, rfl, fun c hc => ⟨_, List.mem_singleton.1 hc⟩, hb, by omega⟩, hlk⟩
    rw [get_push, if_pos rfl]
  · refine ⟨.sl id (v + 1) 0 (m + 1) none 1, h.put id (.cells (v + 1) 3 (cs ++ [.int .i64 (.ofNat 0)]) 0 false), ?_, .inr ⟨id, v + 1, cs ++ [.int .i64 (.ofNat 0)], rfl, by rw [get_put, if_pos rfl], by simp [hc], fun c hc => ?_, hb, by omega⟩, hlk⟩
    · unfold appendC
      simp only [hg, hlk]
      rw [show Nat.beq 1 0 = false from rfl, show Nat.beq 1 1 = true from rfl, ble_yes hm, Nat.beq_refl, ble_yes hb, ble_yes (Nat.zero_le _), ble_no (show cs.length < 0 + (m + 1) * 1 by omega), getAt_all cs m hc]
      rfl
    · rcases List.mem_append.1 hc with hc | hc
      · exact hi c hc
      · exact ⟨_, List.mem_singleton.1 hc⟩

theorem freeze_ints (h : AHeap) (base : Nat) : ∀ (cs : List AVal) (n : Nat), ints cs → cs.length + 1 < n → Wab.freezeAll h base n true cs = some cs
  | [], n, _, hn => by
    obtain ⟨n, rfl⟩ : ∃ m, n = m + 1 := ⟨n - 1, by simp at hn; omega⟩
    rfl
  | c :: cs, n, hi, hn => by
    simp only [List.length_cons] at hn
    obtain ⟨n, rfl⟩ : ∃ m, n = m + 2 := ⟨n - 2, by omega⟩
    obtain ⟨z, rfl⟩ := hi c List.mem_cons_self
    simp only [Wab.freezeAll, Wab.freeze]
    rw [freeze_ints h base cs (n + 1) (fun x hx => hi x (List.mem_cons_of_mem _ hx)) (by omega)]

theorem lst_freeze {base : Nat} {h : AHeap} {L : AVal} {m : Nat} (hl : Lst base h L m) (n : Nat) (hn : m + 4 < n) : ∃ L', Wab.freeze h base n false L = some L' ∧ nl L' = some L' ∧ ∀ h, lenA h 1 L' = some (.int .i64 (.ofNat m)) := by
  obtain ⟨n, rfl⟩ : ∃ k, n = k + 1 := ⟨n - 1, by omega⟩
  rcases hl with ⟨rfl, rfl, hb⟩ | ⟨id, v, cs, rfl, hg, hc, hi, hb, h0⟩
  · exact ⟨.nils, rfl, rfl, fun _ => rfl⟩
  · have hcell : h.cells? id v = some (3, cs, 0, false) := by
      unfold AHeap.cells?
      rw [hg]
      simp only [Nat.beq_refl, cond_true]
    have hp : cs.all pureC = true := List.all_eq_true.2 fun c hc => by obtain ⟨z, rfl⟩ := hi c hc; rfl
    refine ⟨.imm 1 (chunks m 1 cs) false, ?_, rfl, fun h => by rw [len_imm, chunks_length]⟩
    simp only [Wab.freeze, hcell, getAt_all cs m hc, freeze_ints h base cs n hi (by omega), hp]
    rw [show Nat.blt id base = false from blt_no hb]
    rfl
end ZC
