/- Part 11 of this claim: an abstract interpreter over the model, its soundness, and what is run in it. -/
import Derived.Test.YthnhpmbmadmmhaaGreatW09
set_option maxRecDepth 20000
set_option linter.unusedSimpArgs false
set_option linter.unusedVariables false
open Wab Go
namespace ZN
set_option maxRecDepth 100000
abbrev SZ : Known := ProgZ.S1
def r6 := acallS ProgZ.prog SZ 100 6 [.int .i64 (.ofNat 3)] h00
def r7 := acallS ProgZ.prog SZ 100 7 [.int .i64 (.ofNat 100)] (hpOf r6)
def r8 (x : AVal) := acallS ProgZ.prog SZ 100 8 [.nilp, .ptr 2 0 0, .imm 1 [[x]] true, .nils, .int .i64 (.ofNat 2)] (hpOf r7)
def r8b (x : AVal) := acallS ProgZ.prog SZ 100 8 [.ptr 1 0 0, .nilp, .imm 1 [[x]] true, .nils, .int .i64 (.ofNat 2)] (hpOf (r8 x))
theorem e6 : r6 = some (.tup [.ptr 1 0 0, .int .i64 (.ofNat 0)], hpOf r6) := by kernel_rfl
theorem e7 : r7 = some (.tup [.ptr 2 0 0, .int .i64 (.ofNat 0)], hpOf r7) := by kernel_rfl
theorem e8 (x : AVal) : r8 x = some (.tup [.nils, .int .i64 (.ofNat 2)], hpOf (r8 x)) := by kernel_rfl
theorem e8b (x : AVal) : r8b x = some (.tup [.nils, .int .i64 (.ofNat 2)], hpOf (r8b x)) := by kernel_rfl
theorem e5 : acallS ProgZ.prog SZ 3000 5 [] h00 = some (.bool true, h00) := by kernel_rfl

end ZN
open Wab Go
namespace ZN
set_option maxRecDepth 100000
theorem lawO (O D : Oracle) (x : AVal) (H6 H7 H8 H9 : AHeap) (n : Nat) (h5 : O 5 [] h00 = some (.bool true, h00)) (h6 : O 6 [.int .i64 (.ofNat 3)] h00 = some (.tup [.ptr 1 0 0, .int .i64 (.ofNat 0)], H6))
    (h7 : O 7 [.int .i64 (.ofNat 100)] H6 = some (.tup [.ptr 2 0 0, .int .i64 (.ofNat 0)], H7))
    (h8 : O 8 [.nilp, .ptr 2 0 0, .imm 1 [[x]] true, .nils, .int .i64 (.ofNat 2)] H7 = some (.tup [.nils, .int .i64 (.ofNat 2)], H8))
    (h8b : O 8 [.ptr 1 0 0, .nilp, .imm 1 [[x]] true, .nils, .int .i64 (.ofNat 2)] H8 = some (.tup [.nils, .int .i64 (.ofNat 2)], H9))
    (hp : pureC x = true) (hn : nl x = some x) (hl : ∀ h, lenA h 1 x = some (.int .i64 (Int.ofNat n))) (ho : oneV x = true) (hc : x.cells = [x]) :
    runFn O D 3000 ProgZ.a3 [x] h00 = some (.bool true, h00) := by
  cases hg : decide (40 < n) with
  | true =>
    refine fn_pure ?_
    change WC O 3000 _ ⟨initT [x] 0 .lf, .lf, h00, []⟩ _
    repeat (first
      | with_reducible refine wc_seq ?_
      | with_reducible refine wc_region ?_
      | with_reducible refine wr_nil ?_
      | with_reducible refine sk_normal ?_
      | ((with_reducible apply wr_some); case ho => ((simp only [aop, evalO, nlO, nl_bool, nl_int, nl_ptr, nl_tup, nlAll, ok1, callA, List.append_nil, List.nil_append, get_nd, cond_true, cond_false, Option.getD_some, Nat.beq, b_gtr, on_lt, List.getElem?_cons_zero, List.getElem?_cons_succ, initT, h5, h6, h7, hn, hl, hg]); with_reducible exact rfl))
      | ((with_reducible apply wr_yes); (case hg => (simp only [aop, evalO, nlO, nl_bool, nl_int, nl_ptr, nl_nilp, nl_nils, nl_imm, nl_tup, nl_agg, nl_func, nl_str, nl_sl, nl_iptr, nlAll, ok1, callA, List.append_nil, List.nil_append, get_nd, cond_true, cond_false, Option.getD_some, Nat.reduceBEq, Nat.beq, b_gtr, b_geq, b_leq, b_lss, b_eql, b_neq, on_lt, on_le, on_gt, on_ge, on_eq, on_ne, decide_true, decide_false, Nat.reduceEqDiff, Bool.not_true, Bool.not_false, List.getElem?_cons_zero, List.getElem?_cons_succ, fillP, putAt, ble_yes, Nat.le_refl, Nat.zero_add, Nat.reduceAdd, Nat.reduceLeDiff, List.take_zero, List.take_succ_cons, List.drop_zero, List.drop_succ_cons, Bool.and_self, Bool.and_true, Bool.true_and, List.length_cons, List.length_nil, List.all_cons, List.all_nil, chunks, len_nils, len_imm, len_sl, len_str, initT, h5, h6, h7, hn, hl, hg])); (case ho => ((simp only [aop, evalO, nlO, nl_bool, nl_int, nl_ptr, nl_nilp, nl_nils, nl_imm, nl_tup, nl_agg, nl_func, nl_str, nl_sl, nl_iptr, nlAll, ok1, callA, List.append_nil, List.nil_append, get_nd, cond_true, cond_false, Option.getD_some, Nat.reduceBEq, Nat.beq, b_gtr, b_geq, b_leq, b_lss, b_eql, b_neq, on_lt, on_le, on_gt, on_ge, on_eq, on_ne, decide_true, decide_false, Nat.reduceEqDiff, Bool.not_true, Bool.not_false, List.getElem?_cons_zero, List.getElem?_cons_succ, fillP, putAt, ble_yes, Nat.le_refl, Nat.zero_add, Nat.reduceAdd, Nat.reduceLeDiff, List.take_zero, List.take_succ_cons, List.drop_zero, List.drop_succ_cons, Bool.and_self, Bool.and_true, Bool.true_and, List.length_cons, List.length_nil, List.all_cons, List.all_nil, chunks, len_nils, len_imm, len_sl, len_str, initT, h5, h6, h7, hn, hl, hg]); with_reducible exact rfl)))
      | ((with_reducible refine wr_no ?hg ?_); case hg => (simp only [aop, evalO, nlO, nl_bool, nl_int, nl_ptr, nl_nilp, nl_nils, nl_imm, nl_tup, nl_agg, nl_func, nl_str, nl_sl, nl_iptr, nlAll, ok1, callA, List.append_nil, List.nil_append, get_nd, cond_true, cond_false, Option.getD_some, Nat.reduceBEq, Nat.beq, b_gtr, b_geq, b_leq, b_lss, b_eql, b_neq, on_lt, on_le, on_gt, on_ge, on_eq, on_ne, decide_true, decide_false, Nat.reduceEqDiff, Bool.not_true, Bool.not_false, List.getElem?_cons_zero, List.getElem?_cons_succ, fillP, putAt, ble_yes, Nat.le_refl, Nat.zero_add, Nat.reduceAdd, Nat.reduceLeDiff, List.take_zero, List.take_succ_cons, List.drop_zero, List.drop_succ_cons, Bool.and_self, Bool.and_true, Bool.true_and, List.length_cons, List.length_nil, List.all_cons, List.all_nil, chunks, len_nils, len_imm, len_sl, len_str, initT, h5, h6, h7, hn, hl, hg]))
      | ((with_reducible refine wc_true ?hc ?_); case hc => (simp only [evalO, get_nd, cond_true, cond_false, Option.getD_some, Nat.beq]))
      | ((with_reducible refine wc_false ?hc ?_); case hc => (simp only [aop, evalO, nlO, nl_bool, nl_int, nl_ptr, nl_nilp, nl_nils, nl_imm, nl_tup, nl_agg, nl_func, nl_str, nl_sl, nl_iptr, nlAll, ok1, callA, List.append_nil, List.nil_append, get_nd, cond_true, cond_false, Option.getD_some, Nat.reduceBEq, Nat.beq, b_gtr, b_geq, b_leq, b_lss, b_eql, b_neq, on_lt, on_le, on_gt, on_ge, on_eq, on_ne, decide_true, decide_false, Nat.reduceEqDiff, Bool.not_true, Bool.not_false, List.getElem?_cons_zero, List.getElem?_cons_succ, fillP, putAt, ble_yes, Nat.le_refl, Nat.zero_add, Nat.reduceAdd, Nat.reduceLeDiff, List.take_zero, List.take_succ_cons, List.drop_zero, List.drop_succ_cons, Bool.and_self, Bool.and_true, Bool.true_and, List.length_cons, List.length_nil, List.all_cons, List.all_nil, chunks, len_nils, len_imm, len_sl, len_str, initT, h5, h6, h7, hn, hl, hg]))
      | with_reducible refine wc_skip ?_
      | with_reducible refine wc_ret ?_
      | with_reducible refine sk_ret ?_)
    refine ⟨Or.inr rfl, rfl, [AVal.bool true], ?_, rfl⟩
    simp only [resA, get_nd, Nat.beq, cond_true, cond_false, Option.getD_some, nl_bool]
  | false =>
    refine fn_pure ?_
    change WC O 3000 _ ⟨initT [x] 0 .lf, .lf, h00, []⟩ _
    repeat (first
      | with_reducible refine wc_seq ?_
      | with_reducible refine wc_region ?_
      | with_reducible refine wr_nil ?_
      | with_reducible refine sk_normal ?_
      | ((with_reducible apply wr_some); case ho => ((simp only [aop, evalO, nlO, nl_bool, nl_int, nl_ptr, nl_nilp, nl_nils, nl_imm, nl_tup, nlAll, ok1, callA, List.append_nil, List.nil_append, get_nd, cond_true, cond_false, Option.getD_some, Nat.beq, b_gtr, on_lt, List.getElem?_cons_zero, List.getElem?_cons_succ, fillP, putAt, ble_yes, Nat.le_refl, Nat.zero_add, List.take_zero, List.take_succ_cons, List.drop_zero, List.drop_succ_cons, Bool.and_self, List.length_cons, List.length_nil, List.all_cons, List.all_nil, chunks, initT, h5, h6, h7, h8, h8b, hn, hl, hg, hc, ho, hp]); with_reducible exact rfl))
      | ((with_reducible apply wr_yes); (case hg => (simp only [get_nd, cond_true, cond_false, Nat.beq])); (case ho => ((simp only [aop, evalO, nlO, nl_int, nl_nils, ok1, get_nd, cond_true, cond_false, Option.getD_some, Nat.beq, b_eql, on_eq, decide_true, len_nils]); with_reducible exact rfl)))
      | ((with_reducible refine wr_no ?hg ?_); case hg => (simp only [aop, evalO, nlO, nl_bool, nl_int, nl_ptr, nl_nilp, nl_nils, nl_imm, nl_tup, nl_agg, nl_func, nl_str, nl_sl, nl_iptr, nlAll, ok1, callA, List.append_nil, List.nil_append, get_nd, cond_true, cond_false, Option.getD_some, Nat.reduceBEq, Nat.beq, b_gtr, b_geq, b_leq, b_lss, b_eql, b_neq, on_lt, on_le, on_gt, on_ge, on_eq, on_ne, decide_true, decide_false, Nat.reduceEqDiff, Bool.not_true, Bool.not_false, List.getElem?_cons_zero, List.getElem?_cons_succ, fillP, putAt, ble_yes, Nat.le_refl, Nat.zero_add, Nat.reduceAdd, Nat.reduceLeDiff, List.take_zero, List.take_succ_cons, List.drop_zero, List.drop_succ_cons, Bool.and_self, Bool.and_true, Bool.true_and, List.length_cons, List.length_nil, List.all_cons, List.all_nil, chunks, len_nils, len_imm, len_sl, len_str, initT, h5, h6, h7, h8, h8b, hn, hl, hg, hc, ho, hp]))
      | ((with_reducible refine wc_true ?hc ?_); case hc => (simp only [evalO, get_nd, cond_true, cond_false, Option.getD_some, Nat.beq]))
      | ((with_reducible refine wc_false ?hc ?_); case hc => (simp only [evalO, get_nd, cond_true, cond_false, Option.getD_some, Nat.beq]))
      | with_reducible refine wc_skip ?_
      | with_reducible refine wc_ret ?_
      | with_reducible refine sk_ret ?_)
    refine ⟨Or.inr rfl, rfl, [AVal.bool true], ?_, rfl⟩
    simp only [resA, get_nd, Nat.beq, cond_true, cond_false, Option.getD_some, nl_bool]

theorem law (x : AVal) (hx : x = .nils ∨ ∃ xs ex, x = .imm 3 xs ex) : acallS ProgZ.prog SZ 3001 3 [x] h00 = some (.bool true, h00) := by
  have up : ∀ {f a h r}, acallS ProgZ.prog SZ 100 f a h = some r → acallS ProgZ.prog SZ 3000 f a h = some r := fun {f a h r} => acallS_le 100 3000 (by omega) f a h r
  have hl : ∃ n, ∀ h, lenA h 1 x = some (.int .i64 (Int.ofNat n)) := by
    rcases hx with rfl | ⟨xs, ex, rfl⟩
    · exact ⟨0, fun _ => rfl⟩
    · exact ⟨xs.length, fun _ => rfl⟩
  obtain ⟨n, hl⟩ := hl
  rw [acallS_step (fn := ProgZ.a3) rfl rfl]
  exact lawO _ _ x _ _ _ _ n e5 (up e6) (up e7) (up (e8 x)) (up (e8b x)) (by rcases hx with rfl | ⟨xs, ex, rfl⟩ <;> rfl) (by rcases hx with rfl | ⟨xs, ex, rfl⟩ <;> rfl) hl (by rcases hx with rfl | ⟨xs, ex, rfl⟩ <;> rfl) (by rcases hx with rfl | ⟨xs, ex, rfl⟩ <;> rfl)
end ZN
