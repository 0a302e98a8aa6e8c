/- Part 15 of this claim: an abstract interpreter over the model, its soundness, and what is run in it. -/
import Derived.Test.YthnhpmbmadmmhaaGreatW13
set_option maxRecDepth 20000
set_option linter.unusedSimpArgs false
set_option linter.unusedVariables false
/- SorterCounts: into how many runs rows are cut, in the reference. -/
open Wab Go
namespace ZC
set_option maxRecDepth 100000
set_option linter.unusedSimpArgs false
set_option linter.unusedVariables false

/-- What Cuts tells. -/
def isC : Option Nat → AVal → Prop
  | some m, r => ∃ L, r = .tup [L, .int .i64 (.ofNat 0)] ∧ nl L = some L ∧ ∀ h, lenA h 1 L = some (.int .i64 (.ofNat m))
  | none, r => r = .tup [.nils, .int .i64 (.ofNat 5)]
theorem cells1 (k : IntKind) (z : Int) : (AVal.int k z).cells = [.int k z] := rfl
theorem chunk1 (a : AVal) : chunks 1 1 [a] = [[a]] := rfl
theorem fill1 (t : Tr AVal) (v : AVal) : fillP t [(0, 1, .const (.int .i64 (.ofNat 0)))] [v] = some [.int .i64 (.ofNat 0)] := rfl
theorem all1 : List.all [AVal.int .i64 (.ofNat 0)] pureC = true := rfl
theorem lift_ok (h : AHeap) : ({ h with lock := h.lock } : AHeap) = h := rfl

/-- The last integer one more. -/
theorem lst_last {base : Nat} {h : AHeap} {L : AVal} {m : Nat} (hl : Lst base h L (m + 1)) (hlk : h.lock = base) : ∃ id v cs z cs', L = .sl id v 0 (m + 1) none 1 ∧ h.m.get id = some (.cells v 3 cs 0 false) ∧ h.cells? id v = some (3, cs, 0, false) ∧ getAt cs m 1 = some [.int .i64 z] ∧ base ≤ id ∧
    putAt cs m [.int .i64 (wrapI .i64 (z + Int.ofNat 1))] = some cs' ∧ Lst base (h.put id (.cells v 3 cs' 0 false)) L (m + 1) := by
  rcases hl with ⟨h0, _⟩ | ⟨id, v, cs, rfl, hg, hc, hi, hb, h0⟩
  · omega
  · have hm : m < cs.length := by omega
    obtain ⟨z, hz⟩ := hi cs[m] (List.getElem_mem hm)
    obtain ⟨cs', p1, p2, p3⟩ := putAt_one cs m (.int .i64 (wrapI .i64 (z + Int.ofNat 1))) hm
    have q1 := getAt_one cs m _ (by rw [List.getElem?_eq_getElem hm, hz])
    rw [show 0 + m * 1 = m from by omega] at q1 p1
    refine ⟨id, v, cs, z, cs', rfl, hg, ?_, q1, hb, p1, .inr ⟨id, v, cs', rfl, by rw [get_put, if_pos rfl], by omega, fun c hc => ?_, hb, h0⟩⟩
    · unfold AHeap.cells?
      rw [hg]
      simp only [Nat.beq_refl, cond_true]
    · rcases p3 c hc with h | h
      · exact hi c h
      · exact ⟨_, h⟩

theorem freeze_tup2 {h : AHeap} {base n : Nat} {d : Bool} {L L' : AVal} {k : IntKind} {z : Int} (q : Wab.freeze h base (n + 2) d L = some L') : Wab.freeze h base (n + 4) d (.tup [L, .int k z]) = some (.tup [L', .int k z]) := by
  have h2 : Wab.freezeAll h base (n + 2) d [.int k z] = some [.int k z] := rfl
  have h1 : Wab.freezeAll h base (n + 3) d [L, .int k z] = some [L', .int k z] := by
    rw [Wab.freezeAll, q, h2]
  rw [Wab.freeze, h1]

theorem cuts20 (O D : Oracle) (n : Nat) (hR : ∀ v ys h, RowV v ys → (∀ y ∈ ys, V3 y) → rowN ys ≤ 20000 → ys.length ≤ 40 → O 31 [v] h = some (.int .i64 (.ofNat (rowN ys)), h)) (x : AVal) (xs : List (List AVal)) (hx : RowsV x xs) (hv : ∀ c ∈ xs, Good c) (hl : xs.length ≤ 1000000) (most : Nat) (hm : most ≤ 1073741824) (hn : xs.length + 20 < n) (h : AHeap) :
    ∃ r, runFn O D n ProgZ.a20 [x, .int .i64 (.ofNat most)] h = some (r, h) ∧ isC (go most (xs.map costOf) 0 0) r := by
  have hlen := hx.len
  have hnl := hx.nl
  obtain ⟨n, rfl⟩ : ∃ m, n = m + 8 := ⟨n - 8, by omega⟩
  refine fn_pureR ?_
  generalize hH : ({ h with lock := h.next } : AHeap) = H
  have hH1 : H.lock = h.next := by rw [← hH]
  have hH2 : Lst h.next H .nils 0 := .inl ⟨rfl, rfl, by rw [← hH]; exact Nat.le_refl _⟩
  clear hH
  repeat (first
    | with_reducible refine wc_seq ?_
    | with_reducible refine wc_region ?_
    | with_reducible refine wr_nil ?_
    | with_reducible refine sk_normal ?_
    | with_reducible refine wc_block ?_
    | ((with_reducible apply wr_some); case ho => ((simp only [aop, evalO, nlO, nl_bool, nl_int, nl_ptr, nl_nilp, nl_nils, nl_imm, nl_tup, nl_agg, nl_func, nl_str, nl_sl, nl_iptr, nlAll, ok1, callA, List.append_nil, List.nil_append, get_nd, cond_true, cond_false, Option.getD_some, Nat.beq, b_gtr, b_geq, b_leq, b_lss, b_eql, b_neq, b_add, b_sub, on_lt, on_le, on_gt, on_ge, on_eq, on_ne, decide_true, decide_false, Nat.reduceEqDiff, Nat.reduceLT, Bool.not_true, Bool.not_false, List.getElem?_cons_zero, List.getElem?_cons_succ, len_nils, len_imm, len_sl, len_str, natOf, readA, okU, Option.bind_some, hlen, hnl, initT]); with_reducible exact rfl))
    | ((with_reducible apply wr_none); case ho => ((simp only [aop, evalO, nlO, nl_bool, nl_int, nl_ptr, nl_nilp, nl_nils, nl_imm, nl_tup, nl_agg, nl_func, nl_str, nl_sl, nl_iptr, nlAll, ok1, callA, List.append_nil, List.nil_append, get_nd, cond_true, cond_false, Option.getD_some, Nat.beq, b_gtr, b_geq, b_leq, b_lss, b_eql, b_neq, b_add, b_sub, on_lt, on_le, on_gt, on_ge, on_eq, on_ne, decide_true, decide_false, Nat.reduceEqDiff, Nat.reduceLT, Bool.not_true, Bool.not_false, List.getElem?_cons_zero, List.getElem?_cons_succ, len_nils, len_imm, len_sl, len_str, natOf, readA, okU, Option.bind_some, hlen, hnl, initT]); with_reducible exact rfl))
    | ((with_reducible apply wr_yes); (case hg => (simp only [aop, evalO, nlO, nl_bool, nl_int, nl_ptr, nl_nilp, nl_nils, nl_imm, nl_tup, nl_agg, nl_func, nl_str, nl_sl, nl_iptr, nlAll, ok1, callA, List.append_nil, List.nil_append, get_nd, cond_true, cond_false, Option.getD_some, Nat.beq, b_gtr, b_geq, b_leq, b_lss, b_eql, b_neq, b_add, b_sub, on_lt, on_le, on_gt, on_ge, on_eq, on_ne, decide_true, decide_false, Nat.reduceEqDiff, Nat.reduceLT, Bool.not_true, Bool.not_false, List.getElem?_cons_zero, List.getElem?_cons_succ, len_nils, len_imm, len_sl, len_str, natOf, readA, okU, Option.bind_some, hlen, hnl, initT])); (case ho => ((simp only [aop, evalO, nlO, nl_bool, nl_int, nl_ptr, nl_nilp, nl_nils, nl_imm, nl_tup, nl_agg, nl_func, nl_str, nl_sl, nl_iptr, nlAll, ok1, callA, List.append_nil, List.nil_append, get_nd, cond_true, cond_false, Option.getD_some, Nat.beq, b_gtr, b_geq, b_leq, b_lss, b_eql, b_neq, b_add, b_sub, on_lt, on_le, on_gt, on_ge, on_eq, on_ne, decide_true, decide_false, Nat.reduceEqDiff, Nat.reduceLT, Bool.not_true, Bool.not_false, List.getElem?_cons_zero, List.getElem?_cons_succ, len_nils, len_imm, len_sl, len_str, natOf, readA, okU, Option.bind_some, hlen, hnl, initT]); with_reducible exact rfl)))
    | ((with_reducible refine wr_no ?hg ?_); case hg => (simp only [aop, evalO, nlO, nl_bool, nl_int, nl_ptr, nl_nilp, nl_nils, nl_imm, nl_tup, nl_agg, nl_func, nl_str, nl_sl, nl_iptr, nlAll, ok1, callA, List.append_nil, List.nil_append, get_nd, cond_true, cond_false, Option.getD_some, Nat.beq, b_gtr, b_geq, b_leq, b_lss, b_eql, b_neq, b_add, b_sub, on_lt, on_le, on_gt, on_ge, on_eq, on_ne, decide_true, decide_false, Nat.reduceEqDiff, Nat.reduceLT, Bool.not_true, Bool.not_false, List.getElem?_cons_zero, List.getElem?_cons_succ, len_nils, len_imm, len_sl, len_str, natOf, readA, okU, Option.bind_some, hlen, hnl, initT]))
    | ((with_reducible refine wc_true ?hc ?_); case hc => (simp only [aop, evalO, nlO, nl_bool, nl_int, nl_ptr, nl_nilp, nl_nils, nl_imm, nl_tup, nl_agg, nl_func, nl_str, nl_sl, nl_iptr, nlAll, ok1, callA, List.append_nil, List.nil_append, get_nd, cond_true, cond_false, Option.getD_some, Nat.beq, b_gtr, b_geq, b_leq, b_lss, b_eql, b_neq, b_add, b_sub, on_lt, on_le, on_gt, on_ge, on_eq, on_ne, decide_true, decide_false, Nat.reduceEqDiff, Nat.reduceLT, Bool.not_true, Bool.not_false, List.getElem?_cons_zero, List.getElem?_cons_succ, len_nils, len_imm, len_sl, len_str, natOf, readA, okU, Option.bind_some, hlen, hnl, initT]))
    | ((with_reducible refine wc_false ?hc ?_); case hc => (simp only [aop, evalO, nlO, nl_bool, nl_int, nl_ptr, nl_nilp, nl_nils, nl_imm, nl_tup, nl_agg, nl_func, nl_str, nl_sl, nl_iptr, nlAll, ok1, callA, List.append_nil, List.nil_append, get_nd, cond_true, cond_false, Option.getD_some, Nat.beq, b_gtr, b_geq, b_leq, b_lss, b_eql, b_neq, b_add, b_sub, on_lt, on_le, on_gt, on_ge, on_eq, on_ne, decide_true, decide_false, Nat.reduceEqDiff, Nat.reduceLT, Bool.not_true, Bool.not_false, List.getElem?_cons_zero, List.getElem?_cons_succ, len_nils, len_imm, len_sl, len_str, natOf, readA, okU, Option.bind_some, hlen, hnl, initT]))
    | with_reducible refine wc_skip ?_
    | with_reducible refine wc_ret ?_
    | with_reducible refine wc_exit ?_
    | with_reducible refine sk_ret ?_
    | with_reducible refine sk_exit ?_
    | with_reducible refine bk_normal ?_
    | with_reducible refine bk_ret ?_
    | with_reducible refine bk_here ?_)
  refine wc_loop (fun j s => ∃ k t H L m left, s = ⟨t, .lf, H, []⟩ ∧ k + j = xs.length ∧ t.get 0 = some x ∧ t.get 1 = some (.int .i64 (.ofNat most)) ∧ t.get 8 = some (.int .i64 (.ofNat k)) ∧ t.get 6 = some L ∧ t.get 7 = some (.int .i64 (.ofNat left)) ∧
      Lst h.next H L m ∧ H.lock = h.next ∧ m ≤ k ∧ left ≤ most ∧ go most ((xs.drop k).map costOf) m left = go most (xs.map costOf) 0 0) ?_ xs.length (by omega) ?_
  · clear hH1 hH2 H
    rintro j s ⟨k, t, H, L, m, left, rfl, hk, h0, h1, h8, h6, h7, hlst, hlk, hmk, hlm, hgo⟩
    have hL := lst_len hlst
    have hLn := lst_nl hlst
    by_cases hlt : k < xs.length
    · have hd : decide (k < xs.length) = true := by simpa using hlt
      have hyk := List.getElem?_eq_getElem hlt
      obtain ⟨v, ys, hs, hrv, hy3, hyl⟩ := hv _ (List.getElem_mem hlt)
      have hcost : rowN ys ≤ 20000 := by
        have := sumN_le ys fun y hy => (hy3 y hy).2
        unfold rowN; omega
      have hrow := hR v ys H hrv (fun y hy => (hy3 y hy).1) hcost hyl
      rw [List.drop_eq_getElem_cons hlt, hs, List.map_cons, costOf_row hrv] at hgo
      rw [hs] at hyk
      have hvl := hrv.len
      have hvn := hrv.nl
      have a3 := add64 k 1 (by omega)
      have a4 := add64 m 1 (by omega)
      generalize rowN ys = c at *
      simp only [go] at hgo
      rcases hx with ⟨rfl, rfl⟩ | ⟨ex, rfl⟩
      · simp at hlt
      by_cases hcm : most < c
      · have g1 : decide (most < c) = true := by simpa using hcm
        rw [if_pos hcm] at hgo
        repeat (first
          | with_reducible refine wc_seq ?_
          | with_reducible refine wc_region ?_
          | with_reducible refine wr_nil ?_
          | with_reducible refine sk_normal ?_
          | with_reducible refine wc_block ?_
          | ((with_reducible apply wr_some); case ho => ((simp only [aop, evalO, nlO, nl_bool, nl_int, nl_ptr, nl_nilp, nl_nils, nl_imm, nl_tup, nl_agg, nl_func, nl_str, nl_sl, nl_iptr, nlAll, ok1, callA, List.append_nil, List.nil_append, get_nd, cond_true, cond_false, Option.getD_some, Nat.beq, b_gtr, b_geq, b_leq, b_lss, b_eql, b_neq, b_add, b_sub, on_lt, on_le, on_gt, on_ge, on_eq, on_ne, decide_true, decide_false, Nat.reduceEqDiff, Nat.reduceLT, Bool.not_true, Bool.not_false, List.getElem?_cons_zero, List.getElem?_cons_succ, len_nils, len_imm, len_sl, len_str, natOf, readA, okU, Option.bind_some, hd, hyk, h0, h1, h6, h7, h8, hvl, hvn, hlen, hnl, get1, ofc_one, a3, a4, hrow, hL, hLn, g1]); with_reducible exact rfl))
          | ((with_reducible apply wr_none); case ho => ((simp only [aop, evalO, nlO, nl_bool, nl_int, nl_ptr, nl_nilp, nl_nils, nl_imm, nl_tup, nl_agg, nl_func, nl_str, nl_sl, nl_iptr, nlAll, ok1, callA, List.append_nil, List.nil_append, get_nd, cond_true, cond_false, Option.getD_some, Nat.beq, b_gtr, b_geq, b_leq, b_lss, b_eql, b_neq, b_add, b_sub, on_lt, on_le, on_gt, on_ge, on_eq, on_ne, decide_true, decide_false, Nat.reduceEqDiff, Nat.reduceLT, Bool.not_true, Bool.not_false, List.getElem?_cons_zero, List.getElem?_cons_succ, len_nils, len_imm, len_sl, len_str, natOf, readA, okU, Option.bind_some, hd, hyk, h0, h1, h6, h7, h8, hvl, hvn, hlen, hnl, get1, ofc_one, a3, a4, hrow, hL, hLn, g1]); with_reducible exact rfl))
          | ((with_reducible apply wr_yes); (case hg => (simp only [aop, evalO, nlO, nl_bool, nl_int, nl_ptr, nl_nilp, nl_nils, nl_imm, nl_tup, nl_agg, nl_func, nl_str, nl_sl, nl_iptr, nlAll, ok1, callA, List.append_nil, List.nil_append, get_nd, cond_true, cond_false, Option.getD_some, Nat.beq, b_gtr, b_geq, b_leq, b_lss, b_eql, b_neq, b_add, b_sub, on_lt, on_le, on_gt, on_ge, on_eq, on_ne, decide_true, decide_false, Nat.reduceEqDiff, Nat.reduceLT, Bool.not_true, Bool.not_false, List.getElem?_cons_zero, List.getElem?_cons_succ, len_nils, len_imm, len_sl, len_str, natOf, readA, okU, Option.bind_some, hd, hyk, h0, h1, h6, h7, h8, hvl, hvn, hlen, hnl, get1, ofc_one, a3, a4, hrow, hL, hLn, g1])); (case ho => ((simp only [aop, evalO, nlO, nl_bool, nl_int, nl_ptr, nl_nilp, nl_nils, nl_imm, nl_tup, nl_agg, nl_func, nl_str, nl_sl, nl_iptr, nlAll, ok1, callA, List.append_nil, List.nil_append, get_nd, cond_true, cond_false, Option.getD_some, Nat.beq, b_gtr, b_geq, b_leq, b_lss, b_eql, b_neq, b_add, b_sub, on_lt, on_le, on_gt, on_ge, on_eq, on_ne, decide_true, decide_false, Nat.reduceEqDiff, Nat.reduceLT, Bool.not_true, Bool.not_false, List.getElem?_cons_zero, List.getElem?_cons_succ, len_nils, len_imm, len_sl, len_str, natOf, readA, okU, Option.bind_some, hd, hyk, h0, h1, h6, h7, h8, hvl, hvn, hlen, hnl, get1, ofc_one, a3, a4, hrow, hL, hLn, g1]); with_reducible exact rfl)))
          | ((with_reducible refine wr_no ?hg ?_); case hg => (simp only [aop, evalO, nlO, nl_bool, nl_int, nl_ptr, nl_nilp, nl_nils, nl_imm, nl_tup, nl_agg, nl_func, nl_str, nl_sl, nl_iptr, nlAll, ok1, callA, List.append_nil, List.nil_append, get_nd, cond_true, cond_false, Option.getD_some, Nat.beq, b_gtr, b_geq, b_leq, b_lss, b_eql, b_neq, b_add, b_sub, on_lt, on_le, on_gt, on_ge, on_eq, on_ne, decide_true, decide_false, Nat.reduceEqDiff, Nat.reduceLT, Bool.not_true, Bool.not_false, List.getElem?_cons_zero, List.getElem?_cons_succ, len_nils, len_imm, len_sl, len_str, natOf, readA, okU, Option.bind_some, hd, hyk, h0, h1, h6, h7, h8, hvl, hvn, hlen, hnl, get1, ofc_one, a3, a4, hrow, hL, hLn, g1]))
          | ((with_reducible refine wc_true ?hc ?_); case hc => (simp only [aop, evalO, nlO, nl_bool, nl_int, nl_ptr, nl_nilp, nl_nils, nl_imm, nl_tup, nl_agg, nl_func, nl_str, nl_sl, nl_iptr, nlAll, ok1, callA, List.append_nil, List.nil_append, get_nd, cond_true, cond_false, Option.getD_some, Nat.beq, b_gtr, b_geq, b_leq, b_lss, b_eql, b_neq, b_add, b_sub, on_lt, on_le, on_gt, on_ge, on_eq, on_ne, decide_true, decide_false, Nat.reduceEqDiff, Nat.reduceLT, Bool.not_true, Bool.not_false, List.getElem?_cons_zero, List.getElem?_cons_succ, len_nils, len_imm, len_sl, len_str, natOf, readA, okU, Option.bind_some, hd, hyk, h0, h1, h6, h7, h8, hvl, hvn, hlen, hnl, get1, ofc_one, a3, a4, hrow, hL, hLn, g1]))
          | ((with_reducible refine wc_false ?hc ?_); case hc => (simp only [aop, evalO, nlO, nl_bool, nl_int, nl_ptr, nl_nilp, nl_nils, nl_imm, nl_tup, nl_agg, nl_func, nl_str, nl_sl, nl_iptr, nlAll, ok1, callA, List.append_nil, List.nil_append, get_nd, cond_true, cond_false, Option.getD_some, Nat.beq, b_gtr, b_geq, b_leq, b_lss, b_eql, b_neq, b_add, b_sub, on_lt, on_le, on_gt, on_ge, on_eq, on_ne, decide_true, decide_false, Nat.reduceEqDiff, Nat.reduceLT, Bool.not_true, Bool.not_false, List.getElem?_cons_zero, List.getElem?_cons_succ, len_nils, len_imm, len_sl, len_str, natOf, readA, okU, Option.bind_some, hd, hyk, h0, h1, h6, h7, h8, hvl, hvn, hlen, hnl, get1, ofc_one, a3, a4, hrow, hL, hLn, g1]))
          | with_reducible refine wc_skip ?_
          | with_reducible refine wc_ret ?_
          | with_reducible refine wc_exit ?_
          | with_reducible refine sk_ret ?_
          | with_reducible refine sk_exit ?_
          | with_reducible refine bk_normal ?_
          | with_reducible refine bk_ret ?_
          | with_reducible refine bk_here ?_)
        rw [← hgo]
        apply retQ_mk
        case he => exact Or.inr rfl
        case hres => ((simp only [resA, get_nd, Nat.beq, cond_true, cond_false, Option.getD_some, nl_bool, nl_int, nl_nils, nl_imm, nl_agg, nl_str, nl_ptr, nl_nilp, nl_sl]); with_reducible exact rfl)
        case hfr => exact rfl
        case hR => exact rfl
      · have g1 : decide (most < c) = false := by simpa using hcm
        rw [if_neg hcm] at hgo
        have hsrc : ∀ h', srcCells h' 1 (.imm 1 [[.int .i64 (.ofNat 0)]] true) = some ([.int .i64 (.ofNat 0)], 1) := fun _ => rfl
        obtain ⟨L', H', e1, hP, e3⟩ := lst_append hlst hlk (by omega)
        have hL' := lst_len hP
        have hLn' := lst_nl hP
        have c1 := sub64 (m + 1) 1 (by omega) (by omega)
        rw [Nat.add_sub_cancel] at c1
        obtain ⟨id, v2, cs, z, cs', rfl, f2, f3, f4, f5, f6, f7⟩ := lst_last hP e3
        have f8 : Nat.ble H'.lock id = true := ble_yes (by omega)
        have f9 : Nat.ble 0 m = true := ble_yes (Nat.zero_le _)
        have f10 : Nat.blt m (m + 1) = true := blt_yes (by omega)
        by_cases hm0 : m = 0
        · subst hm0
          have g2 : decide ((0 : Nat) = 0) = true := rfl
          have b1 := sub64 most c (by omega) (by omega)
          rw [if_pos (.inl rfl)] at hgo
          repeat (first
            | with_reducible refine wc_seq ?_
            | with_reducible refine wc_region ?_
            | with_reducible refine wr_nil ?_
            | with_reducible refine sk_normal ?_
            | with_reducible refine wc_block ?_
            | ((with_reducible apply wr_some); case ho => ((simp only [aop, evalO, nlO, nl_bool, nl_int, nl_ptr, nl_nilp, nl_nils, nl_imm, nl_tup, nl_agg, nl_func, nl_str, nl_sl, nl_iptr, nlAll, ok1, callA, List.append_nil, List.nil_append, get_nd, cond_true, cond_false, Option.getD_some, Nat.beq, b_gtr, b_geq, b_leq, b_lss, b_eql, b_neq, b_add, b_sub, on_lt, on_le, on_gt, on_ge, on_eq, on_ne, decide_true, decide_false, Nat.reduceEqDiff, Nat.reduceLT, Bool.not_true, Bool.not_false, List.getElem?_cons_zero, List.getElem?_cons_succ, len_nils, len_imm, len_sl, len_str, natOf, readA, okU, Option.bind_some, hd, hyk, h0, h1, h6, h7, h8, hvl, hvn, hlen, hnl, get1, ofc_one, a3, a4, hrow, hL, hLn, g1, g2, b1, c1, e1, hsrc, fill1, all1, chunk1, okH, f2, f3, f4, f6, f8, f9, f10, Nat.beq_refl, Bool.and_self, writeA, oneV, List.length_cons, List.length_nil, Nat.zero_add, Nat.mul_one, Nat.reduceAdd, Option.map_some, cells1, hL', hLn', AHeap.put]); with_reducible exact rfl))
            | ((with_reducible apply wr_none); case ho => ((simp only [aop, evalO, nlO, nl_bool, nl_int, nl_ptr, nl_nilp, nl_nils, nl_imm, nl_tup, nl_agg, nl_func, nl_str, nl_sl, nl_iptr, nlAll, ok1, callA, List.append_nil, List.nil_append, get_nd, cond_true, cond_false, Option.getD_some, Nat.beq, b_gtr, b_geq, b_leq, b_lss, b_eql, b_neq, b_add, b_sub, on_lt, on_le, on_gt, on_ge, on_eq, on_ne, decide_true, decide_false, Nat.reduceEqDiff, Nat.reduceLT, Bool.not_true, Bool.not_false, List.getElem?_cons_zero, List.getElem?_cons_succ, len_nils, len_imm, len_sl, len_str, natOf, readA, okU, Option.bind_some, hd, hyk, h0, h1, h6, h7, h8, hvl, hvn, hlen, hnl, get1, ofc_one, a3, a4, hrow, hL, hLn, g1, g2, b1, c1, e1, hsrc, fill1, all1, chunk1, okH, f2, f3, f4, f6, f8, f9, f10, Nat.beq_refl, Bool.and_self, writeA, oneV, List.length_cons, List.length_nil, Nat.zero_add, Nat.mul_one, Nat.reduceAdd, Option.map_some, cells1, hL', hLn', AHeap.put]); with_reducible exact rfl))
            | ((with_reducible apply wr_yes); (case hg => (simp only [aop, evalO, nlO, nl_bool, nl_int, nl_ptr, nl_nilp, nl_nils, nl_imm, nl_tup, nl_agg, nl_func, nl_str, nl_sl, nl_iptr, nlAll, ok1, callA, List.append_nil, List.nil_append, get_nd, cond_true, cond_false, Option.getD_some, Nat.beq, b_gtr, b_geq, b_leq, b_lss, b_eql, b_neq, b_add, b_sub, on_lt, on_le, on_gt, on_ge, on_eq, on_ne, decide_true, decide_false, Nat.reduceEqDiff, Nat.reduceLT, Bool.not_true, Bool.not_false, List.getElem?_cons_zero, List.getElem?_cons_succ, len_nils, len_imm, len_sl, len_str, natOf, readA, okU, Option.bind_some, hd, hyk, h0, h1, h6, h7, h8, hvl, hvn, hlen, hnl, get1, ofc_one, a3, a4, hrow, hL, hLn, g1, g2, b1, c1, e1, hsrc, fill1, all1, chunk1, okH, f2, f3, f4, f6, f8, f9, f10, Nat.beq_refl, Bool.and_self, writeA, oneV, List.length_cons, List.length_nil, Nat.zero_add, Nat.mul_one, Nat.reduceAdd, Option.map_some, cells1, hL', hLn', AHeap.put])); (case ho => ((simp only [aop, evalO, nlO, nl_bool, nl_int, nl_ptr, nl_nilp, nl_nils, nl_imm, nl_tup, nl_agg, nl_func, nl_str, nl_sl, nl_iptr, nlAll, ok1, callA, List.append_nil, List.nil_append, get_nd, cond_true, cond_false, Option.getD_some, Nat.beq, b_gtr, b_geq, b_leq, b_lss, b_eql, b_neq, b_add, b_sub, on_lt, on_le, on_gt, on_ge, on_eq, on_ne, decide_true, decide_false, Nat.reduceEqDiff, Nat.reduceLT, Bool.not_true, Bool.not_false, List.getElem?_cons_zero, List.getElem?_cons_succ, len_nils, len_imm, len_sl, len_str, natOf, readA, okU, Option.bind_some, hd, hyk, h0, h1, h6, h7, h8, hvl, hvn, hlen, hnl, get1, ofc_one, a3, a4, hrow, hL, hLn, g1, g2, b1, c1, e1, hsrc, fill1, all1, chunk1, okH, f2, f3, f4, f6, f8, f9, f10, Nat.beq_refl, Bool.and_self, writeA, oneV, List.length_cons, List.length_nil, Nat.zero_add, Nat.mul_one, Nat.reduceAdd, Option.map_some, cells1, hL', hLn', AHeap.put]); with_reducible exact rfl)))
            | ((with_reducible refine wr_no ?hg ?_); case hg => (simp only [aop, evalO, nlO, nl_bool, nl_int, nl_ptr, nl_nilp, nl_nils, nl_imm, nl_tup, nl_agg, nl_func, nl_str, nl_sl, nl_iptr, nlAll, ok1, callA, List.append_nil, List.nil_append, get_nd, cond_true, cond_false, Option.getD_some, Nat.beq, b_gtr, b_geq, b_leq, b_lss, b_eql, b_neq, b_add, b_sub, on_lt, on_le, on_gt, on_ge, on_eq, on_ne, decide_true, decide_false, Nat.reduceEqDiff, Nat.reduceLT, Bool.not_true, Bool.not_false, List.getElem?_cons_zero, List.getElem?_cons_succ, len_nils, len_imm, len_sl, len_str, natOf, readA, okU, Option.bind_some, hd, hyk, h0, h1, h6, h7, h8, hvl, hvn, hlen, hnl, get1, ofc_one, a3, a4, hrow, hL, hLn, g1, g2, b1, c1, e1, hsrc, fill1, all1, chunk1, okH, f2, f3, f4, f6, f8, f9, f10, Nat.beq_refl, Bool.and_self, writeA, oneV, List.length_cons, List.length_nil, Nat.zero_add, Nat.mul_one, Nat.reduceAdd, Option.map_some, cells1, hL', hLn', AHeap.put]))
            | ((with_reducible refine wc_true ?hc ?_); case hc => (simp only [aop, evalO, nlO, nl_bool, nl_int, nl_ptr, nl_nilp, nl_nils, nl_imm, nl_tup, nl_agg, nl_func, nl_str, nl_sl, nl_iptr, nlAll, ok1, callA, List.append_nil, List.nil_append, get_nd, cond_true, cond_false, Option.getD_some, Nat.beq, b_gtr, b_geq, b_leq, b_lss, b_eql, b_neq, b_add, b_sub, on_lt, on_le, on_gt, on_ge, on_eq, on_ne, decide_true, decide_false, Nat.reduceEqDiff, Nat.reduceLT, Bool.not_true, Bool.not_false, List.getElem?_cons_zero, List.getElem?_cons_succ, len_nils, len_imm, len_sl, len_str, natOf, readA, okU, Option.bind_some, hd, hyk, h0, h1, h6, h7, h8, hvl, hvn, hlen, hnl, get1, ofc_one, a3, a4, hrow, hL, hLn, g1, g2, b1, c1, e1, hsrc, fill1, all1, chunk1, okH, f2, f3, f4, f6, f8, f9, f10, Nat.beq_refl, Bool.and_self, writeA, oneV, List.length_cons, List.length_nil, Nat.zero_add, Nat.mul_one, Nat.reduceAdd, Option.map_some, cells1, hL', hLn', AHeap.put]))
            | ((with_reducible refine wc_false ?hc ?_); case hc => (simp only [aop, evalO, nlO, nl_bool, nl_int, nl_ptr, nl_nilp, nl_nils, nl_imm, nl_tup, nl_agg, nl_func, nl_str, nl_sl, nl_iptr, nlAll, ok1, callA, List.append_nil, List.nil_append, get_nd, cond_true, cond_false, Option.getD_some, Nat.beq, b_gtr, b_geq, b_leq, b_lss, b_eql, b_neq, b_add, b_sub, on_lt, on_le, on_gt, on_ge, on_eq, on_ne, decide_true, decide_false, Nat.reduceEqDiff, Nat.reduceLT, Bool.not_true, Bool.not_false, List.getElem?_cons_zero, List.getElem?_cons_succ, len_nils, len_imm, len_sl, len_str, natOf, readA, okU, Option.bind_some, hd, hyk, h0, h1, h6, h7, h8, hvl, hvn, hlen, hnl, get1, ofc_one, a3, a4, hrow, hL, hLn, g1, g2, b1, c1, e1, hsrc, fill1, all1, chunk1, okH, f2, f3, f4, f6, f8, f9, f10, Nat.beq_refl, Bool.and_self, writeA, oneV, List.length_cons, List.length_nil, Nat.zero_add, Nat.mul_one, Nat.reduceAdd, Option.map_some, cells1, hL', hLn', AHeap.put]))
            | with_reducible refine wc_skip ?_
            | with_reducible refine wc_ret ?_
            | with_reducible refine wc_exit ?_
            | with_reducible refine sk_ret ?_
            | with_reducible refine sk_exit ?_
            | with_reducible refine bk_normal ?_
            | with_reducible refine bk_ret ?_
            | with_reducible refine bk_here ?_)
          exact ⟨j - 1, by omega, k + 1, _, _, _, 0 + 1, most - c, rfl, by omega, by simp only [get_nd, Nat.beq, cond_true, cond_false, h0], by simp only [get_nd, Nat.beq, cond_true, cond_false, h1], by simp only [get_nd, Nat.beq, cond_true, cond_false], by simp only [get_nd, Nat.beq, cond_true, cond_false, Nat.zero_add], by simp only [get_nd, Nat.beq, cond_true, cond_false], f7, e3, by omega, by omega, by simpa using hgo⟩
        · have g2 : decide (m = 0) = false := by simpa using hm0
          by_cases hcl : left < c
          · have g3 : decide (left < c) = true := by simpa using hcl
            have b1 := sub64 most c (by omega) (by omega)
            rw [if_pos (.inr hcl)] at hgo
            repeat (first
              | with_reducible refine wc_seq ?_
              | with_reducible refine wc_region ?_
              | with_reducible refine wr_nil ?_
              | with_reducible refine sk_normal ?_
              | with_reducible refine wc_block ?_
              | ((with_reducible apply wr_some); case ho => ((simp only [aop, evalO, nlO, nl_bool, nl_int, nl_ptr, nl_nilp, nl_nils, nl_imm, nl_tup, nl_agg, nl_func, nl_str, nl_sl, nl_iptr, nlAll, ok1, callA, List.append_nil, List.nil_append, get_nd, cond_true, cond_false, Option.getD_some, Nat.beq, b_gtr, b_geq, b_leq, b_lss, b_eql, b_neq, b_add, b_sub, on_lt, on_le, on_gt, on_ge, on_eq, on_ne, decide_true, decide_false, Nat.reduceEqDiff, Nat.reduceLT, Bool.not_true, Bool.not_false, List.getElem?_cons_zero, List.getElem?_cons_succ, len_nils, len_imm, len_sl, len_str, natOf, readA, okU, Option.bind_some, hd, hyk, h0, h1, h6, h7, h8, hvl, hvn, hlen, hnl, get1, ofc_one, a3, a4, hrow, hL, hLn, g1, g2, b1, c1, e1, hsrc, fill1, all1, chunk1, okH, f2, f3, f4, f6, f8, f9, f10, Nat.beq_refl, Bool.and_self, writeA, oneV, List.length_cons, List.length_nil, Nat.zero_add, Nat.mul_one, Nat.reduceAdd, Option.map_some, cells1, hL', hLn', AHeap.put, g3]); with_reducible exact rfl))
              | ((with_reducible apply wr_none); case ho => ((simp only [aop, evalO, nlO, nl_bool, nl_int, nl_ptr, nl_nilp, nl_nils, nl_imm, nl_tup, nl_agg, nl_func, nl_str, nl_sl, nl_iptr, nlAll, ok1, callA, List.append_nil, List.nil_append, get_nd, cond_true, cond_false, Option.getD_some, Nat.beq, b_gtr, b_geq, b_leq, b_lss, b_eql, b_neq, b_add, b_sub, on_lt, on_le, on_gt, on_ge, on_eq, on_ne, decide_true, decide_false, Nat.reduceEqDiff, Nat.reduceLT, Bool.not_true, Bool.not_false, List.getElem?_cons_zero, List.getElem?_cons_succ, len_nils, len_imm, len_sl, len_str, natOf, readA, okU, Option.bind_some, hd, hyk, h0, h1, h6, h7, h8, hvl, hvn, hlen, hnl, get1, ofc_one, a3, a4, hrow, hL, hLn, g1, g2, b1, c1, e1, hsrc, fill1, all1, chunk1, okH, f2, f3, f4, f6, f8, f9, f10, Nat.beq_refl, Bool.and_self, writeA, oneV, List.length_cons, List.length_nil, Nat.zero_add, Nat.mul_one, Nat.reduceAdd, Option.map_some, cells1, hL', hLn', AHeap.put, g3]); with_reducible exact rfl))
              | ((with_reducible apply wr_yes); (case hg => (simp only [aop, evalO, nlO, nl_bool, nl_int, nl_ptr, nl_nilp, nl_nils, nl_imm, nl_tup, nl_agg, nl_func, nl_str, nl_sl, nl_iptr, nlAll, ok1, callA, List.append_nil, List.nil_append, get_nd, cond_true, cond_false, Option.getD_some, Nat.beq, b_gtr, b_geq, b_leq, b_lss, b_eql, b_neq, b_add, b_sub, on_lt, on_le, on_gt, on_ge, on_eq, on_ne, decide_true, decide_false, Nat.reduceEqDiff, Nat.reduceLT, Bool.not_true, Bool.not_false, List.getElem?_cons_zero, List.getElem?_cons_succ, len_nils, len_imm, len_sl, len_str, natOf, readA, okU, Option.bind_some, hd, hyk, h0, h1, h6, h7, h8, hvl, hvn, hlen, hnl, get1, ofc_one, a3, a4, hrow, hL, hLn, g1, g2, b1, c1, e1, hsrc, fill1, all1, chunk1, okH, f2, f3, f4, f6, f8, f9, f10, Nat.beq_refl, Bool.and_self, writeA, oneV, List.length_cons, List.length_nil, Nat.zero_add, Nat.mul_one, Nat.reduceAdd, Option.map_some, cells1, hL', hLn', AHeap.put, g3])); (case ho => ((simp only [aop, evalO, nlO, nl_bool, nl_int, nl_ptr, nl_nilp, nl_nils, nl_imm, nl_tup, nl_agg, nl_func, nl_str, nl_sl, nl_iptr, nlAll, ok1, callA, List.append_nil, List.nil_append, get_nd, cond_true, cond_false, Option.getD_some, Nat.beq, b_gtr, b_geq, b_leq, b_lss, b_eql, b_neq, b_add, b_sub, on_lt, on_le, on_gt, on_ge, on_eq, on_ne, decide_true, decide_false, Nat.reduceEqDiff, Nat.reduceLT, Bool.not_true, Bool.not_false, List.getElem?_cons_zero, List.getElem?_cons_succ, len_nils, len_imm, len_sl, len_str, natOf, readA, okU, Option.bind_some, hd, hyk, h0, h1, h6, h7, h8, hvl, hvn, hlen, hnl, get1, ofc_one, a3, a4, hrow, hL, hLn, g1, g2, b1, c1, e1, hsrc, fill1, all1, chunk1, okH, f2, f3, f4, f6, f8, f9, f10, Nat.beq_refl, Bool.and_self, writeA, oneV, List.length_cons, List.length_nil, Nat.zero_add, Nat.mul_one, Nat.reduceAdd, Option.map_some, cells1, hL', hLn', AHeap.put, g3]); with_reducible exact rfl)))
              | ((with_reducible refine wr_no ?hg ?_); case hg => (simp only [aop, evalO, nlO, nl_bool, nl_int, nl_ptr, nl_nilp, nl_nils, nl_imm, nl_tup, nl_agg, nl_func, nl_str, nl_sl, nl_iptr, nlAll, ok1, callA, List.append_nil, List.nil_append, get_nd, cond_true, cond_false, Option.getD_some, Nat.beq, b_gtr, b_geq, b_leq, b_lss, b_eql, b_neq, b_add, b_sub, on_lt, on_le, on_gt, on_ge, on_eq, on_ne, decide_true, decide_false, Nat.reduceEqDiff, Nat.reduceLT, Bool.not_true, Bool.not_false, List.getElem?_cons_zero, List.getElem?_cons_succ, len_nils, len_imm, len_sl, len_str, natOf, readA, okU, Option.bind_some, hd, hyk, h0, h1, h6, h7, h8, hvl, hvn, hlen, hnl, get1, ofc_one, a3, a4, hrow, hL, hLn, g1, g2, b1, c1, e1, hsrc, fill1, all1, chunk1, okH, f2, f3, f4, f6, f8, f9, f10, Nat.beq_refl, Bool.and_self, writeA, oneV, List.length_cons, List.length_nil, Nat.zero_add, Nat.mul_one, Nat.reduceAdd, Option.map_some, cells1, hL', hLn', AHeap.put, g3]))
              | ((with_reducible refine wc_true ?hc ?_); case hc => (simp only [aop, evalO, nlO, nl_bool, nl_int, nl_ptr, nl_nilp, nl_nils, nl_imm, nl_tup, nl_agg, nl_func, nl_str, nl_sl, nl_iptr, nlAll, ok1, callA, List.append_nil, List.nil_append, get_nd, cond_true, cond_false, Option.getD_some, Nat.beq, b_gtr, b_geq, b_leq, b_lss, b_eql, b_neq, b_add, b_sub, on_lt, on_le, on_gt, on_ge, on_eq, on_ne, decide_true, decide_false, Nat.reduceEqDiff, Nat.reduceLT, Bool.not_true, Bool.not_false, List.getElem?_cons_zero, List.getElem?_cons_succ, len_nils, len_imm, len_sl, len_str, natOf, readA, okU, Option.bind_some, hd, hyk, h0, h1, h6, h7, h8, hvl, hvn, hlen, hnl, get1, ofc_one, a3, a4, hrow, hL, hLn, g1, g2, b1, c1, e1, hsrc, fill1, all1, chunk1, okH, f2, f3, f4, f6, f8, f9, f10, Nat.beq_refl, Bool.and_self, writeA, oneV, List.length_cons, List.length_nil, Nat.zero_add, Nat.mul_one, Nat.reduceAdd, Option.map_some, cells1, hL', hLn', AHeap.put, g3]))
              | ((with_reducible refine wc_false ?hc ?_); case hc => (simp only [aop, evalO, nlO, nl_bool, nl_int, nl_ptr, nl_nilp, nl_nils, nl_imm, nl_tup, nl_agg, nl_func, nl_str, nl_sl, nl_iptr, nlAll, ok1, callA, List.append_nil, List.nil_append, get_nd, cond_true, cond_false, Option.getD_some, Nat.beq, b_gtr, b_geq, b_leq, b_lss, b_eql, b_neq, b_add, b_sub, on_lt, on_le, on_gt, on_ge, on_eq, on_ne, decide_true, decide_false, Nat.reduceEqDiff, Nat.reduceLT, Bool.not_true, Bool.not_false, List.getElem?_cons_zero, List.getElem?_cons_succ, len_nils, len_imm, len_sl, len_str, natOf, readA, okU, Option.bind_some, hd, hyk, h0, h1, h6, h7, h8, hvl, hvn, hlen, hnl, get1, ofc_one, a3, a4, hrow, hL, hLn, g1, g2, b1, c1, e1, hsrc, fill1, all1, chunk1, okH, f2, f3, f4, f6, f8, f9, f10, Nat.beq_refl, Bool.and_self, writeA, oneV, List.length_cons, List.length_nil, Nat.zero_add, Nat.mul_one, Nat.reduceAdd, Option.map_some, cells1, hL', hLn', AHeap.put, g3]))
              | with_reducible refine wc_skip ?_
              | with_reducible refine wc_ret ?_
              | with_reducible refine wc_exit ?_
              | with_reducible refine sk_ret ?_
              | with_reducible refine sk_exit ?_
              | with_reducible refine bk_normal ?_
              | with_reducible refine bk_ret ?_
              | with_reducible refine bk_here ?_)
            exact ⟨j - 1, by omega, k + 1, _, _, _, m + 1, most - c, rfl, by omega, by simp only [get_nd, Nat.beq, cond_true, cond_false, h0], by simp only [get_nd, Nat.beq, cond_true, cond_false, h1], by simp only [get_nd, Nat.beq, cond_true, cond_false], by simp only [get_nd, Nat.beq, cond_true, cond_false], by simp only [get_nd, Nat.beq, cond_true, cond_false], f7, e3, by omega, by omega, by simpa using hgo⟩
          · have g3 : decide (left < c) = false := by simpa using hcl
            have b1 := sub64 left c (by omega) (by omega)
            rw [if_neg (fun h => h.elim hm0 hcl)] at hgo
            clear e1 hP e3 hL' hLn' c1 f2 f3 f4 f5 f6 f7 f8 f9 f10
            obtain ⟨m, rfl⟩ : ∃ q, m = q + 1 := ⟨m - 1, by omega⟩
            have c1 := sub64 (m + 1) 1 (by omega) (by omega)
            rw [Nat.add_sub_cancel] at c1
            obtain ⟨id, v2, cs, z, cs', rfl, f2, f3, f4, f5, f6, f7⟩ := lst_last hlst hlk
            have f8 : Nat.ble H.lock id = true := ble_yes (by omega)
            have f9 : Nat.ble 0 m = true := ble_yes (Nat.zero_le _)
            have f10 : Nat.blt m (m + 1) = true := blt_yes (by omega)
            repeat (first
              | with_reducible refine wc_seq ?_
              | with_reducible refine wc_region ?_
              | with_reducible refine wr_nil ?_
              | with_reducible refine sk_normal ?_
              | with_reducible refine wc_block ?_
              | ((with_reducible apply wr_some); case ho => ((simp only [aop, evalO, nlO, nl_bool, nl_int, nl_ptr, nl_nilp, nl_nils, nl_imm, nl_tup, nl_agg, nl_func, nl_str, nl_sl, nl_iptr, nlAll, ok1, callA, List.append_nil, List.nil_append, get_nd, cond_true, cond_false, Option.getD_some, Nat.beq, b_gtr, b_geq, b_leq, b_lss, b_eql, b_neq, b_add, b_sub, on_lt, on_le, on_gt, on_ge, on_eq, on_ne, decide_true, decide_false, Nat.reduceEqDiff, Nat.reduceLT, Bool.not_true, Bool.not_false, List.getElem?_cons_zero, List.getElem?_cons_succ, len_nils, len_imm, len_sl, len_str, natOf, readA, okU, Option.bind_some, hd, hyk, h0, h1, h6, h7, h8, hvl, hvn, hlen, hnl, get1, ofc_one, a3, a4, hrow, hL, hLn, g1, g2, g3, b1, c1, f2, f3, f4, f6, f8, f9, f10, Nat.beq_refl, Bool.and_self, writeA, oneV, List.length_cons, List.length_nil, Nat.zero_add, Nat.mul_one, Nat.reduceAdd, Option.map_some, cells1, AHeap.put]); with_reducible exact rfl))
              | ((with_reducible apply wr_none); case ho => ((simp only [aop, evalO, nlO, nl_bool, nl_int, nl_ptr, nl_nilp, nl_nils, nl_imm, nl_tup, nl_agg, nl_func, nl_str, nl_sl, nl_iptr, nlAll, ok1, callA, List.append_nil, List.nil_append, get_nd, cond_true, cond_false, Option.getD_some, Nat.beq, b_gtr, b_geq, b_leq, b_lss, b_eql, b_neq, b_add, b_sub, on_lt, on_le, on_gt, on_ge, on_eq, on_ne, decide_true, decide_false, Nat.reduceEqDiff, Nat.reduceLT, Bool.not_true, Bool.not_false, List.getElem?_cons_zero, List.getElem?_cons_succ, len_nils, len_imm, len_sl, len_str, natOf, readA, okU, Option.bind_some, hd, hyk, h0, h1, h6, h7, h8, hvl, hvn, hlen, hnl, get1, ofc_one, a3, a4, hrow, hL, hLn, g1, g2, g3, b1, c1, f2, f3, f4, f6, f8, f9, f10, Nat.beq_refl, Bool.and_self, writeA, oneV, List.length_cons, List.length_nil, Nat.zero_add, Nat.mul_one, Nat.reduceAdd, Option.map_some, cells1, AHeap.put]); with_reducible exact rfl))
              | ((with_reducible apply wr_yes); (case hg => (simp only [aop, evalO, nlO, nl_bool, nl_int, nl_ptr, nl_nilp, nl_nils, nl_imm, nl_tup, nl_agg, nl_func, nl_str, nl_sl, nl_iptr, nlAll, ok1, callA, List.append_nil, List.nil_append, get_nd, cond_true, cond_false, Option.getD_some, Nat.beq, b_gtr, b_geq, b_leq, b_lss, b_eql, b_neq, b_add, b_sub, on_lt, on_le, on_gt, on_ge, on_eq, on_ne, decide_true, decide_false, Nat.reduceEqDiff, Nat.reduceLT, Bool.not_true, Bool.not_false, List.getElem?_cons_zero, List.getElem?_cons_succ, len_nils, len_imm, len_sl, len_str, natOf, readA, okU, Option.bind_some, hd, hyk, h0, h1, h6, h7, h8, hvl, hvn, hlen, hnl, get1, ofc_one, a3, a4, hrow, hL, hLn, g1, g2, g3, b1, c1, f2, f3, f4, f6, f8, f9, f10, Nat.beq_refl, Bool.and_self, writeA, oneV, List.length_cons, List.length_nil, Nat.zero_add, Nat.mul_one, Nat.reduceAdd, Option.map_some, cells1, AHeap.put])); (case ho => ((simp only [aop, evalO, nlO, nl_bool, nl_int, nl_ptr, nl_nilp, nl_nils, nl_imm, nl_tup, nl_agg, nl_func, nl_str, nl_sl, nl_iptr, nlAll, ok1, callA, List.append_nil, List.nil_append, get_nd, cond_true, cond_false, Option.getD_some, Nat.beq, b_gtr, b_geq, b_leq, b_lss, b_eql, b_neq, b_add, b_sub, on_lt, on_le, on_gt, on_ge, on_eq, on_ne, decide_true, decide_false, Nat.reduceEqDiff, Nat.reduceLT, Bool.not_true, Bool.not_false, List.getElem?_cons_zero, List.getElem?_cons_succ, len_nils, len_imm, len_sl, len_str, natOf, readA, okU, Option.bind_some, hd, hyk, h0, h1, h6, h7, h8, hvl, hvn, hlen, hnl, get1, ofc_one, a3, a4, hrow, hL, hLn, g1, g2, g3, b1, c1, f2, f3, f4, f6, f8, f9, f10, Nat.beq_refl, Bool.and_self, writeA, oneV, List.length_cons, List.length_nil, Nat.zero_add, Nat.mul_one, Nat.reduceAdd, Option.map_some, cells1, AHeap.put]); with_reducible exact rfl)))
              | ((with_reducible refine wr_no ?hg ?_); case hg => (simp only [aop, evalO, nlO, nl_bool, nl_int, nl_ptr, nl_nilp, nl_nils, nl_imm, nl_tup, nl_agg, nl_func, nl_str, nl_sl, nl_iptr, nlAll, ok1, callA, List.append_nil, List.nil_append, get_nd, cond_true, cond_false, Option.getD_some, Nat.beq, b_gtr, b_geq, b_leq, b_lss, b_eql, b_neq, b_add, b_sub, on_lt, on_le, on_gt, on_ge, on_eq, on_ne, decide_true, decide_false, Nat.reduceEqDiff, Nat.reduceLT, Bool.not_true, Bool.not_false, List.getElem?_cons_zero, List.getElem?_cons_succ, len_nils, len_imm, len_sl, len_str, natOf, readA, okU, Option.bind_some, hd, hyk, h0, h1, h6, h7, h8, hvl, hvn, hlen, hnl, get1, ofc_one, a3, a4, hrow, hL, hLn, g1, g2, g3, b1, c1, f2, f3, f4, f6, f8, f9, f10, Nat.beq_refl, Bool.and_self, writeA, oneV, List.length_cons, List.length_nil, Nat.zero_add, Nat.mul_one, Nat.reduceAdd, Option.map_some, cells1, AHeap.put]))
              | ((with_reducible refine wc_true ?hc ?_); case hc => (simp only [aop, evalO, nlO, nl_bool, nl_int, nl_ptr, nl_nilp, nl_nils, nl_imm, nl_tup, nl_agg, nl_func, nl_str, nl_sl, nl_iptr, nlAll, ok1, callA, List.append_nil, List.nil_append, get_nd, cond_true, cond_false, Option.getD_some, Nat.beq, b_gtr, b_geq, b_leq, b_lss, b_eql, b_neq, b_add, b_sub, on_lt, on_le, on_gt, on_ge, on_eq, on_ne, decide_true, decide_false, Nat.reduceEqDiff, Nat.reduceLT, Bool.not_true, Bool.not_false, List.getElem?_cons_zero, List.getElem?_cons_succ, len_nils, len_imm, len_sl, len_str, natOf, readA, okU, Option.bind_some, hd, hyk, h0, h1, h6, h7, h8, hvl, hvn, hlen, hnl, get1, ofc_one, a3, a4, hrow, hL, hLn, g1, g2, g3, b1, c1, f2, f3, f4, f6, f8, f9, f10, Nat.beq_refl, Bool.and_self, writeA, oneV, List.length_cons, List.length_nil, Nat.zero_add, Nat.mul_one, Nat.reduceAdd, Option.map_some, cells1, AHeap.put]))
              | ((with_reducible refine wc_false ?hc ?_); case hc => (simp only [aop, evalO, nlO, nl_bool, nl_int, nl_ptr, nl_nilp, nl_nils, nl_imm, nl_tup, nl_agg, nl_func, nl_str, nl_sl, nl_iptr, nlAll, ok1, callA, List.append_nil, List.nil_append, get_nd, cond_true, cond_false, Option.getD_some, Nat.beq, b_gtr, b_geq, b_leq, b_lss, b_eql, b_neq, b_add, b_sub, on_lt, on_le, on_gt, on_ge, on_eq, on_ne, decide_true, decide_false, Nat.reduceEqDiff, Nat.reduceLT, Bool.not_true, Bool.not_false, List.getElem?_cons_zero, List.getElem?_cons_succ, len_nils, len_imm, len_sl, len_str, natOf, readA, okU, Option.bind_some, hd, hyk, h0, h1, h6, h7, h8, hvl, hvn, hlen, hnl, get1, ofc_one, a3, a4, hrow, hL, hLn, g1, g2, g3, b1, c1, f2, f3, f4, f6, f8, f9, f10, Nat.beq_refl, Bool.and_self, writeA, oneV, List.length_cons, List.length_nil, Nat.zero_add, Nat.mul_one, Nat.reduceAdd, Option.map_some, cells1, AHeap.put]))
              | with_reducible refine wc_skip ?_
              | with_reducible refine wc_ret ?_
              | with_reducible refine wc_exit ?_
              | with_reducible refine sk_ret ?_
              | with_reducible refine sk_exit ?_
              | with_reducible refine bk_normal ?_
              | with_reducible refine bk_ret ?_
              | with_reducible refine bk_here ?_)
            exact ⟨j - 1, by omega, k + 1, _, _, _, m + 1, left - c, rfl, by omega, by simp only [get_nd, Nat.beq, cond_true, cond_false, h0], by simp only [get_nd, Nat.beq, cond_true, cond_false, h1], by simp only [get_nd, Nat.beq, cond_true, cond_false], by simp only [get_nd, Nat.beq, cond_true, cond_false, h6], by simp only [get_nd, Nat.beq, cond_true, cond_false], f7, hlk, by omega, by omega, hgo⟩
    · have hd : decide (k < xs.length) = false := by simpa using hlt
      have hk0 : k = xs.length := by omega
      subst hk0
      rw [List.drop_length] at hgo
      rw [← hgo]
      obtain ⟨L', q1, q2, q3⟩ := lst_freeze hlst (n + 5) (by omega)
      repeat (first
        | with_reducible refine wc_seq ?_
        | with_reducible refine wc_region ?_
        | with_reducible refine wr_nil ?_
        | with_reducible refine sk_normal ?_
        | with_reducible refine wc_block ?_
        | ((with_reducible apply wr_some); case ho => ((simp only [aop, evalO, nlO, nl_bool, nl_int, nl_ptr, nl_nilp, nl_nils, nl_imm, nl_tup, nl_agg, nl_func, nl_str, nl_sl, nl_iptr, nlAll, ok1, callA, List.append_nil, List.nil_append, get_nd, cond_true, cond_false, Option.getD_some, Nat.beq, b_gtr, b_geq, b_leq, b_lss, b_eql, b_neq, b_add, b_sub, on_lt, on_le, on_gt, on_ge, on_eq, on_ne, decide_true, decide_false, Nat.reduceEqDiff, Nat.reduceLT, Bool.not_true, Bool.not_false, List.getElem?_cons_zero, List.getElem?_cons_succ, len_nils, len_imm, len_sl, len_str, natOf, readA, okU, Option.bind_some, hd, h0, h1, h6, h8, hlen, hnl, hLn]); with_reducible exact rfl))
        | ((with_reducible apply wr_none); case ho => ((simp only [aop, evalO, nlO, nl_bool, nl_int, nl_ptr, nl_nilp, nl_nils, nl_imm, nl_tup, nl_agg, nl_func, nl_str, nl_sl, nl_iptr, nlAll, ok1, callA, List.append_nil, List.nil_append, get_nd, cond_true, cond_false, Option.getD_some, Nat.beq, b_gtr, b_geq, b_leq, b_lss, b_eql, b_neq, b_add, b_sub, on_lt, on_le, on_gt, on_ge, on_eq, on_ne, decide_true, decide_false, Nat.reduceEqDiff, Nat.reduceLT, Bool.not_true, Bool.not_false, List.getElem?_cons_zero, List.getElem?_cons_succ, len_nils, len_imm, len_sl, len_str, natOf, readA, okU, Option.bind_some, hd, h0, h1, h6, h8, hlen, hnl, hLn]); with_reducible exact rfl))
        | ((with_reducible apply wr_yes); (case hg => (simp only [aop, evalO, nlO, nl_bool, nl_int, nl_ptr, nl_nilp, nl_nils, nl_imm, nl_tup, nl_agg, nl_func, nl_str, nl_sl, nl_iptr, nlAll, ok1, callA, List.append_nil, List.nil_append, get_nd, cond_true, cond_false, Option.getD_some, Nat.beq, b_gtr, b_geq, b_leq, b_lss, b_eql, b_neq, b_add, b_sub, on_lt, on_le, on_gt, on_ge, on_eq, on_ne, decide_true, decide_false, Nat.reduceEqDiff, Nat.reduceLT, Bool.not_true, Bool.not_false, List.getElem?_cons_zero, List.getElem?_cons_succ, len_nils, len_imm, len_sl, len_str, natOf, readA, okU, Option.bind_some, hd, h0, h1, h6, h8, hlen, hnl, hLn])); (case ho => ((simp only [aop, evalO, nlO, nl_bool, nl_int, nl_ptr, nl_nilp, nl_nils, nl_imm, nl_tup, nl_agg, nl_func, nl_str, nl_sl, nl_iptr, nlAll, ok1, callA, List.append_nil, List.nil_append, get_nd, cond_true, cond_false, Option.getD_some, Nat.beq, b_gtr, b_geq, b_leq, b_lss, b_eql, b_neq, b_add, b_sub, on_lt, on_le, on_gt, on_ge, on_eq, on_ne, decide_true, decide_false, Nat.reduceEqDiff, Nat.reduceLT, Bool.not_true, Bool.not_false, List.getElem?_cons_zero, List.getElem?_cons_succ, len_nils, len_imm, len_sl, len_str, natOf, readA, okU, Option.bind_some, hd, h0, h1, h6, h8, hlen, hnl, hLn]); with_reducible exact rfl)))
        | ((with_reducible refine wr_no ?hg ?_); case hg => (simp only [aop, evalO, nlO, nl_bool, nl_int, nl_ptr, nl_nilp, nl_nils, nl_imm, nl_tup, nl_agg, nl_func, nl_str, nl_sl, nl_iptr, nlAll, ok1, callA, List.append_nil, List.nil_append, get_nd, cond_true, cond_false, Option.getD_some, Nat.beq, b_gtr, b_geq, b_leq, b_lss, b_eql, b_neq, b_add, b_sub, on_lt, on_le, on_gt, on_ge, on_eq, on_ne, decide_true, decide_false, Nat.reduceEqDiff, Nat.reduceLT, Bool.not_true, Bool.not_false, List.getElem?_cons_zero, List.getElem?_cons_succ, len_nils, len_imm, len_sl, len_str, natOf, readA, okU, Option.bind_some, hd, h0, h1, h6, h8, hlen, hnl, hLn]))
        | ((with_reducible refine wc_true ?hc ?_); case hc => (simp only [aop, evalO, nlO, nl_bool, nl_int, nl_ptr, nl_nilp, nl_nils, nl_imm, nl_tup, nl_agg, nl_func, nl_str, nl_sl, nl_iptr, nlAll, ok1, callA, List.append_nil, List.nil_append, get_nd, cond_true, cond_false, Option.getD_some, Nat.beq, b_gtr, b_geq, b_leq, b_lss, b_eql, b_neq, b_add, b_sub, on_lt, on_le, on_gt, on_ge, on_eq, on_ne, decide_true, decide_false, Nat.reduceEqDiff, Nat.reduceLT, Bool.not_true, Bool.not_false, List.getElem?_cons_zero, List.getElem?_cons_succ, len_nils, len_imm, len_sl, len_str, natOf, readA, okU, Option.bind_some, hd, h0, h1, h6, h8, hlen, hnl, hLn]))
        | ((with_reducible refine wc_false ?hc ?_); case hc => (simp only [aop, evalO, nlO, nl_bool, nl_int, nl_ptr, nl_nilp, nl_nils, nl_imm, nl_tup, nl_agg, nl_func, nl_str, nl_sl, nl_iptr, nlAll, ok1, callA, List.append_nil, List.nil_append, get_nd, cond_true, cond_false, Option.getD_some, Nat.beq, b_gtr, b_geq, b_leq, b_lss, b_eql, b_neq, b_add, b_sub, on_lt, on_le, on_gt, on_ge, on_eq, on_ne, decide_true, decide_false, Nat.reduceEqDiff, Nat.reduceLT, Bool.not_true, Bool.not_false, List.getElem?_cons_zero, List.getElem?_cons_succ, len_nils, len_imm, len_sl, len_str, natOf, readA, okU, Option.bind_some, hd, h0, h1, h6, h8, hlen, hnl, hLn]))
        | with_reducible refine wc_skip ?_
        | with_reducible refine wc_ret ?_
        | with_reducible refine wc_exit ?_
        | with_reducible refine sk_ret ?_
        | with_reducible refine sk_exit ?_
        | with_reducible refine bk_normal ?_
        | with_reducible refine bk_ret ?_
        | with_reducible refine bk_here ?_)
      apply retQ_mk
      case he => exact Or.inr rfl
      case hres => ((simp only [resA, get_nd, Nat.beq, cond_true, cond_false, Option.getD_some, nl_bool, nl_int, nl_nils, nl_imm, nl_agg, nl_str, nl_ptr, nl_nilp, nl_sl, hLn]); with_reducible exact rfl)
      case hfr =>
        exact freeze_tup2 (n := n + 4) (freeze_le (by omega) q1)
      case hR => exact ⟨L', rfl, q2, q3⟩
  · exact ⟨0, _, H, .nils, 0, 0, rfl, by omega, by simp [get_nd, Nat.beq], by simp [get_nd, Nat.beq], by simp [get_nd, Nat.beq], by simp [get_nd, Nat.beq], by simp [get_nd, Nat.beq], hH2, hH1, Nat.le_refl _, Nat.zero_le _, rfl⟩
end ZC
