/- Part 18 of this claim: an abstract interpreter over the model, its soundness, and what is run in it. -/
import Derived.Test.YthnhpmbmadmmhaaGreatRows
import Derived.ProofKit
import Derived.Carry
import Derived.Test.YthnhpmbmadmmhaaGreatW16
set_option maxRecDepth 20000
set_option linter.unusedSimpArgs false
set_option linter.unusedVariables false
/- SorterCounts: the law answers true, whatever comes in. -/
namespace ZC
open Go Wab
set_option maxRecDepth 100000
set_option linter.unusedSimpArgs false
set_option linter.unusedVariables false

theorem law (x : AVal) (xs : List (List AVal)) (hx : RowsV x xs) (hv : ∀ c ∈ xs, Raw c) (hl : xs.length ≤ 9223372036854775807) (M R : Nat) (fan : Int) : ∃ N, acallS ProgZ.prog ProgZ.S1 N 4 [x, .int .u32 (.ofNat M), .int .u32 (.ofNat R), .int .i64 fan] h00 = some (.bool true, h00) := by
  obtain ⟨q, hq1, hq2⟩ : ∃ q, 1073742000 < q ∧ xs.length + 100 < q := ⟨xs.length + 1073742001, by omega, by omega⟩
  refine ⟨q + 4, ?_⟩
  have up : ∀ (a b : Nat), a ≤ b → Le (acallS ProgZ.prog ProgZ.S1 a) (acallS ProgZ.prog ProgZ.S1 b) := fun a b h => acallS_le a b h
  -- the leaves
  have l30 : ∀ k m s h, ∃ b, acallS ProgZ.prog ProgZ.S1 (q + 1) 30 [.agg [.int .u8 k, .int .i64 m, .str s]] h = some (.bool b, h) := fun k m s h => by
    rw [acallS_step (fn := ProgZ.a30) rfl rfl]
    obtain ⟨r, h1, b, rfl⟩ := right30 (acallS ProgZ.prog ProgZ.S1 q) (acall0 ProgZ.prog (acallS ProgZ.prog ProgZ.S1 q) q) q k m s (by omega) h
    exact ⟨b, h1⟩
  have l19 : ∀ v ys h, RowV v ys → (∀ y ∈ ys, V3 y) → rowN ys ≤ 20000 → ys.length ≤ 40 → acallS ProgZ.prog ProgZ.S1 (q + 1) 19 [v] h = some (.int .i64 (.ofNat (rowN ys)), h) := fun v ys h h1 h2 h3 h4 => by
    rw [acallS_step (fn := ProgZ.a19) rfl rfl]
    exact row19 _ _ q v ys h1 h2 (by omega) (by omega) (by omega) h
  have l31 : ∀ v ys h, RowV v ys → (∀ y ∈ ys, V3 y) → rowN ys ≤ 20000 → ys.length ≤ 40 → acallS ProgZ.prog ProgZ.S1 (q + 1) 31 [v] h = some (.int .i64 (.ofNat (rowN ys)), h) := fun v ys h h1 h2 h3 h4 => by
    rw [acallS_step (fn := ProgZ.a31) rfl rfl]
    exact row31 _ _ q v ys h1 h2 (by omega) (by omega) (by omega) h
  have l12 : ∀ r h, r ≤ 1073741824 → acallS ProgZ.prog ProgZ.S1 (q + 1) 12 [.int .i64 r, .int .i64 fan] h = some (.int .i64 (.ofNat (pasI r fan)), h) := fun r h h1 => by
    rw [acallS_step (fn := ProgZ.a12) rfl rfl]
    exact passes12 _ _ q r fan h1 (by omega) h
  have l13 : ∀ r h, r ≤ 1073741824 → acallS ProgZ.prog ProgZ.S1 (q + 1) 13 [.int .i64 r, .int .i64 fan] h = some (.int .i64 (.ofNat (pasI r fan)), h) := fun r h h1 => by
    rw [acallS_step (fn := ProgZ.a13) rfl rfl]
    exact passes13 _ _ q r fan h1 (by omega) h
  -- a row
  have l18 : ∀ v ys h, RowV v ys → (∀ y ∈ ys, V3 y) → ys.length ≤ 40 → ∃ e, acallS ProgZ.prog ProgZ.S1 (q + 2) 18 [v] h = some (.int .i64 e, h) := fun v ys h h1 h2 h3 => by
    rw [acallS_step (fn := ProgZ.a18) rfl rfl]
    obtain ⟨r, h4, e, rfl⟩ := may18 (acallS ProgZ.prog ProgZ.S1 (q + 1)) (acall0 ProgZ.prog (acallS ProgZ.prog ProgZ.S1 (q + 1)) (q + 1)) l30 (q + 1) v ys h1 h2 (by omega) (by omega) h
    exact ⟨e, h4⟩
  -- what few tells
  obtain ⟨z, l9, zs, z1, z2, z3⟩ : ∃ r, acallS ProgZ.prog ProgZ.S1 (q + 3) 9 [x] h00 = some (r, h00) ∧ isF r := by
    rw [acallS_step (fn := ProgZ.a9) rfl rfl]
    exact few9 _ _ (q + 2) l18 x xs hx hv hl (by omega) (by omega) h00
  have hM : M % 1073741824 < 1073741824 := Nat.mod_lt _ (by decide)
  -- how they are cut
  have l10 : ∀ h, acallS ProgZ.prog ProgZ.S1 (q + 3) 10 [z, .int .i64 (.ofNat (M % 1073741824))] h = some (resP (go (M % 1073741824) (zs.map costOf) 0 0), h) := fun h => by
    refine up (q + 2) (q + 3) (by omega) _ _ _ _ ?_
    rw [acallS_step (fn := ProgZ.a10) rfl rfl]
    exact runs10 _ _ (q + 1) l19 z zs z1 z2 (by omega) _ (by omega) (by omega) h
  have l20 : ∀ h, ∃ r, acallS ProgZ.prog ProgZ.S1 (q + 2) 20 [z, .int .i64 (.ofNat (M % 1073741824))] h = some (r, h) ∧ isC (go (M % 1073741824) (zs.map costOf) 0 0) r := fun h => by
    rw [acallS_step (fn := ProgZ.a20) rfl rfl]
    exact cuts20 _ _ (q + 1) l31 z zs z1 z2 (by omega) _ (by omega) (by omega) h
  have l11 : ∀ h, acallS ProgZ.prog ProgZ.S1 (q + 3) 11 [z, .int .i64 (.ofNat (M % 1073741824))] h = some (resP (go (M % 1073741824) (zs.map costOf) 0 0), h) := fun h => by
    rw [acallS_step (fn := ProgZ.a11) rfl rfl]
    exact runs11 _ _ (q + 2) _ z z1.nl _ l20 (by omega) h
  rw [acallS_step (fn := ProgZ.a4) rfl rfl]
  exact law4O _ _ (q + 3) x z _ M R fan hx.nl z1.nl l9 l10 l11 (up 3000 (q + 3) (by omega) _ _ _ _ ZN.e5) (fun r h hr => up (q + 1) (q + 3) (by omega) _ _ _ _ (l12 r h hr)) (fun r h hr => up (q + 1) (q + 3) (by omega) _ _ _ _ (l13 r h hr)) (by omega)

theorem st3 {y : List AVal} (h : wfA (.st [(1, .int .u8), (1, .int .i64), (1, .str)]) y) : V3 y := by
  simp only [wfA, wfFs] at h
  obtain ⟨⟨k, h1, _⟩, ⟨n, h2, _⟩, ⟨s, h3, _⟩, h4⟩ := h
  match y, h1, h2, h3, h4 with
  | [], h1, _, _, _ => simp at h1
  | [_], _, h2, _, _ => simp at h2
  | [_, _], _, _, h3, _ => simp at h3
  | [a, b, c], h1, h2, h3, _ =>
    simp at h1 h2 h3
    subst h1; subst h2; subst h3
    exact ⟨k, n, s, rfl⟩
  | _ :: _ :: _ :: _ :: _, _, _, _, h4 => simp at h4

theorem rows_of {x : AVal} (h : wfA (.sl 1 (.sl 3 (.st [(1, .int .u8), (1, .int .i64), (1, .str)]))) [x]) : ∃ xs, RowsV x xs ∧ (∀ c ∈ xs, Raw c) ∧ xs.length ≤ 9223372036854775807 := by
  simp only [wfA, List.cons.injEq, and_true] at h
  rcases h with rfl | ⟨ys, ex, rfl, hl, hy⟩
  · exact ⟨[], .inl ⟨rfl, rfl⟩, (fun c hc => by cases hc), by simp⟩
  · refine ⟨ys, .inr ⟨ex, rfl⟩, fun c hc => ?_, by unfold maxLen at hl; omega⟩
    rcases hy c hc with rfl | ⟨zs, ex2, rfl, hl2, hz⟩
    · exact ⟨.nils, [], rfl, .inl ⟨rfl, rfl⟩, (fun c hc => by cases hc), by simp⟩
    · exact ⟨_, zs, rfl, .inr ⟨ex2, rfl⟩, fun z hz' => st3 (by simpa only [wfA] using hz z hz'), by unfold maxLen at hl2; omega⟩
end ZC

namespace Go.Proofs.YthnhpmbmadmmhaaGreat
open Go.ChangeShapes Go.WideShapes Go.ChangeAt Go.RowKit
theorem sc_own : ownKnob Tryz.prog.godebug = none := by kernel_rfl
theorem sc_kids : Kids Tryz.prog (· < Tryz.prog.types.size) := kids_rows (by kernel_rfl) (by kernel_rfl)
theorem sc_full : ∀ t e, t < Tryz.prog.types.size → Tryz.prog.underlying t = some (.slice e) → 0 < Tryz.prog.cellsOf e := slices_full_of Tryz.prog (by kernel_rfl)
theorem shape32 : Wab.shOf Tryz.prog 8 32 = some (.sl 1 (.sl 3 (.st [(1, .int .u8), (1, .int .i64), (1, .str)]))) := by kernel_rfl
theorem shape36 : Wab.shOf Tryz.prog 8 36 = some (.int .u32) := by kernel_rfl
theorem shape3 : Wab.shOf Tryz.prog 8 3 = some (.int .i64) := by kernel_rfl
theorem par4 : Tryz.f4.params = #[32, 36, 36, 3] := by kernel_rfl
theorem res4 : Tryz.f4.resultTypes = #[4] := by kernel_rfl
theorem sc_und4 : Tryz.prog.underlying 4 = some .bool := by kernel_rfl
theorem smalls : ∀ t ∈ [32, 36, 36, 3], t < Tryz.prog.types.size := by
  have h : Nat.ble 37 Tryz.prog.types.size = true := by kernel_rfl
  have h := Nat.le_of_ble_eq_true h
  intro t ht
  simp at ht
  omega

theorem u32_of {n : Int} (h : (Lit.int .u32 n).wf = true) : ∃ m : Nat, n = Int.ofNat m := by
  simp only [Lit.wf, Bool.and_eq_true, decide_eq_true_eq] at h
  have h0 : (0 : Int) ≤ n := h.1
  exact ⟨n.toNat, by show n = (n.toNat : Int); omega⟩

set_option maxRecDepth 100000 in
theorem counts_lifted (os : Os) (started : os.Started) (H : Type) (enc : TypeId × Value → H) :
    ReturnsInHanded {} Tryz.checked os 4 .any (Rows.sorterCountsSpec.pre6 enc Tryz.prog Tryz.f4 Rows.sorterCountsRow.domain false) (Rows.sorterCountsSpec.post enc Tryz.prog Tryz.f4 false true false false) := by
  refine returnsInHanded_of_change (C := Tryz.checked) sc_own started (by kernel_rfl) Tryz.func4
    (ChangeSpec.witness6 (enc := enc) (C := Tryz.checked) false ⟨#[], #[.slice none 0 0, .int .u32 0, .int .u32 0, .int .i64 0], []⟩ 8 (by kernel_rfl) (by kernel_rfl) (by kernel_rfl) (by kernel_rfl)) ?_
  intro W base args ds gs before hval0 hW _ _
  have hval : ∀ (j : Nat) t v, Tryz.f4.params[j]? = some t → args[j]? = some v → Value.okWide Tryz.prog W .any base t v := hval0
  have hW' : DataW.Whole enc Tryz.prog Tryz.f4.params.toList Rows.sorterCountsSpec.vars false W args.toList ds gs before := hW
  obtain ⟨p, q, hA0, hV, rfl, hfz, hnd⟩ := hW
  have hA : DataW.TrodAll enc Tryz.prog W 0 (fun _ => true) true Tryz.f4.params.toList args.toList ds p := hA0
  rw [par4] at hA hval
  obtain ⟨v0, v1, v2, v3, d0, d1, d2, d3, p0, p1, p2, p3, rfl, hds, _, h0, h1, h2, h3⟩ := trodAll_four hA
  obtain ⟨x0, w0, r0, _⟩ := Wab.arg_one shape32 (by intros; simp) (hval 0 32 v0 rfl rfl) h0
  obtain ⟨x1, w1, r1, _⟩ := Wab.arg_one shape36 (by intros; simp) (hval 1 36 v1 rfl rfl) h1
  obtain ⟨x2, w2, r2, _⟩ := Wab.arg_one shape36 (by intros; simp) (hval 2 36 v2 rfl rfl) h2
  obtain ⟨x3, w3, r3, _⟩ := Wab.arg_one shape3 (by intros; simp) (hval 3 3 v3 rfl rfl) h3
  obtain ⟨xs, a1, a2, a3⟩ := ZC.rows_of w0
  simp only [Wab.wfA, List.cons.injEq, and_true] at w1 w2 w3
  obtain ⟨n1, rfl, k1⟩ := w1
  obtain ⟨n2, rfl, k2⟩ := w2
  obtain ⟨n3, rfl, k3⟩ := w3
  obtain ⟨M, rfl⟩ := u32_of k1
  obtain ⟨R, rfl⟩ := u32_of k2
  obtain ⟨N, hrun⟩ := ZC.law x0 xs a1 a2 a3 M R n3
  have hvr : Wab.vrels (Wab.Ctx.init W) [x0, .int .u32 (.ofNat M), .int .u32 (.ofNat R), .int .i64 n3] (#[v0, v1, v2, v3] : Array Value).toList := ⟨r0, r1, r2, r3, True.intro⟩
  refine (Wab.law_calls (ProgZ.sound1 N) Tryz.func4 (by kernel_rfl) (by kernel_rfl) hrun hvr).mono fun e W' ⟨he, hb⟩ => ⟨_, he, ?_⟩
  exact Wab.post_true sc_kids sc_full (fun t ht => by rw [par4] at ht; exact smalls t ht) rfl (by rw [hds]; rfl) res4 sc_und4 hW' hb

theorem sorterCounts_holds : Rows.SorterCountsSaid :=
  OpenClaim.holds_of_wide 4 Tryz.f4 rfl rfl rfl rfl rfl rfl rfl ⟨rfl, rfl, rfl, rfl, rfl⟩ rfl rfl rfl rfl rfl (by kernel_rfl) Tryz.func4 (by kernel_rfl)
    (of_decide_eq_true (by kernel_rfl)) (by unfold Func.isWrapper; first | (rw [if_pos (by decide +kernel)]; kernel_rfl) | (rw [if_neg (by decide +kernel)]; exact ⟨rfl, rfl⟩))
    (fun os started H enc _ => counts_lifted os started H enc)
#print axioms sorterCounts_holds
end Go.Proofs.YthnhpmbmadmmhaaGreat
