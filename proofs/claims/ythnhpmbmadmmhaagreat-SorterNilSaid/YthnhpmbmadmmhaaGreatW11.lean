/- Part 12 of this claim: an abstract interpreter over the model, its soundness, and what is run in it. -/
import Derived.Test.YthnhpmbmadmmhaaGreatRows
import Derived.ProofKit
import Derived.Test.YthnhpmbmadmmhaaGreatW10
set_option maxRecDepth 20000
set_option linter.unusedSimpArgs false
set_option linter.unusedVariables false
namespace Go.Proofs.YthnhpmbmadmmhaaGreat
open Go.ChangeShapes Go.WideShapes Go.ChangeAt Go.RowKit
theorem own : ownKnob Tryz.prog.godebug = none := by kernel_rfl
theorem kids : Kids Tryz.prog (· < Tryz.prog.types.size) := kids_rows (by kernel_rfl) (by kernel_rfl)
theorem full : ∀ t e, t < Tryz.prog.types.size → Tryz.prog.underlying t = some (.slice e) → 0 < Tryz.prog.cellsOf e := slices_full_of Tryz.prog (by kernel_rfl)
theorem shape23 : Wab.shOf Tryz.prog 8 23 = some (.sl 3 (.st [(1, .int .u8), (1, .int .i64), (1, .str)])) := by kernel_rfl
theorem par3 : Tryz.f3.params = #[23] := by kernel_rfl
theorem res3 : Tryz.f3.resultTypes = #[4] := by kernel_rfl
theorem und4 : Tryz.prog.underlying 4 = some .bool := by kernel_rfl
theorem small23 : (23 : Nat) < Tryz.prog.types.size := Nat.le_of_ble_eq_true (by kernel_rfl)

set_option maxRecDepth 100000 in
theorem nil_lifted (os : Os) (started : os.Started) (H : Type) (enc : TypeId × Value → H) :
    ReturnsInHanded {} Tryz.checked os 3 .any (Rows.sorterNilSpec.pre6 enc Tryz.prog Tryz.f3 Rows.sorterNilRow.domain false) (Rows.sorterNilSpec.post enc Tryz.prog Tryz.f3 false true false false) := by
  refine returnsInHanded_of_change (C := Tryz.checked) own started (by kernel_rfl) Tryz.func3
    (ChangeSpec.witness6 (enc := enc) (C := Tryz.checked) false ⟨#[], #[.slice none 0 0], []⟩ 8 (by kernel_rfl) (by kernel_rfl) (by kernel_rfl) (by kernel_rfl)) ?_
  intro W base args ds gs before hval0 hW _ _
  have hval : ∀ (j : Nat) t v, Tryz.f3.params[j]? = some t → args[j]? = some v → Value.okWide Tryz.prog W .any base t v := hval0
  have hW' : DataW.Whole enc Tryz.prog Tryz.f3.params.toList Rows.sorterNilSpec.vars false W args.toList ds gs before := hW
  obtain ⟨p, q, hA0, hV, rfl, hfz, hnd⟩ := hW
  have hA : DataW.TrodAll enc Tryz.prog W 0 (fun _ => true) true Tryz.f3.params.toList args.toList ds p := hA0
  rw [par3] at hA hval
  obtain ⟨v0, d0, rfl, hds, h0⟩ := trodAll_one hA
  obtain ⟨x, x1, x2, _⟩ := Wab.arg_one shape23 (by intros; simp) (hval 0 23 v0 rfl rfl) h0
  have hx : x = Wab.AVal.nils ∨ ∃ ys ex, x = Wab.AVal.imm 3 ys ex := by
    simp only [Wab.wfA, List.cons.injEq, and_true] at x1
    rcases x1 with h | ⟨ys, ex, h, _⟩
    · exact .inl h
    · exact .inr ⟨ys, ex, h⟩
  have hvr : Wab.vrels (Wab.Ctx.init W) [x] (#[v0] : Array Value).toList := ⟨x2, trivial⟩
  have hrun := ZN.law x hx
  refine (Wab.law_calls (ProgZ.sound1 3001) Tryz.func3 (by kernel_rfl) (by kernel_rfl) hrun hvr).mono fun e W' ⟨he, hb⟩ => ⟨_, he, ?_⟩
  exact Wab.post_true kids full (fun t ht => by rw [par3] at ht; simp at ht; subst ht; exact small23) rfl (by rw [hds]; rfl) res3 und4 hW' hb

theorem sorterNil_holds : Rows.SorterNilSaid :=
  OpenClaim.holds_of_wide 3 Tryz.f3 rfl rfl rfl rfl rfl rfl rfl ⟨rfl, rfl, rfl, rfl, rfl⟩ rfl rfl rfl rfl rfl (by kernel_rfl) Tryz.func3 (by kernel_rfl)
    (of_decide_eq_true (by kernel_rfl)) (by unfold Func.isWrapper; first | (rw [if_pos (by decide +kernel)]; kernel_rfl) | (rw [if_neg (by decide +kernel)]; exact ⟨rfl, rfl⟩))
    (fun os started H enc _ => nil_lifted os started H enc)
#print axioms sorterNil_holds
end Go.Proofs.YthnhpmbmadmmhaaGreat
