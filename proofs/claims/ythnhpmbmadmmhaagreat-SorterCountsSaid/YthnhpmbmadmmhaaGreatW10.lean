/- Part 11 of this claim: an abstract interpreter over the model, its soundness, and what is run in it. -/
import Derived.Test.YthnhpmbmadmmhaaGreatW09
set_option maxRecDepth 20000
set_option linter.unusedSimpArgs false
set_option linter.unusedVariables false
open Wab Go
namespace ZN
set_option maxRecDepth 100000
abbrev SZ : Known := ProgZ.S1
def r6 := acallS ProgZ.prog SZ 100 6 [.int .i64 (.ofNat 3)] h00
def r7 := acallS ProgZ.prog SZ 100 7 [.int .i64 (.ofNat 100)] (hpOf r6)
def r8 (x : AVal) := acallS ProgZ.prog SZ 100 8 [.nilp, .ptr 2 0 0, .imm 1 [[x]] true, .nils, .int .i64 (.ofNat 2)] (hpOf r7)
def r8b (x : AVal) := acallS ProgZ.prog SZ 100 8 [.ptr 1 0 0, .nilp, .imm 1 [[x]] true, .nils, .int .i64 (.ofNat 2)] (hpOf (r8 x))
theorem e6 : r6 = some (.tup [.ptr 1 0 0, .int .i64 (.ofNat 0)], hpOf r6) := by kernel_rfl
theorem e7 : r7 = some (.tup [.ptr 2 0 0, .int .i64 (.ofNat 0)], hpOf r7) := by kernel_rfl
theorem e8 (x : AVal) : r8 x = some (.tup [.nils, .int .i64 (.ofNat 2)], hpOf (r8 x)) := by kernel_rfl
theorem e8b (x : AVal) : r8b x = some (.tup [.nils, .int .i64 (.ofNat 2)], hpOf (r8b x)) := by kernel_rfl
theorem e5 : acallS ProgZ.prog SZ 3000 5 [] h00 = some (.bool true, h00) := by kernel_rfl

end ZN
