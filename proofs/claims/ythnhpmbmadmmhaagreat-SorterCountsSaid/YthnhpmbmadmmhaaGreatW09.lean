/- Part 10 of this claim: an abstract interpreter over the model, its soundness, and what is run in it. -/
import Derived.Test.YthnhpmbmadmmhaaGreatProg
import Derived.KernelRfl
import Derived.Test.YthnhpmbmadmmhaaGreatW08
set_option maxRecDepth 20000
set_option linter.unusedSimpArgs false
set_option linter.unusedVariables false
/- The abstract program is the program: functions 2 to 71. -/
set_option maxRecDepth 100000
namespace ProgZ
open Go Wab Go.Proofs
theorem g2 : trFunc Tryz.prog l2 t2 (puOf prog) true Tryz.f2 = some a2 := by kernel_rfl
theorem g3 : trFunc Tryz.prog l3 t3 (puOf prog) true Tryz.f3 = some a3 := by kernel_rfl
theorem g4 : trFunc Tryz.prog l4 t4 (puOf prog) true Tryz.f4 = some a4 := by kernel_rfl
theorem g5 : trFunc Tryz.prog l5 t5 (puOf prog) true Tryz.f5 = some a5 := by kernel_rfl
theorem g6 : trFunc Tryz.prog l6 t6 (puOf prog) false Tryz.f6 = some a6 := by kernel_rfl
theorem g7 : trFunc Tryz.prog l7 t7 (puOf prog) false Tryz.f7 = some a7 := by kernel_rfl
theorem g8 : trFunc Tryz.prog l8 t8 (puOf prog) false Tryz.f8 = some a8 := by kernel_rfl
theorem g9 : trFunc Tryz.prog l9 t9 (puOf prog) true Tryz.f9 = some a9 := by kernel_rfl
theorem g10 : trFunc Tryz.prog l10 t10 (puOf prog) true Tryz.f10 = some a10 := by kernel_rfl
theorem g11 : trFunc Tryz.prog l11 t11 (puOf prog) true Tryz.f11 = some a11 := by kernel_rfl
theorem g12 : trFunc Tryz.prog l12 t12 (puOf prog) true Tryz.f12 = some a12 := by kernel_rfl
theorem g13 : trFunc Tryz.prog l13 t13 (puOf prog) true Tryz.f13 = some a13 := by kernel_rfl
theorem g14 : trFunc Tryz.prog l14 t14 (puOf prog) true Tryz.f14 = some a14 := by kernel_rfl
theorem g15 : trFunc Tryz.prog l15 t15 (puOf prog) true Tryz.f15 = some a15 := by kernel_rfl
theorem g16 : trFunc Tryz.prog l16 t16 (puOf prog) false Tryz.f16 = some a16 := by kernel_rfl
theorem g17 : trFunc Tryz.prog l17 t17 (puOf prog) false Tryz.f17 = some a17 := by kernel_rfl
theorem g18 : trFunc Tryz.prog l18 t18 (puOf prog) true Tryz.f18 = some a18 := by kernel_rfl
theorem g19 : trFunc Tryz.prog l19 t19 (puOf prog) true Tryz.f19 = some a19 := by kernel_rfl
theorem g20 : trFunc Tryz.prog l20 t20 (puOf prog) true Tryz.f20 = some a20 := by kernel_rfl
theorem g21 : trFunc Tryz.prog l21 t21 (puOf prog) true Tryz.f21 = some a21 := by kernel_rfl
theorem g22 : trFunc Tryz.prog l22 t22 (puOf prog) false Tryz.f22 = some a22 := by kernel_rfl
theorem g23 : trFunc Tryz.prog l23 t23 (puOf prog) false Tryz.f23 = some a23 := by kernel_rfl
theorem g24 : trFunc Tryz.prog l24 t24 (puOf prog) false Tryz.f24 = some a24 := by kernel_rfl
theorem g25 : trFunc Tryz.prog l25 t25 (puOf prog) true Tryz.f25 = some a25 := by kernel_rfl
theorem g26 : trFunc Tryz.prog l26 t26 (puOf prog) false Tryz.f26 = some a26 := by kernel_rfl
theorem g27 : trFunc Tryz.prog l27 t27 (puOf prog) false Tryz.f27 = some a27 := by kernel_rfl
theorem g28 : trFunc Tryz.prog l28 t28 (puOf prog) false Tryz.f28 = some a28 := by kernel_rfl
theorem g29 : trFunc Tryz.prog l29 t29 (puOf prog) false Tryz.f29 = some a29 := by kernel_rfl
theorem g30 : trFunc Tryz.prog l30 t30 (puOf prog) true Tryz.f30 = some a30 := by kernel_rfl
theorem g31 : trFunc Tryz.prog l31 t31 (puOf prog) true Tryz.f31 = some a31 := by kernel_rfl
theorem g32 : trFunc Tryz.prog l32 t32 (puOf prog) false Tryz.f32 = some a32 := by kernel_rfl
theorem g33 : trFunc Tryz.prog l33 t33 (puOf prog) true Tryz.f33 = some a33 := by kernel_rfl
theorem g34 : trFunc Tryz.prog l34 t34 (puOf prog) false Tryz.f34 = some a34 := by kernel_rfl
theorem g35 : trFunc Tryz.prog l35 t35 (puOf prog) false Tryz.f35 = some a35 := by kernel_rfl
theorem g36 : trFunc Tryz.prog l36 t36 (puOf prog) false Tryz.f36 = some a36 := by kernel_rfl
theorem g37 : trFunc Tryz.prog l37 t37 (puOf prog) false Tryz.f37 = some a37 := by kernel_rfl
theorem g38 : trFunc Tryz.prog l38 t38 (puOf prog) false Tryz.f38 = some a38 := by kernel_rfl
theorem g39 : trFunc Tryz.prog l39 t39 (puOf prog) true Tryz.f39 = some a39 := by kernel_rfl
theorem g40 : trFunc Tryz.prog l40 t40 (puOf prog) false Tryz.f40 = some a40 := by kernel_rfl
theorem g41 : trFunc Tryz.prog l41 t41 (puOf prog) false Tryz.f41 = some a41 := by kernel_rfl
theorem g42 : trFunc Tryz.prog l42 t42 (puOf prog) false Tryz.f42 = some a42 := by kernel_rfl
theorem g43 : trFunc Tryz.prog l43 t43 (puOf prog) false Tryz.f43 = some a43 := by kernel_rfl
theorem g44 : trFunc Tryz.prog l44 t44 (puOf prog) false Tryz.f44 = some a44 := by kernel_rfl
theorem g45 : trFunc Tryz.prog l45 t45 (puOf prog) false Tryz.f45 = some a45 := by kernel_rfl
theorem g46 : trFunc Tryz.prog l46 t46 (puOf prog) false Tryz.f46 = some a46 := by kernel_rfl
theorem g47 : trFunc Tryz.prog l47 t47 (puOf prog) false Tryz.f47 = some a47 := by kernel_rfl
theorem g48 : trFunc Tryz.prog l48 t48 (puOf prog) true Tryz.f48 = some a48 := by kernel_rfl
theorem g49 : trFunc Tryz.prog l49 t49 (puOf prog) false Tryz.f49 = some a49 := by kernel_rfl
theorem g50 : trFunc Tryz.prog l50 t50 (puOf prog) true Tryz.f50 = some a50 := by kernel_rfl
theorem g51 : trFunc Tryz.prog l51 t51 (puOf prog) false Tryz.f51 = some a51 := by kernel_rfl
theorem g52 : trFunc Tryz.prog l52 t52 (puOf prog) false Tryz.f52 = some a52 := by kernel_rfl
theorem g53 : trFunc Tryz.prog l53 t53 (puOf prog) true Tryz.f53 = some a53 := by kernel_rfl
theorem g54 : trFunc Tryz.prog l54 t54 (puOf prog) true Tryz.f54 = some a54 := by kernel_rfl
theorem g55 : trFunc Tryz.prog l55 t55 (puOf prog) false Tryz.f55 = some a55 := by kernel_rfl
theorem g56 : trFunc Tryz.prog l56 t56 (puOf prog) false Tryz.f56 = some a56 := by kernel_rfl
theorem g57 : trFunc Tryz.prog l57 t57 (puOf prog) false Tryz.f57 = some a57 := by kernel_rfl
theorem g58 : trFunc Tryz.prog l58 t58 (puOf prog) false Tryz.f58 = some a58 := by kernel_rfl
theorem g59 : trFunc Tryz.prog l59 t59 (puOf prog) true Tryz.f59 = some a59 := by kernel_rfl
theorem g60 : trFunc Tryz.prog l60 t60 (puOf prog) false Tryz.f60 = some a60 := by kernel_rfl
theorem g61 : trFunc Tryz.prog l61 t61 (puOf prog) true Tryz.f61 = some a61 := by kernel_rfl
theorem g62 : trFunc Tryz.prog l62 t62 (puOf prog) true Tryz.f62 = some a62 := by kernel_rfl
theorem g63 : trFunc Tryz.prog l63 t63 (puOf prog) false Tryz.f63 = some a63 := by kernel_rfl
theorem g64 : trFunc Tryz.prog l64 t64 (puOf prog) true Tryz.f64 = some a64 := by kernel_rfl
theorem g65 : trFunc Tryz.prog l65 t65 (puOf prog) false Tryz.f65 = some a65 := by kernel_rfl
theorem g66 : trFunc Tryz.prog l66 t66 (puOf prog) true Tryz.f66 = some a66 := by kernel_rfl
theorem g67 : trFunc Tryz.prog l67 t67 (puOf prog) false Tryz.f67 = some a67 := by kernel_rfl
theorem g68 : trFunc Tryz.prog l68 t68 (puOf prog) false Tryz.f68 = some a68 := by kernel_rfl
theorem g69 : trFunc Tryz.prog l69 t69 (puOf prog) true Tryz.f69 = some a69 := by kernel_rfl
theorem g70 : trFunc Tryz.prog l70 t70 (puOf prog) true Tryz.f70 = some a70 := by kernel_rfl
theorem g71 : trFunc Tryz.prog l71 t71 (puOf prog) true Tryz.f71 = some a71 := by kernel_rfl
end ProgZ
/- The abstract program is the program: functions 72 to 118. -/
set_option maxRecDepth 100000
namespace ProgZ
open Go Wab Go.Proofs
theorem g72 : trFunc Tryz.prog l72 t72 (puOf prog) false Tryz.f72 = some a72 := by kernel_rfl
theorem g73 : trFunc Tryz.prog l73 t73 (puOf prog) true Tryz.f73 = some a73 := by kernel_rfl
theorem g74 : trFunc Tryz.prog l74 t74 (puOf prog) true Tryz.f74 = some a74 := by kernel_rfl
theorem g75 : trFunc Tryz.prog l75 t75 (puOf prog) false Tryz.f75 = some a75 := by kernel_rfl
theorem g76 : trFunc Tryz.prog l76 t76 (puOf prog) true Tryz.f76 = some a76 := by kernel_rfl
theorem g77 : trFunc Tryz.prog l77 t77 (puOf prog) false Tryz.f77 = some a77 := by kernel_rfl
theorem g78 : trFunc Tryz.prog l78 t78 (puOf prog) false Tryz.f78 = some a78 := by kernel_rfl
theorem g79 : trFunc Tryz.prog l79 t79 (puOf prog) true Tryz.f79 = some a79 := by kernel_rfl
theorem g80 : trFunc Tryz.prog l80 t80 (puOf prog) true Tryz.f80 = some a80 := by kernel_rfl
theorem g81 : trFunc Tryz.prog l81 t81 (puOf prog) false Tryz.f81 = some a81 := by kernel_rfl
theorem g82 : trFunc Tryz.prog l82 t82 (puOf prog) true Tryz.f82 = some a82 := by kernel_rfl
theorem g83 : trFunc Tryz.prog l83 t83 (puOf prog) true Tryz.f83 = some a83 := by kernel_rfl
theorem g84 : trFunc Tryz.prog l84 t84 (puOf prog) true Tryz.f84 = some a84 := by kernel_rfl
theorem g85 : trFunc Tryz.prog l85 t85 (puOf prog) true Tryz.f85 = some a85 := by kernel_rfl
theorem g86 : trFunc Tryz.prog l86 t86 (puOf prog) true Tryz.f86 = some a86 := by kernel_rfl
theorem g87 : trFunc Tryz.prog l87 t87 (puOf prog) true Tryz.f87 = some a87 := by kernel_rfl
theorem g88 : trFunc Tryz.prog l88 t88 (puOf prog) true Tryz.f88 = some a88 := by kernel_rfl
theorem g89 : trFunc Tryz.prog l89 t89 (puOf prog) false Tryz.f89 = some a89 := by kernel_rfl
theorem g90 : trFunc Tryz.prog l90 t90 (puOf prog) true Tryz.f90 = some a90 := by kernel_rfl
theorem g91 : trFunc Tryz.prog l91 t91 (puOf prog) false Tryz.f91 = some a91 := by kernel_rfl
theorem g92 : trFunc Tryz.prog l92 t92 (puOf prog) false Tryz.f92 = some a92 := by kernel_rfl
theorem g93 : trFunc Tryz.prog l93 t93 (puOf prog) true Tryz.f93 = some a93 := by kernel_rfl
theorem g94 : trFunc Tryz.prog l94 t94 (puOf prog) false Tryz.f94 = some a94 := by kernel_rfl
theorem g95 : trFunc Tryz.prog l95 t95 (puOf prog) false Tryz.f95 = some a95 := by kernel_rfl
theorem g96 : trFunc Tryz.prog l96 t96 (puOf prog) true Tryz.f96 = some a96 := by kernel_rfl
theorem g97 : trFunc Tryz.prog l97 t97 (puOf prog) true Tryz.f97 = some a97 := by kernel_rfl
theorem g98 : trFunc Tryz.prog l98 t98 (puOf prog) true Tryz.f98 = some a98 := by kernel_rfl
theorem g99 : trFunc Tryz.prog l99 t99 (puOf prog) false Tryz.f99 = some a99 := by kernel_rfl
theorem g100 : trFunc Tryz.prog l100 t100 (puOf prog) true Tryz.f100 = some a100 := by kernel_rfl
theorem g101 : trFunc Tryz.prog l101 t101 (puOf prog) false Tryz.f101 = some a101 := by kernel_rfl
theorem g102 : trFunc Tryz.prog l102 t102 (puOf prog) true Tryz.f102 = some a102 := by kernel_rfl
theorem g103 : trFunc Tryz.prog l103 t103 (puOf prog) true Tryz.f103 = some a103 := by kernel_rfl
theorem g104 : trFunc Tryz.prog l104 t104 (puOf prog) true Tryz.f104 = some a104 := by kernel_rfl
theorem g105 : trFunc Tryz.prog l105 t105 (puOf prog) true Tryz.f105 = some a105 := by kernel_rfl
theorem g106 : trFunc Tryz.prog l106 t106 (puOf prog) false Tryz.f106 = some a106 := by kernel_rfl
theorem g107 : trFunc Tryz.prog l107 t107 (puOf prog) false Tryz.f107 = some a107 := by kernel_rfl
theorem g108 : trFunc Tryz.prog l108 t108 (puOf prog) true Tryz.f108 = some a108 := by kernel_rfl
theorem g109 : trFunc Tryz.prog l109 t109 (puOf prog) true Tryz.f109 = some a109 := by kernel_rfl
theorem g110 : trFunc Tryz.prog l110 t110 (puOf prog) false Tryz.f110 = some a110 := by kernel_rfl
theorem g111 : trFunc Tryz.prog l111 t111 (puOf prog) false Tryz.f111 = some a111 := by kernel_rfl
theorem g112 : trFunc Tryz.prog l112 t112 (puOf prog) false Tryz.f112 = some a112 := by kernel_rfl
theorem g113 : trFunc Tryz.prog l113 t113 (puOf prog) true Tryz.f113 = some a113 := by kernel_rfl
theorem g114 : trFunc Tryz.prog l114 t114 (puOf prog) true Tryz.f114 = some a114 := by kernel_rfl
theorem g115 : trFunc Tryz.prog l115 t115 (puOf prog) true Tryz.f115 = some a115 := by kernel_rfl
theorem g116 : trFunc Tryz.prog l116 t116 (puOf prog) true Tryz.f116 = some a116 := by kernel_rfl
theorem g117 : trFunc Tryz.prog l117 t117 (puOf prog) false Tryz.f117 = some a117 := by kernel_rfl
theorem g118 : trFunc Tryz.prog l118 t118 (puOf prog) false Tryz.f118 = some a118 := by kernel_rfl
end ProgZ
/- The abstract program is the program. -/
set_option maxRecDepth 100000
namespace ProgZ
open Go Wab Go.Proofs
theorem good : Good Tryz.prog prog := good_of ⟨(fun _ h => by cases h), ⟨(fun _ h => by cases h), ⟨(fun _ h => by cases h; exact ⟨_, _, _, Tryz.func3, g3⟩), ⟨(fun _ h => by cases h; exact ⟨_, _, _, Tryz.func7, g7⟩), ⟨(fun _ h => by cases h; exact ⟨_, _, _, Tryz.func15, g15⟩), ⟨(fun _ h => by cases h; exact ⟨_, _, _, Tryz.func31, g31⟩), ⟨(fun _ h => by cases h; exact ⟨_, _, _, Tryz.func63, g63⟩), trivial, trivial⟩, ⟨(fun _ h => by cases h; exact ⟨_, _, _, Tryz.func95, g95⟩), trivial, trivial⟩⟩, ⟨(fun _ h => by cases h; exact ⟨_, _, _, Tryz.func47, g47⟩), ⟨(fun _ h => by cases h; exact ⟨_, _, _, Tryz.func79, g79⟩), trivial, trivial⟩, ⟨(fun _ h => by cases h; exact ⟨_, _, _, Tryz.func111, g111⟩), trivial, trivial⟩⟩⟩, ⟨(fun _ h => by cases h; exact ⟨_, _, _, Tryz.func23, g23⟩), ⟨(fun _ h => by cases h; exact ⟨_, _, _, Tryz.func39, g39⟩), ⟨(fun _ h => by cases h; exact ⟨_, _, _, Tryz.func71, g71⟩), trivial, trivial⟩, ⟨(fun _ h => by cases h; exact ⟨_, _, _, Tryz.func103, g103⟩), trivial, trivial⟩⟩, ⟨(fun _ h => by cases h; exact ⟨_, _, _, Tryz.func55, g55⟩), ⟨(fun _ h => by cases h; exact ⟨_, _, _, Tryz.func87, g87⟩), trivial, trivial⟩, trivial⟩⟩⟩, ⟨(fun _ h => by cases h; exact ⟨_, _, _, Tryz.func11, g11⟩), ⟨(fun _ h => by cases h; exact ⟨_, _, _, Tryz.func19, g19⟩), ⟨(fun _ h => by cases h; exact ⟨_, _, _, Tryz.func35, g35⟩), ⟨(fun _ h => by cases h; exact ⟨_, _, _, Tryz.func67, g67⟩), trivial, trivial⟩, ⟨(fun _ h => by cases h; exact ⟨_, _, _, Tryz.func99, g99⟩), trivial, trivial⟩⟩, ⟨(fun _ h => by cases h; exact ⟨_, _, _, Tryz.func51, g51⟩), ⟨(fun _ h => by cases h; exact ⟨_, _, _, Tryz.func83, g83⟩), trivial, trivial⟩, ⟨(fun _ h => by cases h; exact ⟨_, _, _, Tryz.func115, g115⟩), trivial, trivial⟩⟩⟩, ⟨(fun _ h => by cases h; exact ⟨_, _, _, Tryz.func27, g27⟩), ⟨(fun _ h => by cases h; exact ⟨_, _, _, Tryz.func43, g43⟩), ⟨(fun _ h => by cases h; exact ⟨_, _, _, Tryz.func75, g75⟩), trivial, trivial⟩, ⟨(fun _ h => by cases h; exact ⟨_, _, _, Tryz.func107, g107⟩), trivial, trivial⟩⟩, ⟨(fun _ h => by cases h; exact ⟨_, _, _, Tryz.func59, g59⟩), ⟨(fun _ h => by cases h; exact ⟨_, _, _, Tryz.func91, g91⟩), trivial, trivial⟩, trivial⟩⟩⟩⟩, ⟨(fun _ h => by cases h; exact ⟨_, _, _, Tryz.func5, g5⟩), ⟨(fun _ h => by cases h; exact ⟨_, _, _, Tryz.func9, g9⟩), ⟨(fun _ h => by cases h; exact ⟨_, _, _, Tryz.func17, g17⟩), ⟨(fun _ h => by cases h; exact ⟨_, _, _, Tryz.func33, g33⟩), ⟨(fun _ h => by cases h; exact ⟨_, _, _, Tryz.func65, g65⟩), trivial, trivial⟩, ⟨(fun _ h => by cases h; exact ⟨_, _, _, Tryz.func97, g97⟩), trivial, trivial⟩⟩, ⟨(fun _ h => by cases h; exact ⟨_, _, _, Tryz.func49, g49⟩), ⟨(fun _ h => by cases h; exact ⟨_, _, _, Tryz.func81, g81⟩), trivial, trivial⟩, ⟨(fun _ h => by cases h; exact ⟨_, _, _, Tryz.func113, g113⟩), trivial, trivial⟩⟩⟩, ⟨(fun _ h => by cases h; exact ⟨_, _, _, Tryz.func25, g25⟩), ⟨(fun _ h => by cases h; exact ⟨_, _, _, Tryz.func41, g41⟩), ⟨(fun _ h => by cases h; exact ⟨_, _, _, Tryz.func73, g73⟩), trivial, trivial⟩, ⟨(fun _ h => by cases h; exact ⟨_, _, _, Tryz.func105, g105⟩), trivial, trivial⟩⟩, ⟨(fun _ h => by cases h; exact ⟨_, _, _, Tryz.func57, g57⟩), ⟨(fun _ h => by cases h; exact ⟨_, _, _, Tryz.func89, g89⟩), trivial, trivial⟩, trivial⟩⟩⟩, ⟨(fun _ h => by cases h; exact ⟨_, _, _, Tryz.func13, g13⟩), ⟨(fun _ h => by cases h; exact ⟨_, _, _, Tryz.func21, g21⟩), ⟨(fun _ h => by cases h; exact ⟨_, _, _, Tryz.func37, g37⟩), ⟨(fun _ h => by cases h; exact ⟨_, _, _, Tryz.func69, g69⟩), trivial, trivial⟩, ⟨(fun _ h => by cases h; exact ⟨_, _, _, Tryz.func101, g101⟩), trivial, trivial⟩⟩, ⟨(fun _ h => by cases h; exact ⟨_, _, _, Tryz.func53, g53⟩), ⟨(fun _ h => by cases h; exact ⟨_, _, _, Tryz.func85, g85⟩), trivial, trivial⟩, ⟨(fun _ h => by cases h; exact ⟨_, _, _, Tryz.func117, g117⟩), trivial, trivial⟩⟩⟩, ⟨(fun _ h => by cases h; exact ⟨_, _, _, Tryz.func29, g29⟩), ⟨(fun _ h => by cases h; exact ⟨_, _, _, Tryz.func45, g45⟩), ⟨(fun _ h => by cases h; exact ⟨_, _, _, Tryz.func77, g77⟩), trivial, trivial⟩, ⟨(fun _ h => by cases h; exact ⟨_, _, _, Tryz.func109, g109⟩), trivial, trivial⟩⟩, ⟨(fun _ h => by cases h; exact ⟨_, _, _, Tryz.func61, g61⟩), ⟨(fun _ h => by cases h; exact ⟨_, _, _, Tryz.func93, g93⟩), trivial, trivial⟩, trivial⟩⟩⟩⟩⟩, ⟨(fun _ h => by cases h; exact ⟨_, _, _, Tryz.func2, g2⟩), ⟨(fun _ h => by cases h; exact ⟨_, _, _, Tryz.func4, g4⟩), ⟨(fun _ h => by cases h; exact ⟨_, _, _, Tryz.func8, g8⟩), ⟨(fun _ h => by cases h; exact ⟨_, _, _, Tryz.func16, g16⟩), ⟨(fun _ h => by cases h; exact ⟨_, _, _, Tryz.func32, g32⟩), ⟨(fun _ h => by cases h; exact ⟨_, _, _, Tryz.func64, g64⟩), trivial, trivial⟩, ⟨(fun _ h => by cases h; exact ⟨_, _, _, Tryz.func96, g96⟩), trivial, trivial⟩⟩, ⟨(fun _ h => by cases h; exact ⟨_, _, _, Tryz.func48, g48⟩), ⟨(fun _ h => by cases h; exact ⟨_, _, _, Tryz.func80, g80⟩), trivial, trivial⟩, ⟨(fun _ h => by cases h; exact ⟨_, _, _, Tryz.func112, g112⟩), trivial, trivial⟩⟩⟩, ⟨(fun _ h => by cases h; exact ⟨_, _, _, Tryz.func24, g24⟩), ⟨(fun _ h => by cases h; exact ⟨_, _, _, Tryz.func40, g40⟩), ⟨(fun _ h => by cases h; exact ⟨_, _, _, Tryz.func72, g72⟩), trivial, trivial⟩, ⟨(fun _ h => by cases h; exact ⟨_, _, _, Tryz.func104, g104⟩), trivial, trivial⟩⟩, ⟨(fun _ h => by cases h; exact ⟨_, _, _, Tryz.func56, g56⟩), ⟨(fun _ h => by cases h; exact ⟨_, _, _, Tryz.func88, g88⟩), trivial, trivial⟩, trivial⟩⟩⟩, ⟨(fun _ h => by cases h; exact ⟨_, _, _, Tryz.func12, g12⟩), ⟨(fun _ h => by cases h; exact ⟨_, _, _, Tryz.func20, g20⟩), ⟨(fun _ h => by cases h; exact ⟨_, _, _, Tryz.func36, g36⟩), ⟨(fun _ h => by cases h; exact ⟨_, _, _, Tryz.func68, g68⟩), trivial, trivial⟩, ⟨(fun _ h => by cases h; exact ⟨_, _, _, Tryz.func100, g100⟩), trivial, trivial⟩⟩, ⟨(fun _ h => by cases h; exact ⟨_, _, _, Tryz.func52, g52⟩), ⟨(fun _ h => by cases h; exact ⟨_, _, _, Tryz.func84, g84⟩), trivial, trivial⟩, ⟨(fun _ h => by cases h; exact ⟨_, _, _, Tryz.func116, g116⟩), trivial, trivial⟩⟩⟩, ⟨(fun _ h => by cases h; exact ⟨_, _, _, Tryz.func28, g28⟩), ⟨(fun _ h => by cases h; exact ⟨_, _, _, Tryz.func44, g44⟩), ⟨(fun _ h => by cases h; exact ⟨_, _, _, Tryz.func76, g76⟩), trivial, trivial⟩, ⟨(fun _ h => by cases h; exact ⟨_, _, _, Tryz.func108, g108⟩), trivial, trivial⟩⟩, ⟨(fun _ h => by cases h; exact ⟨_, _, _, Tryz.func60, g60⟩), ⟨(fun _ h => by cases h; exact ⟨_, _, _, Tryz.func92, g92⟩), trivial, trivial⟩, trivial⟩⟩⟩⟩, ⟨(fun _ h => by cases h; exact ⟨_, _, _, Tryz.func6, g6⟩), ⟨(fun _ h => by cases h; exact ⟨_, _, _, Tryz.func10, g10⟩), ⟨(fun _ h => by cases h; exact ⟨_, _, _, Tryz.func18, g18⟩), ⟨(fun _ h => by cases h; exact ⟨_, _, _, Tryz.func34, g34⟩), ⟨(fun _ h => by cases h; exact ⟨_, _, _, Tryz.func66, g66⟩), trivial, trivial⟩, ⟨(fun _ h => by cases h; exact ⟨_, _, _, Tryz.func98, g98⟩), trivial, trivial⟩⟩, ⟨(fun _ h => by cases h; exact ⟨_, _, _, Tryz.func50, g50⟩), ⟨(fun _ h => by cases h; exact ⟨_, _, _, Tryz.func82, g82⟩), trivial, trivial⟩, ⟨(fun _ h => by cases h; exact ⟨_, _, _, Tryz.func114, g114⟩), trivial, trivial⟩⟩⟩, ⟨(fun _ h => by cases h; exact ⟨_, _, _, Tryz.func26, g26⟩), ⟨(fun _ h => by cases h; exact ⟨_, _, _, Tryz.func42, g42⟩), ⟨(fun _ h => by cases h; exact ⟨_, _, _, Tryz.func74, g74⟩), trivial, trivial⟩, ⟨(fun _ h => by cases h; exact ⟨_, _, _, Tryz.func106, g106⟩), trivial, trivial⟩⟩, ⟨(fun _ h => by cases h; exact ⟨_, _, _, Tryz.func58, g58⟩), ⟨(fun _ h => by cases h; exact ⟨_, _, _, Tryz.func90, g90⟩), trivial, trivial⟩, trivial⟩⟩⟩, ⟨(fun _ h => by cases h; exact ⟨_, _, _, Tryz.func14, g14⟩), ⟨(fun _ h => by cases h; exact ⟨_, _, _, Tryz.func22, g22⟩), ⟨(fun _ h => by cases h; exact ⟨_, _, _, Tryz.func38, g38⟩), ⟨(fun _ h => by cases h; exact ⟨_, _, _, Tryz.func70, g70⟩), trivial, trivial⟩, ⟨(fun _ h => by cases h; exact ⟨_, _, _, Tryz.func102, g102⟩), trivial, trivial⟩⟩, ⟨(fun _ h => by cases h; exact ⟨_, _, _, Tryz.func54, g54⟩), ⟨(fun _ h => by cases h; exact ⟨_, _, _, Tryz.func86, g86⟩), trivial, trivial⟩, ⟨(fun _ h => by cases h; exact ⟨_, _, _, Tryz.func118, g118⟩), trivial, trivial⟩⟩⟩, ⟨(fun _ h => by cases h; exact ⟨_, _, _, Tryz.func30, g30⟩), ⟨(fun _ h => by cases h; exact ⟨_, _, _, Tryz.func46, g46⟩), ⟨(fun _ h => by cases h; exact ⟨_, _, _, Tryz.func78, g78⟩), trivial, trivial⟩, ⟨(fun _ h => by cases h; exact ⟨_, _, _, Tryz.func110, g110⟩), trivial, trivial⟩⟩, ⟨(fun _ h => by cases h; exact ⟨_, _, _, Tryz.func62, g62⟩), ⟨(fun _ h => by cases h; exact ⟨_, _, _, Tryz.func94, g94⟩), trivial, trivial⟩, trivial⟩⟩⟩⟩⟩⟩
end ProgZ
/- The sum of bytes, in this program. -/
set_option maxRecDepth 100000
namespace ProgZ
open Go Wab Go.Proofs

theorem follows : Tryz.prog.follows .mixedOrders = true := by kernel_rfl
def S0 : Known := fun _ => none
theorem sound0 (n : Nat) : OSound Tryz.prog (acallS prog S0 n) := (acallS_ok good ⟨(fun _ _ h => by cases h), (fun _ _ h => by cases h)⟩ (allDrawn follows) n).1

def crcC : Oracle := fun f args h => match args with
  | [.int .u32 x] => cond (Nat.beq f 118) (some (.int .u32 (turn8 x), h)) none
  | _ => none
def crcD : Oracle := fun _ _ _ => none
theorem crc_a116 : a116 = crcMoreA 117 := rfl
theorem crc_a117 : a117 = crcMadeA 118 168 := rfl
theorem crc_a118 : a118 = crcTurnA := rfl
theorem crc_made0 : runFn crcC crcD 300 (crcMadeA 118 168) [] h00 = some (.ptr 0 0 0, crcHeap 168) := by kernel_rfl
theorem crc_le : Le crcC (acallS prog S0 300) := by
  intro f args h r hr
  unfold crcC at hr
  split at hr
  · rename_i x
    rw [cond_beq] at hr
    split at hr
    · rename_i hf
      subst hf
      injection hr with hr; subst hr
      have : acallS prog S0 13 118 [.int .u32 x] h = some (.int .u32 (turn8 x), h) := by
        rw [acallS_step (fn := crcTurnA) rfl (by rw [← crc_a118]; rfl)]
        exact turn_run _ _ x h
      exact acallS_le 13 300 (by omega) _ _ _ _ this
    · cases hr
  · cases hr
theorem crc_made : acallS prog S0 301 117 [] h00 = some (.ptr 0 0 0, crcHeap 168) := by
  rw [acallS_step (fn := crcMadeA 118 168) rfl (by rw [← crc_a117]; rfl)]
  exact runFn_le crc_le (fun _ _ _ _ h => by cases h) (Nat.le_refl _) crc_made0
theorem crc_run (s : Nat) (bs : List Nat) (ex : Bool) (hs : s < 4294967296) (hb : ∀ b ∈ bs, b < 256) (hl : bs.length ≤ 9223372036854775807) : ∃ n, acallS prog S0 n 116 [.int .u32 (.ofNat s), .imm 1 (bytesA bs) ex] h00 = some (.int .u32 (.ofNat (crcN s bs)), h00) := by
  refine ⟨bs.length + 302 + 1, ?_⟩
  rw [acallS_step (fn := crcMoreA 117) rfl (by rw [← crc_a116]; rfl)]
  exact crc_more _ _ 117 168 (acallS_le 301 _ (by omega) _ _ _ _ crc_made) s hs bs ex hb hl _ (by omega)

/-- What is known: the sum of bytes. -/
def S1 : Known := fun f => cond (Nat.beq f 116) (some crcG) none
theorem known1 : KnownOk Tryz.prog prog S1 := by
  have key : ∀ f g, S1 f = some g → f = 116 ∧ g = crcG := by
    intro f g h
    unfold S1 at h
    rw [cond_beq] at h
    split at h
    · rename_i hf; injection h with h; exact ⟨hf, h.symm⟩
    · cases h
  refine ⟨fun f g h => ?_, fun f g h _ args hp r h' hr => ?_⟩
  · obtain ⟨rfl, rfl⟩ := key f g h
    exact crcG_sound sound0 crc_run
  · obtain ⟨rfl, rfl⟩ := key f g h
    exact crcG_pure hr
theorem sound1 (n : Nat) : OSound Tryz.prog (acallS prog S1 n) := (acallS_ok good known1 (allDrawn follows) n).1
end ProgZ
