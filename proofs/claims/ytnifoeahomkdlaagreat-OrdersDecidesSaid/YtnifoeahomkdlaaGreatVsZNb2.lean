/- Nothing of a statement is proved in this text alone: it is part 2 of the proof's own tools, an evaluator of the code over deep values, its soundness, and what it makes of this seat's functions. Conditions: none beyond the statement's own. -/
import Derived.Test.YtnifoeahomkdlaaGreatVsZNb1
import Derived.KernelRfl
import Derived.Test.YtnifoeahomkdlaaGreatProg
set_option linter.unusedSimpArgs false
set_option linter.unusedVariables false
namespace Go.VS
open Go Go.Proofs
noncomputable def ty3 : Ty := ⟨(.int .i64), 1, 8, (.int .i64 0)⟩
theorem ty3_ok : tyOf Tryz.prog 3 = some ty3 := by kernel_rfl
noncomputable def ty4 : Ty := ⟨.bool, 1, 1, (.bool false)⟩
theorem ty4_ok : tyOf Tryz.prog 4 = some ty4 := by kernel_rfl
noncomputable def ty5 : Ty := ⟨(.int .u8), 1, 1, (.int .u8 0)⟩
theorem ty5_ok : tyOf Tryz.prog 5 = some ty5 := by kernel_rfl
noncomputable def ty9 : Ty := ⟨.str, 1, 16, (.string ⟨#[]⟩)⟩
theorem ty9_ok : tyOf Tryz.prog 9 = some ty9 := by kernel_rfl
noncomputable def ty22 : Ty := ⟨(.slice 69), 1, 24, (.slice none 0 0)⟩
theorem ty22_ok : tyOf Tryz.prog 22 = some ty22 := by kernel_rfl
noncomputable def ty24 : Ty := ⟨(.struct [(3, 0), (3, 1)]), 2, 16, (.agg #[(.int .i64 0), (.int .i64 0)])⟩
theorem ty24_ok : tyOf Tryz.prog 24 = some ty24 := by kernel_rfl
noncomputable def ty26 : Ty := ⟨(.struct [(22, 0), (24, 1)]), 3, 40, (.agg #[(.slice none 0 0), (.int .i64 0), (.int .i64 0)])⟩
theorem ty26_ok : tyOf Tryz.prog 26 = some ty26 := by kernel_rfl
noncomputable def ty29 : Ty := ⟨(.int .i64), 1, 8, (.int .i64 0)⟩
theorem ty29_ok : tyOf Tryz.prog 29 = some ty29 := by kernel_rfl
noncomputable def ty32 : Ty := ⟨(.slice 3), 1, 24, (.slice none 0 0)⟩
theorem ty32_ok : tyOf Tryz.prog 32 = some ty32 := by kernel_rfl
noncomputable def ty35 : Ty := ⟨(.slice 66), 1, 24, (.slice none 0 0)⟩
theorem ty35_ok : tyOf Tryz.prog 35 = some ty35 := by kernel_rfl
noncomputable def ty39 : Ty := ⟨.func, 1, 8, .nilFunc⟩
theorem ty39_ok : tyOf Tryz.prog 39 = some ty39 := by kernel_rfl
noncomputable def ty63 : Ty := ⟨(.slice 35), 1, 24, (.slice none 0 0)⟩
theorem ty63_ok : tyOf Tryz.prog 63 = some ty63 := by kernel_rfl
noncomputable def ty66 : Ty := ⟨(.arr 2 3), 2, 16, (.agg #[(.int .i64 0), (.int .i64 0)])⟩
theorem ty66_ok : tyOf Tryz.prog 66 = some ty66 := by kernel_rfl
noncomputable def ty69 : Ty := ⟨(.struct [(24, 0), (3, 2), (3, 3)]), 4, 32, (.agg #[(.int .i64 0), (.int .i64 0), (.int .i64 0), (.int .i64 0)])⟩
theorem ty69_ok : tyOf Tryz.prog 69 = some ty69 := by kernel_rfl
noncomputable def ty71 : Ty := ⟨(.slice 32), 1, 24, (.slice none 0 0)⟩
theorem ty71_ok : tyOf Tryz.prog 71 = some ty71 := by kernel_rfl
noncomputable def ty75 : Ty := ⟨(.struct [(24, 0), (3, 2), (24, 3)]), 5, 40, (.agg #[(.int .i64 0), (.int .i64 0), (.int .i64 0), (.int .i64 0), (.int .i64 0)])⟩
theorem ty75_ok : tyOf Tryz.prog 75 = some ty75 := by kernel_rfl
noncomputable def ty88 : Ty := ⟨.func, 1, 8, .nilFunc⟩
theorem ty88_ok : tyOf Tryz.prog 88 = some ty88 := by kernel_rfl
noncomputable def ty90 : Ty := ⟨(.struct [(88, 0)]), 1, 8, (.agg #[.nilFunc])⟩
theorem ty90_ok : tyOf Tryz.prog 90 = some ty90 := by kernel_rfl
noncomputable def ty94 : Ty := ⟨.func, 1, 8, .nilFunc⟩
theorem ty94_ok : tyOf Tryz.prog 94 = some ty94 := by kernel_rfl
noncomputable def ty112 : Ty := ⟨.func, 1, 8, .nilFunc⟩
theorem ty112_ok : tyOf Tryz.prog 112 = some ty112 := by kernel_rfl
noncomputable def ty122 : Ty := ⟨.func, 1, 8, .nilFunc⟩
theorem ty122_ok : tyOf Tryz.prog 122 = some ty122 := by kernel_rfl
noncomputable def ty124 : Ty := ⟨.func, 1, 8, .nilFunc⟩
theorem ty124_ok : tyOf Tryz.prog 124 = some ty124 := by kernel_rfl
noncomputable def ty129 : Ty := ⟨(.int .u64), 1, 8, (.int .u64 0)⟩
theorem ty129_ok : tyOf Tryz.prog 129 = some ty129 := by kernel_rfl
noncomputable def ty132 : Ty := ⟨(.int .i64), 1, 8, (.int .i64 0)⟩
theorem ty132_ok : tyOf Tryz.prog 132 = some ty132 := by kernel_rfl
noncomputable def ty139 : Ty := ⟨(.int .u32), 1, 4, (.int .u32 0)⟩
theorem ty139_ok : tyOf Tryz.prog 139 = some ty139 := by kernel_rfl
noncomputable def ty141 : Ty := ⟨(.int .u64), 1, 8, (.int .u64 0)⟩
theorem ty141_ok : tyOf Tryz.prog 141 = some ty141 := by kernel_rfl
noncomputable def ty147 : Ty := ⟨(.int .u64), 1, 8, (.int .u64 0)⟩
theorem ty147_ok : tyOf Tryz.prog 147 = some ty147 := by kernel_rfl
noncomputable def ty151 : Ty := ⟨(.ptr 3), 1, 8, (.pointer none)⟩
theorem ty151_ok : tyOf Tryz.prog 151 = some ty151 := by kernel_rfl
noncomputable def tyTab : Tr Ty := (.node (.node (.node (.node (.node .nil 3 ty3 .nil) 4 ty4 (.node .nil 5 ty5 .nil)) 9 ty9 (.node (.node .nil 22 ty22 .nil) 24 ty24 (.node .nil 26 ty26 .nil))) 29 ty29 (.node (.node (.node .nil 32 ty32 .nil) 35 ty35 (.node .nil 39 ty39 .nil)) 63 ty63 (.node (.node .nil 66 ty66 .nil) 69 ty69 .nil))) 71 ty71 (.node (.node (.node (.node .nil 75 ty75 .nil) 88 ty88 (.node .nil 90 ty90 .nil)) 94 ty94 (.node (.node .nil 112 ty112 .nil) 122 ty122 .nil)) 124 ty124 (.node (.node (.node .nil 129 ty129 .nil) 132 ty132 (.node .nil 139 ty139 .nil)) 141 ty141 (.node (.node .nil 147 ty147 .nil) 151 ty151 .nil))))
noncomputable def zw : Tr Func := (.node (.node (.node (.node (.node (.node (.node (.node .nil 2 Tryz.f2 .nil) 3 Tryz.f3 .nil) 4 Tryz.f4 (.node .nil 5 Tryz.f5 .nil)) 6 Tryz.f6 (.node (.node .nil 7 Tryz.f7 .nil) 8 Tryz.f8 (.node .nil 9 Tryz.f9 .nil))) 10 Tryz.f10 (.node (.node (.node (.node .nil 11 Tryz.f11 .nil) 12 Tryz.f12 .nil) 13 Tryz.f13 (.node .nil 14 Tryz.f14 .nil)) 15 Tryz.f15 (.node (.node .nil 16 Tryz.f16 .nil) 17 Tryz.f17 (.node .nil 18 Tryz.f18 .nil)))) 19 Tryz.f19 (.node (.node (.node (.node (.node .nil 20 Tryz.f20 .nil) 21 Tryz.f21 .nil) 22 Tryz.f22 (.node .nil 23 Tryz.f23 .nil)) 24 Tryz.f24 (.node (.node .nil 25 Tryz.f25 .nil) 26 Tryz.f26 (.node .nil 27 Tryz.f27 .nil))) 28 Tryz.f28 (.node (.node (.node (.node .nil 29 Tryz.f29 .nil) 30 Tryz.f30 .nil) 31 Tryz.f31 (.node .nil 32 Tryz.f32 .nil)) 33 Tryz.f33 (.node (.node .nil 34 Tryz.f34 .nil) 35 Tryz.f35 (.node .nil 36 Tryz.f36 .nil))))) 37 Tryz.f37 (.node (.node (.node (.node (.node (.node .nil 38 Tryz.f38 .nil) 39 Tryz.f39 .nil) 40 Tryz.f40 (.node .nil 41 Tryz.f41 .nil)) 42 Tryz.f42 (.node (.node .nil 43 Tryz.f43 .nil) 44 Tryz.f44 (.node .nil 45 Tryz.f45 .nil))) 46 Tryz.f46 (.node (.node (.node (.node .nil 47 Tryz.f47 .nil) 48 Tryz.f48 .nil) 49 Tryz.f49 (.node .nil 50 Tryz.f50 .nil)) 51 Tryz.f51 (.node (.node .nil 52 Tryz.f52 .nil) 53 Tryz.f53 (.node .nil 54 Tryz.f54 .nil)))) 55 Tryz.f55 (.node (.node (.node (.node (.node .nil 56 Tryz.f56 .nil) 57 Tryz.f57 .nil) 58 Tryz.f58 (.node .nil 59 Tryz.f59 .nil)) 60 Tryz.f60 (.node (.node .nil 61 Tryz.f61 .nil) 62 Tryz.f62 (.node .nil 63 Tryz.f63 .nil))) 64 Tryz.f64 (.node (.node (.node .nil 65 Tryz.f65 .nil) 66 Tryz.f66 (.node .nil 67 Tryz.f67 .nil)) 68 Tryz.f68 (.node (.node .nil 69 Tryz.f69 .nil) 70 Tryz.f70 (.node .nil 71 Tryz.f71 .nil)))))) 72 Tryz.f72 (.node (.node (.node (.node (.node (.node (.node .nil 73 Tryz.f73 .nil) 74 Tryz.f74 .nil) 75 Tryz.f75 (.node .nil 76 Tryz.f76 .nil)) 77 Tryz.f77 (.node (.node .nil 78 Tryz.f78 .nil) 79 Tryz.f79 (.node .nil 80 Tryz.f80 .nil))) 81 Tryz.f81 (.node (.node (.node (.node .nil 82 Tryz.f82 .nil) 83 Tryz.f83 .nil) 84 Tryz.f84 (.node .nil 85 Tryz.f85 .nil)) 86 Tryz.f86 (.node (.node .nil 87 Tryz.f87 .nil) 88 Tryz.f88 (.node .nil 89 Tryz.f89 .nil)))) 90 Tryz.f90 (.node (.node (.node (.node (.node .nil 91 Tryz.f91 .nil) 92 Tryz.f92 .nil) 93 Tryz.f93 (.node .nil 94 Tryz.f94 .nil)) 95 Tryz.f95 (.node (.node .nil 96 Tryz.f96 .nil) 97 Tryz.f97 (.node .nil 98 Tryz.f98 .nil))) 99 Tryz.f99 (.node (.node (.node (.node .nil 100 Tryz.f100 .nil) 101 Tryz.f101 .nil) 102 Tryz.f102 (.node .nil 103 Tryz.f103 .nil)) 104 Tryz.f104 (.node (.node .nil 105 Tryz.f105 .nil) 106 Tryz.f106 (.node .nil 107 Tryz.f107 .nil))))) 108 Tryz.f108 (.node (.node (.node (.node (.node (.node .nil 109 Tryz.f109 .nil) 110 Tryz.f110 .nil) 111 Tryz.f111 (.node .nil 112 Tryz.f112 .nil)) 113 Tryz.f113 (.node (.node .nil 114 Tryz.f114 .nil) 115 Tryz.f115 (.node .nil 116 Tryz.f116 .nil))) 117 Tryz.f117 (.node (.node (.node (.node .nil 118 Tryz.f118 .nil) 119 Tryz.f119 .nil) 120 Tryz.f120 (.node .nil 121 Tryz.f121 .nil)) 122 Tryz.f122 (.node (.node .nil 123 Tryz.f123 .nil) 124 Tryz.f124 (.node .nil 125 Tryz.f125 .nil)))) 126 Tryz.f126 (.node (.node (.node (.node (.node .nil 127 Tryz.f127 .nil) 128 Tryz.f128 .nil) 129 Tryz.f129 (.node .nil 130 Tryz.f130 .nil)) 131 Tryz.f131 (.node (.node .nil 132 Tryz.f132 .nil) 133 Tryz.f133 (.node .nil 134 Tryz.f134 .nil))) 135 Tryz.f135 (.node (.node (.node .nil 136 Tryz.f136 .nil) 137 Tryz.f137 (.node .nil 138 Tryz.f138 .nil)) 139 Tryz.f139 (.node (.node .nil 140 Tryz.f140 .nil) 141 Tryz.f141 (.node .nil 142 Tryz.f142 .nil)))))))
noncomputable def keepTab : Tr (Tr (List Nat)) := (.node (.node (.node (.node (.node (.node (.node .nil 8 (.node .nil 2 [2, 7, 8, 9] .nil) .nil) 9 (.node .nil 8 [1, 2, 9, 10] .nil) .nil) 10 (.node .nil 7 [1, 2, 7, 8] .nil) (.node .nil 12 (.node .nil 8 [1, 2, 7, 8, 9] .nil) .nil)) 13 (.node .nil 10 [5, 32, 33] .nil) (.node (.node .nil 14 (.node .nil 7 [1, 6, 7, 8] .nil) .nil) 15 (.node .nil 4 [0, 1, 12, 13] .nil) (.node .nil 16 (.node .nil 4 [0, 1, 5] .nil) .nil))) 20 (.node .nil 8 [1, 2, 3, 9, 10, 11] .nil) (.node (.node (.node .nil 30 (.node .nil 5 [1, 4, 5] .nil) .nil) 31 (.node .nil 4 [1, 19, 20, 21] .nil) (.node .nil 33 (.node .nil 8 [2, 6, 21, 22, 23] .nil) .nil)) 34 (.node .nil 5 [1, 2, 5, 6] .nil) (.node (.node .nil 39 (.node .nil 6 [1, 2, 6, 24, 25] .nil) .nil) 40 (.node .nil 5 [1, 2, 4, 5] .nil) (.node .nil 41 (.node .nil 8 [2, 6, 9, 40, 41, 42] .nil) .nil)))) 42 (.node (.node .nil 7 [1, 2, 3, 6, 9] .nil) 13 [1, 2, 3, 6, 10, 11] .nil) (.node (.node (.node (.node .nil 43 (.node .nil 4 [2, 3, 5] .nil) .nil) 46 (.node .nil 4 [0, 1, 5] .nil) (.node .nil 48 (.node .nil 2 [2, 6, 7, 8] .nil) .nil)) 50 (.node .nil 6 [1, 6, 7, 44, 45, 46] .nil) (.node (.node .nil 51 (.node .nil 3 [3, 6, 7, 8] .nil) .nil) 52 (.node .nil 3 [2, 5, 8, 9, 10] .nil) (.node .nil 53 (.node .nil 3 [3, 5, 6] .nil) .nil))) 54 (.node .nil 4 [1, 3] .nil) (.node (.node (.node .nil 57 (.node .nil 3 [1, 2, 5, 6] .nil) .nil) 58 (.node .nil 3 [1, 3, 4] .nil) (.node .nil 62 (.node .nil 3 [1, 2, 5, 6] .nil) .nil)) 63 (.node .nil 6 [1, 2, 7] .nil) (.node (.node .nil 65 (.node .nil 3 [2, 5, 8, 9, 10] .nil) .nil) 66 (.node .nil 4 [3, 9, 10, 11] .nil) (.node .nil 67 (.node .nil 5 [1, 4, 5] .nil) .nil))))) 74 (.node .nil 3 [1, 2, 3, 4] .nil) (.node (.node (.node (.node (.node .nil 75 (.node .nil 3 [1, 2, 3, 7, 8] .nil) .nil) 76 (.node .nil 5 [1, 2, 13, 14, 15] .nil) (.node .nil 77 (.node .nil 3 [2, 3, 7, 12, 13, 14] .nil) .nil)) 79 (.node .nil 3 [1, 2, 5, 6] .nil) (.node (.node .nil 89 (.node (.node .nil 3 [3, 13, 14, 15] .nil) 7 [3, 5, 6, 13, 14, 15, 28, 29, 30] .nil) .nil) 90 (.node .nil 4 [1, 2, 15, 16, 17] .nil) (.node .nil 92 (.node .nil 4 [0, 1, 12, 13] .nil) .nil))) 100 (.node .nil 3 [3, 6, 7, 8] .nil) (.node (.node (.node .nil 102 (.node .nil 2 [0, 1, 9, 10, 11] .nil) .nil) 103 (.node (.node .nil 1 [0, 1, 7, 8] .nil) 5 [0, 1, 3, 4, 7, 8, 11, 12] .nil) (.node .nil 106 (.node .nil 4 [0, 3, 5, 6, 7] .nil) .nil)) 107 (.node .nil 2 [1, 2, 5] .nil) (.node (.node .nil 108 (.node .nil 2 [0, 1, 7, 8] .nil) .nil) 110 (.node .nil 2 [0, 1, 2, 3, 8, 9] .nil) (.node .nil 113 (.node .nil 2 [0, 1, 2, 3, 4, 10, 11] .nil) .nil)))) 114 (.node (.node .nil 1 [0, 1, 2, 6] .nil) 4 [0, 1, 2, 6, 7] .nil) (.node (.node (.node (.node .nil 115 (.node (.node .nil 4 [0, 6, 7, 8, 9] .nil) 8 [0, 6, 7, 10] .nil) .nil) 116 (.node .nil 5 [0, 1, 6, 7, 8, 9] .nil) (.node .nil 118 (.node .nil 2 [0, 6, 7] .nil) .nil)) 119 (.node (.node (.node .nil 3 [0, 1, 2, 7, 8] .nil) 5 [0, 1, 2, 7, 8] .nil) 14 [0, 1, 2, 7, 8, 9] (.node .nil 20 [0, 1, 2, 7, 8, 10] .nil)) (.node (.node .nil 121 (.node (.node .nil 3 [0, 1, 9, 10] .nil) 5 [0, 1, 9, 10] .nil) .nil) 122 (.node (.node (.node .nil 3 [0, 1, 10, 11] .nil) 5 [0, 1, 10, 11] .nil) 13 [0, 1, 10, 11] (.node .nil 15 [0, 1, 10, 11] .nil)) (.node .nil 125 (.node (.node .nil 1 [0, 1, 2, 3, 8] .nil) 4 [0, 1, 2, 3, 8, 9] .nil) .nil))) 126 (.node (.node .nil 4 [0, 3, 8, 9, 10, 11] .nil) 8 [0, 3, 8, 9, 12] .nil) (.node (.node (.node .nil 127 (.node .nil 5 [0, 1, 8, 9, 10, 11] .nil) .nil) 129 (.node .nil 2 [0, 8, 9] .nil) (.node .nil 130 (.node (.node (.node .nil 3 [0, 1, 2, 3, 9, 10] .nil) 5 [0, 1, 2, 3, 9, 10] .nil) 14 [0, 1, 2, 3, 9, 10, 11] (.node .nil 20 [0, 1, 2, 3, 9, 10, 12] .nil)) .nil)) 131 (.node (.node .nil 3 [0, 1, 4, 11, 12] .nil) 5 [0, 1, 4, 11, 12] .nil) (.node (.node .nil 132 (.node (.node (.node .nil 3 [0, 1, 4, 12, 13] .nil) 5 [0, 1, 4, 12, 13] .nil) 13 [0, 1, 4, 12, 13] (.node .nil 15 [0, 1, 4, 12, 13] .nil)) .nil) 133 (.node .nil 1 [0, 2, 3, 8] .nil) (.node .nil 138 (.node .nil 1 [0, 2, 3, 4, 10] .nil) .nil))))))
theorem tyTab_ok : tyTab.All fun t r => tyOf Tryz.prog t = some r := by
  unfold tyTab
  exact (Tr.all_node (Tr.all_node (Tr.all_node (Tr.all_node (Tr.all_node Tr.all_nil ty3_ok Tr.all_nil) ty4_ok (Tr.all_node Tr.all_nil ty5_ok Tr.all_nil)) ty9_ok (Tr.all_node (Tr.all_node Tr.all_nil ty22_ok Tr.all_nil) ty24_ok (Tr.all_node Tr.all_nil ty26_ok Tr.all_nil))) ty29_ok (Tr.all_node (Tr.all_node (Tr.all_node Tr.all_nil ty32_ok Tr.all_nil) ty35_ok (Tr.all_node Tr.all_nil ty39_ok Tr.all_nil)) ty63_ok (Tr.all_node (Tr.all_node Tr.all_nil ty66_ok Tr.all_nil) ty69_ok Tr.all_nil))) ty71_ok (Tr.all_node (Tr.all_node (Tr.all_node (Tr.all_node Tr.all_nil ty75_ok Tr.all_nil) ty88_ok (Tr.all_node Tr.all_nil ty90_ok Tr.all_nil)) ty94_ok (Tr.all_node (Tr.all_node Tr.all_nil ty112_ok Tr.all_nil) ty122_ok Tr.all_nil)) ty124_ok (Tr.all_node (Tr.all_node (Tr.all_node Tr.all_nil ty129_ok Tr.all_nil) ty132_ok (Tr.all_node Tr.all_nil ty139_ok Tr.all_nil)) ty141_ok (Tr.all_node (Tr.all_node Tr.all_nil ty147_ok Tr.all_nil) ty151_ok Tr.all_nil))))
theorem fnTab_ok : zw.All fun k f => Tryz.prog.funcs[k]? = some f := by
  unfold zw
  exact (Tr.all_node (Tr.all_node (Tr.all_node (Tr.all_node (Tr.all_node (Tr.all_node (Tr.all_node (Tr.all_node Tr.all_nil Tryz.func2 Tr.all_nil) Tryz.func3 Tr.all_nil) Tryz.func4 (Tr.all_node Tr.all_nil Tryz.func5 Tr.all_nil)) Tryz.func6 (Tr.all_node (Tr.all_node Tr.all_nil Tryz.func7 Tr.all_nil) Tryz.func8 (Tr.all_node Tr.all_nil Tryz.func9 Tr.all_nil))) Tryz.func10 (Tr.all_node (Tr.all_node (Tr.all_node (Tr.all_node Tr.all_nil Tryz.func11 Tr.all_nil) Tryz.func12 Tr.all_nil) Tryz.func13 (Tr.all_node Tr.all_nil Tryz.func14 Tr.all_nil)) Tryz.func15 (Tr.all_node (Tr.all_node Tr.all_nil Tryz.func16 Tr.all_nil) Tryz.func17 (Tr.all_node Tr.all_nil Tryz.func18 Tr.all_nil)))) Tryz.func19 (Tr.all_node (Tr.all_node (Tr.all_node (Tr.all_node (Tr.all_node Tr.all_nil Tryz.func20 Tr.all_nil) Tryz.func21 Tr.all_nil) Tryz.func22 (Tr.all_node Tr.all_nil Tryz.func23 Tr.all_nil)) Tryz.func24 (Tr.all_node (Tr.all_node Tr.all_nil Tryz.func25 Tr.all_nil) Tryz.func26 (Tr.all_node Tr.all_nil Tryz.func27 Tr.all_nil))) Tryz.func28 (Tr.all_node (Tr.all_node (Tr.all_node (Tr.all_node Tr.all_nil Tryz.func29 Tr.all_nil) Tryz.func30 Tr.all_nil) Tryz.func31 (Tr.all_node Tr.all_nil Tryz.func32 Tr.all_nil)) Tryz.func33 (Tr.all_node (Tr.all_node Tr.all_nil Tryz.func34 Tr.all_nil) Tryz.func35 (Tr.all_node Tr.all_nil Tryz.func36 Tr.all_nil))))) Tryz.func37 (Tr.all_node (Tr.all_node (Tr.all_node (Tr.all_node (Tr.all_node (Tr.all_node Tr.all_nil Tryz.func38 Tr.all_nil) Tryz.func39 Tr.all_nil) Tryz.func40 (Tr.all_node Tr.all_nil Tryz.func41 Tr.all_nil)) Tryz.func42 (Tr.all_node (Tr.all_node Tr.all_nil Tryz.func43 Tr.all_nil) Tryz.func44 (Tr.all_node Tr.all_nil Tryz.func45 Tr.all_nil))) Tryz.func46 (Tr.all_node (Tr.all_node (Tr.all_node (Tr.all_node Tr.all_nil Tryz.func47 Tr.all_nil) Tryz.func48 Tr.all_nil) Tryz.func49 (Tr.all_node Tr.all_nil Tryz.func50 Tr.all_nil)) Tryz.func51 (Tr.all_node (Tr.all_node Tr.all_nil Tryz.func52 Tr.all_nil) Tryz.func53 (Tr.all_node Tr.all_nil Tryz.func54 Tr.all_nil)))) Tryz.func55 (Tr.all_node (Tr.all_node (Tr.all_node (Tr.all_node (Tr.all_node Tr.all_nil Tryz.func56 Tr.all_nil) Tryz.func57 Tr.all_nil) Tryz.func58 (Tr.all_node Tr.all_nil Tryz.func59 Tr.all_nil)) Tryz.func60 (Tr.all_node (Tr.all_node Tr.all_nil Tryz.func61 Tr.all_nil) Tryz.func62 (Tr.all_node Tr.all_nil Tryz.func63 Tr.all_nil))) Tryz.func64 (Tr.all_node (Tr.all_node (Tr.all_node Tr.all_nil Tryz.func65 Tr.all_nil) Tryz.func66 (Tr.all_node Tr.all_nil Tryz.func67 Tr.all_nil)) Tryz.func68 (Tr.all_node (Tr.all_node Tr.all_nil Tryz.func69 Tr.all_nil) Tryz.func70 (Tr.all_node Tr.all_nil Tryz.func71 Tr.all_nil)))))) Tryz.func72 (Tr.all_node (Tr.all_node (Tr.all_node (Tr.all_node (Tr.all_node (Tr.all_node (Tr.all_node Tr.all_nil Tryz.func73 Tr.all_nil) Tryz.func74 Tr.all_nil) Tryz.func75 (Tr.all_node Tr.all_nil Tryz.func76 Tr.all_nil)) Tryz.func77 (Tr.all_node (Tr.all_node Tr.all_nil Tryz.func78 Tr.all_nil) Tryz.func79 (Tr.all_node Tr.all_nil Tryz.func80 Tr.all_nil))) Tryz.func81 (Tr.all_node (Tr.all_node (Tr.all_node (Tr.all_node Tr.all_nil Tryz.func82 Tr.all_nil) Tryz.func83 Tr.all_nil) Tryz.func84 (Tr.all_node Tr.all_nil Tryz.func85 Tr.all_nil)) Tryz.func86 (Tr.all_node (Tr.all_node Tr.all_nil Tryz.func87 Tr.all_nil) Tryz.func88 (Tr.all_node Tr.all_nil Tryz.func89 Tr.all_nil)))) Tryz.func90 (Tr.all_node (Tr.all_node (Tr.all_node (Tr.all_node (Tr.all_node Tr.all_nil Tryz.func91 Tr.all_nil) Tryz.func92 Tr.all_nil) Tryz.func93 (Tr.all_node Tr.all_nil Tryz.func94 Tr.all_nil)) Tryz.func95 (Tr.all_node (Tr.all_node Tr.all_nil Tryz.func96 Tr.all_nil) Tryz.func97 (Tr.all_node Tr.all_nil Tryz.func98 Tr.all_nil))) Tryz.func99 (Tr.all_node (Tr.all_node (Tr.all_node (Tr.all_node Tr.all_nil Tryz.func100 Tr.all_nil) Tryz.func101 Tr.all_nil) Tryz.func102 (Tr.all_node Tr.all_nil Tryz.func103 Tr.all_nil)) Tryz.func104 (Tr.all_node (Tr.all_node Tr.all_nil Tryz.func105 Tr.all_nil) Tryz.func106 (Tr.all_node Tr.all_nil Tryz.func107 Tr.all_nil))))) Tryz.func108 (Tr.all_node (Tr.all_node (Tr.all_node (Tr.all_node (Tr.all_node (Tr.all_node Tr.all_nil Tryz.func109 Tr.all_nil) Tryz.func110 Tr.all_nil) Tryz.func111 (Tr.all_node Tr.all_nil Tryz.func112 Tr.all_nil)) Tryz.func113 (Tr.all_node (Tr.all_node Tr.all_nil Tryz.func114 Tr.all_nil) Tryz.func115 (Tr.all_node Tr.all_nil Tryz.func116 Tr.all_nil))) Tryz.func117 (Tr.all_node (Tr.all_node (Tr.all_node (Tr.all_node Tr.all_nil Tryz.func118 Tr.all_nil) Tryz.func119 Tr.all_nil) Tryz.func120 (Tr.all_node Tr.all_nil Tryz.func121 Tr.all_nil)) Tryz.func122 (Tr.all_node (Tr.all_node Tr.all_nil Tryz.func123 Tr.all_nil) Tryz.func124 (Tr.all_node Tr.all_nil Tryz.func125 Tr.all_nil)))) Tryz.func126 (Tr.all_node (Tr.all_node (Tr.all_node (Tr.all_node (Tr.all_node Tr.all_nil Tryz.func127 Tr.all_nil) Tryz.func128 Tr.all_nil) Tryz.func129 (Tr.all_node Tr.all_nil Tryz.func130 Tr.all_nil)) Tryz.func131 (Tr.all_node (Tr.all_node Tr.all_nil Tryz.func132 Tr.all_nil) Tryz.func133 (Tr.all_node Tr.all_nil Tryz.func134 Tr.all_nil))) Tryz.func135 (Tr.all_node (Tr.all_node (Tr.all_node Tr.all_nil Tryz.func136 Tr.all_nil) Tryz.func137 (Tr.all_node Tr.all_nil Tryz.func138 Tr.all_nil)) Tryz.func139 (Tr.all_node (Tr.all_node Tr.all_nil Tryz.func140 Tr.all_nil) Tryz.func141 (Tr.all_node Tr.all_nil Tryz.func142 Tr.all_nil)))))))
noncomputable def eqB (t : TypeId) : Bool := !Tryz.prog.stoodInHeld t && !Tryz.prog.eqGuardType Tryz.prog.depth t && (match Tryz.prog.underlying t with | some (.struct fs) => fs.toList.all (fun f => f.name != "_") | _ => true)
theorem eq24_ok : eqB 24 = true := by kernel_rfl
theorem eq26_ok : eqB 26 = true := by kernel_rfl
theorem eq66_ok : eqB 66 = true := by kernel_rfl
theorem eq69_ok : eqB 69 = true := by kernel_rfl
theorem eq75_ok : eqB 75 = true := by kernel_rfl
theorem eq90_ok : eqB 90 = true := by kernel_rfl
noncomputable def eqTab : Tr Unit := (.node (.node (.node .nil 24 () .nil) 26 () (.node .nil 66 () .nil)) 69 () (.node (.node .nil 75 () .nil) 90 () .nil))
theorem eqTab_ok : eqTab.All fun t _ => eqB t = true := by
  unfold eqTab
  exact (Tr.all_node (Tr.all_node (Tr.all_node Tr.all_nil eq24_ok Tr.all_nil) eq26_ok (Tr.all_node Tr.all_nil eq66_ok Tr.all_nil)) eq69_ok (Tr.all_node (Tr.all_node Tr.all_nil eq75_ok Tr.all_nil) eq90_ok Tr.all_nil))
theorem en2_ok : Tryz.f2.body.isSome = true ∧ Tryz.f2.name ≠ "runtime.NumGoroutine" := ⟨by kernel_rfl, by decide⟩
theorem en3_ok : Tryz.f3.body.isSome = true ∧ Tryz.f3.name ≠ "runtime.NumGoroutine" := ⟨by kernel_rfl, by decide⟩
theorem en4_ok : Tryz.f4.body.isSome = true ∧ Tryz.f4.name ≠ "runtime.NumGoroutine" := ⟨by kernel_rfl, by decide⟩
theorem en5_ok : Tryz.f5.body.isSome = true ∧ Tryz.f5.name ≠ "runtime.NumGoroutine" := ⟨by kernel_rfl, by decide⟩
theorem en6_ok : Tryz.f6.body.isSome = true ∧ Tryz.f6.name ≠ "runtime.NumGoroutine" := ⟨by kernel_rfl, by decide⟩
theorem en7_ok : Tryz.f7.body.isSome = true ∧ Tryz.f7.name ≠ "runtime.NumGoroutine" := ⟨by kernel_rfl, by decide⟩
theorem en8_ok : Tryz.f8.body.isSome = true ∧ Tryz.f8.name ≠ "runtime.NumGoroutine" := ⟨by kernel_rfl, by decide⟩
theorem en9_ok : Tryz.f9.body.isSome = true ∧ Tryz.f9.name ≠ "runtime.NumGoroutine" := ⟨by kernel_rfl, by decide⟩
theorem en10_ok : Tryz.f10.body.isSome = true ∧ Tryz.f10.name ≠ "runtime.NumGoroutine" := ⟨by kernel_rfl, by decide⟩
theorem en11_ok : Tryz.f11.body.isSome = true ∧ Tryz.f11.name ≠ "runtime.NumGoroutine" := ⟨by kernel_rfl, by decide⟩
theorem en12_ok : Tryz.f12.body.isSome = true ∧ Tryz.f12.name ≠ "runtime.NumGoroutine" := ⟨by kernel_rfl, by decide⟩
theorem en13_ok : Tryz.f13.body.isSome = true ∧ Tryz.f13.name ≠ "runtime.NumGoroutine" := ⟨by kernel_rfl, by decide⟩
theorem en14_ok : Tryz.f14.body.isSome = true ∧ Tryz.f14.name ≠ "runtime.NumGoroutine" := ⟨by kernel_rfl, by decide⟩
theorem en15_ok : Tryz.f15.body.isSome = true ∧ Tryz.f15.name ≠ "runtime.NumGoroutine" := ⟨by kernel_rfl, by decide⟩
theorem en16_ok : Tryz.f16.body.isSome = true ∧ Tryz.f16.name ≠ "runtime.NumGoroutine" := ⟨by kernel_rfl, by decide⟩
theorem en17_ok : Tryz.f17.body.isSome = true ∧ Tryz.f17.name ≠ "runtime.NumGoroutine" := ⟨by kernel_rfl, by decide⟩
theorem en18_ok : Tryz.f18.body.isSome = true ∧ Tryz.f18.name ≠ "runtime.NumGoroutine" := ⟨by kernel_rfl, by decide⟩
theorem en19_ok : Tryz.f19.body.isSome = true ∧ Tryz.f19.name ≠ "runtime.NumGoroutine" := ⟨by kernel_rfl, by decide⟩
theorem en20_ok : Tryz.f20.body.isSome = true ∧ Tryz.f20.name ≠ "runtime.NumGoroutine" := ⟨by kernel_rfl, by decide⟩
theorem en21_ok : Tryz.f21.body.isSome = true ∧ Tryz.f21.name ≠ "runtime.NumGoroutine" := ⟨by kernel_rfl, by decide⟩
theorem en22_ok : Tryz.f22.body.isSome = true ∧ Tryz.f22.name ≠ "runtime.NumGoroutine" := ⟨by kernel_rfl, by decide⟩
theorem en23_ok : Tryz.f23.body.isSome = true ∧ Tryz.f23.name ≠ "runtime.NumGoroutine" := ⟨by kernel_rfl, by decide⟩
theorem en24_ok : Tryz.f24.body.isSome = true ∧ Tryz.f24.name ≠ "runtime.NumGoroutine" := ⟨by kernel_rfl, by decide⟩
theorem en25_ok : Tryz.f25.body.isSome = true ∧ Tryz.f25.name ≠ "runtime.NumGoroutine" := ⟨by kernel_rfl, by decide⟩
theorem en26_ok : Tryz.f26.body.isSome = true ∧ Tryz.f26.name ≠ "runtime.NumGoroutine" := ⟨by kernel_rfl, by decide⟩
theorem en27_ok : Tryz.f27.body.isSome = true ∧ Tryz.f27.name ≠ "runtime.NumGoroutine" := ⟨by kernel_rfl, by decide⟩
theorem en28_ok : Tryz.f28.body.isSome = true ∧ Tryz.f28.name ≠ "runtime.NumGoroutine" := ⟨by kernel_rfl, by decide⟩
theorem en29_ok : Tryz.f29.body.isSome = true ∧ Tryz.f29.name ≠ "runtime.NumGoroutine" := ⟨by kernel_rfl, by decide⟩
theorem en30_ok : Tryz.f30.body.isSome = true ∧ Tryz.f30.name ≠ "runtime.NumGoroutine" := ⟨by kernel_rfl, by decide⟩
theorem en31_ok : Tryz.f31.body.isSome = true ∧ Tryz.f31.name ≠ "runtime.NumGoroutine" := ⟨by kernel_rfl, by decide⟩
theorem en32_ok : Tryz.f32.body.isSome = true ∧ Tryz.f32.name ≠ "runtime.NumGoroutine" := ⟨by kernel_rfl, by decide⟩
theorem en33_ok : Tryz.f33.body.isSome = true ∧ Tryz.f33.name ≠ "runtime.NumGoroutine" := ⟨by kernel_rfl, by decide⟩
theorem en34_ok : Tryz.f34.body.isSome = true ∧ Tryz.f34.name ≠ "runtime.NumGoroutine" := ⟨by kernel_rfl, by decide⟩
theorem en35_ok : Tryz.f35.body.isSome = true ∧ Tryz.f35.name ≠ "runtime.NumGoroutine" := ⟨by kernel_rfl, by decide⟩
theorem en36_ok : Tryz.f36.body.isSome = true ∧ Tryz.f36.name ≠ "runtime.NumGoroutine" := ⟨by kernel_rfl, by decide⟩
theorem en37_ok : Tryz.f37.body.isSome = true ∧ Tryz.f37.name ≠ "runtime.NumGoroutine" := ⟨by kernel_rfl, by decide⟩
theorem en38_ok : Tryz.f38.body.isSome = true ∧ Tryz.f38.name ≠ "runtime.NumGoroutine" := ⟨by kernel_rfl, by decide⟩
theorem en39_ok : Tryz.f39.body.isSome = true ∧ Tryz.f39.name ≠ "runtime.NumGoroutine" := ⟨by kernel_rfl, by decide⟩
theorem en40_ok : Tryz.f40.body.isSome = true ∧ Tryz.f40.name ≠ "runtime.NumGoroutine" := ⟨by kernel_rfl, by decide⟩
theorem en41_ok : Tryz.f41.body.isSome = true ∧ Tryz.f41.name ≠ "runtime.NumGoroutine" := ⟨by kernel_rfl, by decide⟩
theorem en42_ok : Tryz.f42.body.isSome = true ∧ Tryz.f42.name ≠ "runtime.NumGoroutine" := ⟨by kernel_rfl, by decide⟩
theorem en43_ok : Tryz.f43.body.isSome = true ∧ Tryz.f43.name ≠ "runtime.NumGoroutine" := ⟨by kernel_rfl, by decide⟩
theorem en44_ok : Tryz.f44.body.isSome = true ∧ Tryz.f44.name ≠ "runtime.NumGoroutine" := ⟨by kernel_rfl, by decide⟩
theorem en45_ok : Tryz.f45.body.isSome = true ∧ Tryz.f45.name ≠ "runtime.NumGoroutine" := ⟨by kernel_rfl, by decide⟩
theorem en46_ok : Tryz.f46.body.isSome = true ∧ Tryz.f46.name ≠ "runtime.NumGoroutine" := ⟨by kernel_rfl, by decide⟩
theorem en47_ok : Tryz.f47.body.isSome = true ∧ Tryz.f47.name ≠ "runtime.NumGoroutine" := ⟨by kernel_rfl, by decide⟩
theorem en48_ok : Tryz.f48.body.isSome = true ∧ Tryz.f48.name ≠ "runtime.NumGoroutine" := ⟨by kernel_rfl, by decide⟩
theorem en49_ok : Tryz.f49.body.isSome = true ∧ Tryz.f49.name ≠ "runtime.NumGoroutine" := ⟨by kernel_rfl, by decide⟩
theorem en50_ok : Tryz.f50.body.isSome = true ∧ Tryz.f50.name ≠ "runtime.NumGoroutine" := ⟨by kernel_rfl, by decide⟩
theorem en51_ok : Tryz.f51.body.isSome = true ∧ Tryz.f51.name ≠ "runtime.NumGoroutine" := ⟨by kernel_rfl, by decide⟩
theorem en52_ok : Tryz.f52.body.isSome = true ∧ Tryz.f52.name ≠ "runtime.NumGoroutine" := ⟨by kernel_rfl, by decide⟩
theorem en53_ok : Tryz.f53.body.isSome = true ∧ Tryz.f53.name ≠ "runtime.NumGoroutine" := ⟨by kernel_rfl, by decide⟩
theorem en54_ok : Tryz.f54.body.isSome = true ∧ Tryz.f54.name ≠ "runtime.NumGoroutine" := ⟨by kernel_rfl, by decide⟩
theorem en55_ok : Tryz.f55.body.isSome = true ∧ Tryz.f55.name ≠ "runtime.NumGoroutine" := ⟨by kernel_rfl, by decide⟩
theorem en56_ok : Tryz.f56.body.isSome = true ∧ Tryz.f56.name ≠ "runtime.NumGoroutine" := ⟨by kernel_rfl, by decide⟩
theorem en57_ok : Tryz.f57.body.isSome = true ∧ Tryz.f57.name ≠ "runtime.NumGoroutine" := ⟨by kernel_rfl, by decide⟩
theorem en58_ok : Tryz.f58.body.isSome = true ∧ Tryz.f58.name ≠ "runtime.NumGoroutine" := ⟨by kernel_rfl, by decide⟩
theorem en59_ok : Tryz.f59.body.isSome = true ∧ Tryz.f59.name ≠ "runtime.NumGoroutine" := ⟨by kernel_rfl, by decide⟩
theorem en60_ok : Tryz.f60.body.isSome = true ∧ Tryz.f60.name ≠ "runtime.NumGoroutine" := ⟨by kernel_rfl, by decide⟩
theorem en61_ok : Tryz.f61.body.isSome = true ∧ Tryz.f61.name ≠ "runtime.NumGoroutine" := ⟨by kernel_rfl, by decide⟩
theorem en62_ok : Tryz.f62.body.isSome = true ∧ Tryz.f62.name ≠ "runtime.NumGoroutine" := ⟨by kernel_rfl, by decide⟩
theorem en63_ok : Tryz.f63.body.isSome = true ∧ Tryz.f63.name ≠ "runtime.NumGoroutine" := ⟨by kernel_rfl, by decide⟩
theorem en64_ok : Tryz.f64.body.isSome = true ∧ Tryz.f64.name ≠ "runtime.NumGoroutine" := ⟨by kernel_rfl, by decide⟩
theorem en65_ok : Tryz.f65.body.isSome = true ∧ Tryz.f65.name ≠ "runtime.NumGoroutine" := ⟨by kernel_rfl, by decide⟩
theorem en66_ok : Tryz.f66.body.isSome = true ∧ Tryz.f66.name ≠ "runtime.NumGoroutine" := ⟨by kernel_rfl, by decide⟩
theorem en67_ok : Tryz.f67.body.isSome = true ∧ Tryz.f67.name ≠ "runtime.NumGoroutine" := ⟨by kernel_rfl, by decide⟩
theorem en68_ok : Tryz.f68.body.isSome = true ∧ Tryz.f68.name ≠ "runtime.NumGoroutine" := ⟨by kernel_rfl, by decide⟩
theorem en69_ok : Tryz.f69.body.isSome = true ∧ Tryz.f69.name ≠ "runtime.NumGoroutine" := ⟨by kernel_rfl, by decide⟩
theorem en70_ok : Tryz.f70.body.isSome = true ∧ Tryz.f70.name ≠ "runtime.NumGoroutine" := ⟨by kernel_rfl, by decide⟩
theorem en71_ok : Tryz.f71.body.isSome = true ∧ Tryz.f71.name ≠ "runtime.NumGoroutine" := ⟨by kernel_rfl, by decide⟩
theorem en72_ok : Tryz.f72.body.isSome = true ∧ Tryz.f72.name ≠ "runtime.NumGoroutine" := ⟨by kernel_rfl, by decide⟩
theorem en73_ok : Tryz.f73.body.isSome = true ∧ Tryz.f73.name ≠ "runtime.NumGoroutine" := ⟨by kernel_rfl, by decide⟩
theorem en74_ok : Tryz.f74.body.isSome = true ∧ Tryz.f74.name ≠ "runtime.NumGoroutine" := ⟨by kernel_rfl, by decide⟩
theorem en75_ok : Tryz.f75.body.isSome = true ∧ Tryz.f75.name ≠ "runtime.NumGoroutine" := ⟨by kernel_rfl, by decide⟩
theorem en76_ok : Tryz.f76.body.isSome = true ∧ Tryz.f76.name ≠ "runtime.NumGoroutine" := ⟨by kernel_rfl, by decide⟩
theorem en77_ok : Tryz.f77.body.isSome = true ∧ Tryz.f77.name ≠ "runtime.NumGoroutine" := ⟨by kernel_rfl, by decide⟩
theorem en78_ok : Tryz.f78.body.isSome = true ∧ Tryz.f78.name ≠ "runtime.NumGoroutine" := ⟨by kernel_rfl, by decide⟩
theorem en79_ok : Tryz.f79.body.isSome = true ∧ Tryz.f79.name ≠ "runtime.NumGoroutine" := ⟨by kernel_rfl, by decide⟩
theorem en80_ok : Tryz.f80.body.isSome = true ∧ Tryz.f80.name ≠ "runtime.NumGoroutine" := ⟨by kernel_rfl, by decide⟩
theorem en81_ok : Tryz.f81.body.isSome = true ∧ Tryz.f81.name ≠ "runtime.NumGoroutine" := ⟨by kernel_rfl, by decide⟩
theorem en82_ok : Tryz.f82.body.isSome = true ∧ Tryz.f82.name ≠ "runtime.NumGoroutine" := ⟨by kernel_rfl, by decide⟩
theorem en83_ok : Tryz.f83.body.isSome = true ∧ Tryz.f83.name ≠ "runtime.NumGoroutine" := ⟨by kernel_rfl, by decide⟩
theorem en84_ok : Tryz.f84.body.isSome = true ∧ Tryz.f84.name ≠ "runtime.NumGoroutine" := ⟨by kernel_rfl, by decide⟩
theorem en85_ok : Tryz.f85.body.isSome = true ∧ Tryz.f85.name ≠ "runtime.NumGoroutine" := ⟨by kernel_rfl, by decide⟩
theorem en86_ok : Tryz.f86.body.isSome = true ∧ Tryz.f86.name ≠ "runtime.NumGoroutine" := ⟨by kernel_rfl, by decide⟩
theorem en87_ok : Tryz.f87.body.isSome = true ∧ Tryz.f87.name ≠ "runtime.NumGoroutine" := ⟨by kernel_rfl, by decide⟩
theorem en88_ok : Tryz.f88.body.isSome = true ∧ Tryz.f88.name ≠ "runtime.NumGoroutine" := ⟨by kernel_rfl, by decide⟩
theorem en89_ok : Tryz.f89.body.isSome = true ∧ Tryz.f89.name ≠ "runtime.NumGoroutine" := ⟨by kernel_rfl, by decide⟩
theorem en90_ok : Tryz.f90.body.isSome = true ∧ Tryz.f90.name ≠ "runtime.NumGoroutine" := ⟨by kernel_rfl, by decide⟩
theorem en91_ok : Tryz.f91.body.isSome = true ∧ Tryz.f91.name ≠ "runtime.NumGoroutine" := ⟨by kernel_rfl, by decide⟩
theorem en92_ok : Tryz.f92.body.isSome = true ∧ Tryz.f92.name ≠ "runtime.NumGoroutine" := ⟨by kernel_rfl, by decide⟩
theorem en93_ok : Tryz.f93.body.isSome = true ∧ Tryz.f93.name ≠ "runtime.NumGoroutine" := ⟨by kernel_rfl, by decide⟩
theorem en94_ok : Tryz.f94.body.isSome = true ∧ Tryz.f94.name ≠ "runtime.NumGoroutine" := ⟨by kernel_rfl, by decide⟩
theorem en95_ok : Tryz.f95.body.isSome = true ∧ Tryz.f95.name ≠ "runtime.NumGoroutine" := ⟨by kernel_rfl, by decide⟩
theorem en96_ok : Tryz.f96.body.isSome = true ∧ Tryz.f96.name ≠ "runtime.NumGoroutine" := ⟨by kernel_rfl, by decide⟩
theorem en97_ok : Tryz.f97.body.isSome = true ∧ Tryz.f97.name ≠ "runtime.NumGoroutine" := ⟨by kernel_rfl, by decide⟩
theorem en98_ok : Tryz.f98.body.isSome = true ∧ Tryz.f98.name ≠ "runtime.NumGoroutine" := ⟨by kernel_rfl, by decide⟩
theorem en99_ok : Tryz.f99.body.isSome = true ∧ Tryz.f99.name ≠ "runtime.NumGoroutine" := ⟨by kernel_rfl, by decide⟩
theorem en100_ok : Tryz.f100.body.isSome = true ∧ Tryz.f100.name ≠ "runtime.NumGoroutine" := ⟨by kernel_rfl, by decide⟩
theorem en101_ok : Tryz.f101.body.isSome = true ∧ Tryz.f101.name ≠ "runtime.NumGoroutine" := ⟨by kernel_rfl, by decide⟩
theorem en102_ok : Tryz.f102.body.isSome = true ∧ Tryz.f102.name ≠ "runtime.NumGoroutine" := ⟨by kernel_rfl, by decide⟩
theorem en103_ok : Tryz.f103.body.isSome = true ∧ Tryz.f103.name ≠ "runtime.NumGoroutine" := ⟨by kernel_rfl, by decide⟩
theorem en104_ok : Tryz.f104.body.isSome = true ∧ Tryz.f104.name ≠ "runtime.NumGoroutine" := ⟨by kernel_rfl, by decide⟩
theorem en105_ok : Tryz.f105.body.isSome = true ∧ Tryz.f105.name ≠ "runtime.NumGoroutine" := ⟨by kernel_rfl, by decide⟩
theorem en106_ok : Tryz.f106.body.isSome = true ∧ Tryz.f106.name ≠ "runtime.NumGoroutine" := ⟨by kernel_rfl, by decide⟩
theorem en107_ok : Tryz.f107.body.isSome = true ∧ Tryz.f107.name ≠ "runtime.NumGoroutine" := ⟨by kernel_rfl, by decide⟩
theorem en108_ok : Tryz.f108.body.isSome = true ∧ Tryz.f108.name ≠ "runtime.NumGoroutine" := ⟨by kernel_rfl, by decide⟩
theorem en109_ok : Tryz.f109.body.isSome = true ∧ Tryz.f109.name ≠ "runtime.NumGoroutine" := ⟨by kernel_rfl, by decide⟩
theorem en110_ok : Tryz.f110.body.isSome = true ∧ Tryz.f110.name ≠ "runtime.NumGoroutine" := ⟨by kernel_rfl, by decide⟩
theorem en111_ok : Tryz.f111.body.isSome = true ∧ Tryz.f111.name ≠ "runtime.NumGoroutine" := ⟨by kernel_rfl, by decide⟩
theorem en112_ok : Tryz.f112.body.isSome = true ∧ Tryz.f112.name ≠ "runtime.NumGoroutine" := ⟨by kernel_rfl, by decide⟩
theorem en113_ok : Tryz.f113.body.isSome = true ∧ Tryz.f113.name ≠ "runtime.NumGoroutine" := ⟨by kernel_rfl, by decide⟩
theorem en114_ok : Tryz.f114.body.isSome = true ∧ Tryz.f114.name ≠ "runtime.NumGoroutine" := ⟨by kernel_rfl, by decide⟩
theorem en115_ok : Tryz.f115.body.isSome = true ∧ Tryz.f115.name ≠ "runtime.NumGoroutine" := ⟨by kernel_rfl, by decide⟩
theorem en116_ok : Tryz.f116.body.isSome = true ∧ Tryz.f116.name ≠ "runtime.NumGoroutine" := ⟨by kernel_rfl, by decide⟩
theorem en117_ok : Tryz.f117.body.isSome = true ∧ Tryz.f117.name ≠ "runtime.NumGoroutine" := ⟨by kernel_rfl, by decide⟩
theorem en118_ok : Tryz.f118.body.isSome = true ∧ Tryz.f118.name ≠ "runtime.NumGoroutine" := ⟨by kernel_rfl, by decide⟩
theorem en119_ok : Tryz.f119.body.isSome = true ∧ Tryz.f119.name ≠ "runtime.NumGoroutine" := ⟨by kernel_rfl, by decide⟩
theorem en120_ok : Tryz.f120.body.isSome = true ∧ Tryz.f120.name ≠ "runtime.NumGoroutine" := ⟨by kernel_rfl, by decide⟩
theorem en121_ok : Tryz.f121.body.isSome = true ∧ Tryz.f121.name ≠ "runtime.NumGoroutine" := ⟨by kernel_rfl, by decide⟩
theorem en122_ok : Tryz.f122.body.isSome = true ∧ Tryz.f122.name ≠ "runtime.NumGoroutine" := ⟨by kernel_rfl, by decide⟩
theorem en123_ok : Tryz.f123.body.isSome = true ∧ Tryz.f123.name ≠ "runtime.NumGoroutine" := ⟨by kernel_rfl, by decide⟩
theorem en124_ok : Tryz.f124.body.isSome = true ∧ Tryz.f124.name ≠ "runtime.NumGoroutine" := ⟨by kernel_rfl, by decide⟩
theorem en125_ok : Tryz.f125.body.isSome = true ∧ Tryz.f125.name ≠ "runtime.NumGoroutine" := ⟨by kernel_rfl, by decide⟩
theorem en126_ok : Tryz.f126.body.isSome = true ∧ Tryz.f126.name ≠ "runtime.NumGoroutine" := ⟨by kernel_rfl, by decide⟩
theorem en127_ok : Tryz.f127.body.isSome = true ∧ Tryz.f127.name ≠ "runtime.NumGoroutine" := ⟨by kernel_rfl, by decide⟩
theorem en128_ok : Tryz.f128.body.isSome = true ∧ Tryz.f128.name ≠ "runtime.NumGoroutine" := ⟨by kernel_rfl, by decide⟩
theorem en129_ok : Tryz.f129.body.isSome = true ∧ Tryz.f129.name ≠ "runtime.NumGoroutine" := ⟨by kernel_rfl, by decide⟩
theorem en130_ok : Tryz.f130.body.isSome = true ∧ Tryz.f130.name ≠ "runtime.NumGoroutine" := ⟨by kernel_rfl, by decide⟩
theorem en131_ok : Tryz.f131.body.isSome = true ∧ Tryz.f131.name ≠ "runtime.NumGoroutine" := ⟨by kernel_rfl, by decide⟩
theorem en132_ok : Tryz.f132.body.isSome = true ∧ Tryz.f132.name ≠ "runtime.NumGoroutine" := ⟨by kernel_rfl, by decide⟩
theorem en133_ok : Tryz.f133.body.isSome = true ∧ Tryz.f133.name ≠ "runtime.NumGoroutine" := ⟨by kernel_rfl, by decide⟩
theorem en134_ok : Tryz.f134.body.isSome = true ∧ Tryz.f134.name ≠ "runtime.NumGoroutine" := ⟨by kernel_rfl, by decide⟩
theorem en135_ok : Tryz.f135.body.isSome = true ∧ Tryz.f135.name ≠ "runtime.NumGoroutine" := ⟨by kernel_rfl, by decide⟩
theorem en136_ok : Tryz.f136.body.isSome = true ∧ Tryz.f136.name ≠ "runtime.NumGoroutine" := ⟨by kernel_rfl, by decide⟩
theorem en137_ok : Tryz.f137.body.isSome = true ∧ Tryz.f137.name ≠ "runtime.NumGoroutine" := ⟨by kernel_rfl, by decide⟩
theorem en138_ok : Tryz.f138.body.isSome = true ∧ Tryz.f138.name ≠ "runtime.NumGoroutine" := ⟨by kernel_rfl, by decide⟩
theorem en139_ok : Tryz.f139.body.isSome = true ∧ Tryz.f139.name ≠ "runtime.NumGoroutine" := ⟨by kernel_rfl, by decide⟩
theorem en140_ok : Tryz.f140.body.isSome = true ∧ Tryz.f140.name ≠ "runtime.NumGoroutine" := ⟨by kernel_rfl, by decide⟩
theorem en141_ok : Tryz.f141.body.isSome = true ∧ Tryz.f141.name ≠ "runtime.NumGoroutine" := ⟨by kernel_rfl, by decide⟩
theorem en142_ok : Tryz.f142.body.isSome = true ∧ Tryz.f142.name ≠ "runtime.NumGoroutine" := ⟨by kernel_rfl, by decide⟩
theorem enTab_ok : zw.All fun _ f => f.body.isSome = true ∧ f.name ≠ "runtime.NumGoroutine" := by
  unfold zw
  exact (Tr.all_node (Tr.all_node (Tr.all_node (Tr.all_node (Tr.all_node (Tr.all_node (Tr.all_node (Tr.all_node Tr.all_nil en2_ok Tr.all_nil) en3_ok Tr.all_nil) en4_ok (Tr.all_node Tr.all_nil en5_ok Tr.all_nil)) en6_ok (Tr.all_node (Tr.all_node Tr.all_nil en7_ok Tr.all_nil) en8_ok (Tr.all_node Tr.all_nil en9_ok Tr.all_nil))) en10_ok (Tr.all_node (Tr.all_node (Tr.all_node (Tr.all_node Tr.all_nil en11_ok Tr.all_nil) en12_ok Tr.all_nil) en13_ok (Tr.all_node Tr.all_nil en14_ok Tr.all_nil)) en15_ok (Tr.all_node (Tr.all_node Tr.all_nil en16_ok Tr.all_nil) en17_ok (Tr.all_node Tr.all_nil en18_ok Tr.all_nil)))) en19_ok (Tr.all_node (Tr.all_node (Tr.all_node (Tr.all_node (Tr.all_node Tr.all_nil en20_ok Tr.all_nil) en21_ok Tr.all_nil) en22_ok (Tr.all_node Tr.all_nil en23_ok Tr.all_nil)) en24_ok (Tr.all_node (Tr.all_node Tr.all_nil en25_ok Tr.all_nil) en26_ok (Tr.all_node Tr.all_nil en27_ok Tr.all_nil))) en28_ok (Tr.all_node (Tr.all_node (Tr.all_node (Tr.all_node Tr.all_nil en29_ok Tr.all_nil) en30_ok Tr.all_nil) en31_ok (Tr.all_node Tr.all_nil en32_ok Tr.all_nil)) en33_ok (Tr.all_node (Tr.all_node Tr.all_nil en34_ok Tr.all_nil) en35_ok (Tr.all_node Tr.all_nil en36_ok Tr.all_nil))))) en37_ok (Tr.all_node (Tr.all_node (Tr.all_node (Tr.all_node (Tr.all_node (Tr.all_node Tr.all_nil en38_ok Tr.all_nil) en39_ok Tr.all_nil) en40_ok (Tr.all_node Tr.all_nil en41_ok Tr.all_nil)) en42_ok (Tr.all_node (Tr.all_node Tr.all_nil en43_ok Tr.all_nil) en44_ok (Tr.all_node Tr.all_nil en45_ok Tr.all_nil))) en46_ok (Tr.all_node (Tr.all_node (Tr.all_node (Tr.all_node Tr.all_nil en47_ok Tr.all_nil) en48_ok Tr.all_nil) en49_ok (Tr.all_node Tr.all_nil en50_ok Tr.all_nil)) en51_ok (Tr.all_node (Tr.all_node Tr.all_nil en52_ok Tr.all_nil) en53_ok (Tr.all_node Tr.all_nil en54_ok Tr.all_nil)))) en55_ok (Tr.all_node (Tr.all_node (Tr.all_node (Tr.all_node (Tr.all_node Tr.all_nil en56_ok Tr.all_nil) en57_ok Tr.all_nil) en58_ok (Tr.all_node Tr.all_nil en59_ok Tr.all_nil)) en60_ok (Tr.all_node (Tr.all_node Tr.all_nil en61_ok Tr.all_nil) en62_ok (Tr.all_node Tr.all_nil en63_ok Tr.all_nil))) en64_ok (Tr.all_node (Tr.all_node (Tr.all_node Tr.all_nil en65_ok Tr.all_nil) en66_ok (Tr.all_node Tr.all_nil en67_ok Tr.all_nil)) en68_ok (Tr.all_node (Tr.all_node Tr.all_nil en69_ok Tr.all_nil) en70_ok (Tr.all_node Tr.all_nil en71_ok Tr.all_nil)))))) en72_ok (Tr.all_node (Tr.all_node (Tr.all_node (Tr.all_node (Tr.all_node (Tr.all_node (Tr.all_node Tr.all_nil en73_ok Tr.all_nil) en74_ok Tr.all_nil) en75_ok (Tr.all_node Tr.all_nil en76_ok Tr.all_nil)) en77_ok (Tr.all_node (Tr.all_node Tr.all_nil en78_ok Tr.all_nil) en79_ok (Tr.all_node Tr.all_nil en80_ok Tr.all_nil))) en81_ok (Tr.all_node (Tr.all_node (Tr.all_node (Tr.all_node Tr.all_nil en82_ok Tr.all_nil) en83_ok Tr.all_nil) en84_ok (Tr.all_node Tr.all_nil en85_ok Tr.all_nil)) en86_ok (Tr.all_node (Tr.all_node Tr.all_nil en87_ok Tr.all_nil) en88_ok (Tr.all_node Tr.all_nil en89_ok Tr.all_nil)))) en90_ok (Tr.all_node (Tr.all_node (Tr.all_node (Tr.all_node (Tr.all_node Tr.all_nil en91_ok Tr.all_nil) en92_ok Tr.all_nil) en93_ok (Tr.all_node Tr.all_nil en94_ok Tr.all_nil)) en95_ok (Tr.all_node (Tr.all_node Tr.all_nil en96_ok Tr.all_nil) en97_ok (Tr.all_node Tr.all_nil en98_ok Tr.all_nil))) en99_ok (Tr.all_node (Tr.all_node (Tr.all_node (Tr.all_node Tr.all_nil en100_ok Tr.all_nil) en101_ok Tr.all_nil) en102_ok (Tr.all_node Tr.all_nil en103_ok Tr.all_nil)) en104_ok (Tr.all_node (Tr.all_node Tr.all_nil en105_ok Tr.all_nil) en106_ok (Tr.all_node Tr.all_nil en107_ok Tr.all_nil))))) en108_ok (Tr.all_node (Tr.all_node (Tr.all_node (Tr.all_node (Tr.all_node (Tr.all_node Tr.all_nil en109_ok Tr.all_nil) en110_ok Tr.all_nil) en111_ok (Tr.all_node Tr.all_nil en112_ok Tr.all_nil)) en113_ok (Tr.all_node (Tr.all_node Tr.all_nil en114_ok Tr.all_nil) en115_ok (Tr.all_node Tr.all_nil en116_ok Tr.all_nil))) en117_ok (Tr.all_node (Tr.all_node (Tr.all_node (Tr.all_node Tr.all_nil en118_ok Tr.all_nil) en119_ok Tr.all_nil) en120_ok (Tr.all_node Tr.all_nil en121_ok Tr.all_nil)) en122_ok (Tr.all_node (Tr.all_node Tr.all_nil en123_ok Tr.all_nil) en124_ok (Tr.all_node Tr.all_nil en125_ok Tr.all_nil)))) en126_ok (Tr.all_node (Tr.all_node (Tr.all_node (Tr.all_node (Tr.all_node Tr.all_nil en127_ok Tr.all_nil) en128_ok Tr.all_nil) en129_ok (Tr.all_node Tr.all_nil en130_ok Tr.all_nil)) en131_ok (Tr.all_node (Tr.all_node Tr.all_nil en132_ok Tr.all_nil) en133_ok (Tr.all_node Tr.all_nil en134_ok Tr.all_nil))) en135_ok (Tr.all_node (Tr.all_node (Tr.all_node Tr.all_nil en136_ok Tr.all_nil) en137_ok (Tr.all_node Tr.all_nil en138_ok Tr.all_nil)) en139_ok (Tr.all_node (Tr.all_node Tr.all_nil en140_ok Tr.all_nil) en141_ok (Tr.all_node Tr.all_nil en142_ok Tr.all_nil)))))))
theorem cty3 : tyTab.find 3 = some ty3 := by kernel_rfl
theorem cty4 : tyTab.find 4 = some ty4 := by kernel_rfl
theorem cty5 : tyTab.find 5 = some ty5 := by kernel_rfl
theorem cty9 : tyTab.find 9 = some ty9 := by kernel_rfl
theorem cty22 : tyTab.find 22 = some ty22 := by kernel_rfl
theorem cty24 : tyTab.find 24 = some ty24 := by kernel_rfl
theorem cty26 : tyTab.find 26 = some ty26 := by kernel_rfl
theorem cty29 : tyTab.find 29 = some ty29 := by kernel_rfl
theorem cty32 : tyTab.find 32 = some ty32 := by kernel_rfl
theorem cty35 : tyTab.find 35 = some ty35 := by kernel_rfl
theorem cty39 : tyTab.find 39 = some ty39 := by kernel_rfl
theorem cty63 : tyTab.find 63 = some ty63 := by kernel_rfl
theorem cty66 : tyTab.find 66 = some ty66 := by kernel_rfl
theorem cty69 : tyTab.find 69 = some ty69 := by kernel_rfl
theorem cty71 : tyTab.find 71 = some ty71 := by kernel_rfl
theorem cty75 : tyTab.find 75 = some ty75 := by kernel_rfl
theorem cty88 : tyTab.find 88 = some ty88 := by kernel_rfl
theorem cty90 : tyTab.find 90 = some ty90 := by kernel_rfl
theorem cty94 : tyTab.find 94 = some ty94 := by kernel_rfl
theorem cty112 : tyTab.find 112 = some ty112 := by kernel_rfl
theorem cty122 : tyTab.find 122 = some ty122 := by kernel_rfl
theorem cty124 : tyTab.find 124 = some ty124 := by kernel_rfl
theorem cty129 : tyTab.find 129 = some ty129 := by kernel_rfl
theorem cty132 : tyTab.find 132 = some ty132 := by kernel_rfl
theorem cty139 : tyTab.find 139 = some ty139 := by kernel_rfl
theorem cty141 : tyTab.find 141 = some ty141 := by kernel_rfl
theorem cty147 : tyTab.find 147 = some ty147 := by kernel_rfl
theorem cty151 : tyTab.find 151 = some ty151 := by kernel_rfl
theorem cfn2 : zw.find 2 = some Tryz.f2 := by kernel_rfl
theorem cfn3 : zw.find 3 = some Tryz.f3 := by kernel_rfl
theorem cfn4 : zw.find 4 = some Tryz.f4 := by kernel_rfl
theorem cfn5 : zw.find 5 = some Tryz.f5 := by kernel_rfl
theorem cfn6 : zw.find 6 = some Tryz.f6 := by kernel_rfl
theorem cfn7 : zw.find 7 = some Tryz.f7 := by kernel_rfl
theorem cfn8 : zw.find 8 = some Tryz.f8 := by kernel_rfl
theorem cfn9 : zw.find 9 = some Tryz.f9 := by kernel_rfl
theorem cfn10 : zw.find 10 = some Tryz.f10 := by kernel_rfl
theorem cfn11 : zw.find 11 = some Tryz.f11 := by kernel_rfl
theorem cfn12 : zw.find 12 = some Tryz.f12 := by kernel_rfl
theorem cfn13 : zw.find 13 = some Tryz.f13 := by kernel_rfl
theorem cfn14 : zw.find 14 = some Tryz.f14 := by kernel_rfl
theorem cfn15 : zw.find 15 = some Tryz.f15 := by kernel_rfl
theorem cfn16 : zw.find 16 = some Tryz.f16 := by kernel_rfl
theorem cfn17 : zw.find 17 = some Tryz.f17 := by kernel_rfl
theorem cfn18 : zw.find 18 = some Tryz.f18 := by kernel_rfl
theorem cfn19 : zw.find 19 = some Tryz.f19 := by kernel_rfl
theorem cfn20 : zw.find 20 = some Tryz.f20 := by kernel_rfl
theorem cfn21 : zw.find 21 = some Tryz.f21 := by kernel_rfl
theorem cfn22 : zw.find 22 = some Tryz.f22 := by kernel_rfl
theorem cfn23 : zw.find 23 = some Tryz.f23 := by kernel_rfl
theorem cfn24 : zw.find 24 = some Tryz.f24 := by kernel_rfl
theorem cfn25 : zw.find 25 = some Tryz.f25 := by kernel_rfl
theorem cfn26 : zw.find 26 = some Tryz.f26 := by kernel_rfl
theorem cfn27 : zw.find 27 = some Tryz.f27 := by kernel_rfl
theorem cfn28 : zw.find 28 = some Tryz.f28 := by kernel_rfl
theorem cfn29 : zw.find 29 = some Tryz.f29 := by kernel_rfl
theorem cfn30 : zw.find 30 = some Tryz.f30 := by kernel_rfl
theorem cfn31 : zw.find 31 = some Tryz.f31 := by kernel_rfl
theorem cfn32 : zw.find 32 = some Tryz.f32 := by kernel_rfl
theorem cfn33 : zw.find 33 = some Tryz.f33 := by kernel_rfl
theorem cfn34 : zw.find 34 = some Tryz.f34 := by kernel_rfl
theorem cfn35 : zw.find 35 = some Tryz.f35 := by kernel_rfl
theorem cfn36 : zw.find 36 = some Tryz.f36 := by kernel_rfl
theorem cfn37 : zw.find 37 = some Tryz.f37 := by kernel_rfl
theorem cfn38 : zw.find 38 = some Tryz.f38 := by kernel_rfl
theorem cfn39 : zw.find 39 = some Tryz.f39 := by kernel_rfl
theorem cfn40 : zw.find 40 = some Tryz.f40 := by kernel_rfl
theorem cfn41 : zw.find 41 = some Tryz.f41 := by kernel_rfl
theorem cfn42 : zw.find 42 = some Tryz.f42 := by kernel_rfl
theorem cfn43 : zw.find 43 = some Tryz.f43 := by kernel_rfl
theorem cfn44 : zw.find 44 = some Tryz.f44 := by kernel_rfl
theorem cfn45 : zw.find 45 = some Tryz.f45 := by kernel_rfl
theorem cfn46 : zw.find 46 = some Tryz.f46 := by kernel_rfl
theorem cfn47 : zw.find 47 = some Tryz.f47 := by kernel_rfl
theorem cfn48 : zw.find 48 = some Tryz.f48 := by kernel_rfl
theorem cfn49 : zw.find 49 = some Tryz.f49 := by kernel_rfl
theorem cfn50 : zw.find 50 = some Tryz.f50 := by kernel_rfl
theorem cfn51 : zw.find 51 = some Tryz.f51 := by kernel_rfl
theorem cfn52 : zw.find 52 = some Tryz.f52 := by kernel_rfl
theorem cfn53 : zw.find 53 = some Tryz.f53 := by kernel_rfl
theorem cfn54 : zw.find 54 = some Tryz.f54 := by kernel_rfl
theorem cfn55 : zw.find 55 = some Tryz.f55 := by kernel_rfl
theorem cfn56 : zw.find 56 = some Tryz.f56 := by kernel_rfl
theorem cfn57 : zw.find 57 = some Tryz.f57 := by kernel_rfl
theorem cfn58 : zw.find 58 = some Tryz.f58 := by kernel_rfl
theorem cfn59 : zw.find 59 = some Tryz.f59 := by kernel_rfl
theorem cfn60 : zw.find 60 = some Tryz.f60 := by kernel_rfl
theorem cfn61 : zw.find 61 = some Tryz.f61 := by kernel_rfl
theorem cfn62 : zw.find 62 = some Tryz.f62 := by kernel_rfl
theorem cfn63 : zw.find 63 = some Tryz.f63 := by kernel_rfl
theorem cfn64 : zw.find 64 = some Tryz.f64 := by kernel_rfl
theorem cfn65 : zw.find 65 = some Tryz.f65 := by kernel_rfl
theorem cfn67 : zw.find 67 = some Tryz.f67 := by kernel_rfl
theorem cfn68 : zw.find 68 = some Tryz.f68 := by kernel_rfl
theorem cfn69 : zw.find 69 = some Tryz.f69 := by kernel_rfl
theorem cfn70 : zw.find 70 = some Tryz.f70 := by kernel_rfl
theorem cfn71 : zw.find 71 = some Tryz.f71 := by kernel_rfl
theorem cfn72 : zw.find 72 = some Tryz.f72 := by kernel_rfl
theorem cfn73 : zw.find 73 = some Tryz.f73 := by kernel_rfl
theorem cfn74 : zw.find 74 = some Tryz.f74 := by kernel_rfl
theorem cfn75 : zw.find 75 = some Tryz.f75 := by kernel_rfl
theorem cfn76 : zw.find 76 = some Tryz.f76 := by kernel_rfl
theorem cfn77 : zw.find 77 = some Tryz.f77 := by kernel_rfl
theorem cfn78 : zw.find 78 = some Tryz.f78 := by kernel_rfl
theorem cfn79 : zw.find 79 = some Tryz.f79 := by kernel_rfl
theorem cfn80 : zw.find 80 = some Tryz.f80 := by kernel_rfl
theorem cfn81 : zw.find 81 = some Tryz.f81 := by kernel_rfl
theorem cfn82 : zw.find 82 = some Tryz.f82 := by kernel_rfl
theorem cfn83 : zw.find 83 = some Tryz.f83 := by kernel_rfl
theorem cfn84 : zw.find 84 = some Tryz.f84 := by kernel_rfl
theorem cfn87 : zw.find 87 = some Tryz.f87 := by kernel_rfl
theorem cfn88 : zw.find 88 = some Tryz.f88 := by kernel_rfl
theorem cfn89 : zw.find 89 = some Tryz.f89 := by kernel_rfl
theorem cfn90 : zw.find 90 = some Tryz.f90 := by kernel_rfl
theorem cfn91 : zw.find 91 = some Tryz.f91 := by kernel_rfl
theorem cfn92 : zw.find 92 = some Tryz.f92 := by kernel_rfl
theorem cfn93 : zw.find 93 = some Tryz.f93 := by kernel_rfl
theorem cfn95 : zw.find 95 = some Tryz.f95 := by kernel_rfl
theorem cfn96 : zw.find 96 = some Tryz.f96 := by kernel_rfl
theorem cfn97 : zw.find 97 = some Tryz.f97 := by kernel_rfl
theorem cfn98 : zw.find 98 = some Tryz.f98 := by kernel_rfl
theorem cfn99 : zw.find 99 = some Tryz.f99 := by kernel_rfl
theorem cfn100 : zw.find 100 = some Tryz.f100 := by kernel_rfl
theorem cfn101 : zw.find 101 = some Tryz.f101 := by kernel_rfl
theorem cfn102 : zw.find 102 = some Tryz.f102 := by kernel_rfl
theorem cfn103 : zw.find 103 = some Tryz.f103 := by kernel_rfl
theorem cfn105 : zw.find 105 = some Tryz.f105 := by kernel_rfl
theorem cfn106 : zw.find 106 = some Tryz.f106 := by kernel_rfl
theorem cfn107 : zw.find 107 = some Tryz.f107 := by kernel_rfl
theorem cfn108 : zw.find 108 = some Tryz.f108 := by kernel_rfl
theorem cfn111 : zw.find 111 = some Tryz.f111 := by kernel_rfl
theorem cfn112 : zw.find 112 = some Tryz.f112 := by kernel_rfl
theorem cfn120 : zw.find 120 = some Tryz.f120 := by kernel_rfl
theorem cfn123 : zw.find 123 = some Tryz.f123 := by kernel_rfl
theorem cfn124 : zw.find 124 = some Tryz.f124 := by kernel_rfl
theorem cfn134 : zw.find 134 = some Tryz.f134 := by kernel_rfl
theorem lty3 : tyTab.find 3 = some ⟨(.int .i64), 1, 8, (.int .i64 0)⟩ := cty3
theorem lty4 : tyTab.find 4 = some ⟨.bool, 1, 1, (.bool false)⟩ := cty4
theorem lty5 : tyTab.find 5 = some ⟨(.int .u8), 1, 1, (.int .u8 0)⟩ := cty5
theorem lty9 : tyTab.find 9 = some ⟨.str, 1, 16, (.string ⟨#[]⟩)⟩ := cty9
theorem lty22 : tyTab.find 22 = some ⟨(.slice 69), 1, 24, (.slice none 0 0)⟩ := cty22
theorem lty24 : tyTab.find 24 = some ⟨(.struct [(3, 0), (3, 1)]), 2, 16, (.agg #[(.int .i64 0), (.int .i64 0)])⟩ := cty24
theorem lty26 : tyTab.find 26 = some ⟨(.struct [(22, 0), (24, 1)]), 3, 40, (.agg #[(.slice none 0 0), (.int .i64 0), (.int .i64 0)])⟩ := cty26
theorem lty29 : tyTab.find 29 = some ⟨(.int .i64), 1, 8, (.int .i64 0)⟩ := cty29
theorem lty32 : tyTab.find 32 = some ⟨(.slice 3), 1, 24, (.slice none 0 0)⟩ := cty32
theorem lty35 : tyTab.find 35 = some ⟨(.slice 66), 1, 24, (.slice none 0 0)⟩ := cty35
theorem lty39 : tyTab.find 39 = some ⟨.func, 1, 8, .nilFunc⟩ := cty39
theorem lty63 : tyTab.find 63 = some ⟨(.slice 35), 1, 24, (.slice none 0 0)⟩ := cty63
theorem lty66 : tyTab.find 66 = some ⟨(.arr 2 3), 2, 16, (.agg #[(.int .i64 0), (.int .i64 0)])⟩ := cty66
theorem lty69 : tyTab.find 69 = some ⟨(.struct [(24, 0), (3, 2), (3, 3)]), 4, 32, (.agg #[(.int .i64 0), (.int .i64 0), (.int .i64 0), (.int .i64 0)])⟩ := cty69
theorem lty71 : tyTab.find 71 = some ⟨(.slice 32), 1, 24, (.slice none 0 0)⟩ := cty71
theorem lty75 : tyTab.find 75 = some ⟨(.struct [(24, 0), (3, 2), (24, 3)]), 5, 40, (.agg #[(.int .i64 0), (.int .i64 0), (.int .i64 0), (.int .i64 0), (.int .i64 0)])⟩ := cty75
theorem lty88 : tyTab.find 88 = some ⟨.func, 1, 8, .nilFunc⟩ := cty88
theorem lty90 : tyTab.find 90 = some ⟨(.struct [(88, 0)]), 1, 8, (.agg #[.nilFunc])⟩ := cty90
theorem lty94 : tyTab.find 94 = some ⟨.func, 1, 8, .nilFunc⟩ := cty94
theorem lty112 : tyTab.find 112 = some ⟨.func, 1, 8, .nilFunc⟩ := cty112
theorem lty122 : tyTab.find 122 = some ⟨.func, 1, 8, .nilFunc⟩ := cty122
theorem lty124 : tyTab.find 124 = some ⟨.func, 1, 8, .nilFunc⟩ := cty124
theorem lty129 : tyTab.find 129 = some ⟨(.int .u64), 1, 8, (.int .u64 0)⟩ := cty129
theorem lty132 : tyTab.find 132 = some ⟨(.int .i64), 1, 8, (.int .i64 0)⟩ := cty132
theorem lty139 : tyTab.find 139 = some ⟨(.int .u32), 1, 4, (.int .u32 0)⟩ := cty139
theorem lty141 : tyTab.find 141 = some ⟨(.int .u64), 1, 8, (.int .u64 0)⟩ := cty141
theorem lty147 : tyTab.find 147 = some ⟨(.int .u64), 1, 8, (.int .u64 0)⟩ := cty147
theorem lty151 : tyTab.find 151 = some ⟨(.ptr 3), 1, 8, (.pointer none)⟩ := cty151
set_option linter.defProp false
def tys := (And.intro (And.intro (And.intro (And.intro @lty3 (And.intro @lty4 @lty5)) (And.intro (And.intro @lty9 @lty22) (And.intro @lty24 @lty26))) (And.intro (And.intro @lty29 (And.intro @lty32 @lty35)) (And.intro (And.intro @lty39 @lty63) (And.intro @lty66 @lty69)))) (And.intro (And.intro (And.intro @lty71 (And.intro @lty75 @lty88)) (And.intro (And.intro @lty90 @lty94) (And.intro @lty112 @lty122))) (And.intro (And.intro @lty124 (And.intro @lty129 @lty132)) (And.intro (And.intro @lty139 @lty141) (And.intro @lty147 @lty151)))))
noncomputable def find2 (t : Tr (Tr (List Nat))) (f r : Nat) : List Nat := match t.find f with | some u => (match u.find r with | some l => l | none => []) | none => []
end Go.VS

/-
  VS, part W: to walk through code, one operation after the other. (A text of this claim's own; nothing of it is trusted.)
-/
namespace Go.VS
open Go

/-- What is to be done behind the code at hand. -/
inductive Kt where
  | code (c : Code) | block (id : Nat) | scope | loop (a : Code)

section
variable {β : Type} (C : Cfg) (S : Sm) (f : FuncId) (F : Exit → St → Option β)
def contK : List Kt → Exit → St → Option β
  | [], e, st => F e st
  | .code c :: k, e, st => match e with
    | .normal => match zV C S f c st with
      | some (e, st') => contK k e st'
      | none => none
    | e => contK k e st
  | .block id :: k, e, st => match e with
    | .exit id' => if id' = id then contK k .normal st else contK k (.exit id') st
    | e => contK k e st
  | .scope :: k, e, st => match e with
    | .goto _ => none
    | e => contK k e st
  | .loop a :: k, e, st => match e with
    | .normal => match gc (C.keep f (firstRegion a)) st with
      | some st1 => match S.loop f a st1 with
        | some (e, st2) => contK k e st2
        | none => none
      | none => none
    | e => contK k e st
/-- A loop from its head on. -/
def EvL (a : Code) (k : List Kt) (st : St) : Option β := match S.loop f a st with
  | some (e, st') => contK C S f F k e st'
  | none => none
def EvC (c : Code) (k : List Kt) (st : St) : Option β := match zV C S f c st with
  | some (e, st') => contK C S f F k e st'
  | none => none
/-- A region whose order is the text's. -/
def EvU (ops : Array Oper) (l : List Oper) (k : List Kt) (st : St) : Option β := match evOps C S ops l st with
  | some st' => contK C S f F k .normal st'
  | none => none
/-- A region whose order is drawn. -/
def EvD (ops : Array Oper) (l : List Oper) (tr : Trace) (k : List Kt) (st : St) : Option β := match evOpsT C S ops l st with
  | some (st', tr') => if regOK ops && traceOK ops (tr.reverse ++ tr') then contK C S f F k .normal st' else none
  | none => none
end

section
variable {β : Type} {C : Cfg} {S : Sm} {f : FuncId} {F : Exit → St → Option β} {k : List Kt} {st : St} {r : Option β} {a b c : Code}
/-! ### operations -/
variable {ops : Array Oper} {l : List Oper} {o : Oper} {n nxt pin : Nat} {tms tm : List (Nat × D)} {objs ob : List (Nat × Ob)} {d : D} {wr : List Upd} {rd : List Nat} {nx : Nat} {tr : Trace}
/-- What is made of a value: it is written, and on. -/
def Put (n : Nat) (tms : List (Nat × D)) (dst : Option Tmp) (d : D) (G : List (Nat × D) → Prop) : Prop := G (putT n tms dst d)
variable {dst : Option Tmp} {G : List (Nat × D) → Prop} {tm1 tm0 : List (Nat × D)}
theorem ids_val {f : Nat} {v : Value} : idsD (f + 1) (.val v) = some [] := rfl
theorem ids_sl {f : Nat} {nl : Bool} {els : List D} {sz : Nat} {cap : Option Nat} : idsD (f + 1) (.sl nl els sz cap) = some [] := rfl
theorem ids_ptr {f : Nat} {d : D} : idsD (f + 1) (.ptr d) = some [] := rfl
theorem ids_lref {f o i sz sub : Nat} : idsD (f + 1) (.lref o i sz sub) = some [o] := rfl
theorem ids_lsl {f o off len sz : Nat} {cap : Option Nat} : idsD (f + 1) (.lsl o off len sz cap) = some [o] := rfl
theorem ids_agg {f : Nat} {cs : List D} : idsD (f + 1) (.agg cs) = idsL (idsD f) cs := rfl
theorem ids_tup {f : Nat} {cs : List D} : idsD (f + 1) (.tup cs) = idsL (idsD f) cs := rfl
theorem ids_unk {f : Nat} : idsD (f + 1) .unk = some [] := rfl
theorem ren_val {ρ : Nat → Option Nat} {f : Nat} {v : Value} : renD ρ (f + 1) (.val v) = .val v := rfl
theorem ren_sl {ρ : Nat → Option Nat} {f : Nat} {nl : Bool} {els : List D} {sz : Nat} {cap : Option Nat} : renD ρ (f + 1) (.sl nl els sz cap) = .sl nl els sz cap := rfl
theorem ren_ptr {ρ : Nat → Option Nat} {f : Nat} {d : D} : renD ρ (f + 1) (.ptr d) = .ptr d := rfl
theorem ren_lref {ρ : Nat → Option Nat} {f o i sz sub : Nat} : renD ρ (f + 1) (.lref o i sz sub) = match ρ o with | some o' => .lref o' i sz sub | none => .unk := rfl
theorem ren_lsl {ρ : Nat → Option Nat} {f o off len sz : Nat} {cap : Option Nat} : renD ρ (f + 1) (.lsl o off len sz cap) = match ρ o with | some o' => .lsl o' off len sz cap | none => .unk := rfl
theorem ren_agg {ρ : Nat → Option Nat} {f : Nat} {cs : List D} : renD ρ (f + 1) (.agg cs) = .agg (cs.map (renD ρ f)) := rfl
theorem ren_tup {ρ : Nat → Option Nat} {f : Nat} {cs : List D} : renD ρ (f + 1) (.tup cs) = .tup (cs.map (renD ρ f)) := rfl
theorem ren_unk {ρ : Nat → Option Nat} {f : Nat} : renD ρ (f + 1) .unk = .unk := rfl
theorem on_int {k : IntKind} {n : Int} : D.one (.val (.int k n)) = true := rfl
theorem oc_int {k : IntKind} {n : Int} : D.okCells (.val (.int k n)) = true := rfl
theorem ce_int {k : IntKind} {n : Int} : D.cells (.val (.int k n)) = [.val (.int k n)] := rfl
theorem on_bool {b : Bool} : D.one (.val (.bool b)) = true := rfl
theorem oc_bool {b : Bool} : D.okCells (.val (.bool b)) = true := rfl
theorem ce_bool {b : Bool} : D.cells (.val (.bool b)) = [.val (.bool b)] := rfl
theorem on_str {b : ByteArray} : D.one (.val (.string b)) = true := rfl
theorem oc_str {b : ByteArray} : D.okCells (.val (.string b)) = true := rfl
theorem ce_str {b : ByteArray} : D.cells (.val (.string b)) = [.val (.string b)] := rfl
theorem on_vptr {p : Option Addr} : D.one (.val (.pointer p)) = true := rfl
theorem oc_vptr {p : Option Addr} : D.okCells (.val (.pointer p)) = true := rfl
theorem ce_vptr {p : Option Addr} : D.cells (.val (.pointer p)) = [.val (.pointer p)] := rfl
theorem on_vnf  : D.one (.val .nilFunc) = true := rfl
theorem oc_vnf  : D.okCells (.val .nilFunc) = true := rfl
theorem ce_vnf  : D.cells (.val .nilFunc) = [.val .nilFunc] := rfl
theorem on_vni  : D.one (.val .nilIface) = true := rfl
theorem oc_vni  : D.okCells (.val .nilIface) = true := rfl
theorem ce_vni  : D.cells (.val .nilIface) = [.val .nilIface] := rfl
theorem on_sl {nl : Bool} {els : List D} {sz : Nat} {cap : Option Nat} : D.one (.sl nl els sz cap) = true := rfl
theorem oc_sl {nl : Bool} {els : List D} {sz : Nat} {cap : Option Nat} : D.okCells (.sl nl els sz cap) = true := rfl
theorem ce_sl {nl : Bool} {els : List D} {sz : Nat} {cap : Option Nat} : D.cells (.sl nl els sz cap) = [.sl nl els sz cap] := rfl
theorem on_ptr {d : D} : D.one (.ptr d) = true := rfl
theorem oc_ptr {d : D} : D.okCells (.ptr d) = true := rfl
theorem ce_ptr {d : D} : D.cells (.ptr d) = [.ptr d] := rfl
theorem on_lref {o i sz sub : Nat} : D.one (.lref o i sz sub) = true := rfl
theorem oc_lref {o i sz sub : Nat} : D.okCells (.lref o i sz sub) = true := rfl
theorem ce_lref {o i sz sub : Nat} : D.cells (.lref o i sz sub) = [.lref o i sz sub] := rfl
theorem on_lsl {o off len sz : Nat} {cap : Option Nat} : D.one (.lsl o off len sz cap) = true := rfl
theorem oc_lsl {o off len sz : Nat} {cap : Option Nat} : D.okCells (.lsl o off len sz cap) = true := rfl
theorem ce_lsl {o off len sz : Nat} {cap : Option Nat} : D.cells (.lsl o off len sz cap) = [.lsl o off len sz cap] := rfl
theorem on_fn {f : Fn} {a b : List D} : D.one (.fn f a b) = true := rfl
theorem oc_fn {f : Fn} {a b : List D} : D.okCells (.fn f a b) = true := rfl
theorem ce_fn {f : Fn} {a b : List D} : D.cells (.fn f a b) = [.fn f a b] := rfl
theorem on_iface {t : TypeId} {d : D} : D.one (.iface t d) = true := rfl
theorem oc_iface {t : TypeId} {d : D} : D.okCells (.iface t d) = true := rfl
theorem ce_iface {t : TypeId} {d : D} : D.cells (.iface t d) = [.iface t d] := rfl
theorem on_agg {cs : List D} : D.one (.agg cs) = false := rfl
theorem oc_agg {cs : List D} : D.okCells (.agg cs) = allOne cs := rfl
theorem ce_agg {cs : List D} : D.cells (.agg cs) = cs := rfl
section
variable {gO : Nat → Option Ob}
end
def frz (b : Bool) (g : Nat → Option Ob) (ids : List Nat) : List Upd := if b then [] else freeze g ids
theorem frz_nil {b : Bool} {g : Nat → Option Ob} : frz b g [] = [] := by cases b <;> rfl
theorem frz_true {g : Nat → Option Ob} {ids : List Nat} : frz true g ids = [] := rfl
theorem frz_false {g : Nat → Option Ob} {ids : List Nat} : frz false g ids = freeze g ids := rfl
theorem callPure_eq {S : Sm} {objs : List (Nat × Ob)} {nxt : Nat} {K : FuncId} {args : List D} : zb S objs nxt K args = match snapAll (snap (zD objs) fuelD) args with
  | some (args', ids) => match S.pure K args' with
    | some r => some ⟨r, frz (flat fuelD r) (zD objs) ids, ids, nxt⟩
    | none => none
  | none => none := rfl
theorem fl_val {f : Nat} {v : Value} : flat (f + 1) (.val v) = true := rfl
theorem fl_nil {f : Nat} {els : List D} {sz : Nat} {cap : Option Nat} : flat (f + 1) (.sl true els sz cap) = true := rfl
theorem fl_sl {f : Nat} {els : List D} {sz : Nat} {cap : Option Nat} : flat (f + 1) (.sl false els sz cap) = false := rfl
theorem fl_agg {f : Nat} {cs : List D} : flat (f + 1) (.agg cs) = flatL (flat f) cs := rfl
theorem fl_tup {f : Nat} {cs : List D} : flat (f + 1) (.tup cs) = flatL (flat f) cs := rfl
theorem fl_ptr {f : Nat} {d : D} : flat (f + 1) (.ptr d) = false := rfl
theorem fl_fn {f : Nat} {g : Fn} {a b : List D} : flat (f + 1) (.fn g a b) = false := rfl
theorem fl_iface {f : Nat} {t : TypeId} {d : D} : flat (f + 1) (.iface t d) = false := rfl
section
variable {gO : Nat → Option Ob} {f : Nat}
theorem sn_val {v : Value} : snap gO (f + 1) (.val v) = some (.val v, []) := rfl
theorem sn_sl {nl : Bool} {els : List D} {sz : Nat} {cap : Option Nat} : snap gO (f + 1) (.sl nl els sz cap) = some (.sl nl els sz none, []) := rfl
theorem sn_ptr {d : D} : snap gO (f + 1) (.ptr d) = some (.ptr d, []) := rfl
theorem sn_agg {cs : List D} : snap gO (f + 1) (.agg cs) = match snapAll (snap gO f) cs with | some (cs, r) => some (.agg cs, r) | none => none := rfl
theorem sn_tup {cs : List D} : snap gO (f + 1) (.tup cs) = match snapAll (snap gO f) cs with | some (cs, r) => some (.tup cs, r) | none => none := rfl
theorem sn_fn {g : Fn} {a b : List D} : snap gO (f + 1) (.fn g a b) = match snapAll (snap gO f) a, snapAll (snap gO f) b with | some (a, r), some (b, r') => some (.fn g a b, r ++ r') | _, _ => none := rfl
theorem sn_lref {o i sz : Nat} : snap gO (f + 1) (.lref o i sz 0) = match gO o with
      | some ob => if ob.sz = sz then match ob.els[i]? with
        | some e => match snap gO f e with | some (e, r) => some (.ptr e, o :: r) | none => none
        | none => none
        else none
      | none => none := rfl
theorem sn_lsl {o off len sz : Nat} {cap : Option Nat} : snap gO (f + 1) (.lsl o off len sz cap) = match gO o with
      | some ob => if ob.sz = sz && decide (off + len ≤ ob.els.length) then
        match snapAll (snap gO f) ((ob.els.drop off).take len) with | some (es, r) => some (.sl false es sz none, o :: r) | none => none
        else none
      | none => none := rfl
end
/-- A part of code. -/
def subC : List Nat → Code → Code
  | [], c => c
  | i :: p, c => match c with
    | .seq a b => match i with | 0 => subC p a | _ => subC p b
    | .cond _ a b => match i with | 0 => subC p a | _ => subC p b
    | .block _ a => subC p a
    | .loop a => subC p a
    | .scope a => subC p a
    | .rangeFunc _ _ a b => match i with | 0 => subC p a | _ => subC p b
    | c => c
def bodyC (fn : Func) : Code := match fn.body with | some c => c | none => .skip
/-! ### functions -/
/-- What is made of a function's end. -/
def finF (C : Cfg) (fn : Func) (e : Exit) (st : St) : Option (D × List (Nat × Ob) × Nat) := match e with
  | .normal => match resAll C st fn.results.toList with | some ds => some (tupOf ds, st.objs, st.nxt) | none => none
  | .ret => match resAll C st fn.results.toList with | some ds => some (tupOf ds, st.objs, st.nxt) | none => none
  | _ => none
def finP (C : Cfg) (fn : Func) (e : Exit) (st : St) : Option D := match finF C fn e st with
  | some (d, objs, _) => match snap (zD objs) fuelD d with
    | some (d, _) => some d
    | none => none
  | none => none
end
set_option linter.defProp false
/-- Several equations in one. -/
def bO := (And.intro (And.intro (And.intro (And.intro (And.intro @on_int @oc_int) (And.intro @ce_int @on_bool)) (And.intro (And.intro @oc_bool @ce_bool) (And.intro @on_str (And.intro @oc_str @ce_str)))) (And.intro (And.intro (And.intro @on_vptr @oc_vptr) (And.intro @ce_vptr (And.intro @on_vnf @oc_vnf))) (And.intro (And.intro @ce_vnf @on_vni) (And.intro @oc_vni (And.intro @ce_vni @on_sl))))) (And.intro (And.intro (And.intro (And.intro @oc_sl @ce_sl) (And.intro @on_ptr (And.intro @oc_ptr @ce_ptr))) (And.intro (And.intro @on_lref @oc_lref) (And.intro @ce_lref (And.intro @on_lsl @oc_lsl)))) (And.intro (And.intro (And.intro @ce_lsl @on_fn) (And.intro @oc_fn (And.intro @ce_fn @on_iface))) (And.intro (And.intro @oc_iface @ce_iface) (And.intro @on_agg (And.intro @oc_agg @ce_agg))))))
/-- Several equations in one. -/
def bS := (And.intro (And.intro (And.intro (And.intro @sn_val @sn_sl) (And.intro @sn_ptr (And.intro @sn_agg @sn_tup))) (And.intro (And.intro @sn_fn @sn_lref) (And.intro @sn_lsl (And.intro @callPure_eq @frz_nil)))) (And.intro (And.intro (And.intro @frz_true @frz_false) (And.intro @fl_val (And.intro @fl_nil @fl_sl))) (And.intro (And.intro @fl_agg @fl_tup) (And.intro @fl_ptr (And.intro @fl_fn @fl_iface)))))
/-- The size of the elements of a slice that may be nil. -/
def zs (b : Bool) (n : Nat) : Nat := match b with | true => 0 | false => n
theorem zs_false {n : Nat} : zs false n = n := rfl
theorem zs_true {n : Nat} : zs true n = 0 := rfl
attribute [go_sem] zs_true clearD evOp zC get eqb_dec ltb_dec decide_true decide_false cond_true cond_false evBox evAlloc zeroOk zeroD allOne Bool.and_true Bool.true_and Bool.and_self Bool.and_false Bool.false_and Bool.or_false Bool.or_true Bool.false_or Bool.true_or Bool.not_true Bool.not_false if_true newOb List.length_cons List.length_nil just justO evFieldAddr evField fieldOf List.getElem?_cons_zero List.getElem?_cons_succ Nat.zero_add Nat.add_zero Nat.one_ne_zero evLoad evStore setPart elAt zD Ty.isAgg binD binVal binNil nilKind neqOf kindCode binInt isConstO ofV ofCell evPick Bool.false_eq_true if_false List.take List.drop List.map_cons List.map_nil List.append_nil List.nil_append List.cons_append List.set unD callD snapAll fuelD flatL freeze builtinD lenT evIndexAddr ixSlice ixArr intOfD Int.toNat_natCast Int.natCast_nonneg Int.toNat_zero Int.le_refl Nat.zero_mul Nat.mul_zero convD evExtract buildD fillAgg fillCells placesOf argP eqD eqParts onVals eqVal isAggD Nat.le_refl Array.toList_map List.size_toArray List.getElem?_toArray Nat.sub_zero Nat.mul_one evIndex ixVal bO bS putT ins applyUpd oins odel finP finF resAll resOf tupOf evBuildSlice sliceElem fillEls List.replicate appendD appendE elemsD allOk appSl appLsl newRow isSl List.isEmpty evSlice sliceOf slSlice lslSlice optBound boundD capBehind Option.map_some Option.map_none Option.isNone Option.isSome Option.getD_none Option.getD_some rdOf gc gc0 gcWith rootsT keepT rootsO ids_val ids_sl ids_ptr ids_lref ids_lsl ids_agg ids_tup ids_unk idsL liveFrom_nil liveFrom_succ memN fromPin renT ren_val ren_sl ren_ptr ren_lref ren_lsl ren_agg ren_tup ren_unk renN placeOf pinO renO renOb Nat.not_lt_zero Nat.lt_irrefl deepen deepT deepTI deepO deepOI deepA deepAI deepEl deepElI catI
attribute [irreducible] EvC EvU EvD EvL contK Put
end Go.VS

/-
  VS, part W2: rows of elements that hold no names; slices that a loop appends to. (A text of this claim's own; nothing of it is trusted.)
-/
namespace Go.VS
open Go

/-- Elements of a size that lead to none of the call's own objects. -/
structure EncOK {α : Type} (sz : Nat) (f : α → D) : Prop where
  snap : ∀ g n x, snap g (n + 2) (f x) = some (f x, [])
  ids : ∀ n x, idsD (n + 2) (f x) = some []
  ren : ∀ ρ n x, renD ρ (n + 2) (f x) = f x
  ok : ∀ x, (f x).okCells = true ∧ (f x).cells.length = sz
section
variable {α : Type} {sz : Nat} {f : α → D} (h : EncOK sz f)
include h
theorem EncOK.snapAll (g : Nat → Option Ob) (n : Nat) (l : List α) : Go.VS.snapAll (Go.VS.snap g (n + 2)) (l.map f) = some (l.map f, []) := by
  induction l with
  | nil => rfl
  | cons x l ih => simp only [List.map_cons, Go.VS.snapAll, ih, h.snap]; rfl
theorem EncOK.idsL (n : Nat) (l : List α) : Go.VS.idsL (idsD (n + 2)) (l.map f) = some [] := by
  induction l with
  | nil => rfl
  | cons x l ih => simp only [List.map_cons, Go.VS.idsL, ih, h.ids]; rfl
theorem EncOK.renL (ρ : Nat → Option Nat) (n : Nat) (l : List α) : (l.map f).map (renD ρ (n + 2)) = l.map f := by
  rw [List.map_map]; exact List.map_congr_left fun x _ => h.ren ρ n x
theorem EncOK.allOk (l : List α) : Go.VS.allOk sz (l.map f) = true := by
  induction l with
  | nil => rfl
  | cons x l ih => simp only [List.map_cons, Go.VS.allOk, ih, (h.ok x).1, (h.ok x).2, decide_true, Bool.and_self]
end
def gO (k sz : Nat) {α : Type} (f : α → D) (l : List α) : List (Nat × Ob) := match l with | [] => [] | x :: r => [(k, ⟨(x :: r).map f, sz, false⟩)]
section
variable {t : Ty} {sub : Nat}
end
theorem ids_fn {f : Nat} {g : Fn} {a b : List D} : idsD (f + 1) (.fn g a b) = match idsL (idsD f) a, idsL (idsD f) b with | some a, some b => some (a ++ b) | _, _ => none := rfl
theorem ren_fn {ρ : Nat → Option Nat} {f : Nat} {g : Fn} {a b : List D} : renD ρ (f + 1) (.fn g a b) = .fn g (a.map (renD ρ f)) (b.map (renD ρ f)) := rfl
theorem ids_iface {f : Nat} {t : TypeId} {d : D} : idsD (f + 1) (.iface t d) = idsD f d := rfl
theorem ren_iface {ρ : Nat → Option Nat} {f : Nat} {t : TypeId} {d : D} : renD ρ (f + 1) (.iface t d) = .iface t (renD ρ f d) := rfl
set_option linter.defProp false
def bI2 := (And.intro (And.intro @ids_fn @ren_fn) (And.intro @ids_iface @ren_iface))
end Go.VS

namespace Go.VS
open Go Go.Proofs
noncomputable def cfg : Cfg := { P := Tryz.prog, fn := zw.find, ty := tyTab.find, keep := find2 keepTab, inl := fun K => memN K [66, 85, 86, 94, 104, 109, 110, 113, 114, 115, 116, 117, 118, 119, 121, 122, 125, 126, 127, 128, 129, 130, 131, 132, 133, 135, 136, 137, 138, 139, 140, 141, 142], ext := fun _ => none, xinl := fun _ => none, glob := fun _ => none, eqok := fun t => (eqTab.find t).isSome }
theorem cfg_fn : cfg.fn = zw.find := rfl
theorem cfg_ty : cfg.ty = tyTab.find := rfl
theorem cfg_eqok (t : TypeId) : cfg.eqok t = (eqTab.find t).isSome := rfl
theorem cfg_ext (K : FuncId) : cfg.ext K = none := rfl
theorem cfg_xinl (K : FuncId) : cfg.xinl K = none := rfl
theorem ck {S : Sm} {objs : List (Nat × Ob)} {nxt K : Nat} {args : List D} {fn : Func} (h : zw.find K = some fn) (hi : memN K [66, 85, 86, 94, 104, 109, 110, 113, 114, 115, 116, 117, 118, 119, 121, 122, 125, 126, 127, 128, 129, 130, 131, 132, 133, 135, 136, 137, 138, 139, 140, 141, 142] = false) : zu cfg S objs nxt K args = zb S objs nxt K args := by
  simp only [zu, cfg_fn, h]
  rw [show cfg.inl K = memN K [66, 85, 86, 94, 104, 109, 110, 113, 114, 115, 116, 117, 118, 119, 121, 122, 125, 126, 127, 128, 129, 130, 131, 132, 133, 135, 136, 137, 138, 139, 140, 141, 142] from rfl, hi]
  rfl
theorem lck2 {S : Sm} {objs : List (Nat × Ob)} {nxt : Nat} {args : List D} : zu cfg S objs nxt 2 args = zb S objs nxt 2 args := ck cfn2 rfl
theorem lck3 {S : Sm} {objs : List (Nat × Ob)} {nxt : Nat} {args : List D} : zu cfg S objs nxt 3 args = zb S objs nxt 3 args := ck cfn3 rfl
theorem lck4 {S : Sm} {objs : List (Nat × Ob)} {nxt : Nat} {args : List D} : zu cfg S objs nxt 4 args = zb S objs nxt 4 args := ck cfn4 rfl
theorem lck5 {S : Sm} {objs : List (Nat × Ob)} {nxt : Nat} {args : List D} : zu cfg S objs nxt 5 args = zb S objs nxt 5 args := ck cfn5 rfl
theorem lck6 {S : Sm} {objs : List (Nat × Ob)} {nxt : Nat} {args : List D} : zu cfg S objs nxt 6 args = zb S objs nxt 6 args := ck cfn6 rfl
theorem lck7 {S : Sm} {objs : List (Nat × Ob)} {nxt : Nat} {args : List D} : zu cfg S objs nxt 7 args = zb S objs nxt 7 args := ck cfn7 rfl
theorem lck8 {S : Sm} {objs : List (Nat × Ob)} {nxt : Nat} {args : List D} : zu cfg S objs nxt 8 args = zb S objs nxt 8 args := ck cfn8 rfl
theorem lck9 {S : Sm} {objs : List (Nat × Ob)} {nxt : Nat} {args : List D} : zu cfg S objs nxt 9 args = zb S objs nxt 9 args := ck cfn9 rfl
theorem lck10 {S : Sm} {objs : List (Nat × Ob)} {nxt : Nat} {args : List D} : zu cfg S objs nxt 10 args = zb S objs nxt 10 args := ck cfn10 rfl
theorem lck11 {S : Sm} {objs : List (Nat × Ob)} {nxt : Nat} {args : List D} : zu cfg S objs nxt 11 args = zb S objs nxt 11 args := ck cfn11 rfl
theorem lck12 {S : Sm} {objs : List (Nat × Ob)} {nxt : Nat} {args : List D} : zu cfg S objs nxt 12 args = zb S objs nxt 12 args := ck cfn12 rfl
theorem lck13 {S : Sm} {objs : List (Nat × Ob)} {nxt : Nat} {args : List D} : zu cfg S objs nxt 13 args = zb S objs nxt 13 args := ck cfn13 rfl
theorem lck14 {S : Sm} {objs : List (Nat × Ob)} {nxt : Nat} {args : List D} : zu cfg S objs nxt 14 args = zb S objs nxt 14 args := ck cfn14 rfl
theorem lck15 {S : Sm} {objs : List (Nat × Ob)} {nxt : Nat} {args : List D} : zu cfg S objs nxt 15 args = zb S objs nxt 15 args := ck cfn15 rfl
theorem lck16 {S : Sm} {objs : List (Nat × Ob)} {nxt : Nat} {args : List D} : zu cfg S objs nxt 16 args = zb S objs nxt 16 args := ck cfn16 rfl
theorem lck17 {S : Sm} {objs : List (Nat × Ob)} {nxt : Nat} {args : List D} : zu cfg S objs nxt 17 args = zb S objs nxt 17 args := ck cfn17 rfl
theorem lck18 {S : Sm} {objs : List (Nat × Ob)} {nxt : Nat} {args : List D} : zu cfg S objs nxt 18 args = zb S objs nxt 18 args := ck cfn18 rfl
theorem lck19 {S : Sm} {objs : List (Nat × Ob)} {nxt : Nat} {args : List D} : zu cfg S objs nxt 19 args = zb S objs nxt 19 args := ck cfn19 rfl
theorem lck20 {S : Sm} {objs : List (Nat × Ob)} {nxt : Nat} {args : List D} : zu cfg S objs nxt 20 args = zb S objs nxt 20 args := ck cfn20 rfl
theorem lck21 {S : Sm} {objs : List (Nat × Ob)} {nxt : Nat} {args : List D} : zu cfg S objs nxt 21 args = zb S objs nxt 21 args := ck cfn21 rfl
theorem lck22 {S : Sm} {objs : List (Nat × Ob)} {nxt : Nat} {args : List D} : zu cfg S objs nxt 22 args = zb S objs nxt 22 args := ck cfn22 rfl
theorem lck23 {S : Sm} {objs : List (Nat × Ob)} {nxt : Nat} {args : List D} : zu cfg S objs nxt 23 args = zb S objs nxt 23 args := ck cfn23 rfl
theorem lck24 {S : Sm} {objs : List (Nat × Ob)} {nxt : Nat} {args : List D} : zu cfg S objs nxt 24 args = zb S objs nxt 24 args := ck cfn24 rfl
theorem lck25 {S : Sm} {objs : List (Nat × Ob)} {nxt : Nat} {args : List D} : zu cfg S objs nxt 25 args = zb S objs nxt 25 args := ck cfn25 rfl
theorem lck26 {S : Sm} {objs : List (Nat × Ob)} {nxt : Nat} {args : List D} : zu cfg S objs nxt 26 args = zb S objs nxt 26 args := ck cfn26 rfl
theorem lck27 {S : Sm} {objs : List (Nat × Ob)} {nxt : Nat} {args : List D} : zu cfg S objs nxt 27 args = zb S objs nxt 27 args := ck cfn27 rfl
theorem lck28 {S : Sm} {objs : List (Nat × Ob)} {nxt : Nat} {args : List D} : zu cfg S objs nxt 28 args = zb S objs nxt 28 args := ck cfn28 rfl
theorem lck29 {S : Sm} {objs : List (Nat × Ob)} {nxt : Nat} {args : List D} : zu cfg S objs nxt 29 args = zb S objs nxt 29 args := ck cfn29 rfl
theorem lck30 {S : Sm} {objs : List (Nat × Ob)} {nxt : Nat} {args : List D} : zu cfg S objs nxt 30 args = zb S objs nxt 30 args := ck cfn30 rfl
theorem lck31 {S : Sm} {objs : List (Nat × Ob)} {nxt : Nat} {args : List D} : zu cfg S objs nxt 31 args = zb S objs nxt 31 args := ck cfn31 rfl
theorem lck32 {S : Sm} {objs : List (Nat × Ob)} {nxt : Nat} {args : List D} : zu cfg S objs nxt 32 args = zb S objs nxt 32 args := ck cfn32 rfl
theorem lck33 {S : Sm} {objs : List (Nat × Ob)} {nxt : Nat} {args : List D} : zu cfg S objs nxt 33 args = zb S objs nxt 33 args := ck cfn33 rfl
theorem lck34 {S : Sm} {objs : List (Nat × Ob)} {nxt : Nat} {args : List D} : zu cfg S objs nxt 34 args = zb S objs nxt 34 args := ck cfn34 rfl
theorem lck35 {S : Sm} {objs : List (Nat × Ob)} {nxt : Nat} {args : List D} : zu cfg S objs nxt 35 args = zb S objs nxt 35 args := ck cfn35 rfl
theorem lck36 {S : Sm} {objs : List (Nat × Ob)} {nxt : Nat} {args : List D} : zu cfg S objs nxt 36 args = zb S objs nxt 36 args := ck cfn36 rfl
theorem lck37 {S : Sm} {objs : List (Nat × Ob)} {nxt : Nat} {args : List D} : zu cfg S objs nxt 37 args = zb S objs nxt 37 args := ck cfn37 rfl
theorem lck38 {S : Sm} {objs : List (Nat × Ob)} {nxt : Nat} {args : List D} : zu cfg S objs nxt 38 args = zb S objs nxt 38 args := ck cfn38 rfl
theorem lck39 {S : Sm} {objs : List (Nat × Ob)} {nxt : Nat} {args : List D} : zu cfg S objs nxt 39 args = zb S objs nxt 39 args := ck cfn39 rfl
theorem lck40 {S : Sm} {objs : List (Nat × Ob)} {nxt : Nat} {args : List D} : zu cfg S objs nxt 40 args = zb S objs nxt 40 args := ck cfn40 rfl
theorem lck41 {S : Sm} {objs : List (Nat × Ob)} {nxt : Nat} {args : List D} : zu cfg S objs nxt 41 args = zb S objs nxt 41 args := ck cfn41 rfl
theorem lck42 {S : Sm} {objs : List (Nat × Ob)} {nxt : Nat} {args : List D} : zu cfg S objs nxt 42 args = zb S objs nxt 42 args := ck cfn42 rfl
theorem lck43 {S : Sm} {objs : List (Nat × Ob)} {nxt : Nat} {args : List D} : zu cfg S objs nxt 43 args = zb S objs nxt 43 args := ck cfn43 rfl
theorem lck44 {S : Sm} {objs : List (Nat × Ob)} {nxt : Nat} {args : List D} : zu cfg S objs nxt 44 args = zb S objs nxt 44 args := ck cfn44 rfl
theorem lck45 {S : Sm} {objs : List (Nat × Ob)} {nxt : Nat} {args : List D} : zu cfg S objs nxt 45 args = zb S objs nxt 45 args := ck cfn45 rfl
theorem lck46 {S : Sm} {objs : List (Nat × Ob)} {nxt : Nat} {args : List D} : zu cfg S objs nxt 46 args = zb S objs nxt 46 args := ck cfn46 rfl
theorem lck47 {S : Sm} {objs : List (Nat × Ob)} {nxt : Nat} {args : List D} : zu cfg S objs nxt 47 args = zb S objs nxt 47 args := ck cfn47 rfl
theorem lck48 {S : Sm} {objs : List (Nat × Ob)} {nxt : Nat} {args : List D} : zu cfg S objs nxt 48 args = zb S objs nxt 48 args := ck cfn48 rfl
theorem lck49 {S : Sm} {objs : List (Nat × Ob)} {nxt : Nat} {args : List D} : zu cfg S objs nxt 49 args = zb S objs nxt 49 args := ck cfn49 rfl
theorem lck50 {S : Sm} {objs : List (Nat × Ob)} {nxt : Nat} {args : List D} : zu cfg S objs nxt 50 args = zb S objs nxt 50 args := ck cfn50 rfl
theorem lck51 {S : Sm} {objs : List (Nat × Ob)} {nxt : Nat} {args : List D} : zu cfg S objs nxt 51 args = zb S objs nxt 51 args := ck cfn51 rfl
theorem lck52 {S : Sm} {objs : List (Nat × Ob)} {nxt : Nat} {args : List D} : zu cfg S objs nxt 52 args = zb S objs nxt 52 args := ck cfn52 rfl
theorem lck53 {S : Sm} {objs : List (Nat × Ob)} {nxt : Nat} {args : List D} : zu cfg S objs nxt 53 args = zb S objs nxt 53 args := ck cfn53 rfl
theorem lck54 {S : Sm} {objs : List (Nat × Ob)} {nxt : Nat} {args : List D} : zu cfg S objs nxt 54 args = zb S objs nxt 54 args := ck cfn54 rfl
theorem lck55 {S : Sm} {objs : List (Nat × Ob)} {nxt : Nat} {args : List D} : zu cfg S objs nxt 55 args = zb S objs nxt 55 args := ck cfn55 rfl
theorem lck56 {S : Sm} {objs : List (Nat × Ob)} {nxt : Nat} {args : List D} : zu cfg S objs nxt 56 args = zb S objs nxt 56 args := ck cfn56 rfl
theorem lck57 {S : Sm} {objs : List (Nat × Ob)} {nxt : Nat} {args : List D} : zu cfg S objs nxt 57 args = zb S objs nxt 57 args := ck cfn57 rfl
theorem lck58 {S : Sm} {objs : List (Nat × Ob)} {nxt : Nat} {args : List D} : zu cfg S objs nxt 58 args = zb S objs nxt 58 args := ck cfn58 rfl
theorem lck59 {S : Sm} {objs : List (Nat × Ob)} {nxt : Nat} {args : List D} : zu cfg S objs nxt 59 args = zb S objs nxt 59 args := ck cfn59 rfl
theorem lck60 {S : Sm} {objs : List (Nat × Ob)} {nxt : Nat} {args : List D} : zu cfg S objs nxt 60 args = zb S objs nxt 60 args := ck cfn60 rfl
theorem lck61 {S : Sm} {objs : List (Nat × Ob)} {nxt : Nat} {args : List D} : zu cfg S objs nxt 61 args = zb S objs nxt 61 args := ck cfn61 rfl
theorem lck62 {S : Sm} {objs : List (Nat × Ob)} {nxt : Nat} {args : List D} : zu cfg S objs nxt 62 args = zb S objs nxt 62 args := ck cfn62 rfl
theorem lck63 {S : Sm} {objs : List (Nat × Ob)} {nxt : Nat} {args : List D} : zu cfg S objs nxt 63 args = zb S objs nxt 63 args := ck cfn63 rfl
theorem lck64 {S : Sm} {objs : List (Nat × Ob)} {nxt : Nat} {args : List D} : zu cfg S objs nxt 64 args = zb S objs nxt 64 args := ck cfn64 rfl
theorem lck65 {S : Sm} {objs : List (Nat × Ob)} {nxt : Nat} {args : List D} : zu cfg S objs nxt 65 args = zb S objs nxt 65 args := ck cfn65 rfl
theorem lck67 {S : Sm} {objs : List (Nat × Ob)} {nxt : Nat} {args : List D} : zu cfg S objs nxt 67 args = zb S objs nxt 67 args := ck cfn67 rfl
theorem lck68 {S : Sm} {objs : List (Nat × Ob)} {nxt : Nat} {args : List D} : zu cfg S objs nxt 68 args = zb S objs nxt 68 args := ck cfn68 rfl
theorem lck69 {S : Sm} {objs : List (Nat × Ob)} {nxt : Nat} {args : List D} : zu cfg S objs nxt 69 args = zb S objs nxt 69 args := ck cfn69 rfl
theorem lck70 {S : Sm} {objs : List (Nat × Ob)} {nxt : Nat} {args : List D} : zu cfg S objs nxt 70 args = zb S objs nxt 70 args := ck cfn70 rfl
theorem lck71 {S : Sm} {objs : List (Nat × Ob)} {nxt : Nat} {args : List D} : zu cfg S objs nxt 71 args = zb S objs nxt 71 args := ck cfn71 rfl
theorem lck72 {S : Sm} {objs : List (Nat × Ob)} {nxt : Nat} {args : List D} : zu cfg S objs nxt 72 args = zb S objs nxt 72 args := ck cfn72 rfl
theorem lck73 {S : Sm} {objs : List (Nat × Ob)} {nxt : Nat} {args : List D} : zu cfg S objs nxt 73 args = zb S objs nxt 73 args := ck cfn73 rfl
theorem lck74 {S : Sm} {objs : List (Nat × Ob)} {nxt : Nat} {args : List D} : zu cfg S objs nxt 74 args = zb S objs nxt 74 args := ck cfn74 rfl
theorem lck75 {S : Sm} {objs : List (Nat × Ob)} {nxt : Nat} {args : List D} : zu cfg S objs nxt 75 args = zb S objs nxt 75 args := ck cfn75 rfl
theorem lck76 {S : Sm} {objs : List (Nat × Ob)} {nxt : Nat} {args : List D} : zu cfg S objs nxt 76 args = zb S objs nxt 76 args := ck cfn76 rfl
theorem lck77 {S : Sm} {objs : List (Nat × Ob)} {nxt : Nat} {args : List D} : zu cfg S objs nxt 77 args = zb S objs nxt 77 args := ck cfn77 rfl
theorem lck78 {S : Sm} {objs : List (Nat × Ob)} {nxt : Nat} {args : List D} : zu cfg S objs nxt 78 args = zb S objs nxt 78 args := ck cfn78 rfl
theorem lck79 {S : Sm} {objs : List (Nat × Ob)} {nxt : Nat} {args : List D} : zu cfg S objs nxt 79 args = zb S objs nxt 79 args := ck cfn79 rfl
theorem lck80 {S : Sm} {objs : List (Nat × Ob)} {nxt : Nat} {args : List D} : zu cfg S objs nxt 80 args = zb S objs nxt 80 args := ck cfn80 rfl
theorem lck81 {S : Sm} {objs : List (Nat × Ob)} {nxt : Nat} {args : List D} : zu cfg S objs nxt 81 args = zb S objs nxt 81 args := ck cfn81 rfl
theorem lck82 {S : Sm} {objs : List (Nat × Ob)} {nxt : Nat} {args : List D} : zu cfg S objs nxt 82 args = zb S objs nxt 82 args := ck cfn82 rfl
theorem lck83 {S : Sm} {objs : List (Nat × Ob)} {nxt : Nat} {args : List D} : zu cfg S objs nxt 83 args = zb S objs nxt 83 args := ck cfn83 rfl
theorem lck84 {S : Sm} {objs : List (Nat × Ob)} {nxt : Nat} {args : List D} : zu cfg S objs nxt 84 args = zb S objs nxt 84 args := ck cfn84 rfl
theorem lck87 {S : Sm} {objs : List (Nat × Ob)} {nxt : Nat} {args : List D} : zu cfg S objs nxt 87 args = zb S objs nxt 87 args := ck cfn87 rfl
theorem lck88 {S : Sm} {objs : List (Nat × Ob)} {nxt : Nat} {args : List D} : zu cfg S objs nxt 88 args = zb S objs nxt 88 args := ck cfn88 rfl
theorem lck89 {S : Sm} {objs : List (Nat × Ob)} {nxt : Nat} {args : List D} : zu cfg S objs nxt 89 args = zb S objs nxt 89 args := ck cfn89 rfl
theorem lck90 {S : Sm} {objs : List (Nat × Ob)} {nxt : Nat} {args : List D} : zu cfg S objs nxt 90 args = zb S objs nxt 90 args := ck cfn90 rfl
theorem lck91 {S : Sm} {objs : List (Nat × Ob)} {nxt : Nat} {args : List D} : zu cfg S objs nxt 91 args = zb S objs nxt 91 args := ck cfn91 rfl
theorem lck92 {S : Sm} {objs : List (Nat × Ob)} {nxt : Nat} {args : List D} : zu cfg S objs nxt 92 args = zb S objs nxt 92 args := ck cfn92 rfl
theorem lck93 {S : Sm} {objs : List (Nat × Ob)} {nxt : Nat} {args : List D} : zu cfg S objs nxt 93 args = zb S objs nxt 93 args := ck cfn93 rfl
theorem lck95 {S : Sm} {objs : List (Nat × Ob)} {nxt : Nat} {args : List D} : zu cfg S objs nxt 95 args = zb S objs nxt 95 args := ck cfn95 rfl
theorem lck96 {S : Sm} {objs : List (Nat × Ob)} {nxt : Nat} {args : List D} : zu cfg S objs nxt 96 args = zb S objs nxt 96 args := ck cfn96 rfl
theorem lck97 {S : Sm} {objs : List (Nat × Ob)} {nxt : Nat} {args : List D} : zu cfg S objs nxt 97 args = zb S objs nxt 97 args := ck cfn97 rfl
theorem lck98 {S : Sm} {objs : List (Nat × Ob)} {nxt : Nat} {args : List D} : zu cfg S objs nxt 98 args = zb S objs nxt 98 args := ck cfn98 rfl
theorem lck99 {S : Sm} {objs : List (Nat × Ob)} {nxt : Nat} {args : List D} : zu cfg S objs nxt 99 args = zb S objs nxt 99 args := ck cfn99 rfl
theorem lck100 {S : Sm} {objs : List (Nat × Ob)} {nxt : Nat} {args : List D} : zu cfg S objs nxt 100 args = zb S objs nxt 100 args := ck cfn100 rfl
theorem lck101 {S : Sm} {objs : List (Nat × Ob)} {nxt : Nat} {args : List D} : zu cfg S objs nxt 101 args = zb S objs nxt 101 args := ck cfn101 rfl
theorem lck102 {S : Sm} {objs : List (Nat × Ob)} {nxt : Nat} {args : List D} : zu cfg S objs nxt 102 args = zb S objs nxt 102 args := ck cfn102 rfl
theorem lck103 {S : Sm} {objs : List (Nat × Ob)} {nxt : Nat} {args : List D} : zu cfg S objs nxt 103 args = zb S objs nxt 103 args := ck cfn103 rfl
theorem lck105 {S : Sm} {objs : List (Nat × Ob)} {nxt : Nat} {args : List D} : zu cfg S objs nxt 105 args = zb S objs nxt 105 args := ck cfn105 rfl
theorem lck106 {S : Sm} {objs : List (Nat × Ob)} {nxt : Nat} {args : List D} : zu cfg S objs nxt 106 args = zb S objs nxt 106 args := ck cfn106 rfl
theorem lck107 {S : Sm} {objs : List (Nat × Ob)} {nxt : Nat} {args : List D} : zu cfg S objs nxt 107 args = zb S objs nxt 107 args := ck cfn107 rfl
theorem lck108 {S : Sm} {objs : List (Nat × Ob)} {nxt : Nat} {args : List D} : zu cfg S objs nxt 108 args = zb S objs nxt 108 args := ck cfn108 rfl
theorem lck111 {S : Sm} {objs : List (Nat × Ob)} {nxt : Nat} {args : List D} : zu cfg S objs nxt 111 args = zb S objs nxt 111 args := ck cfn111 rfl
theorem lck112 {S : Sm} {objs : List (Nat × Ob)} {nxt : Nat} {args : List D} : zu cfg S objs nxt 112 args = zb S objs nxt 112 args := ck cfn112 rfl
theorem lck120 {S : Sm} {objs : List (Nat × Ob)} {nxt : Nat} {args : List D} : zu cfg S objs nxt 120 args = zb S objs nxt 120 args := ck cfn120 rfl
theorem lck123 {S : Sm} {objs : List (Nat × Ob)} {nxt : Nat} {args : List D} : zu cfg S objs nxt 123 args = zb S objs nxt 123 args := ck cfn123 rfl
theorem lck124 {S : Sm} {objs : List (Nat × Ob)} {nxt : Nat} {args : List D} : zu cfg S objs nxt 124 args = zb S objs nxt 124 args := ck cfn124 rfl
theorem lck134 {S : Sm} {objs : List (Nat × Ob)} {nxt : Nat} {args : List D} : zu cfg S objs nxt 134 args = zb S objs nxt 134 args := ck cfn134 rfl

set_option linter.defProp false
def cks := (And.intro (And.intro (And.intro (And.intro (And.intro (And.intro @lck2 (And.intro @lck3 @lck4)) (And.intro @lck5 (And.intro @lck6 @lck7))) (And.intro (And.intro @lck8 (And.intro @lck9 @lck10)) (And.intro (And.intro @lck11 @lck12) (And.intro @lck13 @lck14)))) (And.intro (And.intro (And.intro @lck15 (And.intro @lck16 @lck17)) (And.intro (And.intro @lck18 @lck19) (And.intro @lck20 @lck21))) (And.intro (And.intro @lck22 (And.intro @lck23 @lck24)) (And.intro (And.intro @lck25 @lck26) (And.intro @lck27 @lck28))))) (And.intro (And.intro (And.intro (And.intro @lck29 (And.intro @lck30 @lck31)) (And.intro @lck32 (And.intro @lck33 @lck34))) (And.intro (And.intro @lck35 (And.intro @lck36 @lck37)) (And.intro (And.intro @lck38 @lck39) (And.intro @lck40 @lck41)))) (And.intro (And.intro (And.intro @lck42 (And.intro @lck43 @lck44)) (And.intro (And.intro @lck45 @lck46) (And.intro @lck47 @lck48))) (And.intro (And.intro @lck49 (And.intro @lck50 @lck51)) (And.intro (And.intro @lck52 @lck53) (And.intro @lck54 @lck55)))))) (And.intro (And.intro (And.intro (And.intro (And.intro @lck56 (And.intro @lck57 @lck58)) (And.intro @lck59 (And.intro @lck60 @lck61))) (And.intro (And.intro @lck62 (And.intro @lck63 @lck64)) (And.intro (And.intro @lck65 @lck67) (And.intro @lck68 @lck69)))) (And.intro (And.intro (And.intro @lck70 (And.intro @lck71 @lck72)) (And.intro (And.intro @lck73 @lck74) (And.intro @lck75 @lck76))) (And.intro (And.intro @lck77 (And.intro @lck78 @lck79)) (And.intro (And.intro @lck80 @lck81) (And.intro @lck82 @lck83))))) (And.intro (And.intro (And.intro (And.intro @lck84 (And.intro @lck87 @lck88)) (And.intro @lck89 (And.intro @lck90 @lck91))) (And.intro (And.intro @lck92 (And.intro @lck93 @lck95)) (And.intro (And.intro @lck96 @lck97) (And.intro @lck98 @lck99)))) (And.intro (And.intro (And.intro @lck100 (And.intro @lck101 @lck102)) (And.intro (And.intro @lck103 @lck105) (And.intro @lck106 @lck107))) (And.intro (And.intro @lck108 (And.intro @lck111 @lck112)) (And.intro (And.intro @lck120 @lck123) (And.intro @lck124 @lck134)))))))
attribute [go_sem] tys cks cfg_ty cfg_eqok zs_false
end Go.VS

/-
  VS, part V: a way through code, what it meets being told beforehand. (A text of this claim's own; nothing of it is trusted.)
-/
namespace Go.VS
open Go

/-- What is told: how a Bool turns out; what a call answers; an element of a slice; what an operation comes to; what a loop, a range over a function come to. -/
inductive Ora where
  | dec (b : Bool)
  | pure (d : D)
  | pureS (d : D) (fl : Bool) (a : List (Nat × D × List Nat))
  | inl (d : D) (objs : List (Nat × Ob)) (nxt : Nat)
  | inlS (ids : List Nat) (d : D) (objs : List (Nat × Ob)) (nxt : Nat)
  | el (d : D)
  | op (t : Option Tmp) (r : Out)
  | rw (t : Tmp) (d : D)
  | stS (k : Nat) (r : Out)
  | loop (e : Exit) (st : St)
  | gloop (st1 : St) (e : Exit) (st : St)
  | iter (objs : List (Nat × Ob)) (nxt : Nat) (p : Option Code)
  | loopY (e : Exit) (st : St) (p : Option Code)
  | gloopY (st1 : St) (e : Exit) (st : St) (p : Option Code)
  | cut
def allP : List Prop → Prop
  | [] => True
  | p :: r => p ∧ allP r
def dead : Sm := ⟨fun _ _ => none, fun _ _ _ _ => none, fun _ _ _ => none, fun _ _ _ _ => none, fun _ _ _ _ _ => none⟩
theorem dead_le (S : Sm) : Le dead S := ⟨fun _ _ _ h => by simp [dead] at h, fun _ _ _ _ _ h => by simp [dead] at h, fun _ _ _ _ h => by simp [dead] at h, fun _ _ _ _ _ h => by simp [dead] at h, fun _ _ _ _ _ _ h => by simp [dead] at h⟩

/-! ### copies, rows being told -/
abbrev SA := List (Nat × D × List Nat)
def snapAllP (g : D → SA → List Prop → Option (D × List Nat × SA × List Prop)) : List D → SA → List Prop → Option (List D × List Nat × SA × List Prop)
  | [], a, p => some ([], [], a, p)
  | d :: ds, a, p => match g d a p with
    | some (d, r, a, p) => match snapAllP g ds a p with
      | some (ds, r', a, p) => some (d :: ds, r ++ r', a, p)
      | none => none
    | none => none
def hitS (o f : Nat) : SA → Option (D × List Nat × SA)
  | (o', d, r) :: a => match eqb o o' && ltb 1 f with | true => some (d, r, a) | false => none
  | [] => none
def snapP (gO : Nat → Option Ob) : Nat → D → SA → List Prop → Option (D × List Nat × SA × List Prop)
  | 0, _, _, _ => none
  | f + 1, d, a, p => match d with
    | .agg cs => match snapAllP (snapP gO f) cs a p with | some (cs, r, a, p) => some (.agg cs, r, a, p) | none => none
    | .tup cs => match snapAllP (snapP gO f) cs a p with | some (cs, r, a, p) => some (.tup cs, r, a, p) | none => none
    | .fn g x y => match snapAllP (snapP gO f) x a p with
      | some (x, r, a, p) => match snapAllP (snapP gO f) y a p with
        | some (y, r', a, p) => some (.fn g x y, r ++ r', a, p)
        | none => none
      | none => none
    | .lref o i sz sub => if sub = 0 then match gO o with
      | some ob => if ob.sz = sz then match ob.els[i]? with
        | some e => match snapP gO f e a p with | some (e, r, a, p) => some (.ptr e, o :: r, a, p) | none => none
        | none => none
        else none
      | none => none
      else none
    | .lsl o off len sz cap => match hitS o f a with
      | some (d, r, a) => some (d, r, a, (∀ n, snap gO (n + 3) (.lsl o off len sz cap) = some (d, r)) :: p)
      | none => match snap gO (f + 1) (.lsl o off len sz cap) with | some (d, r) => some (d, r, a, p) | none => none
    | d => match snap gO (f + 1) d with | some (d, r) => some (d, r, a, p) | none => none
theorem snapAllP_sound {gO : Nat → Option Ob} {f : Nat} (ih : ∀ d a p d' r a' p', snapP gO f d a p = some (d', r, a', p') → allP p' → snap gO f d = some (d', r) ∧ allP p) :
    ∀ ds a p ds' r a' p', snapAllP (snapP gO f) ds a p = some (ds', r, a', p') → allP p' → snapAll (snap gO f) ds = some (ds', r) ∧ allP p
  | [], a, p, ds', r, a', p', h, hp => by simp only [snapAllP, Option.some.injEq, Prod.mk.injEq] at h; obtain ⟨rfl, rfl, rfl, rfl⟩ := h; exact ⟨rfl, hp⟩
  | d :: ds, a, p, ds', r, a', p', h, hp => by
    simp only [snapAllP] at h
    split at h
    · rename_i d1 r1 a1 p1 h1
      split at h
      · rename_i ds2 r2 a2 p2 h2
        cases h
        obtain ⟨h3, h4⟩ := snapAllP_sound ih _ _ _ _ _ _ _ h2 hp
        obtain ⟨h5, h6⟩ := ih _ _ _ _ _ _ _ h1 h4
        simp only [snapAll, h5, h3]
        exact ⟨trivial, h6⟩
      · cases h
    · cases h
theorem snapP_sound {gO : Nat → Option Ob} : ∀ (f : Nat) (d : D) (a : SA) (p : List Prop) (d' : D) (r : List Nat) (a' : SA) (p' : List Prop), snapP gO f d a p = some (d', r, a', p') → allP p' → snap gO f d = some (d', r) ∧ allP p
  | 0, _, _, _, _, _, _, _, h, _ => by simp [snapP] at h
  | f + 1, d, a, p, d', r, a', p', h, hp => by
    have ih := snapAllP_sound (gO := gO) (f := f) (fun d a p d' r a' p' h hp => snapP_sound f d a p d' r a' p' h hp)
    unfold snapP at h
    split at h
    · split at h
      · rename_i h1
        cases h
        obtain ⟨h2, h3⟩ := ih _ _ _ _ _ _ _ h1 hp
        simp only [snap, h2]
        exact ⟨trivial, h3⟩
      · cases h
    · split at h
      · rename_i h1
        cases h
        obtain ⟨h2, h3⟩ := ih _ _ _ _ _ _ _ h1 hp
        simp only [snap, h2]
        exact ⟨trivial, h3⟩
      · cases h
    · split at h
      · rename_i h1
        split at h
        · rename_i h2
          cases h
          obtain ⟨h3, h4⟩ := ih _ _ _ _ _ _ _ h2 hp
          obtain ⟨h5, h6⟩ := ih _ _ _ _ _ _ _ h1 h4
          simp only [snap, h3, h5]
          exact ⟨trivial, h6⟩
        · cases h
      · cases h
    · split at h
      · rename_i hsub
        split at h
        · rename_i ob hob
          split at h
          · rename_i hsz
            split at h
            · rename_i e he
              split at h
              · rename_i h1
                cases h
                obtain ⟨h2, h3⟩ := snapP_sound f _ _ _ _ _ _ _ h1 hp
                simp only [snap, hsub, hob, hsz, he, h2, if_true]
                exact ⟨trivial, h3⟩
              · cases h
            · cases h
          · cases h
        · cases h
      · cases h
    · split at h
      · rename_i hh
        cases h
        unfold hitS at hh
        split at hh
        · split at hh
          · rename_i hc
            cases hh
            simp only [Bool.and_eq_true] at hc
            have hf := ltb_iff.1 hc.2
            obtain ⟨m, rfl⟩ : ∃ m, f = m + 2 := ⟨f - 2, by omega⟩
            exact ⟨hp.1 m, hp.2⟩
          · cases hh
        · cases hh
      · split at h
        · rename_i h1
          cases h
          exact ⟨h1, hp⟩
        · cases h
    · split at h
      · rename_i h1
        cases h
        exact ⟨h1, hp⟩
      · cases h
/-- A call of a function that is handed copies, rows being told. -/
def pureSO (C : Cfg) (S : Sm) (gT : Nat → D) (objs : List (Nat × Ob)) (nxt : Nat) (o : Op) (d : D) (fl : Bool) (a : SA) : Option (Out × Prop) := match o with
  | .call c => match c.callee with
    | .value f => match zC C gT f with
      | .fn g first captured => match g with
        | .func K => match C.fn K with
          | some _ => match C.inl K with
            | true => none
            | false => match snapAllP (snapP (zD objs) fuelD) (first ++ c.args.toList.map (zC C gT) ++ captured) a [] with
              | some (args', ids, _, p) => some (⟨d, match fl with | true => [] | false => freeze (zD objs) ids, ids, nxt⟩, flat fuelD d = fl ∧ allP p ∧ S.pure K args' = some d)
              | none => none
          | none => none
        | _ => none
      | _ => none
    | _ => none
  | _ => none
/-- A call of a function that is handed deep values. -/
def pureO (C : Cfg) (S : Sm) (gT : Nat → D) (objs : List (Nat × Ob)) (nxt : Nat) (o : Op) (d : D) : Option (Out × Prop) := match o with
  | .call c => match c.callee with
    | .value f => match zC C gT f with
      | .fn g first captured => match g with
        | .func K => match C.fn K with
          | some _ => match C.inl K with
            | true => none
            | false => match snapAll (snap (zD objs) fuelD) (first ++ c.args.toList.map (zC C gT) ++ captured) with
              | some (args', ids) => match ids with
                | [] => some (⟨d, [], [], nxt⟩, S.pure K args' = some d)
                | i :: ids => some (⟨d, if flat fuelD d then [] else freeze (zD objs) (i :: ids), i :: ids, nxt⟩, S.pure K args' = some d)
              | none => none
          | none => none
        | _ => none
      | _ => none
    | _ => none
  | _ => none
/-- A call of a function that is handed the caller's own memory. -/
def inlO (C : Cfg) (S : Sm) (gT : Nat → D) (objs : List (Nat × Ob)) (nxt : Nat) (o : Op) (d : D) (objs' : List (Nat × Ob)) (nxt' : Nat) : Option (Out × Prop) := match o with
  | .call c => match c.callee with
    | .value f => match zC C gT f with
      | .fn g first captured => match g with
        | .func K => match C.fn K with
          | some _ => match C.inl K with
            | false => none
            | true => match idsL (idsD fuelD) (first ++ c.args.toList.map (zC C gT) ++ captured) with
              | some l => match liveFrom objs 256 l [] with
                | some ids => match allBelow nxt ids with
                  | true => match ltb nxt' nxt with
                    | false => some (⟨d, allUpd objs' (ids ++ keysO objs'), ids, nxt'⟩, S.inl K (first ++ c.args.toList.map (zC C gT) ++ captured) (only ids objs) nxt = some (d, objs', nxt'))
                    | true => none
                  | false => none
                | none => none
              | none => none
          | none => none
        | _ => none
      | _ => none
    | _ => none
  | _ => none
/-- The same, what it reaches being told. -/
def inlSO (C : Cfg) (S : Sm) (gT : Nat → D) (objs : List (Nat × Ob)) (nxt : Nat) (o : Op) (ids : List Nat) (d : D) (objs' : List (Nat × Ob)) (nxt' : Nat) : Option (Out × Prop) := match o with
  | .call c => match c.callee with
    | .value f => match zC C gT f with
      | .fn g first captured => match g with
        | .func K => match C.fn K with
          | some _ => match C.inl K with
            | false => none
            | true => match idsL (idsD fuelD) (first ++ c.args.toList.map (zC C gT) ++ captured) with
              | some l => match allBelow nxt ids with
                | true => match ltb nxt' nxt with
                  | false => some (⟨d, allUpd objs' (ids ++ keysO objs'), ids, nxt'⟩, liveFrom objs 256 l [] = some ids ∧ S.inl K (first ++ c.args.toList.map (zC C gT) ++ captured) (only ids objs) nxt = some (d, objs', nxt'))
                  | true => none
                | false => none
              | none => none
          | none => none
        | _ => none
      | _ => none
    | _ => none
  | _ => none
/-- An element of a slice. -/
def elO (C : Cfg) (gT : Nat → D) (nxt : Nat) (o : Op) (d : D) : Option (Out × Prop) := match o with
  | .indexAddr t x ix => match C.ty t with
    | some ty => match ty.kind with
      | .slice e => match C.ty e with
        | some te => match intOfD (zC C gT ix) with
          | some i => match zC C gT x with
            | .sl nl els sz _ => some (⟨.ptr d, [], [], nxt⟩, 0 ≤ i ∧ nl = false ∧ te.size = sz ∧ els[i.toNat]? = some d)
            | _ => none
          | none => none
        | none => none
      | _ => none
    | none => none
  | _ => none
def optEq : Option Nat → Option Nat → Bool
  | none, none => true
  | some a, some b => eqb a b
  | _, _ => false
/-- Is it a store into this object? -/
def storesIn (C : Cfg) (gT : Nat → D) (o : Op) (k : Nat) : Bool := match o with
  | .store _ x _ => match zC C gT x with
    | .lref k' _ _ _ => eqb k' k
    | _ => false
  | _ => false
def opO (C : Cfg) (S : Sm) (gT : Nat → D) (objs : List (Nat × Ob)) (nxt : Nat) (o : Oper) (ors : List Ora) (acc : List Prop) : Option (Out × List Ora × List Prop) := match ors with
  | .op t r :: ors' => match optEq o.dst t with
    | true => some (r, ors', (evOp C S gT objs nxt o = some r) :: acc)
    | false => match evOp C dead gT objs nxt o with
      | some r' => some (r', .op t r :: ors', acc)
      | none => none
  | .stS k r :: ors' => match storesIn C gT o.op k with
    | true => some (r, ors', (evOp C S gT objs nxt o = some r) :: acc)
    | false => match evOp C dead gT objs nxt o with
      | some r' => some (r', .stS k r :: ors', acc)
      | none => none
  | .pure d :: ors' => match pureO C S gT objs nxt o.op d with
    | some (r, P) => some (r, ors', P :: acc)
    | none => match evOp C dead gT objs nxt o with
      | some r => some (r, .pure d :: ors', acc)
      | none => none
  | .pureS d fl a :: ors' => match pureSO C S gT objs nxt o.op d fl a with
    | some (r, P) => some (r, ors', P :: acc)
    | none => match evOp C dead gT objs nxt o with
      | some r => some (r, .pureS d fl a :: ors', acc)
      | none => none
  | .inl d objs' nxt' :: ors' => match inlO C S gT objs nxt o.op d objs' nxt' with
    | some (r, P) => some (r, ors', P :: acc)
    | none => match evOp C dead gT objs nxt o with
      | some r => some (r, .inl d objs' nxt' :: ors', acc)
      | none => none
  | .inlS ids d objs' nxt' :: ors' => match inlSO C S gT objs nxt o.op ids d objs' nxt' with
    | some (r, P) => some (r, ors', P :: acc)
    | none => match evOp C dead gT objs nxt o with
      | some r => some (r, .inlS ids d objs' nxt' :: ors', acc)
      | none => none
  | .el d :: ors' => match elO C gT nxt o.op d with
    | some (r, P) => some (r, ors', P :: acc)
    | none => match evOp C dead gT objs nxt o with
      | some r => some (r, .el d :: ors', acc)
      | none => none
  | ors' => match evOp C dead gT objs nxt o with
    | some r => some (r, ors', acc)
    | none => none
/-- Is a Bool that it comes to told? -/
def isB (o : Op) : Bool := match o with
  | .binOp _ _ _ _ _ => true
  | .call _ => true
  | .extract _ _ => true
  | .field _ _ _ => true
  | .load _ _ => true
  | .index _ _ _ => true
  | _ => false
def boolOf (d : D) : Option Bool := match d with
  | .val v => match v with
    | .bool t => some t
    | _ => none
  | _ => none
def decO (o : Oper) (d : D) (ors : List Ora) (acc : List Prop) : D × List Ora × List Prop := match ors with
  | .rw t d' :: ors' => match optEq o.dst (some t) with
    | true => (d', ors', (d = d') :: acc)
    | false => (d, .rw t d' :: ors', acc)
  | .dec b :: ors' => match isB o.op with
    | true => match boolOf d with
      | some t => (B b, ors', (t = b) :: acc)
      | none => (d, .dec b :: ors', acc)
    | false => (d, .dec b :: ors', acc)
  | ors' => (d, ors', acc)
def evOpsO (C : Cfg) (S : Sm) (ops : Array Oper) : List Oper → St → List Ora → List Prop → Option (St × List Ora × List Prop)
  | [], st, ors, acc => some (st, ors, acc)
  | o :: l, st, ors, acc => match wantD ops (get st.tmps) o.guard with
    | some true => match opO C S (get st.tmps) st.objs st.nxt o ors acc with
      | some (r, ors1, acc1) => match decO o r.d ors1 acc1 with
        | (d, ors2, acc2) => evOpsO C S ops l ⟨st.n, putT st.n st.tmps o.dst d, applyUpd r.wr st.objs, r.nxt, st.pin⟩ ors2 acc2
      | none => none
    | some false => evOpsO C S ops l ⟨st.n, putT st.n st.tmps o.dst (.tup []), st.objs, st.nxt, st.pin⟩ ors acc
    | none => none
def evOpsTO (C : Cfg) (S : Sm) (ops : Array Oper) : List Oper → St → List Ora → List Prop → Option (St × Trace × List Ora × List Prop)
  | [], st, ors, acc => some (st, [], ors, acc)
  | o :: l, st, ors, acc => match wantD ops (get st.tmps) o.guard with
    | some true => match opO C S (get st.tmps) st.objs st.nxt o ors acc with
      | some (r, ors1, acc1) => match decO o r.d ors1 acc1 with
        | (d, ors2, acc2) => match evOpsTO C S ops l ⟨st.n, putT st.n st.tmps o.dst d, applyUpd r.wr st.objs, r.nxt, st.pin⟩ ors2 acc2 with
          | some (st', tr, ors3, acc3) => some (st', (r.rd, r.wr.map (·.1)) :: tr, ors3, acc3)
          | none => none
      | none => none
    | some false => match evOpsTO C S ops l ⟨st.n, putT st.n st.tmps o.dst (.tup []), st.objs, st.nxt, st.pin⟩ ors acc with
      | some (st', tr, ors3, acc3) => some (st', ([], []) :: tr, ors3, acc3)
      | none => none
    | none => none
def evCodeO (C : Cfg) (S : Sm) (f : FuncId) : Code → St → List Ora → List Prop → Option (Exit × St × List Ora × List Prop)
  | .skip, st, ors, acc => some (.normal, st, ors, acc)
  | .label _, st, ors, acc => some (.normal, st, ors, acc)
  | .ret, st, ors, acc => some (.ret, st, ors, acc)
  | .exit id, st, ors, acc => some (.exit id, st, ors, acc)
  | .region _ ops draw, st, ors, acc => match draw with
    | true => match evOpsTO C S ops ops.toList st ors acc with
      | some (st', tr, ors', acc') => match regOK ops && traceOK ops tr with
        | true => some (.normal, st', ors', acc')
        | false => none
      | none => none
    | false => match evOpsO C S ops ops.toList st ors acc with
      | some (st', ors', acc') => some (.normal, st', ors', acc')
      | none => none
  | .seq a b, st, ors, acc => match evCodeO C S f a st ors acc with
    | some (.normal, st', ors', acc') => evCodeO C S f b st' ors' acc'
    | r => r
  | .cond c a b, st, ors, acc => match boolOf (zC C (get st.tmps) c) with
    | some true => evCodeO C S f a st ors acc
    | some false => evCodeO C S f b st ors acc
    | none => none
  | .block id a, st, ors, acc => match evCodeO C S f a st ors acc with
    | some (.exit id', st', ors', acc') => match eqb id' id with
      | true => some (.normal, st', ors', acc')
      | false => some (.exit id', st', ors', acc')
    | r => r
  | .loop a, st, ors, acc => match ors with
    | .loop e st' :: ors' => match gc (C.keep f (firstRegion a)) st with
      | some st1 => some (e, st', ors', (S.loop f a st1 = some (e, st')) :: acc)
      | none => none
    | .gloop st1 e st' :: ors' => some (e, st', ors', (S.loop f a st1 = some (e, st')) :: (gc (C.keep f (firstRegion a)) st = some st1) :: acc)
    | _ => none
  | .scope a, st, ors, acc => match evCodeO C S f a st ors acc with
    | some (.goto _, _, _, _) => none
    | r => r
  | .rangeFunc g ps assign body, st, ors, acc => match noRange assign && noRange body with
    | true => match zC C (get st.tmps) g with
      | .fn g first captured => match g with
        | .func K => match C.fn K with
          | some _ => match ors with
            | .iter objs' nxt' p :: ors' => match exitOf p with
              | some e => some (e, ⟨st.n, st.tmps, objs', nxt', st.pin⟩, ors', (S.iter ⟨f, st.nxt, st.n, st.tmps, ps.toList, assign, body⟩ K (first ++ [.yld st.nxt] ++ captured) st.objs (st.nxt + 1) = some (objs', nxt', p)) :: acc)
              | none => none
            | _ => none
          | none => none
        | _ => none
      | _ => none
    | false => none
  | _, _, _, _ => none

section
variable {C : Cfg} {S : Sm} {gT : Nat → D} {objs : List (Nat × Ob)} {nxt : Nat}
theorem pureO_sound {o : Oper} {d : D} {r : Out} {P : Prop} (h : pureO C S gT objs nxt o.op d = some (r, P)) (hp : P) : evOp C S gT objs nxt o = some r := by
  unfold pureO at h
  unfold evOp
  split at h
  · rename_i c ho
    simp only [ho]
    unfold callD
    split at h
    · rename_i f hf
      simp only [hf]
      split at h
      · rename_i g first captured hg
        simp only [hg]
        split at h
        · rename_i K
          simp only []
          split at h
          · rename_i fn hfn
            unfold zu
            simp only [hfn]
            split at h
            · cases h
            · rename_i hi
              rw [hi]
              simp only [Bool.false_eq_true, if_false]
              unfold zb
              split at h
              · rename_i args' ids hs
                split at h
                · cases h
                  rw [hs]
                  simp only [hp, freeze, ite_self]
                · cases h
                  rw [hs]
                  simp only [hp]
              · cases h
          · cases h
        · cases h
      · cases h
    · cases h
  · cases h
theorem pureSO_sound {o : Oper} {d : D} {fl : Bool} {a : SA} {r : Out} {P : Prop} (h : pureSO C S gT objs nxt o.op d fl a = some (r, P)) (hp : P) : evOp C S gT objs nxt o = some r := by
  unfold pureSO at h
  unfold evOp
  split at h
  · rename_i c ho
    simp only [ho]
    unfold callD
    split at h
    · rename_i f hf
      simp only [hf]
      split at h
      · rename_i g first captured hg
        simp only [hg]
        split at h
        · rename_i K
          simp only []
          split at h
          · rename_i fn hfn
            unfold zu
            simp only [hfn]
            split at h
            · cases h
            · rename_i hi
              rw [hi]
              simp only [Bool.false_eq_true, if_false]
              unfold zb
              split at h
              · rename_i args' ids a' p hs
                cases h
                obtain ⟨h1, h2, h3⟩ := hp
                obtain ⟨h4, _⟩ := snapAllP_sound (fun d a p d' r a' p' h hp => snapP_sound fuelD d a p d' r a' p' h hp) _ _ _ _ _ _ _ hs h2
                rw [h4]
                simp only [h3, h1]
                cases fl <;> rfl
              · cases h
          · cases h
        · cases h
      · cases h
    · cases h
  · cases h
theorem inlO_sound {o : Oper} {d : D} {objs' : List (Nat × Ob)} {nxt' : Nat} {r : Out} {P : Prop} (h : inlO C S gT objs nxt o.op d objs' nxt' = some (r, P)) (hp : P) : evOp C S gT objs nxt o = some r := by
  unfold inlO at h
  unfold evOp
  split at h
  · rename_i c ho
    simp only [ho]
    unfold callD
    split at h
    · rename_i f hf
      simp only [hf]
      split at h
      · rename_i g first captured hg
        simp only [hg]
        split at h
        · rename_i K
          simp only []
          split at h
          · rename_i fn hfn
            unfold zu
            simp only [hfn]
            split at h
            · cases h
            · rename_i hi
              rw [hi]
              simp only [if_true]
              unfold callInl
              split at h
              · rename_i l hl
                rw [hl]
                simp only []
                split at h
                · rename_i ids hids
                  rw [hids]
                  simp only []
                  split at h
                  · rename_i hb
                    rw [hb]
                    split at h
                    · rename_i hlt
                      cases h
                      simp only [cond_true, hp, hlt, cond_false]
                    · cases h
                  · cases h
                · cases h
              · cases h
          · cases h
        · cases h
      · cases h
    · cases h
  · cases h
theorem inlSO_sound {o : Oper} {ids : List Nat} {d : D} {objs' : List (Nat × Ob)} {nxt' : Nat} {r : Out} {P : Prop} (h : inlSO C S gT objs nxt o.op ids d objs' nxt' = some (r, P)) (hp : P) : evOp C S gT objs nxt o = some r := by
  unfold inlSO at h
  unfold evOp
  split at h
  · rename_i c ho
    simp only [ho]
    unfold callD
    split at h
    · rename_i f hf
      simp only [hf]
      split at h
      · rename_i g first captured hg
        simp only [hg]
        split at h
        · rename_i K
          simp only []
          split at h
          · rename_i fn hfn
            unfold zu
            simp only [hfn]
            split at h
            · cases h
            · rename_i hi
              rw [hi]
              simp only [if_true]
              unfold callInl
              split at h
              · rename_i l hl
                rw [hl]
                simp only []
                split at h
                · rename_i hb
                  split at h
                  · rename_i hlt
                    cases h
                    rw [hp.1]
                    simp only [hb, cond_true, hp.2, hlt, cond_false]
                  · cases h
                · cases h
              · cases h
          · cases h
        · cases h
      · cases h
    · cases h
  · cases h
theorem elO_sound {o : Oper} {d : D} {r : Out} {P : Prop} (h : elO C gT nxt o.op d = some (r, P)) (hp : P) : evOp C S gT objs nxt o = some r := by
  unfold elO at h
  unfold evOp
  split at h
  · rename_i t x ix ho
    simp only [ho]
    unfold evIndexAddr
    split at h
    · rename_i ty hty
      simp only [hty]
      split at h
      · rename_i e hk
        split at h
        · rename_i te hte
          split at h
          · rename_i i hi
            simp only [hi]
            split at h
            · rename_i nl els sz cap hx
              cases h
              obtain ⟨h1, h2, h3, h4⟩ := hp
              rw [if_pos h1]
              simp only [hk, hte, hx, ixSlice, h2, h3, Bool.not_false, decide_true, Bool.and_self, if_true, h4, just]
            · cases h
          · cases h
        · cases h
      · cases h
    · cases h
  · cases h
theorem dead_evOp {o : Oper} {r : Out} (h : evOp C dead gT objs nxt o = some r) : evOp C S gT objs nxt o = some r := evOp_mono (dead_le S) h
theorem opO_sound {o : Oper} {ors ors' : List Ora} {acc acc' : List Prop} {r : Out} (h : opO C S gT objs nxt o ors acc = some (r, ors', acc')) (hp : allP acc') : evOp C S gT objs nxt o = some r ∧ allP acc := by
  unfold opO at h
  split at h
  · split at h
    · cases h; exact ⟨hp.1, hp.2⟩
    · split at h
      · rename_i h1; cases h; exact ⟨dead_evOp h1, hp⟩
      · cases h
  · split at h
    · cases h; exact ⟨hp.1, hp.2⟩
    · split at h
      · rename_i h1; cases h; exact ⟨dead_evOp h1, hp⟩
      · cases h
  · split at h
    · rename_i h1; cases h; exact ⟨pureO_sound h1 hp.1, hp.2⟩
    · split at h
      · rename_i h1; cases h; exact ⟨dead_evOp h1, hp⟩
      · cases h
  · split at h
    · rename_i h1; cases h; exact ⟨pureSO_sound h1 hp.1, hp.2⟩
    · split at h
      · rename_i h1; cases h; exact ⟨dead_evOp h1, hp⟩
      · cases h
  · split at h
    · rename_i h1; cases h; exact ⟨inlO_sound h1 hp.1, hp.2⟩
    · split at h
      · rename_i h1; cases h; exact ⟨dead_evOp h1, hp⟩
      · cases h
  · split at h
    · rename_i h1; cases h; exact ⟨inlSO_sound h1 hp.1, hp.2⟩
    · split at h
      · rename_i h1; cases h; exact ⟨dead_evOp h1, hp⟩
      · cases h
  · split at h
    · rename_i h1; cases h; exact ⟨elO_sound h1 hp.1, hp.2⟩
    · split at h
      · rename_i h1; cases h; exact ⟨dead_evOp h1, hp⟩
      · cases h
  · split at h
    · rename_i h1; cases h; exact ⟨dead_evOp h1, hp⟩
    · cases h
theorem boolOf_some {d : D} {t : Bool} (h : boolOf d = some t) : d = .val (.bool t) := by
  unfold boolOf at h
  split at h
  · split at h
    · cases h; rfl
    · cases h
  · cases h
theorem decO_sound {o : Oper} {d d' : D} {ors ors' : List Ora} {acc acc' : List Prop} (h : decO o d ors acc = (d', ors', acc')) (hp : allP acc') : d' = d ∧ allP acc := by
  unfold decO at h
  split at h
  · split at h
    · cases h; exact ⟨hp.1.symm, hp.2⟩
    · cases h; exact ⟨rfl, hp⟩
  · split at h
    · split at h
      · rename_i t ht
        cases h
        rw [boolOf_some ht, hp.1]; exact ⟨rfl, hp.2⟩
      · cases h; exact ⟨rfl, hp⟩
    · cases h; exact ⟨rfl, hp⟩
  · cases h; exact ⟨rfl, hp⟩
theorem evOpsO_sound {ops : Array Oper} : ∀ (l : List Oper) (st st' : St) (ors ors' : List Ora) (acc acc' : List Prop), evOpsO C S ops l st ors acc = some (st', ors', acc') → allP acc' → evOps C S ops l st = some st' ∧ allP acc
  | [], _, _, _, _, _, _, h, hp => by simp only [evOpsO, Option.some.injEq, Prod.mk.injEq] at h; obtain ⟨rfl, rfl, rfl⟩ := h; exact ⟨rfl, hp⟩
  | o :: l, st, st', ors, ors', acc, acc', h, hp => by
    simp only [evOpsO] at h
    simp only [evOps]
    split at h
    · rename_i hw
      split at h
      · rename_i r ors1 acc1 hop
        obtain ⟨d, ors2, acc2, hdec⟩ : ∃ d o2 a2, decO o r.d ors1 acc1 = (d, o2, a2) := ⟨_, _, _, rfl⟩
        rw [hdec] at h
        simp only [] at h
        obtain ⟨h1, h2⟩ := evOpsO_sound l _ _ _ _ _ _ h hp
        obtain ⟨rfl, h3⟩ := decO_sound hdec h2
        obtain ⟨h4, h5⟩ := opO_sound hop h3
        simp only [hw, h4]
        exact ⟨h1, h5⟩
      · cases h
    · rename_i hw
      obtain ⟨h1, h2⟩ := evOpsO_sound l _ _ _ _ _ _ h hp
      simp only [hw]
      exact ⟨h1, h2⟩
    · cases h
theorem evOpsTO_sound {ops : Array Oper} : ∀ (l : List Oper) (st st' : St) (tr : Trace) (ors ors' : List Ora) (acc acc' : List Prop), evOpsTO C S ops l st ors acc = some (st', tr, ors', acc') → allP acc' → evOpsT C S ops l st = some (st', tr) ∧ allP acc
  | [], _, _, _, _, _, _, _, h, hp => by simp only [evOpsTO, Option.some.injEq, Prod.mk.injEq] at h; obtain ⟨rfl, rfl, rfl, rfl⟩ := h; exact ⟨rfl, hp⟩
  | o :: l, st, st', tr, ors, ors', acc, acc', h, hp => by
    simp only [evOpsTO] at h
    simp only [evOpsT]
    split at h
    · rename_i hw
      split at h
      · rename_i r ors1 acc1 hop
        obtain ⟨d, ors2, acc2, hdec⟩ : ∃ d o2 a2, decO o r.d ors1 acc1 = (d, o2, a2) := ⟨_, _, _, rfl⟩
        rw [hdec] at h
        simp only [] at h
        split at h
        · rename_i st1 tr1 ors3 acc3 hrest
          cases h
          obtain ⟨h1, h2⟩ := evOpsTO_sound l _ _ _ _ _ _ _ hrest hp
          obtain ⟨rfl, h3⟩ := decO_sound hdec h2
          obtain ⟨h4, h5⟩ := opO_sound hop h3
          simp only [hw, h4, h1]
          exact ⟨trivial, h5⟩
        · cases h
      · cases h
    · rename_i hw
      split at h
      · rename_i st1 tr1 ors3 acc3 hrest
        cases h
        obtain ⟨h1, h2⟩ := evOpsTO_sound l _ _ _ _ _ _ _ hrest hp
        simp only [hw, h1]
        exact ⟨trivial, h2⟩
      · cases h
    · cases h
theorem evCodeO_sound {f : FuncId} : ∀ (c : Code) (st : St) (e : Exit) (st' : St) (ors ors' : List Ora) (acc acc' : List Prop), evCodeO C S f c st ors acc = some (e, st', ors', acc') → allP acc' → zV C S f c st = some (e, st') ∧ allP acc := by
  intro c
  induction c with
  | region id ops draw =>
    intro st e st' ors ors' acc acc' h hp
    simp only [evCodeO] at h
    simp only [zV]
    split at h
    · split at h
      · rename_i st1 tr ors1 acc1 h1
        split at h
        · rename_i hc
          cases h
          obtain ⟨h2, h3⟩ := evOpsTO_sound _ _ _ _ _ _ _ _ h1 hp
          simp only [if_true, h2, hc]
          exact ⟨trivial, h3⟩
        · cases h
      · cases h
    · split at h
      · rename_i st1 ors1 acc1 h1
        cases h
        obtain ⟨h2, h3⟩ := evOpsO_sound _ _ _ _ _ _ _ h1 hp
        simp only [Bool.false_eq_true, if_false, h2]
        exact ⟨trivial, h3⟩
      · cases h
  | seq x y ihx ihy =>
    intro st e st' ors ors' acc acc' h hp
    simp only [evCodeO] at h
    simp only [zV]
    split at h
    · rename_i st1 ors1 acc1 h1
      obtain ⟨h2, h3⟩ := ihy _ _ _ _ _ _ _ h hp
      obtain ⟨h4, h5⟩ := ihx _ _ _ _ _ _ _ h1 h3
      simp only [h4]
      exact ⟨h2, h5⟩
    · rename_i hn
      obtain ⟨h4, h5⟩ := ihx _ _ _ _ _ _ _ h hp
      rw [h4]
      refine ⟨?_, h5⟩
      split
      · rename_i st1 h6
        cases h6
        exact absurd h (hn _ _ _)
      · rfl
  | cond c x y ihx ihy =>
    intro st e st' ors ors' acc acc' h hp
    simp only [evCodeO] at h
    simp only [zV]
    split at h
    · rename_i ht
      rw [boolOf_some ht]
      exact ihx _ _ _ _ _ _ _ h hp
    · rename_i ht
      rw [boolOf_some ht]
      exact ihy _ _ _ _ _ _ _ h hp
    · cases h
  | block id x ih =>
    intro st e st' ors ors' acc acc' h hp
    simp only [evCodeO] at h
    simp only [zV]
    split at h
    · rename_i id' st1 ors1 acc1 h1
      split at h
      · rename_i hid
        cases h
        obtain ⟨h4, h5⟩ := ih _ _ _ _ _ _ _ h1 hp
        rw [h4]
        exact ⟨by simp only [eqb_iff.1 hid, if_true], h5⟩
      · rename_i hid
        cases h
        obtain ⟨h4, h5⟩ := ih _ _ _ _ _ _ _ h1 hp
        rw [h4]
        exact ⟨by simp only [eqb_false.1 hid, if_false], h5⟩
    · rename_i hn
      obtain ⟨h4, h5⟩ := ih _ _ _ _ _ _ _ h hp
      rw [h4]
      refine ⟨?_, h5⟩
      split
      · rename_i id' st1 h6
        cases h6
        exact absurd h (hn _ _ _ _)
      · rfl
  | loop x ih =>
    intro st e st' ors ors' acc acc' h hp
    simp only [evCodeO] at h
    simp only [zV]
    split at h
    · split at h
      · rename_i st1 hg
        cases h
        rw [hg]
        exact ⟨hp.1, hp.2⟩
      · cases h
    · cases h
      rw [hp.2.1]
      exact ⟨hp.1, hp.2.2⟩
    · cases h
  | scope x ih =>
    intro st e st' ors ors' acc acc' h hp
    simp only [evCodeO] at h
    simp only [zV]
    split at h
    · cases h
    · rename_i hn
      obtain ⟨h4, h5⟩ := ih _ _ _ _ _ _ _ h hp
      rw [h4]
      refine ⟨?_, h5⟩
      split
      · rename_i l st1 h6
        cases h6
        exact absurd h (hn _ _ _ _)
      · rfl
  | rangeFunc g ps x y ihx ihy =>
    intro st e st' ors ors' acc acc' h hp
    simp only [evCodeO] at h
    simp only [zV]
    split at h
    · rename_i hnr
      rw [if_pos hnr]
      split at h
      · rename_i g' first captured hg
        simp only [hg]
        split at h
        · rename_i K
          simp only []
          split at h
          · rename_i fn hfn
            simp only [hfn]
            split at h
            · rename_i objs' nxt' p ors1
              split at h
              · rename_i e1 he
                cases h
                rw [hp.1]
                simp only [he]
                exact ⟨trivial, hp.2⟩
              · cases h
            · cases h
          · cases h
        · cases h
      · cases h
    · cases h
  | skip => intro st e st' ors ors' acc acc' h hp; simp only [evCodeO, Option.some.injEq, Prod.mk.injEq] at h; obtain ⟨rfl, rfl, rfl, rfl⟩ := h; exact ⟨rfl, hp⟩
  | label l => intro st e st' ors ors' acc acc' h hp; simp only [evCodeO, Option.some.injEq, Prod.mk.injEq] at h; obtain ⟨rfl, rfl, rfl, rfl⟩ := h; exact ⟨rfl, hp⟩
  | ret => intro st e st' ors ors' acc acc' h hp; simp only [evCodeO, Option.some.injEq, Prod.mk.injEq] at h; obtain ⟨rfl, rfl, rfl, rfl⟩ := h; exact ⟨rfl, hp⟩
  | exit id => intro st e st' ors ors' acc acc' h hp; simp only [evCodeO, Option.some.injEq, Prod.mk.injEq] at h; obtain ⟨rfl, rfl, rfl, rfl⟩ := h; exact ⟨rfl, hp⟩
  | _ => intro st e st' ors ors' acc acc' h hp; simp only [evCodeO] at h; cases h
end

/-! ### functions, loops -/
/-- A function's end. -/
def endO (C : Cfg) (fn : Func) (e : Exit) (st : St) : Option (D × List (Nat × Ob) × Nat) := match e with
  | .normal => match resAll C st fn.results.toList with | some ds => some (tupOf ds, st.objs, st.nxt) | none => none
  | .ret => match resAll C st fn.results.toList with | some ds => some (tupOf ds, st.objs, st.nxt) | none => none
  | _ => none
def fnO (C : Cfg) (S : Sm) (K : FuncId) (args : List D) (objs : List (Nat × Ob)) (nxt : Nat) (ors : List Ora) : Option (D × List (Nat × Ob) × Nat × List Prop) := match C.fn K with
  | some fn => match fn.body with
    | some c => match evCodeO C S K c ⟨max fn.ntmps args.length, number 0 args, objs, nxt, nxt⟩ ors [] with
      | some (e, st, [], acc) => match endO C fn e st with
        | some (d, objs', nxt') => some (d, objs', nxt', acc)
        | none => none
      | _ => none
    | none => none
  | none => none
def fnPO (C : Cfg) (S : Sm) (K : FuncId) (args : List D) (ors : List Ora) : Option (D × Prop) := match C.ext K with
  | some _ => none
  | none => match fnO C S K args [] 0 ors with
    | some (d, objs, _, acc) => match snap (zD objs) fuelD d with
      | some (d, _) => some (d, allP acc)
      | none => none
    | none => none
def fnSO (C : Cfg) (S : Sm) (K : FuncId) (args : List D) (ors : List Ora) (a : SA) : Option (D × Prop) := match C.ext K with
  | some _ => none
  | none => match fnO C S K args [] 0 ors with
    | some (d, objs, _, acc) => match snapP (zD objs) fuelD d a acc with
      | some (d, _, _, acc) => some (d, allP acc)
      | none => none
    | none => none
section
variable {C : Cfg} {K : FuncId} {args : List D} {objs objs' : List (Nat × Ob)} {nxt nxt' : Nat} {d : D} {acc : List Prop} {P : Prop}
theorem fnO_sound {S : Sm} {ors : List Ora} (h : fnO C S K args objs nxt ors = some (d, objs', nxt', acc)) (hp : allP acc) : runFn C S K args objs nxt = some (d, objs', nxt') := by
  unfold fnO at h
  unfold runFn
  split at h
  · rename_i fn hfn
    split at h
    · rename_i c hc
      simp only [hfn, hc]
      split at h
      · rename_i e st acc1 hev
        split at h
        · rename_i d1 objs1 nxt1 he
          cases h
          obtain ⟨h1, _⟩ := evCodeO_sound _ _ _ _ _ _ _ _ hev hp
          rw [h1]
          cases e <;> first | exact he | (simp only [endO] at he; cases he)
        · cases h
      · cases h
    · cases h
  · cases h
/-- A function on deep values, by one way through it. -/
theorem za (ors : List Ora) (hp : P) (h : fnPO C (lim C) K args ors = some (d, P)) : (lim C).pure K args = some d := by
  refine pure_of ?_
  unfold fnPO at h
  unfold runPure
  split at h
  · cases h
  · rename_i hx
    simp only [hx]
    split at h
    · rename_i d0 objs0 n0 acc0 h0
      split at h
      · rename_i d1 r1 hs
        cases h
        rw [fnO_sound h0 hp]
        simp only [hs]
      · cases h
    · cases h
/-- The same, rows of the answer being told. -/
theorem po_pureS (ors : List Ora) (a : SA) (hp : P) (h : fnSO C (lim C) K args ors a = some (d, P)) : (lim C).pure K args = some d := by
  refine pure_of ?_
  unfold fnSO at h
  unfold runPure
  split at h
  · cases h
  · rename_i hx
    simp only [hx]
    split at h
    · rename_i d0 objs0 n0 acc0 h0
      split at h
      · rename_i d1 r1 a1 p1 hs
        cases h
        obtain ⟨h1, h2⟩ := snapP_sound _ _ _ _ _ _ _ _ hs hp
        rw [fnO_sound h0 h2]
        simp only [h1]
      · cases h
    · cases h
end
/-- A round of a loop that goes on, up to the loop's head. -/
def turnO (C : Cfg) (S : Sm) (f : FuncId) (a : Code) (st : St) (ors : List Ora) : Option (St × Prop) := match evCodeO C S f a st ors [] with
  | some (.normal, st', [], acc) => match gc (C.keep f (firstRegion a)) st' with
    | some st1 => some (st1, allP acc)
    | none => none
  | _ => none
/-- The same, short of the head. -/
def roundO (C : Cfg) (S : Sm) (f : FuncId) (a : Code) (st : St) (ors : List Ora) : Option (St × Prop) := match evCodeO C S f a st ors [] with
  | some (.normal, st', [], acc) => some (st', allP acc)
  | _ => none
def isNormal : Exit → Bool
  | .normal => true
  | _ => false
/-- A round that leaves the loop. -/
def lastO (C : Cfg) (S : Sm) (f : FuncId) (a : Code) (st : St) (ors : List Ora) : Option (Exit × St × Prop) := match evCodeO C S f a st ors [] with
  | some (e, st', [], acc) => match isNormal e with
    | true => none
    | false => some (e, st', allP acc)
  | _ => none
section
variable {C : Cfg} {f : FuncId} {a : Code} {st st1 st' : St} {e : Exit} {q : Exit × St} {P : Prop}
theorem po_turn (ors : List Ora) (hp : P) (hl : (lim C).loop f a st1 = some q) (h : turnO C (lim C) f a st ors = some (st1, P)) : (lim C).loop f a st = some q := by
  refine loop_of ?_
  unfold turnO at h
  unfold runLoop
  split at h
  · rename_i st2 acc2 hev
    split at h
    · rename_i st3 hg
      cases h
      rw [(evCodeO_sound _ _ _ _ _ _ _ _ hev hp).1]
      simp only [hg, hl]
    · cases h
  · cases h
/-- The same, the head's state being shown apart. -/
theorem po_turn' {ks : List Nat} (ors : List Ora) (hp : P) (hk : C.keep f (firstRegion a) = ks) (hg : gc ks st' = some st1) (hl : (lim C).loop f a st1 = some q) (h : roundO C (lim C) f a st ors = some (st', P)) : (lim C).loop f a st = some q := by
  refine loop_of ?_
  unfold roundO at h
  unfold runLoop
  split at h
  · rename_i st2 acc2 hev
    cases h
    rw [(evCodeO_sound _ _ _ _ _ _ _ _ hev hp).1]
    simp only [hk, hg, hl]
  · cases h
theorem gc_of {ks : List Nat} (hk : C.keep f (firstRegion a) = ks) (hg : gc ks st = some st1) : gc (C.keep f (firstRegion a)) st = some st1 := by rw [hk]; exact hg
theorem zO (ors : List Ora) (hp : P) (h : lastO C (lim C) f a st ors = some (e, st', P)) : (lim C).loop f a st = some (e, st') := by
  refine loop_of ?_
  unfold lastO at h
  unfold runLoop
  split at h
  · rename_i e1 st2 acc2 hev
    split at h
    · cases h
    · rename_i hn
      cases h
      rw [(evCodeO_sound _ _ _ _ _ _ _ _ hev hp).1]
      cases e <;> first | rfl | (simp [isNormal] at hn)
  · cases h
theorem po_lr {S : Sm} {α : Type} {L v : α} {q : α → Exit × St} (h : S.loop f a st = some (q L)) (e : L = v) : S.loop f a st = some (q v) := by rw [← e]; exact h
end

/-! ### slices; counters -/
/-- A slice: is it nil; its elements. -/
structure GS (α : Type) where
  nl : Bool
  l : List α
  wf : nl = true → l = []
def GS.nil {α : Type} : GS α := ⟨true, [], (fun _ => rfl)⟩
def GS.some {α : Type} (l : List α) : GS α := ⟨false, l, (fun h => by cases h)⟩
def zsl (b : Bool) (n : Nat) : Nat := match b with | true => 0 | false => n
def GS.D {α : Type} (f : α → VS.D) (k : Nat) (s : GS α) : VS.D := .sl s.nl (s.l.map f) (zsl s.nl k) none
abbrev w64 (n : Int) : Int := IntKind.i64.wrap n
theorem zh {α : Type} (f : α → VS.D) (s : GS α) : I (if s.nl then 0 else (((s.l.map f).length : Nat) : Int)) = I ((s.l.length : Nat) : Int) := by
  cases h : s.nl with
  | true => rw [s.wf h]; simp
  | false => simp
theorem w64_eq {n : Int} (h1 : -9223372036854775808 ≤ n) (h2 : n ≤ 9223372036854775807) : w64 n = n := by
  unfold w64 IntKind.wrap
  have hb : IntKind.i64.bits = 64 := rfl
  simp only [hb]
  first
  | (simp [IntKind.signed]; omega)
  | omega
theorem yb {i : Nat} (h : i < 9223372036854775807) : I (w64 (((i : Nat) : Int) + 1)) = I (((i + 1 : Nat) : Nat) : Int) := by rw [w64_eq (by omega) (by omega)]; rfl
/-- An element in its place. -/
theorem el_at {α : Type} {f : α → VS.D} {s : GS α} {x : α} {rest : List α} {i k : Nat} (h : s.l.drop i = x :: rest) : (0 : Int) ≤ ((i : Nat) : Int) ∧ s.nl = false ∧ k = zsl s.nl k ∧ (s.l.map f)[((i : Nat) : Int).toNat]? = Option.some (f x) := by
  have hx : s.l[i]? = Option.some x := by rw [← List.head?_drop, h]; rfl
  have hn : s.nl = false := by
    cases hn : s.nl with
    | false => rfl
    | true => rw [s.wf hn] at hx; cases hx
  refine ⟨Int.natCast_nonneg _, hn, by rw [hn]; rfl, ?_⟩
  rw [Int.toNat_natCast, List.getElem?_map, hx]; rfl
theorem lt_at {α : Type} {l : List α} {x : α} {rest : List α} {i : Nat} (h : l.drop i = x :: rest) : decide (((i : Nat) : Int) < ((l.length : Nat) : Int)) = true := by
  have hlt : i < l.length := by
    rcases Nat.lt_or_ge i l.length with hh | hh
    · exact hh
    · rw [List.drop_eq_nil_of_le hh] at h; cases h
  exact decide_eq_true (by omega)
theorem lt_no {α : Type} {l : List α} {i : Nat} (h : l.drop i = []) : decide (((i : Nat) : Int) < ((l.length : Nat) : Int)) = false := by
  have := List.drop_eq_nil_iff.1 h
  exact decide_eq_false (by omega)
theorem zJ {α : Type} {l : List α} {x : α} {rest : List α} {i : Nat} (h : l.drop i = x :: rest) : l.drop (i + 1) = rest := by rw [← List.drop_drop, h]; rfl
theorem zr {α : Type} {l : List α} {x : α} {rest : List α} {i : Nat} (h : l.drop i = x :: rest) : i < l.length := by
  rcases Nat.lt_or_ge i l.length with hh | hh
  · exact hh
  · rw [List.drop_eq_nil_of_le hh] at h; cases h
end Go.VS

/-
  VS, part V2: rows that grow; what Bools say. (A text of this claim's own; nothing of it is trusted.)
-/
namespace Go.VS
open Go
def imin (a b : Int) : Int := if b < a then b else a
def imax (a b : Int) : Int := if b > a then b else a
theorem imin_eq (a b : Int) : imin a b = min a b := by unfold imin; omega
theorem imax_eq (a b : Int) : imax a b = max a b := by unfold imax; omega
theorem bne_true {a b : Int} (h : (a != b) = true) : a ≠ b := by simpa using h
theorem bne_false {a b : Int} (h : (a != b) = false) : a = b := by simpa using h
theorem nil_eq {α : Type} {l : List α} {i : Nat} (h : l.drop i = []) (hi : i ≤ l.length) : i = l.length := by
  have := List.drop_eq_nil_iff.1 h
  omega
theorem zU : EncOK 1 I := ⟨fun _ _ _ => rfl, fun _ _ => rfl, fun _ _ _ => rfl, fun _ => ⟨rfl, rfl⟩⟩
theorem z8 (n : Int) : w64 n = (n + 9223372036854775808) % 18446744073709551616 - 9223372036854775808 := by
  unfold w64 IntKind.wrap
  have hb : IntKind.i64.bits = 64 := rfl
  simp only [hb]
  simp [IntKind.signed]
  omega
theorem ct_at {n : Int} {i k : Nat} (h : (n - ((i : Nat) : Int)).toNat = k + 1) : decide (((i : Nat) : Int) < n) = true := decide_eq_true (by omega)
theorem ct_no {n : Int} {i : Nat} (h : (n - ((i : Nat) : Int)).toNat = 0) : decide (((i : Nat) : Int) < n) = false := decide_eq_false (by omega)
instance {α : Type} : Inhabited (GS α) := ⟨GS.nil⟩
def GS.at {α : Type} [Inhabited α] (s : GS α) (i : Int) : α := s.l.getD i.toNat default
/-- An element at a place. -/
theorem el_in {α : Type} [Inhabited α] {f : α → VS.D} {s : GS α} {k : Nat} {i : Int} (h0 : 0 ≤ i) (h1 : i < ((s.l.length : Nat) : Int)) : (0 : Int) ≤ i ∧ s.nl = false ∧ k = zsl s.nl k ∧ (s.l.map f)[i.toNat]? = Option.some (f (s.at i)) := by
  have hlt : i.toNat < s.l.length := by omega
  have hn : s.nl = false := by
    cases hn : s.nl with
    | false => rfl
    | true => rw [s.wf hn] at hlt; simp at hlt
  refine ⟨h0, hn, by rw [hn]; rfl, ?_⟩
  rw [List.getElem?_map, List.getElem?_eq_getElem hlt, GS.at, List.getD_eq_getElem?_getD, List.getElem?_eq_getElem hlt]; rfl
theorem at_of {α : Type} [Inhabited α] {s : GS α} {x : α} {rest : List α} {i : Nat} (h : s.l.drop i = x :: rest) : s.at ((i : Nat) : Int) = x := by
  have hx : s.l[i]? = Option.some x := by rw [← List.head?_drop, h]; rfl
  rw [GS.at, Int.toNat_natCast, List.getD_eq_getElem?_getD, hx]; rfl
theorem mem_drop {α : Type} {l : List α} {x : α} {rest : List α} {i : Nat} (h : l.drop i = x :: rest) : x ∈ l := List.mem_of_mem_drop (by rw [h]; simp)
/-- An element appended to a row. -/
theorem app_row {α : Type} {f : α → D} {te : Ty} {gO : Nat → Option Ob} {nxt o o2 sz : Nat} {fz : Bool} (EO : EncOK sz f) (l : List α) (x : α) (h1 : gO o = some ⟨l.map f, sz, false⟩) (h2 : gO o2 = some ⟨[f x], sz, fz⟩) (h3 : te.size = sz) (h4 : zeroOk te = true) (h5 : 0 < te.size)
    (hb : (l.length + 1) * te.bytes ≤ big ∧ l.length + 1 ≤ big) :
    appendE te gO nxt (.lsl o 0 l.length sz none) (.lsl o2 0 1 sz (some 1)) = some ⟨.lsl nxt 0 (l ++ [x]).length sz none, [(o, none), (nxt, some ⟨(l ++ [x]).map f, sz, false⟩)], [o, o2], nxt + 1⟩ := by
  have e1 : elemsD gO (.lsl o2 0 1 sz (some 1)) = some ([f x], sz, [o2]) := by
    simp [elemsD, h2]
  unfold appendE
  rw [e1]
  simp only [List.isEmpty, Bool.false_eq_true, if_false, h3, decide_true, Bool.true_and, h4, h1]
  have e2 : allOk sz [f x] = true := by simp only [allOk, (EO.ok x).1, (EO.ok x).2, decide_true, Bool.and_self]
  have e3 : allOk sz (List.map f l) = true := EO.allOk l
  have h5' : 0 < sz := h3 ▸ h5
  have e4 : List.take l.length (List.map f l) = List.map f l := by rw [List.take_of_length_le]; simp
  simp only [e2, h5', decide_true, Bool.and_self, if_true, List.length_map, Nat.zero_add, Nat.le_refl, appLsl, hb.1, hb.2, Bool.not_false, List.length_cons, List.length_nil, e4]
  rw [if_neg (by omega)]
  simp [h3, e3]
theorem GS.some_l {α : Type} {l : List α} : (GS.some l).l = l := rfl
/-- A copy of a row. -/
theorem snap_row {α : Type} {f : α → D} {gO : Nat → Option Ob} {o len sz : Nat} {cap : Option Nat} {fz : Bool} (EO : EncOK sz f) (l : List α) (h1 : gO o = Option.some ⟨l.map f, sz, fz⟩) (h2 : l.length = len) : ∀ n, snap gO (n + 3) (.lsl o 0 len sz cap) = Option.some (.sl false (l.map f) sz none, [o]) := by
  intro n
  subst h2
  have e4 : List.take l.length (List.map f l) = List.map f l := by rw [List.take_of_length_le]; simp
  rw [snap]
  simp only [h1, decide_true, Bool.true_and, Nat.zero_add, List.length_map, Nat.le_refl, if_true, List.drop_zero, e4, EO.snapAll]
end Go.VS

namespace Go.VS
open Go Go.Proofs
set_option maxHeartbeats 0
set_option linter.unusedSimpArgs false
set_option linter.unusedVariables false
structure S_Span where
  lo : Int
  hi : Int
instance : Inhabited S_Span := ⟨⟨0, 0⟩⟩
def S_Span.D (x : S_Span) : VS.D := .agg [I x.lo, I x.hi]
structure S_Item where
  now : S_Span
  cost : Int
  error : Int
instance : Inhabited S_Item := ⟨⟨default, 0, 0⟩⟩
def S_Item.D (x : S_Item) : VS.D := .agg [I x.now.lo, I x.now.hi, I x.cost, I x.error]
structure S_Estate where
  items : GS S_Item
  whole : S_Span
instance : Inhabited S_Estate := ⟨⟨GS.nil, default⟩⟩
def S_Estate.D (x : S_Estate) : VS.D := .agg [.sl x.items.nl (x.items.l.map S_Item.D) (zsl x.items.nl 4) none, I x.whole.lo, I x.whole.hi]
def zE (n : Int) (lo : Int) (hi : Int) : Bool :=
  bif decide (n ≥ lo) then
    bif decide (n ≤ hi) then
      true
    else
      false
  else
    false

theorem T_orders_within (n : Int) (lo : Int) (hi : Int) : (lim cfg).pure 81 [I n, I lo, I hi] = some (B (zE n lo hi)) := by
  unfold zE
  cases h1 : decide (n ≥ lo) with
  | true =>
    have g1 := of_decide_eq_true h1
    cases h2 : decide (n ≤ hi) with
    | true =>
      have g2 := of_decide_eq_true h2
      exact za [.dec true, .dec true] (And.intro h2 (And.intro h1 trivial)) (by kernel_rfl)
    | false =>
      have g2 := of_decide_eq_false h2
      exact za [.dec true, .dec false] (And.intro h2 (And.intro h1 trivial)) (by kernel_rfl)
  | false =>
    have g1 := of_decide_eq_false h1
    exact za [.dec false] (And.intro h1 trivial) (by kernel_rfl)

theorem within_eq (n lo hi : Int) : zE n lo hi = (decide (lo ≤ n) && decide (n ≤ hi)) := by
  unfold zE
  cases h1 : decide (n ≥ lo) <;> cases h2 : decide (n ≤ hi) <;> simp_all
theorem within_t {n lo hi : Int} (h : zE n lo hi = true) : lo ≤ n ∧ n ≤ hi := by simpa [within_eq] using h
theorem within_f {n lo hi : Int} (h : zE n lo hi = false) : ¬ (lo ≤ n ∧ n ≤ hi) := by
  rw [within_eq] at h
  intro hh
  simp [hh.1, hh.2] at h

def orders_span (x : S_Span) (most : Int) : Bool :=
  bif decide (x.lo ≥ 0) then
    bif decide (x.lo ≤ x.hi) then
      bif decide (x.hi ≤ most) then
        true
      else
        false
    else
      false
  else
    false

theorem T_orders_span (x : S_Span) (most : Int) : (lim cfg).pure 82 [S_Span.D x, I most] = some (B (orders_span x most)) := by
  unfold orders_span
  cases h1 : decide (x.lo ≥ 0) with
  | true =>
    have g1 := of_decide_eq_true h1
    cases h2 : decide (x.lo ≤ x.hi) with
    | true =>
      have g2 := of_decide_eq_true h2
      cases h3 : decide (x.hi ≤ most) with
      | true =>
        have g3 := of_decide_eq_true h3
        exact za [.dec true, .dec true, .dec true] (And.intro h3 (And.intro h2 (And.intro h1 trivial))) (by kernel_rfl)
      | false =>
        have g3 := of_decide_eq_false h3
        exact za [.dec true, .dec true, .dec false] (And.intro h3 (And.intro h2 (And.intro h1 trivial))) (by kernel_rfl)
    | false =>
      have g2 := of_decide_eq_false h2
      exact za [.dec true, .dec false] (And.intro h2 (And.intro h1 trivial)) (by kernel_rfl)
  | false =>
    have g1 := of_decide_eq_false h1
    exact za [.dec false] (And.intro h1 trivial) (by kernel_rfl)

def zQ (x : S_Span) (y : S_Span) : S_Span × Bool :=
  bif decide ((imax x.lo y.lo) ≤ (imin x.hi y.hi)) then
    ((⟨imax x.lo y.lo, imin x.hi y.hi⟩ : S_Span), true)
  else
    ((⟨imax x.lo y.lo, imin x.hi y.hi⟩ : S_Span), false)

theorem T_orders_common (x : S_Span) (y : S_Span) : (lim cfg).pure 83 [S_Span.D x, S_Span.D y] = some (.tup [S_Span.D ((zQ x y).1), B ((zQ x y).2)]) := by
  unfold zQ
  cases h1 : decide ((imax x.lo y.lo) ≤ (imin x.hi y.hi)) with
  | true =>
    have g1 := of_decide_eq_true h1
    exact za [.dec true] (And.intro h1 trivial) (by kernel_rfl)
  | false =>
    have g1 := of_decide_eq_false h1
    exact za [.dec false] (And.intro h1 trivial) (by kernel_rfl)

def zj (i : S_Item) : Int :=
  imax 0 (w64 ((w64 (i.now.hi - i.now.lo)) - (w64 (2 * i.error))))

theorem T_orders_gain (i : S_Item) : (lim cfg).pure 96 [S_Item.D i] = some (I (zj i)) := by
  unfold zj
  exact za [] (trivial) (by kernel_rfl)

noncomputable def lp48_2 : Code := subC [1, 0, 1, 0, 0] (bodyC Tryz.f48)

inductive LR_orders_all_2 where
  | x0 (v2_0 : Int) (v2_1 : Int)
instance : Inhabited LR_orders_all_2 := ⟨.x0 default default⟩
def orders_all_2 : List S_Item → Int → Int → LR_orders_all_2
  | [], v2_0, v2_1 => .x0 v2_0 v2_1
  | x2 :: rest2, v2_0, v2_1 =>
    orders_all_2 rest2 (w64 (v2_0 + x2.now.lo)) (w64 (v2_1 + x2.now.hi))
def lr_orders_all_2 (e : S_Estate) : LR_orders_all_2 → Exit × St
  | .x0 v2_0 v2_1 => ((.exit 0), ⟨28, [(9, B false), (2, .lref 0 0 2 0), (6, .sl e.items.nl (e.items.l.map S_Item.D) (zsl e.items.nl 4) none), (7, I ((e.items.l.length : Nat) : Int)), (8, I ((e.items.l.length : Nat) : Int))], [(0, ⟨[.agg [I v2_0, I v2_1]], 2, false⟩)], 1, 0⟩)
theorem lp_orders_all_2 (e : S_Estate) : ∀ (rest2 : List S_Item) (i2 : Nat) (v2_0 : Int) (v2_1 : Int) (hd2 : e.items.l.drop i2 = rest2) (hi2 : i2 ≤ e.items.l.length) (hL2 : e.items.l.length ≤ 9223372036854775807), (lim cfg).loop 48 lp48_2 ⟨28, [(2, .lref 0 0 2 0), (6, .sl e.items.nl (e.items.l.map S_Item.D) (zsl e.items.nl 4) none), (7, I ((e.items.l.length : Nat) : Int)), (8, I ((i2 : Nat) : Int))], [(0, ⟨[.agg [I v2_0, I v2_1]], 2, false⟩)], 1, 0⟩ = some (lr_orders_all_2 e (orders_all_2 rest2 v2_0 v2_1)) := by
  intro rest2
  induction rest2 with
  | nil =>
    intro i2 v2_0 v2_1 hd2 hi2 hL2
    unfold orders_all_2
    obtain rfl : i2 = e.items.l.length := nil_eq hd2 hi2
    exact zO [.dec false] (And.intro (lt_no hd2) trivial) (by kernel_rfl)
  | cons x2 rest2 ih =>
    intro i2 v2_0 v2_1 hd2 hi2 hL2
    have hlt2 := zr hd2
    unfold orders_all_2
    exact po_turn [.dec true, .el (.agg [I x2.now.lo, I x2.now.hi, I x2.cost, I x2.error]), .rw 26 (I ((i2 + 1 : Nat) : Int))] (And.intro (yb (i := i2) (by have := zr hd2; omega)) (And.intro (el_at (s := e.items) (f := S_Item.D) (k := 4) hd2) (And.intro (lt_at hd2) trivial))) (ih (i2 + 1) (w64 (v2_0 + x2.now.lo)) (w64 (v2_1 + x2.now.hi)) (zJ hd2) (zr hd2) (by first | assumption | omega)) (by kernel_rfl)

def orders_all (e : S_Estate) : S_Span :=
  match orders_all_2 e.items.l 0 0 with
  | .x0 v2_0 v2_1 =>
    (⟨v2_0, v2_1⟩ : S_Span)

def sd0 (e : S_Estate) (v2_0 : Int) (v2_1 : Int) : St := ⟨28, [(9, B false), (2, .lref 0 0 2 0), (6, .sl e.items.nl (e.items.l.map S_Item.D) (zsl e.items.nl 4) none), (7, I ((e.items.l.length : Nat) : Int)), (8, I ((e.items.l.length : Nat) : Int))], [(0, ⟨[.agg [I v2_0, I v2_1]], 2, false⟩)], 1, 0⟩

theorem T_orders_all (e : S_Estate) (hL_e_items : e.items.l.length ≤ 9223372036854775807) : (lim cfg).pure 48 [S_Estate.D e] = some (S_Span.D (orders_all e)) := by
  unfold orders_all
  cases h1 : orders_all_2 e.items.l 0 0 with
  | x0 v2_0 v2_1 =>
    try dsimp only
    exact za [.rw 7 (I ((e.items.l.length : Nat) : Int)), .loop (.exit 0) (sd0 e v2_0 v2_1)] (And.intro (po_lr (q := lr_orders_all_2 e) (lp_orders_all_2 e e.items.l 0 0 0 (List.drop_zero) (Nat.zero_le _) (by first | assumption | omega)) h1) (And.intro (zh S_Item.D e.items) trivial)) (by kernel_rfl)

noncomputable def lp31_4 : Code := subC [1, 1, 0, 1, 0, 0] (bodyC Tryz.f31)

inductive LR_orders_Check_4 where
  | x0
  | x1 (i4 : Nat) (x4 : S_Item)
  | x2 (i4 : Nat) (x4 : S_Item)
  | x3 (i4 : Nat) (x4 : S_Item)
instance : Inhabited LR_orders_Check_4 := ⟨.x0⟩
def orders_Check_4 : List S_Item → Nat → LR_orders_Check_4
  | [], i4 => .x0
  | x4 :: rest4, i4 =>
    bif (orders_span x4.now 1073741824) then
      bif (zE x4.cost 0 10000) then
        bif (zE x4.error 0 1048576) then
          orders_Check_4 rest4 (i4 + 1)
        else
          .x1 i4 x4
      else
        .x2 i4 x4
    else
      .x3 i4 x4
def lr_orders_Check_4 (e : S_Estate) : LR_orders_Check_4 → Exit × St
  | .x0 => ((.exit 0), ⟨52, [(22, B false), (1, .lref 0 0 3 0), (19, .sl e.items.nl (e.items.l.map S_Item.D) (zsl e.items.nl 4) none), (20, I ((e.items.l.length : Nat) : Int)), (21, I ((e.items.l.length : Nat) : Int))], [(0, ⟨[.agg [.sl e.items.nl (e.items.l.map S_Item.D) (zsl e.items.nl 4) none, I e.whole.lo, I e.whole.hi]], 3, false⟩)], 1, 0⟩)
  | .x1 i4 x4 => (.ret, ⟨52, [(2, I 80), (40, B true), (39, B true), (38, B false), (37, I x4.error), (36, .lref 1 0 4 3), (35, B false), (34, B false), (33, B false), (32, B true), (31, I x4.cost), (30, .lref 1 0 4 2), (29, B false), (28, B false), (27, B true), (26, .agg [I x4.now.lo, I x4.now.hi]), (25, .lref 1 0 4 0), (4, .lref 1 0 4 0), (24, .agg [I x4.now.lo, I x4.now.hi, I x4.cost, I x4.error]), (23, .ptr (.agg [I x4.now.lo, I x4.now.hi, I x4.cost, I x4.error])), (22, B true), (1, .lref 0 0 3 0), (19, .sl e.items.nl (e.items.l.map S_Item.D) (zsl e.items.nl 4) none), (20, I ((e.items.l.length : Nat) : Int)), (21, I ((i4 : Nat) : Int))], [(0, ⟨[.agg [.sl e.items.nl (e.items.l.map S_Item.D) (zsl e.items.nl 4) none, I e.whole.lo, I e.whole.hi]], 3, false⟩), (1, ⟨[.agg [I x4.now.lo, I x4.now.hi, I x4.cost, I x4.error]], 4, false⟩)], 2, 0⟩)
  | .x2 i4 x4 => (.ret, ⟨52, [(2, I 80), (40, B true), (39, .tup []), (38, .tup []), (37, .tup []), (36, .tup []), (35, B true), (34, B true), (33, B true), (32, B false), (31, I x4.cost), (30, .lref 1 0 4 2), (29, B false), (28, B false), (27, B true), (26, .agg [I x4.now.lo, I x4.now.hi]), (25, .lref 1 0 4 0), (4, .lref 1 0 4 0), (24, .agg [I x4.now.lo, I x4.now.hi, I x4.cost, I x4.error]), (23, .ptr (.agg [I x4.now.lo, I x4.now.hi, I x4.cost, I x4.error])), (22, B true), (1, .lref 0 0 3 0), (19, .sl e.items.nl (e.items.l.map S_Item.D) (zsl e.items.nl 4) none), (20, I ((e.items.l.length : Nat) : Int)), (21, I ((i4 : Nat) : Int))], [(0, ⟨[.agg [.sl e.items.nl (e.items.l.map S_Item.D) (zsl e.items.nl 4) none, I e.whole.lo, I e.whole.hi]], 3, false⟩), (1, ⟨[.agg [I x4.now.lo, I x4.now.hi, I x4.cost, I x4.error]], 4, false⟩)], 2, 0⟩)
  | .x3 i4 x4 => (.ret, ⟨52, [(2, I 80), (40, B true), (39, .tup []), (38, .tup []), (37, .tup []), (36, .tup []), (35, B true), (34, B true), (33, .tup []), (32, .tup []), (31, .tup []), (30, .tup []), (29, B true), (28, B true), (27, B false), (26, .agg [I x4.now.lo, I x4.now.hi]), (25, .lref 1 0 4 0), (4, .lref 1 0 4 0), (24, .agg [I x4.now.lo, I x4.now.hi, I x4.cost, I x4.error]), (23, .ptr (.agg [I x4.now.lo, I x4.now.hi, I x4.cost, I x4.error])), (22, B true), (1, .lref 0 0 3 0), (19, .sl e.items.nl (e.items.l.map S_Item.D) (zsl e.items.nl 4) none), (20, I ((e.items.l.length : Nat) : Int)), (21, I ((i4 : Nat) : Int))], [(0, ⟨[.agg [.sl e.items.nl (e.items.l.map S_Item.D) (zsl e.items.nl 4) none, I e.whole.lo, I e.whole.hi]], 3, false⟩), (1, ⟨[.agg [I x4.now.lo, I x4.now.hi, I x4.cost, I x4.error]], 4, false⟩)], 2, 0⟩)
def orders_Check_4_l_o1 (x4 : S_Item) : List Ora := [.dec true, .el (.agg [I x4.now.lo, I x4.now.hi, I x4.cost, I x4.error]), .pure (B (orders_span x4.now 1073741824)), .dec true, .pure (B (zE x4.cost 0 10000))]
theorem lp_orders_Check_4 (e : S_Estate) : ∀ (rest4 : List S_Item) (i4 : Nat) (hd4 : e.items.l.drop i4 = rest4) (hi4 : i4 ≤ e.items.l.length) (hL4 : e.items.l.length ≤ 9223372036854775807), (lim cfg).loop 31 lp31_4 ⟨52, [(1, .lref 0 0 3 0), (19, .sl e.items.nl (e.items.l.map S_Item.D) (zsl e.items.nl 4) none), (20, I ((e.items.l.length : Nat) : Int)), (21, I ((i4 : Nat) : Int))], [(0, ⟨[.agg [.sl e.items.nl (e.items.l.map S_Item.D) (zsl e.items.nl 4) none, I e.whole.lo, I e.whole.hi]], 3, false⟩)], 1, 0⟩ = some (lr_orders_Check_4 e (orders_Check_4 rest4 i4)) := by
  intro rest4
  induction rest4 with
  | nil =>
    intro i4 hd4 hi4 hL4
    unfold orders_Check_4
    obtain rfl : i4 = e.items.l.length := nil_eq hd4 hi4
    exact zO [.dec false] (And.intro (lt_no hd4) trivial) (by kernel_rfl)
  | cons x4 rest4 ih =>
    intro i4 hd4 hi4 hL4
    have hlt4 := zr hd4
    unfold orders_Check_4
    have p1 := (el_at (s := e.items) (f := S_Item.D) (k := 4) hd4)
    cases h6 : (orders_span x4.now 1073741824) with
    | true =>
      cases h7 : (zE x4.cost 0 10000) with
      | true =>
        have g7 := within_t h7
        cases h8 : (zE x4.error 0 1048576) with
        | true =>
          have g8 := within_t h8
          exact po_turn ((orders_Check_4_l_o1 x4) ++ [.dec true, .pure (B (zE x4.error 0 1048576)), .dec true, .rw 41 (I ((i4 + 1 : Nat) : Int))]) (And.intro (yb (i := i4) (by have := zr hd4; omega)) (And.intro h8 (And.intro (T_orders_within x4.error 0 1048576) (And.intro h7 (And.intro (T_orders_within x4.cost 0 10000) (And.intro h6 (And.intro (T_orders_span x4.now 1073741824) (And.intro p1 (And.intro (lt_at hd4) trivial))))))))) (ih (i4 + 1) (zJ hd4) (zr hd4) (by first | assumption | omega)) (by kernel_rfl)
        | false =>
          have g8 := within_f h8
          exact zO ((orders_Check_4_l_o1 x4) ++ [.dec true, .pure (B (zE x4.error 0 1048576)), .dec false]) (And.intro h8 (And.intro (T_orders_within x4.error 0 1048576) (And.intro h7 (And.intro (T_orders_within x4.cost 0 10000) (And.intro h6 (And.intro (T_orders_span x4.now 1073741824) (And.intro p1 (And.intro (lt_at hd4) trivial)))))))) (by kernel_rfl)
      | false =>
        have g7 := within_f h7
        exact zO ((orders_Check_4_l_o1 x4) ++ [.dec false]) (And.intro h7 (And.intro (T_orders_within x4.cost 0 10000) (And.intro h6 (And.intro (T_orders_span x4.now 1073741824) (And.intro p1 (And.intro (lt_at hd4) trivial)))))) (by kernel_rfl)
    | false =>
      exact zO [.dec true, .el (.agg [I x4.now.lo, I x4.now.hi, I x4.cost, I x4.error]), .pure (B (orders_span x4.now 1073741824)), .dec false] (And.intro h6 (And.intro (T_orders_span x4.now 1073741824) (And.intro p1 (And.intro (lt_at hd4) trivial)))) (by kernel_rfl)

def zN (e : S_Estate) : Int :=
  bif (zE ((e.items.l.length : Nat) : Int) 1 12) then
    bif (orders_span e.whole 17179869184) then
      match orders_Check_4 e.items.l 0 with
      | .x0 =>
        bif ((zQ (orders_all e) e.whole).2) then
          0
        else
          80
      | .x1 i4 x4 =>
        80
      | .x2 i4 x4 =>
        80
      | .x3 i4 x4 =>
        80
    else
      80
  else
    80

def orders_Check_o1 (e : S_Estate) : List Ora := [.rw 9 (I ((e.items.l.length : Nat) : Int)), .pure (B (zE ((e.items.l.length : Nat) : Int) 1 12)), .dec true, .pure (B (orders_span e.whole 17179869184))]

def sd1 (e : S_Estate) : St := ⟨52, [(22, B false), (1, .lref 0 0 3 0), (19, .sl e.items.nl (e.items.l.map S_Item.D) (zsl e.items.nl 4) none), (20, I ((e.items.l.length : Nat) : Int)), (21, I ((e.items.l.length : Nat) : Int))], [(0, ⟨[.agg [.sl e.items.nl (e.items.l.map S_Item.D) (zsl e.items.nl 4) none, I e.whole.lo, I e.whole.hi]], 3, false⟩)], 1, 0⟩

def orders_Check_o2 (e : S_Estate) : List Ora := [.dec true, .rw 20 (I ((e.items.l.length : Nat) : Int)), .loop (.exit 0) (sd1 e), .pure (.agg [I ((orders_all e).lo), I ((orders_all e).hi)]), .pure (.tup [.agg [I (((zQ (orders_all e) e.whole).1).lo), I (((zQ (orders_all e) e.whole).1).hi)], B ((zQ (orders_all e) e.whole).2)])]

def sd2 (e : S_Estate) (i4 : Nat) (x4 : S_Item) : St := ⟨52, [(2, I 80), (40, B true), (39, B true), (38, B false), (37, I x4.error), (36, .lref 1 0 4 3), (35, B false), (34, B false), (33, B false), (32, B true), (31, I x4.cost), (30, .lref 1 0 4 2), (29, B false), (28, B false), (27, B true), (26, .agg [I x4.now.lo, I x4.now.hi]), (25, .lref 1 0 4 0), (4, .lref 1 0 4 0), (24, .agg [I x4.now.lo, I x4.now.hi, I x4.cost, I x4.error]), (23, .ptr (.agg [I x4.now.lo, I x4.now.hi, I x4.cost, I x4.error])), (22, B true), (1, .lref 0 0 3 0), (19, .sl e.items.nl (e.items.l.map S_Item.D) (zsl e.items.nl 4) none), (20, I ((e.items.l.length : Nat) : Int)), (21, I ((i4 : Nat) : Int))], [(0, ⟨[.agg [.sl e.items.nl (e.items.l.map S_Item.D) (zsl e.items.nl 4) none, I e.whole.lo, I e.whole.hi]], 3, false⟩), (1, ⟨[.agg [I x4.now.lo, I x4.now.hi, I x4.cost, I x4.error]], 4, false⟩)], 2, 0⟩

def sd3 (e : S_Estate) (i4 : Nat) (x4 : S_Item) : St := ⟨52, [(2, I 80), (40, B true), (39, .tup []), (38, .tup []), (37, .tup []), (36, .tup []), (35, B true), (34, B true), (33, B true), (32, B false), (31, I x4.cost), (30, .lref 1 0 4 2), (29, B false), (28, B false), (27, B true), (26, .agg [I x4.now.lo, I x4.now.hi]), (25, .lref 1 0 4 0), (4, .lref 1 0 4 0), (24, .agg [I x4.now.lo, I x4.now.hi, I x4.cost, I x4.error]), (23, .ptr (.agg [I x4.now.lo, I x4.now.hi, I x4.cost, I x4.error])), (22, B true), (1, .lref 0 0 3 0), (19, .sl e.items.nl (e.items.l.map S_Item.D) (zsl e.items.nl 4) none), (20, I ((e.items.l.length : Nat) : Int)), (21, I ((i4 : Nat) : Int))], [(0, ⟨[.agg [.sl e.items.nl (e.items.l.map S_Item.D) (zsl e.items.nl 4) none, I e.whole.lo, I e.whole.hi]], 3, false⟩), (1, ⟨[.agg [I x4.now.lo, I x4.now.hi, I x4.cost, I x4.error]], 4, false⟩)], 2, 0⟩

def sd4 (e : S_Estate) (i4 : Nat) (x4 : S_Item) : St := ⟨52, [(2, I 80), (40, B true), (39, .tup []), (38, .tup []), (37, .tup []), (36, .tup []), (35, B true), (34, B true), (33, .tup []), (32, .tup []), (31, .tup []), (30, .tup []), (29, B true), (28, B true), (27, B false), (26, .agg [I x4.now.lo, I x4.now.hi]), (25, .lref 1 0 4 0), (4, .lref 1 0 4 0), (24, .agg [I x4.now.lo, I x4.now.hi, I x4.cost, I x4.error]), (23, .ptr (.agg [I x4.now.lo, I x4.now.hi, I x4.cost, I x4.error])), (22, B true), (1, .lref 0 0 3 0), (19, .sl e.items.nl (e.items.l.map S_Item.D) (zsl e.items.nl 4) none), (20, I ((e.items.l.length : Nat) : Int)), (21, I ((i4 : Nat) : Int))], [(0, ⟨[.agg [.sl e.items.nl (e.items.l.map S_Item.D) (zsl e.items.nl 4) none, I e.whole.lo, I e.whole.hi]], 3, false⟩), (1, ⟨[.agg [I x4.now.lo, I x4.now.hi, I x4.cost, I x4.error]], 4, false⟩)], 2, 0⟩

theorem T_orders_Check (e : S_Estate) : (lim cfg).pure 31 [S_Estate.D e] = some (I (zN e)) := by
  unfold zN
  have p1 := (T_orders_within ((e.items.l.length : Nat) : Int) 1 12)
  cases h1 : (zE ((e.items.l.length : Nat) : Int) 1 12) with
  | true =>
    have g1 := within_t h1
    cases h2 : (orders_span e.whole 17179869184) with
    | true =>
      cases h9 : orders_Check_4 e.items.l 0 with
      | x0 =>
        try dsimp only
        have p2 := (po_lr (q := lr_orders_Check_4 e) (lp_orders_Check_4 e e.items.l 0 (List.drop_zero) (Nat.zero_le _) (by first | assumption | omega)) h9)
        cases h10 : ((zQ (orders_all e) e.whole).2) with
        | true =>
          exact za ((orders_Check_o1 e) ++ ((orders_Check_o2 e) ++ [.dec true])) (And.intro h10 (And.intro (T_orders_common (orders_all e) e.whole) (And.intro (T_orders_all e (by first | assumption | omega)) (And.intro p2 (And.intro (zh S_Item.D e.items) (And.intro h2 (And.intro (T_orders_span e.whole 17179869184) (And.intro h1 (And.intro p1 (And.intro (zh S_Item.D e.items) trivial)))))))))) (by kernel_rfl)
        | false =>
          exact za ((orders_Check_o1 e) ++ ((orders_Check_o2 e) ++ [.dec false])) (And.intro h10 (And.intro (T_orders_common (orders_all e) e.whole) (And.intro (T_orders_all e (by first | assumption | omega)) (And.intro p2 (And.intro (zh S_Item.D e.items) (And.intro h2 (And.intro (T_orders_span e.whole 17179869184) (And.intro h1 (And.intro p1 (And.intro (zh S_Item.D e.items) trivial)))))))))) (by kernel_rfl)
      | x1 i4 x4 =>
        try dsimp only
        exact za ((orders_Check_o1 e) ++ [.dec true, .rw 20 (I ((e.items.l.length : Nat) : Int)), .loop .ret (sd2 e i4 x4)]) (And.intro (po_lr (q := lr_orders_Check_4 e) (lp_orders_Check_4 e e.items.l 0 (List.drop_zero) (Nat.zero_le _) (by first | assumption | omega)) h9) (And.intro (zh S_Item.D e.items) (And.intro h2 (And.intro (T_orders_span e.whole 17179869184) (And.intro h1 (And.intro p1 (And.intro (zh S_Item.D e.items) trivial))))))) (by kernel_rfl)
      | x2 i4 x4 =>
        try dsimp only
        exact za ((orders_Check_o1 e) ++ [.dec true, .rw 20 (I ((e.items.l.length : Nat) : Int)), .loop .ret (sd3 e i4 x4)]) (And.intro (po_lr (q := lr_orders_Check_4 e) (lp_orders_Check_4 e e.items.l 0 (List.drop_zero) (Nat.zero_le _) (by first | assumption | omega)) h9) (And.intro (zh S_Item.D e.items) (And.intro h2 (And.intro (T_orders_span e.whole 17179869184) (And.intro h1 (And.intro p1 (And.intro (zh S_Item.D e.items) trivial))))))) (by kernel_rfl)
      | x3 i4 x4 =>
        try dsimp only
        exact za ((orders_Check_o1 e) ++ [.dec true, .rw 20 (I ((e.items.l.length : Nat) : Int)), .loop .ret (sd4 e i4 x4)]) (And.intro (po_lr (q := lr_orders_Check_4 e) (lp_orders_Check_4 e e.items.l 0 (List.drop_zero) (Nat.zero_le _) (by first | assumption | omega)) h9) (And.intro (zh S_Item.D e.items) (And.intro h2 (And.intro (T_orders_span e.whole 17179869184) (And.intro h1 (And.intro p1 (And.intro (zh S_Item.D e.items) trivial))))))) (by kernel_rfl)
    | false =>
      exact za ((orders_Check_o1 e) ++ [.dec false]) (And.intro h2 (And.intro (T_orders_span e.whole 17179869184) (And.intro h1 (And.intro p1 (And.intro (zh S_Item.D e.items) trivial))))) (by kernel_rfl)
  | false =>
    have g1 := within_f h1
    exact za [.rw 9 (I ((e.items.l.length : Nat) : Int)), .pure (B (zE ((e.items.l.length : Nat) : Int) 1 12)), .dec false] (And.intro h1 (And.intro p1 (And.intro (zh S_Item.D e.items) trivial))) (by kernel_rfl)

theorem check_len {e : S_Estate} (h : zN e = 0) : 1 ≤ e.items.l.length ∧ e.items.l.length ≤ 12 := by
  unfold zN at h
  cases hw : zE ((e.items.l.length : Nat) : Int) 1 12 with
  | true => have := within_t hw; omega
  | false => rw [hw] at h; simp at h

theorem zg : EncOK 4 S_Item.D := ⟨fun _ _ _ => rfl, fun _ _ => rfl, fun _ _ _ => rfl, fun _ => ⟨rfl, rfl⟩⟩

end Go.VS

namespace Go.VS
open Go Go.Proofs
set_option maxHeartbeats 0
set_option linter.unusedSimpArgs false
set_option linter.unusedVariables false
theorem sane_ok : (lim cfg).pure 7 [] = some (B true) := lim_pure.2 ⟨40, by kernel_rfl⟩
end Go.VS

namespace Go.VS
open Go Go.Proofs
set_option maxHeartbeats 0
set_option linter.unusedSimpArgs false
set_option linter.unusedVariables false
noncomputable def lp74_3 : Code := subC [1, 1, 0, 1, 0, 0] (bodyC Tryz.f74)

inductive LR_r_All_3 where
  | x0 (v3_0 : Int) (v3_1 : Int)
instance : Inhabited LR_r_All_3 := ⟨.x0 default default⟩
def r_All_3 : List S_Item → Int → Int → LR_r_All_3
  | [], v3_0, v3_1 => .x0 v3_0 v3_1
  | x3 :: rest3, v3_0, v3_1 =>
    r_All_3 rest3 (w64 (v3_0 + x3.now.lo)) (w64 (v3_1 + x3.now.hi))
def lr_r_All_3 (e : S_Estate) : LR_r_All_3 → Exit × St
  | .x0 v3_0 v3_1 => ((.exit 0), ⟨36, [(10, B false), (9, I ((e.items.l.length : Nat) : Int)), (8, .sl e.items.nl (e.items.l.map S_Item.D) (zsl e.items.nl 4) none), (7, .lref 0 0 3 0), (6, I ((e.items.l.length : Nat) : Int)), (1, .lref 0 0 3 0), (2, .lref 1 0 2 0), (3, .lref 2 0 2 0), (4, I ((e.items.l.length : Nat) : Int))], [(0, ⟨[.agg [.sl e.items.nl (e.items.l.map S_Item.D) (zsl e.items.nl 4) none, I e.whole.lo, I e.whole.hi]], 3, false⟩), (1, ⟨[.agg [I 0, I 0]], 2, false⟩), (2, ⟨[.agg [I v3_0, I v3_1]], 2, false⟩)], 3, 0⟩)
theorem lp_r_All_3 (e : S_Estate) : ∀ (rest3 : List S_Item) (i3 : Nat) (v3_0 : Int) (v3_1 : Int) (hd3 : e.items.l.drop i3 = rest3) (hi3 : i3 ≤ e.items.l.length) (hL3 : e.items.l.length ≤ 9223372036854775807), (lim cfg).loop 74 lp74_3 ⟨36, [(1, .lref 0 0 3 0), (2, .lref 1 0 2 0), (3, .lref 2 0 2 0), (4, I ((i3 : Nat) : Int))], [(0, ⟨[.agg [.sl e.items.nl (e.items.l.map S_Item.D) (zsl e.items.nl 4) none, I e.whole.lo, I e.whole.hi]], 3, false⟩), (1, ⟨[.agg [I 0, I 0]], 2, false⟩), (2, ⟨[.agg [I v3_0, I v3_1]], 2, false⟩)], 3, 0⟩ = some (lr_r_All_3 e (r_All_3 rest3 v3_0 v3_1)) := by
  intro rest3
  induction rest3 with
  | nil =>
    intro i3 v3_0 v3_1 hd3 hi3 hL3
    unfold r_All_3
    obtain rfl : i3 = e.items.l.length := nil_eq hd3 hi3
    exact zO [.rw 9 (I ((e.items.l.length : Nat) : Int)), .dec false] (And.intro (lt_no hd3) (And.intro (zh S_Item.D e.items) trivial)) (by kernel_rfl)
  | cons x3 rest3 ih =>
    intro i3 v3_0 v3_1 hd3 hi3 hL3
    have hlt3 := zr hd3
    unfold r_All_3
    exact po_turn [.rw 9 (I ((e.items.l.length : Nat) : Int)), .dec true, .el (.agg [I x3.now.lo, I x3.now.hi, I x3.cost, I x3.error]), .el (.agg [I x3.now.lo, I x3.now.hi, I x3.cost, I x3.error]), .rw 12 (I ((i3 + 1 : Nat) : Int))] (And.intro (yb (i := i3) (by have := zr hd3; omega)) (And.intro (el_at (s := e.items) (f := S_Item.D) (k := 4) hd3) (And.intro (el_at (s := e.items) (f := S_Item.D) (k := 4) hd3) (And.intro (lt_at hd3) (And.intro (zh S_Item.D e.items) trivial))))) (ih (i3 + 1) (w64 (v3_0 + x3.now.lo)) (w64 (v3_1 + x3.now.hi)) (zJ hd3) (zr hd3) (by first | assumption | omega)) (by kernel_rfl)

def r_All (e : S_Estate) : S_Span :=
  match r_All_3 e.items.l 0 0 with
  | .x0 v3_0 v3_1 =>
    (⟨v3_0, v3_1⟩ : S_Span)

def sd9 (e : S_Estate) (v3_0 : Int) (v3_1 : Int) : St := ⟨36, [(10, B false), (9, I ((e.items.l.length : Nat) : Int)), (8, .sl e.items.nl (e.items.l.map S_Item.D) (zsl e.items.nl 4) none), (7, .lref 0 0 3 0), (6, I ((e.items.l.length : Nat) : Int)), (1, .lref 0 0 3 0), (2, .lref 1 0 2 0), (3, .lref 2 0 2 0), (4, I ((e.items.l.length : Nat) : Int))], [(0, ⟨[.agg [.sl e.items.nl (e.items.l.map S_Item.D) (zsl e.items.nl 4) none, I e.whole.lo, I e.whole.hi]], 3, false⟩), (1, ⟨[.agg [I 0, I 0]], 2, false⟩), (2, ⟨[.agg [I v3_0, I v3_1]], 2, false⟩)], 3, 0⟩

theorem T_r_All (e : S_Estate) (hL_e_items : e.items.l.length ≤ 9223372036854775807) : (lim cfg).pure 74 [S_Estate.D e] = some (S_Span.D (r_All e)) := by
  unfold r_All
  cases h1 : r_All_3 e.items.l 0 0 with
  | x0 v3_0 v3_1 =>
    try dsimp only
    exact za [.loop (.exit 0) (sd9 e v3_0 v3_1)] (And.intro (po_lr (q := lr_r_All_3 e) (lp_r_All_3 e e.items.l 0 0 0 (List.drop_zero) (Nat.zero_le _) (by first | assumption | omega)) h1) trivial) (by kernel_rfl)

noncomputable def lp54_4 : Code := subC [1, 1, 0, 1, 0, 0] (bodyC Tryz.f54)

inductive LR_r_Valid_4 where
  | x0
  | x1 (i4 : Nat) (x4 : S_Item)
  | x2 (i4 : Nat) (x4 : S_Item)
  | x3 (i4 : Nat) (x4 : S_Item)
  | x4 (i4 : Nat) (x4 : S_Item)
  | x5 (i4 : Nat) (x4 : S_Item)
  | x6 (i4 : Nat) (x4 : S_Item)
  | x7 (i4 : Nat) (x4 : S_Item)
instance : Inhabited LR_r_Valid_4 := ⟨.x0⟩
def r_Valid_4 : List S_Item → Nat → LR_r_Valid_4
  | [], i4 => .x0
  | x4 :: rest4, i4 =>
    bif decide (x4.now.lo < 0) then
      .x1 i4 x4
    else
      bif decide (x4.now.lo > x4.now.hi) then
        .x2 i4 x4
      else
        bif decide (x4.now.hi > 1073741824) then
          .x3 i4 x4
        else
          bif decide (x4.cost < 0) then
            .x4 i4 x4
          else
            bif decide (x4.cost > 10000) then
              .x5 i4 x4
            else
              bif decide (x4.error < 0) then
                .x6 i4 x4
              else
                bif decide (x4.error > 1048576) then
                  .x7 i4 x4
                else
                  r_Valid_4 rest4 (i4 + 1)
def lr_r_Valid_4 (e : S_Estate) : LR_r_Valid_4 → Exit × St
  | .x0 => ((.exit 0), ⟨104, [(41, B false), (40, I ((e.items.l.length : Nat) : Int)), (39, .sl e.items.nl (e.items.l.map S_Item.D) (zsl e.items.nl 4) none), (38, .lref 0 0 3 0), (37, I ((e.items.l.length : Nat) : Int)), (1, .lref 0 0 3 0), (3, I ((e.items.l.length : Nat) : Int))], [(0, ⟨[.agg [.sl e.items.nl (e.items.l.map S_Item.D) (zsl e.items.nl 4) none, I e.whole.lo, I e.whole.hi]], 3, false⟩)], 1, 0⟩)
  | .x1 i4 x4 => (.ret, ⟨104, [(2, B false), (87, B true), (86, .tup []), (85, .tup []), (84, .tup []), (83, B true), (82, B true), (81, .tup []), (80, .tup []), (79, .tup []), (78, B true), (77, B true), (76, .tup []), (75, .tup []), (74, .tup []), (73, B true), (72, B true), (71, .tup []), (70, .tup []), (69, .tup []), (68, B true), (67, B true), (66, .tup []), (65, .tup []), (64, .tup []), (63, .tup []), (62, B true), (61, B true), (60, .tup []), (59, .tup []), (58, .tup []), (57, .tup []), (56, .tup []), (55, .tup []), (54, .tup []), (53, B true), (52, B true), (51, I x4.now.lo), (50, .lref 1 0 4 0), (49, .lref 1 0 4 0), (4, .lref 1 0 4 0), (48, .agg [I x4.now.lo, I x4.now.hi, I x4.cost, I x4.error]), (47, .ptr (.agg [I x4.now.lo, I x4.now.hi, I x4.cost, I x4.error])), (46, I ((i4 : Nat) : Int)), (45, .sl e.items.nl (e.items.l.map S_Item.D) (zsl e.items.nl 4) none), (44, .lref 0 0 3 0), (41, B true), (40, I ((e.items.l.length : Nat) : Int)), (39, .sl e.items.nl (e.items.l.map S_Item.D) (zsl e.items.nl 4) none), (38, .lref 0 0 3 0), (37, I ((i4 : Nat) : Int)), (1, .lref 0 0 3 0), (3, I ((i4 : Nat) : Int))], [(0, ⟨[.agg [.sl e.items.nl (e.items.l.map S_Item.D) (zsl e.items.nl 4) none, I e.whole.lo, I e.whole.hi]], 3, false⟩), (1, ⟨[.agg [I x4.now.lo, I x4.now.hi, I x4.cost, I x4.error]], 4, false⟩)], 2, 0⟩)
  | .x2 i4 x4 => (.ret, ⟨104, [(2, B false), (87, B true), (86, .tup []), (85, .tup []), (84, .tup []), (83, B true), (82, B true), (81, .tup []), (80, .tup []), (79, .tup []), (78, B true), (77, B true), (76, .tup []), (75, .tup []), (74, .tup []), (73, B true), (72, B true), (71, .tup []), (70, .tup []), (69, .tup []), (68, B true), (67, B true), (66, .tup []), (65, .tup []), (64, .tup []), (63, .tup []), (62, B true), (61, B true), (60, B true), (59, I x4.now.hi), (58, .lref 1 0 4 1), (57, .lref 1 0 4 0), (56, I x4.now.lo), (55, .lref 1 0 4 0), (54, .lref 1 0 4 0), (53, B false), (52, B false), (51, I x4.now.lo), (50, .lref 1 0 4 0), (49, .lref 1 0 4 0), (4, .lref 1 0 4 0), (48, .agg [I x4.now.lo, I x4.now.hi, I x4.cost, I x4.error]), (47, .ptr (.agg [I x4.now.lo, I x4.now.hi, I x4.cost, I x4.error])), (46, I ((i4 : Nat) : Int)), (45, .sl e.items.nl (e.items.l.map S_Item.D) (zsl e.items.nl 4) none), (44, .lref 0 0 3 0), (41, B true), (40, I ((e.items.l.length : Nat) : Int)), (39, .sl e.items.nl (e.items.l.map S_Item.D) (zsl e.items.nl 4) none), (38, .lref 0 0 3 0), (37, I ((i4 : Nat) : Int)), (1, .lref 0 0 3 0), (3, I ((i4 : Nat) : Int))], [(0, ⟨[.agg [.sl e.items.nl (e.items.l.map S_Item.D) (zsl e.items.nl 4) none, I e.whole.lo, I e.whole.hi]], 3, false⟩), (1, ⟨[.agg [I x4.now.lo, I x4.now.hi, I x4.cost, I x4.error]], 4, false⟩)], 2, 0⟩)
  | .x3 i4 x4 => (.ret, ⟨104, [(2, B false), (87, B true), (86, .tup []), (85, .tup []), (84, .tup []), (83, B true), (82, B true), (81, .tup []), (80, .tup []), (79, .tup []), (78, B true), (77, B true), (76, .tup []), (75, .tup []), (74, .tup []), (73, B true), (72, B true), (71, .tup []), (70, .tup []), (69, .tup []), (68, B true), (67, B true), (66, B true), (65, I x4.now.hi), (64, .lref 1 0 4 1), (63, .lref 1 0 4 0), (62, B false), (61, B false), (60, B false), (59, I x4.now.hi), (58, .lref 1 0 4 1), (57, .lref 1 0 4 0), (56, I x4.now.lo), (55, .lref 1 0 4 0), (54, .lref 1 0 4 0), (53, B false), (52, B false), (51, I x4.now.lo), (50, .lref 1 0 4 0), (49, .lref 1 0 4 0), (4, .lref 1 0 4 0), (48, .agg [I x4.now.lo, I x4.now.hi, I x4.cost, I x4.error]), (47, .ptr (.agg [I x4.now.lo, I x4.now.hi, I x4.cost, I x4.error])), (46, I ((i4 : Nat) : Int)), (45, .sl e.items.nl (e.items.l.map S_Item.D) (zsl e.items.nl 4) none), (44, .lref 0 0 3 0), (41, B true), (40, I ((e.items.l.length : Nat) : Int)), (39, .sl e.items.nl (e.items.l.map S_Item.D) (zsl e.items.nl 4) none), (38, .lref 0 0 3 0), (37, I ((i4 : Nat) : Int)), (1, .lref 0 0 3 0), (3, I ((i4 : Nat) : Int))], [(0, ⟨[.agg [.sl e.items.nl (e.items.l.map S_Item.D) (zsl e.items.nl 4) none, I e.whole.lo, I e.whole.hi]], 3, false⟩), (1, ⟨[.agg [I x4.now.lo, I x4.now.hi, I x4.cost, I x4.error]], 4, false⟩)], 2, 0⟩)
  | .x4 i4 x4 => (.ret, ⟨104, [(2, B false), (87, B true), (86, .tup []), (85, .tup []), (84, .tup []), (83, B true), (82, B true), (81, .tup []), (80, .tup []), (79, .tup []), (78, B true), (77, B true), (76, .tup []), (75, .tup []), (74, .tup []), (73, B true), (72, B true), (71, B true), (70, I x4.cost), (69, .lref 1 0 4 2), (68, B false), (67, B false), (66, B false), (65, I x4.now.hi), (64, .lref 1 0 4 1), (63, .lref 1 0 4 0), (62, B false), (61, B false), (60, B false), (59, I x4.now.hi), (58, .lref 1 0 4 1), (57, .lref 1 0 4 0), (56, I x4.now.lo), (55, .lref 1 0 4 0), (54, .lref 1 0 4 0), (53, B false), (52, B false), (51, I x4.now.lo), (50, .lref 1 0 4 0), (49, .lref 1 0 4 0), (4, .lref 1 0 4 0), (48, .agg [I x4.now.lo, I x4.now.hi, I x4.cost, I x4.error]), (47, .ptr (.agg [I x4.now.lo, I x4.now.hi, I x4.cost, I x4.error])), (46, I ((i4 : Nat) : Int)), (45, .sl e.items.nl (e.items.l.map S_Item.D) (zsl e.items.nl 4) none), (44, .lref 0 0 3 0), (41, B true), (40, I ((e.items.l.length : Nat) : Int)), (39, .sl e.items.nl (e.items.l.map S_Item.D) (zsl e.items.nl 4) none), (38, .lref 0 0 3 0), (37, I ((i4 : Nat) : Int)), (1, .lref 0 0 3 0), (3, I ((i4 : Nat) : Int))], [(0, ⟨[.agg [.sl e.items.nl (e.items.l.map S_Item.D) (zsl e.items.nl 4) none, I e.whole.lo, I e.whole.hi]], 3, false⟩), (1, ⟨[.agg [I x4.now.lo, I x4.now.hi, I x4.cost, I x4.error]], 4, false⟩)], 2, 0⟩)
  | .x5 i4 x4 => (.ret, ⟨104, [(2, B false), (87, B true), (86, .tup []), (85, .tup []), (84, .tup []), (83, B true), (82, B true), (81, .tup []), (80, .tup []), (79, .tup []), (78, B true), (77, B true), (76, B true), (75, I x4.cost), (74, .lref 1 0 4 2), (73, B false), (72, B false), (71, B false), (70, I x4.cost), (69, .lref 1 0 4 2), (68, B false), (67, B false), (66, B false), (65, I x4.now.hi), (64, .lref 1 0 4 1), (63, .lref 1 0 4 0), (62, B false), (61, B false), (60, B false), (59, I x4.now.hi), (58, .lref 1 0 4 1), (57, .lref 1 0 4 0), (56, I x4.now.lo), (55, .lref 1 0 4 0), (54, .lref 1 0 4 0), (53, B false), (52, B false), (51, I x4.now.lo), (50, .lref 1 0 4 0), (49, .lref 1 0 4 0), (4, .lref 1 0 4 0), (48, .agg [I x4.now.lo, I x4.now.hi, I x4.cost, I x4.error]), (47, .ptr (.agg [I x4.now.lo, I x4.now.hi, I x4.cost, I x4.error])), (46, I ((i4 : Nat) : Int)), (45, .sl e.items.nl (e.items.l.map S_Item.D) (zsl e.items.nl 4) none), (44, .lref 0 0 3 0), (41, B true), (40, I ((e.items.l.length : Nat) : Int)), (39, .sl e.items.nl (e.items.l.map S_Item.D) (zsl e.items.nl 4) none), (38, .lref 0 0 3 0), (37, I ((i4 : Nat) : Int)), (1, .lref 0 0 3 0), (3, I ((i4 : Nat) : Int))], [(0, ⟨[.agg [.sl e.items.nl (e.items.l.map S_Item.D) (zsl e.items.nl 4) none, I e.whole.lo, I e.whole.hi]], 3, false⟩), (1, ⟨[.agg [I x4.now.lo, I x4.now.hi, I x4.cost, I x4.error]], 4, false⟩)], 2, 0⟩)
  | .x6 i4 x4 => (.ret, ⟨104, [(2, B false), (87, B true), (86, .tup []), (85, .tup []), (84, .tup []), (83, B true), (82, B true), (81, B true), (80, I x4.error), (79, .lref 1 0 4 3), (78, B false), (77, B false), (76, B false), (75, I x4.cost), (74, .lref 1 0 4 2), (73, B false), (72, B false), (71, B false), (70, I x4.cost), (69, .lref 1 0 4 2), (68, B false), (67, B false), (66, B false), (65, I x4.now.hi), (64, .lref 1 0 4 1), (63, .lref 1 0 4 0), (62, B false), (61, B false), (60, B false), (59, I x4.now.hi), (58, .lref 1 0 4 1), (57, .lref 1 0 4 0), (56, I x4.now.lo), (55, .lref 1 0 4 0), (54, .lref 1 0 4 0), (53, B false), (52, B false), (51, I x4.now.lo), (50, .lref 1 0 4 0), (49, .lref 1 0 4 0), (4, .lref 1 0 4 0), (48, .agg [I x4.now.lo, I x4.now.hi, I x4.cost, I x4.error]), (47, .ptr (.agg [I x4.now.lo, I x4.now.hi, I x4.cost, I x4.error])), (46, I ((i4 : Nat) : Int)), (45, .sl e.items.nl (e.items.l.map S_Item.D) (zsl e.items.nl 4) none), (44, .lref 0 0 3 0), (41, B true), (40, I ((e.items.l.length : Nat) : Int)), (39, .sl e.items.nl (e.items.l.map S_Item.D) (zsl e.items.nl 4) none), (38, .lref 0 0 3 0), (37, I ((i4 : Nat) : Int)), (1, .lref 0 0 3 0), (3, I ((i4 : Nat) : Int))], [(0, ⟨[.agg [.sl e.items.nl (e.items.l.map S_Item.D) (zsl e.items.nl 4) none, I e.whole.lo, I e.whole.hi]], 3, false⟩), (1, ⟨[.agg [I x4.now.lo, I x4.now.hi, I x4.cost, I x4.error]], 4, false⟩)], 2, 0⟩)
  | .x7 i4 x4 => (.ret, ⟨104, [(2, B false), (87, B true), (86, B true), (85, I x4.error), (84, .lref 1 0 4 3), (83, B false), (82, B false), (81, B false), (80, I x4.error), (79, .lref 1 0 4 3), (78, B false), (77, B false), (76, B false), (75, I x4.cost), (74, .lref 1 0 4 2), (73, B false), (72, B false), (71, B false), (70, I x4.cost), (69, .lref 1 0 4 2), (68, B false), (67, B false), (66, B false), (65, I x4.now.hi), (64, .lref 1 0 4 1), (63, .lref 1 0 4 0), (62, B false), (61, B false), (60, B false), (59, I x4.now.hi), (58, .lref 1 0 4 1), (57, .lref 1 0 4 0), (56, I x4.now.lo), (55, .lref 1 0 4 0), (54, .lref 1 0 4 0), (53, B false), (52, B false), (51, I x4.now.lo), (50, .lref 1 0 4 0), (49, .lref 1 0 4 0), (4, .lref 1 0 4 0), (48, .agg [I x4.now.lo, I x4.now.hi, I x4.cost, I x4.error]), (47, .ptr (.agg [I x4.now.lo, I x4.now.hi, I x4.cost, I x4.error])), (46, I ((i4 : Nat) : Int)), (45, .sl e.items.nl (e.items.l.map S_Item.D) (zsl e.items.nl 4) none), (44, .lref 0 0 3 0), (41, B true), (40, I ((e.items.l.length : Nat) : Int)), (39, .sl e.items.nl (e.items.l.map S_Item.D) (zsl e.items.nl 4) none), (38, .lref 0 0 3 0), (37, I ((i4 : Nat) : Int)), (1, .lref 0 0 3 0), (3, I ((i4 : Nat) : Int))], [(0, ⟨[.agg [.sl e.items.nl (e.items.l.map S_Item.D) (zsl e.items.nl 4) none, I e.whole.lo, I e.whole.hi]], 3, false⟩), (1, ⟨[.agg [I x4.now.lo, I x4.now.hi, I x4.cost, I x4.error]], 4, false⟩)], 2, 0⟩)
def r_Valid_4_l_o1 (e : S_Estate) (x4 : S_Item) : List Ora := [.rw 40 (I ((e.items.l.length : Nat) : Int)), .dec true, .el (.agg [I x4.now.lo, I x4.now.hi, I x4.cost, I x4.error]), .dec false]
theorem lp_r_Valid_4 (e : S_Estate) : ∀ (rest4 : List S_Item) (i4 : Nat) (hd4 : e.items.l.drop i4 = rest4) (hi4 : i4 ≤ e.items.l.length) (hL4 : e.items.l.length ≤ 9223372036854775807), (lim cfg).loop 54 lp54_4 ⟨104, [(1, .lref 0 0 3 0), (3, I ((i4 : Nat) : Int))], [(0, ⟨[.agg [.sl e.items.nl (e.items.l.map S_Item.D) (zsl e.items.nl 4) none, I e.whole.lo, I e.whole.hi]], 3, false⟩)], 1, 0⟩ = some (lr_r_Valid_4 e (r_Valid_4 rest4 i4)) := by
  intro rest4
  induction rest4 with
  | nil =>
    intro i4 hd4 hi4 hL4
    unfold r_Valid_4
    obtain rfl : i4 = e.items.l.length := nil_eq hd4 hi4
    exact zO [.rw 40 (I ((e.items.l.length : Nat) : Int)), .dec false] (And.intro (lt_no hd4) (And.intro (zh S_Item.D e.items) trivial)) (by kernel_rfl)
  | cons x4 rest4 ih =>
    intro i4 hd4 hi4 hL4
    have hlt4 := zr hd4
    unfold r_Valid_4
    have p1 := (el_at (s := e.items) (f := S_Item.D) (k := 4) hd4)
    cases h13 : decide (x4.now.lo < 0) with
    | true =>
      have g13 := of_decide_eq_true h13
      exact zO [.rw 40 (I ((e.items.l.length : Nat) : Int)), .dec true, .el (.agg [I x4.now.lo, I x4.now.hi, I x4.cost, I x4.error]), .dec true] (And.intro h13 (And.intro p1 (And.intro (lt_at hd4) (And.intro (zh S_Item.D e.items) trivial)))) (by kernel_rfl)
    | false =>
      have g13 := of_decide_eq_false h13
      cases h14 : decide (x4.now.lo > x4.now.hi) with
      | true =>
        have g14 := of_decide_eq_true h14
        exact zO ((r_Valid_4_l_o1 e x4) ++ [.dec true]) (And.intro h14 (And.intro h13 (And.intro p1 (And.intro (lt_at hd4) (And.intro (zh S_Item.D e.items) trivial))))) (by kernel_rfl)
      | false =>
        have g14 := of_decide_eq_false h14
        cases h15 : decide (x4.now.hi > 1073741824) with
        | true =>
          have g15 := of_decide_eq_true h15
          exact zO ((r_Valid_4_l_o1 e x4) ++ [.dec false, .dec true]) (And.intro h15 (And.intro h14 (And.intro h13 (And.intro p1 (And.intro (lt_at hd4) (And.intro (zh S_Item.D e.items) trivial)))))) (by kernel_rfl)
        | false =>
          have g15 := of_decide_eq_false h15
          cases h16 : decide (x4.cost < 0) with
          | true =>
            have g16 := of_decide_eq_true h16
            exact zO ((r_Valid_4_l_o1 e x4) ++ [.dec false, .dec false, .dec true]) (And.intro h16 (And.intro h15 (And.intro h14 (And.intro h13 (And.intro p1 (And.intro (lt_at hd4) (And.intro (zh S_Item.D e.items) trivial))))))) (by kernel_rfl)
          | false =>
            have g16 := of_decide_eq_false h16
            cases h17 : decide (x4.cost > 10000) with
            | true =>
              have g17 := of_decide_eq_true h17
              exact zO ((r_Valid_4_l_o1 e x4) ++ [.dec false, .dec false, .dec false, .dec true]) (And.intro h17 (And.intro h16 (And.intro h15 (And.intro h14 (And.intro h13 (And.intro p1 (And.intro (lt_at hd4) (And.intro (zh S_Item.D e.items) trivial)))))))) (by kernel_rfl)
            | false =>
              have g17 := of_decide_eq_false h17
              cases h18 : decide (x4.error < 0) with
              | true =>
                have g18 := of_decide_eq_true h18
                exact zO ((r_Valid_4_l_o1 e x4) ++ [.dec false, .dec false, .dec false, .dec false, .dec true]) (And.intro h18 (And.intro h17 (And.intro h16 (And.intro h15 (And.intro h14 (And.intro h13 (And.intro p1 (And.intro (lt_at hd4) (And.intro (zh S_Item.D e.items) trivial))))))))) (by kernel_rfl)
              | false =>
                have g18 := of_decide_eq_false h18
                cases h19 : decide (x4.error > 1048576) with
                | true =>
                  have g19 := of_decide_eq_true h19
                  exact zO ((r_Valid_4_l_o1 e x4) ++ [.dec false, .dec false, .dec false, .dec false, .dec false, .dec true]) (And.intro h19 (And.intro h18 (And.intro h17 (And.intro h16 (And.intro h15 (And.intro h14 (And.intro h13 (And.intro p1 (And.intro (lt_at hd4) (And.intro (zh S_Item.D e.items) trivial)))))))))) (by kernel_rfl)
                | false =>
                  have g19 := of_decide_eq_false h19
                  exact po_turn ((r_Valid_4_l_o1 e x4) ++ [.dec false, .dec false, .dec false, .dec false, .dec false, .dec false, .rw 43 (I ((i4 + 1 : Nat) : Int))]) (And.intro (yb (i := i4) (by have := zr hd4; omega)) (And.intro h19 (And.intro h18 (And.intro h17 (And.intro h16 (And.intro h15 (And.intro h14 (And.intro h13 (And.intro p1 (And.intro (lt_at hd4) (And.intro (zh S_Item.D e.items) trivial))))))))))) (ih (i4 + 1) (zJ hd4) (zr hd4) (by first | assumption | omega)) (by kernel_rfl)

def r_Valid (e : S_Estate) : Bool :=
  bif decide (((e.items.l.length : Nat) : Int) < 1) then
    false
  else
    bif decide (((e.items.l.length : Nat) : Int) > 12) then
      false
    else
      bif decide (e.whole.lo < 0) then
        false
      else
        bif decide (e.whole.lo > e.whole.hi) then
          false
        else
          bif decide (e.whole.hi > 17179869184) then
            false
          else
            match r_Valid_4 e.items.l 0 with
            | .x0 =>
              bif decide (((r_All e).lo) ≤ e.whole.hi) then
                bif decide (((r_All e).hi) ≥ e.whole.lo) then
                  true
                else
                  false
              else
                false
            | .x1 i4 x4 =>
              false
            | .x2 i4 x4 =>
              false
            | .x3 i4 x4 =>
              false
            | .x4 i4 x4 =>
              false
            | .x5 i4 x4 =>
              false
            | .x6 i4 x4 =>
              false
            | .x7 i4 x4 =>
              false

def r_Valid_o1 (e : S_Estate) : List Ora := [.rw 8 (I ((e.items.l.length : Nat) : Int)), .dec false, .rw 13 (I ((e.items.l.length : Nat) : Int)), .dec false, .dec false]

def sd10 (e : S_Estate) : St := ⟨104, [(41, B false), (40, I ((e.items.l.length : Nat) : Int)), (39, .sl e.items.nl (e.items.l.map S_Item.D) (zsl e.items.nl 4) none), (38, .lref 0 0 3 0), (37, I ((e.items.l.length : Nat) : Int)), (1, .lref 0 0 3 0), (3, I ((e.items.l.length : Nat) : Int))], [(0, ⟨[.agg [.sl e.items.nl (e.items.l.map S_Item.D) (zsl e.items.nl 4) none, I e.whole.lo, I e.whole.hi]], 3, false⟩)], 1, 0⟩

def sd11 (e : S_Estate) (i4 : Nat) (x4 : S_Item) : St := ⟨104, [(2, B false), (87, B true), (86, .tup []), (85, .tup []), (84, .tup []), (83, B true), (82, B true), (81, .tup []), (80, .tup []), (79, .tup []), (78, B true), (77, B true), (76, .tup []), (75, .tup []), (74, .tup []), (73, B true), (72, B true), (71, .tup []), (70, .tup []), (69, .tup []), (68, B true), (67, B true), (66, .tup []), (65, .tup []), (64, .tup []), (63, .tup []), (62, B true), (61, B true), (60, .tup []), (59, .tup []), (58, .tup []), (57, .tup []), (56, .tup []), (55, .tup []), (54, .tup []), (53, B true), (52, B true), (51, I x4.now.lo), (50, .lref 1 0 4 0), (49, .lref 1 0 4 0), (4, .lref 1 0 4 0), (48, .agg [I x4.now.lo, I x4.now.hi, I x4.cost, I x4.error]), (47, .ptr (.agg [I x4.now.lo, I x4.now.hi, I x4.cost, I x4.error])), (46, I ((i4 : Nat) : Int)), (45, .sl e.items.nl (e.items.l.map S_Item.D) (zsl e.items.nl 4) none), (44, .lref 0 0 3 0), (41, B true), (40, I ((e.items.l.length : Nat) : Int)), (39, .sl e.items.nl (e.items.l.map S_Item.D) (zsl e.items.nl 4) none), (38, .lref 0 0 3 0), (37, I ((i4 : Nat) : Int)), (1, .lref 0 0 3 0), (3, I ((i4 : Nat) : Int))], [(0, ⟨[.agg [.sl e.items.nl (e.items.l.map S_Item.D) (zsl e.items.nl 4) none, I e.whole.lo, I e.whole.hi]], 3, false⟩), (1, ⟨[.agg [I x4.now.lo, I x4.now.hi, I x4.cost, I x4.error]], 4, false⟩)], 2, 0⟩

def sd12 (e : S_Estate) (i4 : Nat) (x4 : S_Item) : St := ⟨104, [(2, B false), (87, B true), (86, .tup []), (85, .tup []), (84, .tup []), (83, B true), (82, B true), (81, .tup []), (80, .tup []), (79, .tup []), (78, B true), (77, B true), (76, .tup []), (75, .tup []), (74, .tup []), (73, B true), (72, B true), (71, .tup []), (70, .tup []), (69, .tup []), (68, B true), (67, B true), (66, .tup []), (65, .tup []), (64, .tup []), (63, .tup []), (62, B true), (61, B true), (60, B true), (59, I x4.now.hi), (58, .lref 1 0 4 1), (57, .lref 1 0 4 0), (56, I x4.now.lo), (55, .lref 1 0 4 0), (54, .lref 1 0 4 0), (53, B false), (52, B false), (51, I x4.now.lo), (50, .lref 1 0 4 0), (49, .lref 1 0 4 0), (4, .lref 1 0 4 0), (48, .agg [I x4.now.lo, I x4.now.hi, I x4.cost, I x4.error]), (47, .ptr (.agg [I x4.now.lo, I x4.now.hi, I x4.cost, I x4.error])), (46, I ((i4 : Nat) : Int)), (45, .sl e.items.nl (e.items.l.map S_Item.D) (zsl e.items.nl 4) none), (44, .lref 0 0 3 0), (41, B true), (40, I ((e.items.l.length : Nat) : Int)), (39, .sl e.items.nl (e.items.l.map S_Item.D) (zsl e.items.nl 4) none), (38, .lref 0 0 3 0), (37, I ((i4 : Nat) : Int)), (1, .lref 0 0 3 0), (3, I ((i4 : Nat) : Int))], [(0, ⟨[.agg [.sl e.items.nl (e.items.l.map S_Item.D) (zsl e.items.nl 4) none, I e.whole.lo, I e.whole.hi]], 3, false⟩), (1, ⟨[.agg [I x4.now.lo, I x4.now.hi, I x4.cost, I x4.error]], 4, false⟩)], 2, 0⟩

def sd13 (e : S_Estate) (i4 : Nat) (x4 : S_Item) : St := ⟨104, [(2, B false), (87, B true), (86, .tup []), (85, .tup []), (84, .tup []), (83, B true), (82, B true), (81, .tup []), (80, .tup []), (79, .tup []), (78, B true), (77, B true), (76, .tup []), (75, .tup []), (74, .tup []), (73, B true), (72, B true), (71, .tup []), (70, .tup []), (69, .tup []), (68, B true), (67, B true), (66, B true), (65, I x4.now.hi), (64, .lref 1 0 4 1), (63, .lref 1 0 4 0), (62, B false), (61, B false), (60, B false), (59, I x4.now.hi), (58, .lref 1 0 4 1), (57, .lref 1 0 4 0), (56, I x4.now.lo), (55, .lref 1 0 4 0), (54, .lref 1 0 4 0), (53, B false), (52, B false), (51, I x4.now.lo), (50, .lref 1 0 4 0), (49, .lref 1 0 4 0), (4, .lref 1 0 4 0), (48, .agg [I x4.now.lo, I x4.now.hi, I x4.cost, I x4.error]), (47, .ptr (.agg [I x4.now.lo, I x4.now.hi, I x4.cost, I x4.error])), (46, I ((i4 : Nat) : Int)), (45, .sl e.items.nl (e.items.l.map S_Item.D) (zsl e.items.nl 4) none), (44, .lref 0 0 3 0), (41, B true), (40, I ((e.items.l.length : Nat) : Int)), (39, .sl e.items.nl (e.items.l.map S_Item.D) (zsl e.items.nl 4) none), (38, .lref 0 0 3 0), (37, I ((i4 : Nat) : Int)), (1, .lref 0 0 3 0), (3, I ((i4 : Nat) : Int))], [(0, ⟨[.agg [.sl e.items.nl (e.items.l.map S_Item.D) (zsl e.items.nl 4) none, I e.whole.lo, I e.whole.hi]], 3, false⟩), (1, ⟨[.agg [I x4.now.lo, I x4.now.hi, I x4.cost, I x4.error]], 4, false⟩)], 2, 0⟩

def sd14 (e : S_Estate) (i4 : Nat) (x4 : S_Item) : St := ⟨104, [(2, B false), (87, B true), (86, .tup []), (85, .tup []), (84, .tup []), (83, B true), (82, B true), (81, .tup []), (80, .tup []), (79, .tup []), (78, B true), (77, B true), (76, .tup []), (75, .tup []), (74, .tup []), (73, B true), (72, B true), (71, B true), (70, I x4.cost), (69, .lref 1 0 4 2), (68, B false), (67, B false), (66, B false), (65, I x4.now.hi), (64, .lref 1 0 4 1), (63, .lref 1 0 4 0), (62, B false), (61, B false), (60, B false), (59, I x4.now.hi), (58, .lref 1 0 4 1), (57, .lref 1 0 4 0), (56, I x4.now.lo), (55, .lref 1 0 4 0), (54, .lref 1 0 4 0), (53, B false), (52, B false), (51, I x4.now.lo), (50, .lref 1 0 4 0), (49, .lref 1 0 4 0), (4, .lref 1 0 4 0), (48, .agg [I x4.now.lo, I x4.now.hi, I x4.cost, I x4.error]), (47, .ptr (.agg [I x4.now.lo, I x4.now.hi, I x4.cost, I x4.error])), (46, I ((i4 : Nat) : Int)), (45, .sl e.items.nl (e.items.l.map S_Item.D) (zsl e.items.nl 4) none), (44, .lref 0 0 3 0), (41, B true), (40, I ((e.items.l.length : Nat) : Int)), (39, .sl e.items.nl (e.items.l.map S_Item.D) (zsl e.items.nl 4) none), (38, .lref 0 0 3 0), (37, I ((i4 : Nat) : Int)), (1, .lref 0 0 3 0), (3, I ((i4 : Nat) : Int))], [(0, ⟨[.agg [.sl e.items.nl (e.items.l.map S_Item.D) (zsl e.items.nl 4) none, I e.whole.lo, I e.whole.hi]], 3, false⟩), (1, ⟨[.agg [I x4.now.lo, I x4.now.hi, I x4.cost, I x4.error]], 4, false⟩)], 2, 0⟩

def sd15 (e : S_Estate) (i4 : Nat) (x4 : S_Item) : St := ⟨104, [(2, B false), (87, B true), (86, .tup []), (85, .tup []), (84, .tup []), (83, B true), (82, B true), (81, .tup []), (80, .tup []), (79, .tup []), (78, B true), (77, B true), (76, B true), (75, I x4.cost), (74, .lref 1 0 4 2), (73, B false), (72, B false), (71, B false), (70, I x4.cost), (69, .lref 1 0 4 2), (68, B false), (67, B false), (66, B false), (65, I x4.now.hi), (64, .lref 1 0 4 1), (63, .lref 1 0 4 0), (62, B false), (61, B false), (60, B false), (59, I x4.now.hi), (58, .lref 1 0 4 1), (57, .lref 1 0 4 0), (56, I x4.now.lo), (55, .lref 1 0 4 0), (54, .lref 1 0 4 0), (53, B false), (52, B false), (51, I x4.now.lo), (50, .lref 1 0 4 0), (49, .lref 1 0 4 0), (4, .lref 1 0 4 0), (48, .agg [I x4.now.lo, I x4.now.hi, I x4.cost, I x4.error]), (47, .ptr (.agg [I x4.now.lo, I x4.now.hi, I x4.cost, I x4.error])), (46, I ((i4 : Nat) : Int)), (45, .sl e.items.nl (e.items.l.map S_Item.D) (zsl e.items.nl 4) none), (44, .lref 0 0 3 0), (41, B true), (40, I ((e.items.l.length : Nat) : Int)), (39, .sl e.items.nl (e.items.l.map S_Item.D) (zsl e.items.nl 4) none), (38, .lref 0 0 3 0), (37, I ((i4 : Nat) : Int)), (1, .lref 0 0 3 0), (3, I ((i4 : Nat) : Int))], [(0, ⟨[.agg [.sl e.items.nl (e.items.l.map S_Item.D) (zsl e.items.nl 4) none, I e.whole.lo, I e.whole.hi]], 3, false⟩), (1, ⟨[.agg [I x4.now.lo, I x4.now.hi, I x4.cost, I x4.error]], 4, false⟩)], 2, 0⟩

def sd16 (e : S_Estate) (i4 : Nat) (x4 : S_Item) : St := ⟨104, [(2, B false), (87, B true), (86, .tup []), (85, .tup []), (84, .tup []), (83, B true), (82, B true), (81, B true), (80, I x4.error), (79, .lref 1 0 4 3), (78, B false), (77, B false), (76, B false), (75, I x4.cost), (74, .lref 1 0 4 2), (73, B false), (72, B false), (71, B false), (70, I x4.cost), (69, .lref 1 0 4 2), (68, B false), (67, B false), (66, B false), (65, I x4.now.hi), (64, .lref 1 0 4 1), (63, .lref 1 0 4 0), (62, B false), (61, B false), (60, B false), (59, I x4.now.hi), (58, .lref 1 0 4 1), (57, .lref 1 0 4 0), (56, I x4.now.lo), (55, .lref 1 0 4 0), (54, .lref 1 0 4 0), (53, B false), (52, B false), (51, I x4.now.lo), (50, .lref 1 0 4 0), (49, .lref 1 0 4 0), (4, .lref 1 0 4 0), (48, .agg [I x4.now.lo, I x4.now.hi, I x4.cost, I x4.error]), (47, .ptr (.agg [I x4.now.lo, I x4.now.hi, I x4.cost, I x4.error])), (46, I ((i4 : Nat) : Int)), (45, .sl e.items.nl (e.items.l.map S_Item.D) (zsl e.items.nl 4) none), (44, .lref 0 0 3 0), (41, B true), (40, I ((e.items.l.length : Nat) : Int)), (39, .sl e.items.nl (e.items.l.map S_Item.D) (zsl e.items.nl 4) none), (38, .lref 0 0 3 0), (37, I ((i4 : Nat) : Int)), (1, .lref 0 0 3 0), (3, I ((i4 : Nat) : Int))], [(0, ⟨[.agg [.sl e.items.nl (e.items.l.map S_Item.D) (zsl e.items.nl 4) none, I e.whole.lo, I e.whole.hi]], 3, false⟩), (1, ⟨[.agg [I x4.now.lo, I x4.now.hi, I x4.cost, I x4.error]], 4, false⟩)], 2, 0⟩

def sd17 (e : S_Estate) (i4 : Nat) (x4 : S_Item) : St := ⟨104, [(2, B false), (87, B true), (86, B true), (85, I x4.error), (84, .lref 1 0 4 3), (83, B false), (82, B false), (81, B false), (80, I x4.error), (79, .lref 1 0 4 3), (78, B false), (77, B false), (76, B false), (75, I x4.cost), (74, .lref 1 0 4 2), (73, B false), (72, B false), (71, B false), (70, I x4.cost), (69, .lref 1 0 4 2), (68, B false), (67, B false), (66, B false), (65, I x4.now.hi), (64, .lref 1 0 4 1), (63, .lref 1 0 4 0), (62, B false), (61, B false), (60, B false), (59, I x4.now.hi), (58, .lref 1 0 4 1), (57, .lref 1 0 4 0), (56, I x4.now.lo), (55, .lref 1 0 4 0), (54, .lref 1 0 4 0), (53, B false), (52, B false), (51, I x4.now.lo), (50, .lref 1 0 4 0), (49, .lref 1 0 4 0), (4, .lref 1 0 4 0), (48, .agg [I x4.now.lo, I x4.now.hi, I x4.cost, I x4.error]), (47, .ptr (.agg [I x4.now.lo, I x4.now.hi, I x4.cost, I x4.error])), (46, I ((i4 : Nat) : Int)), (45, .sl e.items.nl (e.items.l.map S_Item.D) (zsl e.items.nl 4) none), (44, .lref 0 0 3 0), (41, B true), (40, I ((e.items.l.length : Nat) : Int)), (39, .sl e.items.nl (e.items.l.map S_Item.D) (zsl e.items.nl 4) none), (38, .lref 0 0 3 0), (37, I ((i4 : Nat) : Int)), (1, .lref 0 0 3 0), (3, I ((i4 : Nat) : Int))], [(0, ⟨[.agg [.sl e.items.nl (e.items.l.map S_Item.D) (zsl e.items.nl 4) none, I e.whole.lo, I e.whole.hi]], 3, false⟩), (1, ⟨[.agg [I x4.now.lo, I x4.now.hi, I x4.cost, I x4.error]], 4, false⟩)], 2, 0⟩

theorem T_r_Valid (e : S_Estate) : (lim cfg).pure 54 [S_Estate.D e] = some (B (r_Valid e)) := by
  unfold r_Valid
  cases h1 : decide (((e.items.l.length : Nat) : Int) < 1) with
  | true =>
    have g1 := of_decide_eq_true h1
    exact za [.rw 8 (I ((e.items.l.length : Nat) : Int)), .dec true] (And.intro h1 (And.intro (zh S_Item.D e.items) trivial)) (by kernel_rfl)
  | false =>
    have g1 := of_decide_eq_false h1
    cases h2 : decide (((e.items.l.length : Nat) : Int) > 12) with
    | true =>
      have g2 := of_decide_eq_true h2
      exact za [.rw 8 (I ((e.items.l.length : Nat) : Int)), .dec false, .rw 13 (I ((e.items.l.length : Nat) : Int)), .dec true] (And.intro h2 (And.intro (zh S_Item.D e.items) (And.intro h1 (And.intro (zh S_Item.D e.items) trivial)))) (by kernel_rfl)
    | false =>
      have g2 := of_decide_eq_false h2
      cases h3 : decide (e.whole.lo < 0) with
      | true =>
        have g3 := of_decide_eq_true h3
        exact za [.rw 8 (I ((e.items.l.length : Nat) : Int)), .dec false, .rw 13 (I ((e.items.l.length : Nat) : Int)), .dec false, .dec true] (And.intro h3 (And.intro h2 (And.intro (zh S_Item.D e.items) (And.intro h1 (And.intro (zh S_Item.D e.items) trivial))))) (by kernel_rfl)
      | false =>
        have g3 := of_decide_eq_false h3
        cases h4 : decide (e.whole.lo > e.whole.hi) with
        | true =>
          have g4 := of_decide_eq_true h4
          exact za ((r_Valid_o1 e) ++ [.dec true]) (And.intro h4 (And.intro h3 (And.intro h2 (And.intro (zh S_Item.D e.items) (And.intro h1 (And.intro (zh S_Item.D e.items) trivial)))))) (by kernel_rfl)
        | false =>
          have g4 := of_decide_eq_false h4
          cases h5 : decide (e.whole.hi > 17179869184) with
          | true =>
            have g5 := of_decide_eq_true h5
            exact za ((r_Valid_o1 e) ++ [.dec false, .dec true]) (And.intro h5 (And.intro h4 (And.intro h3 (And.intro h2 (And.intro (zh S_Item.D e.items) (And.intro h1 (And.intro (zh S_Item.D e.items) trivial))))))) (by kernel_rfl)
          | false =>
            have g5 := of_decide_eq_false h5
            cases h20 : r_Valid_4 e.items.l 0 with
            | x0 =>
              try dsimp only
              have p1 := (po_lr (q := lr_r_Valid_4 e) (lp_r_Valid_4 e e.items.l 0 (List.drop_zero) (Nat.zero_le _) (by first | assumption | omega)) h20)
              cases h21 : decide (((r_All e).lo) ≤ e.whole.hi) with
              | true =>
                have g21 := of_decide_eq_true h21
                cases h22 : decide (((r_All e).hi) ≥ e.whole.lo) with
                | true =>
                  have g22 := of_decide_eq_true h22
                  exact za ((r_Valid_o1 e) ++ [.dec false, .dec false, .loop (.exit 0) (sd10 e), .pure (.agg [I ((r_All e).lo), I ((r_All e).hi)]), .dec true, .dec true]) (And.intro h22 (And.intro h21 (And.intro (T_r_All e (by first | assumption | omega)) (And.intro p1 (And.intro h5 (And.intro h4 (And.intro h3 (And.intro h2 (And.intro (zh S_Item.D e.items) (And.intro h1 (And.intro (zh S_Item.D e.items) trivial))))))))))) (by kernel_rfl)
                | false =>
                  have g22 := of_decide_eq_false h22
                  exact za ((r_Valid_o1 e) ++ [.dec false, .dec false, .loop (.exit 0) (sd10 e), .pure (.agg [I ((r_All e).lo), I ((r_All e).hi)]), .dec true, .dec false]) (And.intro h22 (And.intro h21 (And.intro (T_r_All e (by first | assumption | omega)) (And.intro p1 (And.intro h5 (And.intro h4 (And.intro h3 (And.intro h2 (And.intro (zh S_Item.D e.items) (And.intro h1 (And.intro (zh S_Item.D e.items) trivial))))))))))) (by kernel_rfl)
              | false =>
                have g21 := of_decide_eq_false h21
                exact za ((r_Valid_o1 e) ++ [.dec false, .dec false, .loop (.exit 0) (sd10 e), .pure (.agg [I ((r_All e).lo), I ((r_All e).hi)]), .dec false]) (And.intro h21 (And.intro (T_r_All e (by first | assumption | omega)) (And.intro p1 (And.intro h5 (And.intro h4 (And.intro h3 (And.intro h2 (And.intro (zh S_Item.D e.items) (And.intro h1 (And.intro (zh S_Item.D e.items) trivial)))))))))) (by kernel_rfl)
            | x1 i4 x4 =>
              try dsimp only
              exact za ((r_Valid_o1 e) ++ [.dec false, .dec false, .loop .ret (sd11 e i4 x4)]) (And.intro (po_lr (q := lr_r_Valid_4 e) (lp_r_Valid_4 e e.items.l 0 (List.drop_zero) (Nat.zero_le _) (by first | assumption | omega)) h20) (And.intro h5 (And.intro h4 (And.intro h3 (And.intro h2 (And.intro (zh S_Item.D e.items) (And.intro h1 (And.intro (zh S_Item.D e.items) trivial)))))))) (by kernel_rfl)
            | x2 i4 x4 =>
              try dsimp only
              exact za ((r_Valid_o1 e) ++ [.dec false, .dec false, .loop .ret (sd12 e i4 x4)]) (And.intro (po_lr (q := lr_r_Valid_4 e) (lp_r_Valid_4 e e.items.l 0 (List.drop_zero) (Nat.zero_le _) (by first | assumption | omega)) h20) (And.intro h5 (And.intro h4 (And.intro h3 (And.intro h2 (And.intro (zh S_Item.D e.items) (And.intro h1 (And.intro (zh S_Item.D e.items) trivial)))))))) (by kernel_rfl)
            | x3 i4 x4 =>
              try dsimp only
              exact za ((r_Valid_o1 e) ++ [.dec false, .dec false, .loop .ret (sd13 e i4 x4)]) (And.intro (po_lr (q := lr_r_Valid_4 e) (lp_r_Valid_4 e e.items.l 0 (List.drop_zero) (Nat.zero_le _) (by first | assumption | omega)) h20) (And.intro h5 (And.intro h4 (And.intro h3 (And.intro h2 (And.intro (zh S_Item.D e.items) (And.intro h1 (And.intro (zh S_Item.D e.items) trivial)))))))) (by kernel_rfl)
            | x4 i4 x4 =>
              try dsimp only
              exact za ((r_Valid_o1 e) ++ [.dec false, .dec false, .loop .ret (sd14 e i4 x4)]) (And.intro (po_lr (q := lr_r_Valid_4 e) (lp_r_Valid_4 e e.items.l 0 (List.drop_zero) (Nat.zero_le _) (by first | assumption | omega)) h20) (And.intro h5 (And.intro h4 (And.intro h3 (And.intro h2 (And.intro (zh S_Item.D e.items) (And.intro h1 (And.intro (zh S_Item.D e.items) trivial)))))))) (by kernel_rfl)
            | x5 i4 x4 =>
              try dsimp only
              exact za ((r_Valid_o1 e) ++ [.dec false, .dec false, .loop .ret (sd15 e i4 x4)]) (And.intro (po_lr (q := lr_r_Valid_4 e) (lp_r_Valid_4 e e.items.l 0 (List.drop_zero) (Nat.zero_le _) (by first | assumption | omega)) h20) (And.intro h5 (And.intro h4 (And.intro h3 (And.intro h2 (And.intro (zh S_Item.D e.items) (And.intro h1 (And.intro (zh S_Item.D e.items) trivial)))))))) (by kernel_rfl)
            | x6 i4 x4 =>
              try dsimp only
              exact za ((r_Valid_o1 e) ++ [.dec false, .dec false, .loop .ret (sd16 e i4 x4)]) (And.intro (po_lr (q := lr_r_Valid_4 e) (lp_r_Valid_4 e e.items.l 0 (List.drop_zero) (Nat.zero_le _) (by first | assumption | omega)) h20) (And.intro h5 (And.intro h4 (And.intro h3 (And.intro h2 (And.intro (zh S_Item.D e.items) (And.intro h1 (And.intro (zh S_Item.D e.items) trivial)))))))) (by kernel_rfl)
            | x7 i4 x4 =>
              try dsimp only
              exact za ((r_Valid_o1 e) ++ [.dec false, .dec false, .loop .ret (sd17 e i4 x4)]) (And.intro (po_lr (q := lr_r_Valid_4 e) (lp_r_Valid_4 e e.items.l 0 (List.drop_zero) (Nat.zero_le _) (by first | assumption | omega)) h20) (And.intro h5 (And.intro h4 (And.intro h3 (And.intro h2 (And.intro (zh S_Item.D e.items) (And.intro h1 (And.intro (zh S_Item.D e.items) trivial)))))))) (by kernel_rfl)

theorem valid_len {e : S_Estate} (h : r_Valid e = true) : 1 ≤ e.items.l.length ∧ e.items.l.length ≤ 12 := by
  unfold r_Valid at h
  simp only [Bool.cond_decide] at h
  split at h
  · cases h
  split at h
  · cases h
  omega

end Go.VS

/-
  Orders: what an estate's functions come to, in plain numbers. (A text of this claim's own; nothing of it is trusted.)
-/
namespace Go.VS
def sLo : List S_Item → Int
  | [] => 0
  | x :: l => x.now.lo + sLo l
def sHi : List S_Item → Int
  | [] => 0
  | x :: l => x.now.hi + sHi l
def OkItem (x : S_Item) : Prop := 0 ≤ x.now.lo ∧ x.now.lo ≤ x.now.hi ∧ x.now.hi ≤ 1073741824 ∧ 0 ≤ x.cost ∧ x.cost ≤ 10000 ∧ 0 ≤ x.error ∧ x.error ≤ 1048576
def OkSpans (l : List S_Item) : Prop := ∀ x ∈ l, 0 ≤ x.now.lo ∧ x.now.lo ≤ x.now.hi ∧ x.now.hi ≤ 1073741824
structure V (e : S_Estate) : Prop where
  n1 : 1 ≤ e.items.l.length
  n2 : e.items.l.length ≤ 12
  w0 : 0 ≤ e.whole.lo
  w1 : e.whole.lo ≤ e.whole.hi
  w2 : e.whole.hi ≤ 17179869184
  it : ∀ x ∈ e.items.l, OkItem x
  lo : sLo e.items.l ≤ e.whole.hi
  hi : e.whole.lo ≤ sHi e.items.l
theorem okSpans_of {l : List S_Item} (h : ∀ x ∈ l, OkItem x) : OkSpans l := fun x hx => ⟨(h x hx).1, (h x hx).2.1, (h x hx).2.2.1⟩
theorem V.sp {e : S_Estate} (h : V e) : OkSpans e.items.l := okSpans_of h.it
theorem sums_bd {l : List S_Item} (h : OkSpans l) : 0 ≤ sLo l ∧ sLo l ≤ sHi l ∧ sHi l ≤ 1073741824 * (l.length : Int) := by
  induction l with
  | nil => simp [sLo, sHi]
  | cons x l ih =>
    have h1 := ih fun y hy => h y (List.mem_cons_of_mem _ hy)
    have h2 := h x List.mem_cons_self
    simp only [sLo, sHi, List.length_cons]
    omega
theorem all2_eq {l : List S_Item} (h : OkSpans l) : ∀ (a b : Int), 0 ≤ a → 0 ≤ b → a + 1073741824 * (l.length : Int) ≤ 4611686018427387904 → b + 1073741824 * (l.length : Int) ≤ 4611686018427387904 → orders_all_2 l a b = .x0 (a + sLo l) (b + sHi l) := by
  induction l with
  | nil => intro a b _ _ _ _; simp [orders_all_2, sLo, sHi]
  | cons x l ih =>
    intro a b h1 h2 h3 h4
    have hx := h x List.mem_cons_self
    simp only [List.length_cons] at h3 h4
    unfold orders_all_2
    rw [w64_eq (by omega) (by omega), w64_eq (by omega) (by omega), ih (fun y hy => h y (List.mem_cons_of_mem _ hy)) _ _ (by omega) (by omega) (by omega) (by omega)]
    simp only [sLo, sHi]
    congr 1 <;> omega
theorem rall2_eq (l : List S_Item) : ∀ (a b : Int), ∃ c d, r_All_3 l a b = .x0 c d ∧ orders_all_2 l a b = .x0 c d := by
  induction l with
  | nil => intro a b; exact ⟨a, b, rfl, rfl⟩
  | cons x l ih => intro a b; exact ih _ _
theorem rall_eq (e : S_Estate) : r_All e = orders_all e := by
  obtain ⟨c, d, h1, h2⟩ := rall2_eq e.items.l 0 0
  unfold r_All orders_all
  rw [h1, h2]
theorem all_eq {e : S_Estate} (h : OkSpans e.items.l) (hn : e.items.l.length ≤ 12) : orders_all e = ⟨sLo e.items.l, sHi e.items.l⟩ := by
  unfold orders_all
  rw [all2_eq h 0 0 (by omega) (by omega) (by omega) (by omega)]
  simp
theorem span_iff {x : S_Span} {m : Int} : orders_span x m = true ↔ 0 ≤ x.lo ∧ x.lo ≤ x.hi ∧ x.hi ≤ m := by
  unfold orders_span
  simp only [Bool.cond_decide]
  split
  · split
    · split
      · simp; omega
      · simp; omega
    · simp; omega
  · simp; omega
theorem within_iff {n lo hi : Int} : zE n lo hi = true ↔ lo ≤ n ∧ n ≤ hi := by simp [within_eq]
theorem common_eq (x y : S_Span) : zQ x y = (⟨max x.lo y.lo, min x.hi y.hi⟩, decide (max x.lo y.lo ≤ min x.hi y.hi)) := by
  unfold zQ
  rw [imax_eq, imin_eq]
  cases decide (max x.lo y.lo ≤ min x.hi y.hi) <;> rfl
theorem check4_iff {l : List S_Item} {i : Nat} : orders_Check_4 l i = .x0 ↔ ∀ x ∈ l, OkItem x := by
  induction l generalizing i with
  | nil => simp [orders_Check_4]
  | cons x l ih =>
    unfold orders_Check_4
    simp only [List.forall_mem_cons]
    cases h1 : orders_span x.now 1073741824 with
    | false =>
      simp only [cond_false]
      constructor
      · intro h; cases h
      · rintro ⟨h, _⟩; rw [span_iff.2 ⟨h.1, h.2.1, h.2.2.1⟩] at h1; cases h1
    | true =>
      cases h2 : zE x.cost 0 10000 with
      | false =>
        simp only [cond_false, cond_true]
        constructor
        · intro h; cases h
        · rintro ⟨h, _⟩; rw [within_iff.2 ⟨h.2.2.2.1, h.2.2.2.2.1⟩] at h2; cases h2
      | true =>
        cases h3 : zE x.error 0 1048576 with
        | false =>
          simp only [cond_false, cond_true]
          constructor
          · intro h; cases h
          · rintro ⟨h, _⟩; rw [within_iff.2 ⟨h.2.2.2.2.2.1, h.2.2.2.2.2.2⟩] at h3; cases h3
        | true =>
          simp only [cond_true, ih]
          have a1 := span_iff.1 h1
          have a2 := within_iff.1 h2
          have a3 := within_iff.1 h3
          exact ⟨fun h => ⟨⟨a1.1, a1.2.1, a1.2.2, a2.1, a2.2, a3.1, a3.2⟩, h⟩, fun h => h.2⟩
theorem check_cases (e : S_Estate) : zN e = 0 ∨ zN e = 80 := by
  unfold zN
  cases zE ((e.items.l.length : Nat) : Int) 1 12 <;> cases orders_span e.whole 17179869184 <;> simp only [cond_true, cond_false] <;> try (exact .inr trivial)
  split <;> first | (exact .inr rfl) | skip
  cases (zQ (orders_all e) e.whole).2 <;> simp
theorem check_iff {e : S_Estate} : zN e = 0 ↔ V e := by
  unfold zN
  cases h1 : zE ((e.items.l.length : Nat) : Int) 1 12 with
  | false =>
    simp only [cond_false]
    refine ⟨fun h => by omega, fun h => ?_⟩
    rw [within_iff.2 ⟨by have := h.n1; omega, by have := h.n2; omega⟩] at h1; cases h1
  | true =>
    have a1 := within_iff.1 h1
    cases h2 : orders_span e.whole 17179869184 with
    | false =>
      simp only [cond_false, cond_true]
      refine ⟨fun h => by omega, fun h => ?_⟩
      rw [span_iff.2 ⟨h.w0, h.w1, h.w2⟩] at h2; cases h2
    | true =>
      have a2 := span_iff.1 h2
      simp only [cond_true]
      by_cases h3 : orders_Check_4 e.items.l 0 = .x0
      · have a3 := check4_iff.1 h3
        rw [h3, common_eq, all_eq (okSpans_of a3) (by omega)]
        simp only []
        have hb := sums_bd (okSpans_of a3)
        by_cases h4 : max (sLo e.items.l) e.whole.lo ≤ min (sHi e.items.l) e.whole.hi
        · simp only [h4, decide_true, cond_true, true_iff]
          exact ⟨by omega, by omega, a2.1, a2.2.1, a2.2.2, a3, by omega, by omega⟩
        · simp only [h4, decide_false, cond_false]
          refine ⟨fun h => by omega, fun h => absurd ?_ h4⟩
          have := h.lo; have := h.hi; have := h.w1
          omega
      · constructor
        · intro h
          exfalso
          split at h
          · rename_i h5; exact h3 h5
          all_goals omega
        · intro h; exact absurd (check4_iff.2 h.it) h3
theorem valid4_iff {l : List S_Item} {i : Nat} : r_Valid_4 l i = .x0 ↔ ∀ x ∈ l, OkItem x := by
  induction l generalizing i with
  | nil => simp [r_Valid_4]
  | cons x l ih =>
    unfold r_Valid_4
    simp only [List.forall_mem_cons, Bool.cond_decide, OkItem]
    repeat' split
    all_goals first
      | (constructor
         · intro h; cases h
         · intro h; exfalso; omega)
      | (rw [ih]
         constructor
         · intro h; exact ⟨by omega, h⟩
         · intro h; exact h.2)
theorem valid_iff {e : S_Estate} : r_Valid e = true ↔ V e := by
  unfold r_Valid
  simp only [Bool.cond_decide]
  constructor
  · intro h
    split at h
    · cases h
    split at h
    · cases h
    split at h
    · cases h
    split at h
    · cases h
    split at h
    · cases h
    split at h
    · rename_i h1 h2 h3 h4 h5 h6
      have a3 := valid4_iff.1 h6
      rw [rall_eq, all_eq (okSpans_of a3) (by omega)] at h
      simp only [] at h
      split at h
      · split at h
        · exact ⟨by omega, by omega, by omega, by omega, by omega, a3, by omega, by omega⟩
        · cases h
      · cases h
    all_goals cases h
  · intro h
    have := h.n1; have := h.n2; have := h.w0; have := h.w1; have := h.w2
    rw [if_neg (by omega), if_neg (by omega), if_neg (by omega), if_neg (by omega), if_neg (by omega), valid4_iff.2 h.it]
    simp only [rall_eq, all_eq h.sp h.n2]
    rw [if_pos h.lo, if_pos h.hi]
theorem check_valid (e : S_Estate) : zN e = if r_Valid e then 0 else 80 := by
  rcases check_cases e with h | h
  · rw [if_pos (valid_iff.2 (check_iff.1 h)), h]
  · rw [if_neg (fun hv => by have := check_iff.2 (valid_iff.1 hv); omega), h]
/-! ### allowed areas -/
def tot : List Int → Int
  | [] => 0
  | x :: l => x + tot l
/-- Areas within the items' spans. -/
def In : List S_Item → List Int → Prop
  | [], [] => True
  | x :: l, b :: a => (x.now.lo ≤ b ∧ b ≤ x.now.hi) ∧ In l a
  | _, _ => False
theorem In.len : ∀ {l : List S_Item} {a : List Int}, In l a → a.length = l.length
  | [], [], _ => rfl
  | [], _ :: _, h => h.elim
  | _ :: _, [], h => h.elim
  | x :: l, b :: a, h => by simp only [List.length_cons, h.2.len]
theorem at_mem {α : Type} [Inhabited α] {s : GS α} {i : Int} (h0 : 0 ≤ i) (h1 : i < (s.l.length : Int)) : s.at i ∈ s.l := by
  have hlt : i.toNat < s.l.length := by omega
  rw [GS.at, List.getD_eq_getElem?_getD, List.getElem?_eq_getElem hlt]
  exact List.getElem_mem hlt
end Go.VS

namespace Go.VS
open Go Go.Proofs
set_option maxHeartbeats 0
set_option linter.unusedSimpArgs false
set_option linter.unusedVariables false
def cmp_isNaN (a0 : Int) : Bool :=
  bif (a0 != a0) then
    true
  else
    false

theorem T_cmp_isNaN (a0 : Int) : (lim cfg).pure 112 [I a0] = some (B (cmp_isNaN a0)) := by
  unfold cmp_isNaN
  cases h1 : (a0 != a0) with
  | true =>
    have g1 := bne_true h1
    exact za [.dec true] (And.intro h1 trivial) (by kernel_rfl)
  | false =>
    have g1 := bne_false h1
    exact za [.dec false] (And.intro h1 trivial) (by kernel_rfl)

def cmp_Less (a0 : Int) (a1 : Int) : Bool :=
  bif (cmp_isNaN a0) then
    bif (cmp_isNaN a1) then
      bif decide (a0 < a1) then
        true
      else
        false
    else
      true
  else
    bif decide (a0 < a1) then
      true
    else
      false

def bl12 (n : Int) : Int := [0,1,2,2,3,3,3,3,4,4,4,4,4].getD n.toNat 0
inductive LR_isort4_4 where
  | x0 (v4_0 : Int) (v4_1 : List Int)
  | x1 (v4_0 : Int) (v4_1 : List Int)
  | out
instance : Inhabited LR_isort4_4 := ⟨.out⟩
def isort4_4 : Nat → Int → (List Int) → LR_isort4_4
  | 0, _, _ => .out
  | rest4 + 1, v4_0, v4_1 =>
    bif decide (v4_0 > 0) then
      bif (cmp_Less (v4_1.getD ((v4_0).toNat) default) (v4_1.getD ((w64 (v4_0 - 1)).toNat) default)) then
        isort4_4 rest4 (w64 (v4_0 - 1)) ((v4_1.set ((v4_0).toNat) (v4_1.getD ((w64 (v4_0 - 1)).toNat) default)).set ((w64 (v4_0 - 1)).toNat) (v4_1.getD ((v4_0).toNat) default))
      else
        .x0 v4_0 v4_1
    else
      .x1 v4_0 v4_1
def iv_isort4_4 (l : List Int) (q4_0 : Int) : LR_isort4_4 → Prop
  | .x0 v4_0 v4_1 => (0 ≤ v4_0 ∧ v4_0 < ((l.length : Nat) : Int) ∧ l.length ≤ 12) ∧ (v4_1.length = l.length)
  | .x1 v4_0 v4_1 => (0 ≤ v4_0 ∧ v4_0 < ((l.length : Nat) : Int) ∧ l.length ≤ 12) ∧ (v4_1.length = l.length)
  | .out => True
theorem ivt_isort4_4 (l : List Int) (q4_0 : Int) : ∀ (rest4 : Nat) (v4_0 : Int) (v4_1 : List Int) (hf4 : isort4_4 rest4 v4_0 v4_1 ≠ .out) (hj : 0 ≤ v4_0 ∧ v4_0 < ((l.length : Nat) : Int) ∧ l.length ≤ 12) (hl4_v4_1 : v4_1.length = l.length), iv_isort4_4 l q4_0 (isort4_4 rest4 v4_0 v4_1) := by
  intro rest4
  induction rest4 with
  | zero =>
    intro v4_0 v4_1 hf4 hj hl4_v4_1
    exact absurd rfl hf4
  | succ rest4 ih =>
    intro v4_0 v4_1 hf4 hj hl4_v4_1
    unfold isort4_4 at hf4 ⊢
    revert hf4
    cases h8 : decide (v4_0 > 0) with
    | true =>
      have g8 := of_decide_eq_true h8
      cases h9 : (cmp_Less (v4_1.getD ((v4_0).toNat) default) (v4_1.getD ((w64 (v4_0 - 1)).toNat) default)) with
      | true =>
        intro hf4
        exact ih (w64 (v4_0 - 1)) ((v4_1.set ((v4_0).toNat) (v4_1.getD ((w64 (v4_0 - 1)).toNat) default)).set ((w64 (v4_0 - 1)).toNat) (v4_1.getD ((v4_0).toNat) default)) hf4 (by first | assumption | omega | (simp only [z8] at * <;> omega)) (by first | assumption | omega | (simp only [z8] at * <;> omega) | (simp only [GS.some_l, List.length_set, List.length_append, List.length_cons, List.length_nil] at * <;> first | with_reducible assumption | omega) | (simp only [GS.some_l, List.length_set, List.length_append, List.length_cons, List.length_nil, z8] at * <;> first | with_reducible assumption | omega) | (simp at * <;> omega))
      | false =>
        intro hf4
        exact ⟨hj, hl4_v4_1⟩
    | false =>
      have g8 := of_decide_eq_false h8
      intro hf4
      exact ⟨hj, hl4_v4_1⟩

theorem isort4_ne : ∀ (n : Nat) (j : Int) (v : List Int), 0 ≤ j → j < n → j ≤ 12 → isort4_4 n j v ≠ .out
  | 0, j, v, h0, h1, _ => by omega
  | n + 1, j, v, h0, h1, h5 => by
    unfold isort4_4
    cases h2 : decide (j > 0) with
    | false => simp
    | true =>
      have := of_decide_eq_true h2
      cases h3 : cmp_Less (v.getD j.toNat default) (v.getD (w64 (j - 1)).toNat default) with
      | false => simp
      | true =>
        simp only [cond_true]
        exact isort4_ne n _ _ (by rw [w64_eq (by omega) (by omega)]; omega) (by rw [w64_eq (by omega) (by omega)]; omega) (by rw [w64_eq (by omega) (by omega)]; omega)

inductive LR_isort4_1 where
  | x0 (i1 : Nat) (v1_0 : List Int)
instance : Inhabited LR_isort4_1 := ⟨.x0 default default⟩
def isort4_1 : Nat → Nat → (List Int) → LR_isort4_1
  | 0, i1, v1_0 => .x0 i1 v1_0
  | rest1 + 1, i1, v1_0 =>
    match isort4_4 (i1 + 1) ((i1 : Nat) : Int) v1_0 with
    | .x0 v4_0 v4_1 =>
      isort4_1 rest1 (i1 + 1) v4_1
    | .x1 v4_0 v4_1 =>
      isort4_1 rest1 (i1 + 1) v4_1
    | .out =>
      default
def iv_isort4_1 (l : List Int) : LR_isort4_1 → Prop
  | .x0 i1 v1_0 => (v1_0.length = l.length)
theorem ivt_isort4_1 (l : List Int) : ∀ (rest1 : Nat) (i1 : Nat) (v1_0 : List Int) (hk1 : (((l.length : Nat) : Int) - ((i1 : Nat) : Int)).toNat = rest1) (hN1 : ((l.length : Nat) : Int) ≤ 9223372036854775807) (hn : l.length ≤ 12) (hl1_v1_0 : v1_0.length = l.length), iv_isort4_1 l (isort4_1 rest1 i1 v1_0) := by
  intro rest1
  induction rest1 with
  | zero =>
    intro i1 v1_0 hk1 hN1 hn hl1_v1_0
    unfold isort4_1
    exact hl1_v1_0
  | succ rest1 ih =>
    intro i1 v1_0 hk1 hN1 hn hl1_v1_0
    have hlt1 := of_decide_eq_true (ct_at hk1)
    unfold isort4_1
    cases h10 : isort4_4 (i1 + 1) ((i1 : Nat) : Int) v1_0 with
    | x0 v4_0 v4_1 =>
      try dsimp only
      have hv_h10 := ivt_isort4_4 l ((i1 : Nat) : Int) (i1 + 1) ((i1 : Nat) : Int) v1_0 (isort4_ne (i1 + 1) _ _ (by omega) (by omega) (by omega)) (by first | assumption | omega) (by first | assumption | omega)
      rw [h10] at hv_h10
      obtain ⟨hv_h10_0, hv_h10_1⟩ := hv_h10
      try dsimp only [iv_isort4_4] at hv_h10_0
      try dsimp only [iv_isort4_4] at hv_h10_1
      exact ih (i1 + 1) v4_1 (by omega) hN1 (by first | assumption | omega) (by first | assumption | omega)
    | x1 v4_0 v4_1 =>
      try dsimp only
      have hv_h10 := ivt_isort4_4 l ((i1 : Nat) : Int) (i1 + 1) ((i1 : Nat) : Int) v1_0 (isort4_ne (i1 + 1) _ _ (by omega) (by omega) (by omega)) (by first | assumption | omega) (by first | assumption | omega)
      rw [h10] at hv_h10
      obtain ⟨hv_h10_0, hv_h10_1⟩ := hv_h10
      try dsimp only [iv_isort4_4] at hv_h10_0
      try dsimp only [iv_isort4_4] at hv_h10_1
      exact ih (i1 + 1) v4_1 (by omega) hN1 (by first | assumption | omega) (by first | assumption | omega)
    | out =>
      exact absurd h10 (isort4_ne (i1 + 1) _ _ (by omega) (by omega) (by omega))

def isort4 (l : List Int) : List Int :=
  match isort4_1 (((l.length : Nat) : Int) - 1).toNat 1 l with
  | .x0 i1 v1_0 =>
    v1_0

def pdq4 (l : List Int) (q : Int) : List Int :=
  (isort4 l)

def sort4 (l : List Int) : List Int :=
  (pdq4 l (bl12 ((l.length : Nat) : Int)))

end Go.VS

namespace Go.VS
open Go Go.Proofs
set_option maxHeartbeats 0
set_option linter.unusedSimpArgs false
set_option linter.unusedVariables false
structure S_window where
  at_ : S_Span
  room_ : Int
  whole_ : S_Span
instance : Inhabited S_window := ⟨⟨default, 0, default⟩⟩
def S_window.D (x : S_window) : VS.D := .agg [I x.at_.lo, I x.at_.hi, I x.room_, I x.whole_.lo, I x.whole_.hi]
noncomputable def lp51_3 : Code := subC [1, 1, 0, 1, 0, 0] (bodyC Tryz.f51)

inductive LR_orders_total_3 where
  | x0 (v3_0 : Int)
instance : Inhabited LR_orders_total_3 := ⟨.x0 default⟩
def orders_total_3 : List Int → Int → LR_orders_total_3
  | [], v3_0 => .x0 v3_0
  | x3 :: rest3, v3_0 =>
    orders_total_3 rest3 (w64 (v3_0 + x3))
def lr_orders_total_3 (l : GS Int) : LR_orders_total_3 → Exit × St
  | .x0 v3_0 => ((.exit 0), ⟨17, [(9, B false), (3, I v3_0), (6, .sl l.nl (l.l.map I) (zsl l.nl 1) none), (7, I ((l.l.length : Nat) : Int)), (8, I ((l.l.length : Nat) : Int))], [], 0, 0⟩)
theorem lp_orders_total_3 (l : GS Int) : ∀ (rest3 : List Int) (i3 : Nat) (v3_0 : Int) (hd3 : l.l.drop i3 = rest3) (hi3 : i3 ≤ l.l.length) (hL3 : l.l.length ≤ 9223372036854775807), (lim cfg).loop 51 lp51_3 ⟨17, [(3, I v3_0), (6, .sl l.nl (l.l.map I) (zsl l.nl 1) none), (7, I ((l.l.length : Nat) : Int)), (8, I ((i3 : Nat) : Int))], [], 0, 0⟩ = some (lr_orders_total_3 l (orders_total_3 rest3 v3_0)) := by
  intro rest3
  induction rest3 with
  | nil =>
    intro i3 v3_0 hd3 hi3 hL3
    unfold orders_total_3
    obtain rfl : i3 = l.l.length := nil_eq hd3 hi3
    exact zO [.dec false] (And.intro (lt_no hd3) trivial) (by kernel_rfl)
  | cons x3 rest3 ih =>
    intro i3 v3_0 hd3 hi3 hL3
    have hlt3 := zr hd3
    unfold orders_total_3
    exact po_turn [.dec true, .el (I x3), .rw 15 (I ((i3 + 1 : Nat) : Int))] (And.intro (yb (i := i3) (by have := zr hd3; omega)) (And.intro (el_at (s := l) (f := I) (k := 1) hd3) (And.intro (lt_at hd3) trivial))) (ih (i3 + 1) (w64 (v3_0 + x3)) (zJ hd3) (zr hd3) (by first | assumption | omega)) (by kernel_rfl)

def zk (l : GS Int) : Int :=
  match orders_total_3 l.l 0 with
  | .x0 v3_0 =>
    v3_0

theorem T_orders_total (l : GS Int) (hL_l : l.l.length ≤ 9223372036854775807) : (lim cfg).pure 51 [GS.D I 1 l] = some (I (zk l)) := by
  unfold zk
  cases h1 : orders_total_3 l.l 0 with
  | x0 v3_0 =>
    try dsimp only
    exact za [.rw 7 (I ((l.l.length : Nat) : Int)), .loop (.exit 0) ⟨17, [(9, B false), (3, I v3_0), (6, .sl l.nl (l.l.map I) (zsl l.nl 1) none), (7, I ((l.l.length : Nat) : Int)), (8, I ((l.l.length : Nat) : Int))], [], 0, 0⟩] (And.intro (po_lr (q := lr_orders_total_3 l) (lp_orders_total_3 l l.l 0 0 (List.drop_zero) (Nat.zero_le _) (by first | assumption | omega)) h1) (And.intro (zh I l) trivial)) (by kernel_rfl)

def zd (e : S_Estate) (g : Int) : S_window :=
  (⟨(⟨(orders_all e).lo, w64 (((orders_all e).hi) - g)⟩ : S_Span), g, e.whole⟩ : S_window)

theorem T_orders_windowOf (e : S_Estate) (g : Int) (hL_e_items : e.items.l.length ≤ 9223372036854775807) : (lim cfg).pure 49 [S_Estate.D e, I g] = some (S_window.D (zd e g)) := by
  unfold zd
  exact za [.pure (.agg [I ((orders_all e).lo), I ((orders_all e).hi)])] (And.intro (T_orders_all e (by first | assumption | omega)) trivial) (by kernel_rfl)

def zn (w : S_window) : Int × Int :=
  (imax 0 (w64 (w.whole_.lo - w.at_.hi)), imin w.room_ (w64 (w.whole_.hi - w.at_.lo)))

theorem T_orders_window_ends (w : S_window) : (lim cfg).pure 93 [S_window.D w] = some (.tup [I ((zn w).1), I ((zn w).2)]) := by
  unfold zn
  exact za [] (trivial) (by kernel_rfl)

def zS (w : S_window) (s : Int) : S_Span :=
  bif ((zQ (⟨w64 (w.at_.lo + s), w64 (w.at_.hi + s)⟩ : S_Span) w.whole_).2) then
    ((zQ (⟨w64 (w.at_.lo + s), w64 (w.at_.hi + s)⟩ : S_Span) w.whole_).1)
  else
    ((zQ (⟨w64 (w.at_.lo + s), w64 (w.at_.hi + s)⟩ : S_Span) w.whole_).1)

theorem T_orders_window_seen (w : S_window) (s : Int) : (lim cfg).pure 95 [S_window.D w, I s] = some (S_Span.D (zS w s)) := by
  unfold zS
  cases h1 : ((zQ (⟨w64 (w.at_.lo + s), w64 (w.at_.hi + s)⟩ : S_Span) w.whole_).2) with
  | true =>
    exact za [.pure (.tup [.agg [I (((zQ (⟨w64 (w.at_.lo + s), w64 (w.at_.hi + s)⟩ : S_Span) w.whole_).1).lo), I (((zQ (⟨w64 (w.at_.lo + s), w64 (w.at_.hi + s)⟩ : S_Span) w.whole_).1).hi)], B ((zQ (⟨w64 (w.at_.lo + s), w64 (w.at_.hi + s)⟩ : S_Span) w.whole_).2)]), .dec true] (And.intro h1 (And.intro (T_orders_common (⟨w64 (w.at_.lo + s), w64 (w.at_.hi + s)⟩ : S_Span) w.whole_) trivial)) (by kernel_rfl)
  | false =>
    exact za [.pure (.tup [.agg [I (((zQ (⟨w64 (w.at_.lo + s), w64 (w.at_.hi + s)⟩ : S_Span) w.whole_).1).lo), I (((zQ (⟨w64 (w.at_.lo + s), w64 (w.at_.hi + s)⟩ : S_Span) w.whole_).1).hi)], B ((zQ (⟨w64 (w.at_.lo + s), w64 (w.at_.hi + s)⟩ : S_Span) w.whole_).2)]), .dec false] (And.intro h1 (And.intro (T_orders_common (⟨w64 (w.at_.lo + s), w64 (w.at_.hi + s)⟩ : S_Span) w.whole_) trivial)) (by kernel_rfl)

theorem isort4_len (l : List Int) (h : l.length ≤ 12) : (isort4 l).length = l.length := by
  unfold isort4
  cases h2 : isort4_1 (((l.length : Nat) : Int) - 1).toNat 1 l with
  | x0 i v =>
    by_cases h1 : 1 ≤ l.length
    · have := ivt_isort4_1 l (((l.length : Nat) : Int) - 1).toNat 1 l (by omega) (by omega) h rfl
      rw [h2] at this
      exact this
    · have : l = [] := List.eq_nil_of_length_eq_zero (by omega)
      subst this
      simp [isort4_1] at h2
      rw [← h2.2]
theorem z7 (a b c d : Int) : (sort4 [a, b, c, d]).length = 4 := isort4_len [a, b, c, d] (by simp)

inductive LR_orders_window_widest_6 where
  | x0 (v6_0 : Int) (v6_1 : Int)
instance : Inhabited LR_orders_window_widest_6 := ⟨.x0 default default⟩
def orders_window_widest_6 (w : S_window) : List Int → Int → Int → LR_orders_window_widest_6
  | [], v6_0, v6_1 => .x0 v6_0 v6_1
  | x6 :: rest6, v6_0, v6_1 =>
    bif decide ((w64 (((zS w x6).hi) - ((zS w x6).lo))) > v6_0) then
      orders_window_widest_6 w rest6 (w64 (((zS w x6).hi) - ((zS w x6).lo))) x6
    else
      orders_window_widest_6 w rest6 v6_0 v6_1
def orders_window_widest (w : S_window) : Int × Int :=
  match orders_window_widest_6 w (sort4 [((zn w).1), ((zn w).2), imin (imax (w64 (w.whole_.lo - w.at_.lo)) ((zn w).1)) ((zn w).2), imin (imax (w64 (w.whole_.hi - w.at_.hi)) ((zn w).1)) ((zn w).2)]) (-1) 0 with
  | .x0 v6_0 v6_1 =>
    (v6_0, v6_1)

noncomputable def lp76_5 : Code := subC [1, 1, 0, 1, 0, 0] (bodyC Tryz.f76)

inductive LR_orders_right_5 where
  | x0
  | x1 (i5 : Nat) (x5 : Int)
  | x2 (i5 : Nat) (x5 : Int)
instance : Inhabited LR_orders_right_5 := ⟨.x0⟩
def orders_right_5 (e : S_Estate) (items : GS Int) : List Int → Nat → LR_orders_right_5
  | [], i5 => .x0
  | x5 :: rest5, i5 =>
    bif (zE x5 0 (w64 (((e.items.l.length : Nat) : Int) - 1))) then
      bif decide (((i5 : Nat) : Int) > 0) then
        bif decide ((GS.at items (w64 (((i5 : Nat) : Int) - 1))) ≥ x5) then
          .x1 i5 x5
        else
          orders_right_5 e items rest5 (i5 + 1)
      else
        orders_right_5 e items rest5 (i5 + 1)
    else
      .x2 i5 x5
def lr_orders_right_5 (e : S_Estate) (items : GS Int) : LR_orders_right_5 → Exit × St
  | .x0 => ((.exit 0), ⟨41, [(16, B false), (1, .sl items.nl (items.l.map I) (zsl items.nl 1) none), (2, .lref 0 0 3 0), (13, .sl items.nl (items.l.map I) (zsl items.nl 1) none), (14, I ((items.l.length : Nat) : Int)), (15, I ((items.l.length : Nat) : Int))], [(0, ⟨[.agg [.sl e.items.nl (e.items.l.map S_Item.D) (zsl e.items.nl 4) none, I e.whole.lo, I e.whole.hi]], 3, false⟩)], 1, 0⟩)
  | .x1 i5 x5 => (.ret, ⟨41, [(4, I 1), (39, B true), (38, B true), (37, B true), (36, I x5), (35, I (GS.at items (w64 (((i5 : Nat) : Int) - 1)))), (34, .ptr (I (GS.at items (w64 (((i5 : Nat) : Int) - 1))))), (33, I (w64 (((i5 : Nat) : Int) - 1))), (32, I ((i5 : Nat) : Int)), (31, .sl items.nl (items.l.map I) (zsl items.nl 1) none), (30, B true), (29, B true), (28, I ((i5 : Nat) : Int)), (27, B false), (26, B false), (25, B true), (24, I (w64 (((e.items.l.length : Nat) : Int) - 1))), (23, I ((e.items.l.length : Nat) : Int)), (22, .sl e.items.nl (e.items.l.map S_Item.D) (zsl e.items.nl 4) none), (21, .lref 0 0 3 0), (20, I x5), (7, I x5), (6, I ((i5 : Nat) : Int)), (19, I x5), (18, .ptr (I x5)), (17, I ((i5 : Nat) : Int)), (16, B true), (1, .sl items.nl (items.l.map I) (zsl items.nl 1) none), (2, .lref 0 0 3 0), (13, .sl items.nl (items.l.map I) (zsl items.nl 1) none), (14, I ((items.l.length : Nat) : Int)), (15, I ((i5 : Nat) : Int))], [(0, ⟨[.agg [.sl e.items.nl (e.items.l.map S_Item.D) (zsl e.items.nl 4) none, I e.whole.lo, I e.whole.hi]], 3, false⟩)], 1, 0⟩)
  | .x2 i5 x5 => (.ret, ⟨41, [(4, I 1), (39, B true), (38, .tup []), (37, .tup []), (36, .tup []), (35, .tup []), (34, .tup []), (33, .tup []), (32, .tup []), (31, .tup []), (30, .tup []), (29, .tup []), (28, .tup []), (27, B true), (26, B true), (25, B false), (24, I (w64 (((e.items.l.length : Nat) : Int) - 1))), (23, I ((e.items.l.length : Nat) : Int)), (22, .sl e.items.nl (e.items.l.map S_Item.D) (zsl e.items.nl 4) none), (21, .lref 0 0 3 0), (20, I x5), (7, I x5), (6, I ((i5 : Nat) : Int)), (19, I x5), (18, .ptr (I x5)), (17, I ((i5 : Nat) : Int)), (16, B true), (1, .sl items.nl (items.l.map I) (zsl items.nl 1) none), (2, .lref 0 0 3 0), (13, .sl items.nl (items.l.map I) (zsl items.nl 1) none), (14, I ((items.l.length : Nat) : Int)), (15, I ((i5 : Nat) : Int))], [(0, ⟨[.agg [.sl e.items.nl (e.items.l.map S_Item.D) (zsl e.items.nl 4) none, I e.whole.lo, I e.whole.hi]], 3, false⟩)], 1, 0⟩)
def orders_right_5_l_o1 (e : S_Estate) (x5 : Int) : List Ora := [.dec true, .el (I x5), .rw 23 (I ((e.items.l.length : Nat) : Int)), .pure (B (zE x5 0 (w64 (((e.items.l.length : Nat) : Int) - 1))))]
theorem lp_orders_right_5 (e : S_Estate) (items : GS Int) : ∀ (rest5 : List Int) (i5 : Nat) (hd5 : items.l.drop i5 = rest5) (hi5 : i5 ≤ items.l.length) (hL5 : items.l.length ≤ 9223372036854775807), (lim cfg).loop 76 lp76_5 ⟨41, [(1, .sl items.nl (items.l.map I) (zsl items.nl 1) none), (2, .lref 0 0 3 0), (13, .sl items.nl (items.l.map I) (zsl items.nl 1) none), (14, I ((items.l.length : Nat) : Int)), (15, I ((i5 : Nat) : Int))], [(0, ⟨[.agg [.sl e.items.nl (e.items.l.map S_Item.D) (zsl e.items.nl 4) none, I e.whole.lo, I e.whole.hi]], 3, false⟩)], 1, 0⟩ = some (lr_orders_right_5 e items (orders_right_5 e items rest5 i5)) := by
  intro rest5
  induction rest5 with
  | nil =>
    intro i5 hd5 hi5 hL5
    unfold orders_right_5
    obtain rfl : i5 = items.l.length := nil_eq hd5 hi5
    exact zO [.dec false] (And.intro (lt_no hd5) trivial) (by kernel_rfl)
  | cons x5 rest5 ih =>
    intro i5 hd5 hi5 hL5
    have hlt5 := zr hd5
    unfold orders_right_5
    have p1 := (el_at (s := items) (f := I) (k := 1) hd5)
    have p2 := (T_orders_within x5 0 (w64 (((e.items.l.length : Nat) : Int) - 1)))
    cases h5 : (zE x5 0 (w64 (((e.items.l.length : Nat) : Int) - 1))) with
    | true =>
      have g5 := within_t h5
      cases h6 : decide (((i5 : Nat) : Int) > 0) with
      | true =>
        have g6 := of_decide_eq_true h6
        have p3 := (el_in (s := items) (f := I) (k := 1) (i := w64 (((i5 : Nat) : Int) - 1)) (by first | assumption | omega | (simp only [z8] at * <;> omega)) (by first | assumption | omega | (simp only [z8] at * <;> omega)))
        cases h7 : decide ((GS.at items (w64 (((i5 : Nat) : Int) - 1))) ≥ x5) with
        | true =>
          have g7 := of_decide_eq_true h7
          exact zO ((orders_right_5_l_o1 e x5) ++ [.dec true, .dec true, .el (I (GS.at items (w64 (((i5 : Nat) : Int) - 1)))), .dec true]) (And.intro h7 (And.intro p3 (And.intro h6 (And.intro h5 (And.intro p2 (And.intro (zh S_Item.D e.items) (And.intro p1 (And.intro (lt_at hd5) trivial)))))))) (by kernel_rfl)
        | false =>
          have g7 := of_decide_eq_false h7
          exact po_turn ((orders_right_5_l_o1 e x5) ++ [.dec true, .dec true, .el (I (GS.at items (w64 (((i5 : Nat) : Int) - 1)))), .dec false, .rw 40 (I ((i5 + 1 : Nat) : Int))]) (And.intro (yb (i := i5) (by have := zr hd5; omega)) (And.intro h7 (And.intro p3 (And.intro h6 (And.intro h5 (And.intro p2 (And.intro (zh S_Item.D e.items) (And.intro p1 (And.intro (lt_at hd5) trivial))))))))) (ih (i5 + 1) (zJ hd5) (zr hd5) (by first | assumption | omega)) (by kernel_rfl)
      | false =>
        have g6 := of_decide_eq_false h6
        exact po_turn ((orders_right_5_l_o1 e x5) ++ [.dec true, .dec false, .rw 40 (I ((i5 + 1 : Nat) : Int))]) (And.intro (yb (i := i5) (by have := zr hd5; omega)) (And.intro h6 (And.intro h5 (And.intro p2 (And.intro (zh S_Item.D e.items) (And.intro p1 (And.intro (lt_at hd5) trivial))))))) (ih (i5 + 1) (zJ hd5) (zr hd5) (by first | assumption | omega)) (by kernel_rfl)
    | false =>
      have g5 := within_f h5
      exact zO ((orders_right_5_l_o1 e x5) ++ [.dec false]) (And.intro h5 (And.intro p2 (And.intro (zh S_Item.D e.items) (And.intro p1 (And.intro (lt_at hd5) trivial))))) (by kernel_rfl)

def zB (e : S_Estate) (items : GS Int) : Int :=
  bif ((zN e) != 0) then
    (zN e)
  else
    match orders_right_5 e items items.l 0 with
    | .x0 =>
      0
    | .x1 i5 x5 =>
      1
    | .x2 i5 x5 =>
      1

def sd38 (e : S_Estate) (items : GS Int) : St := ⟨41, [(16, B false), (1, .sl items.nl (items.l.map I) (zsl items.nl 1) none), (2, .lref 0 0 3 0), (13, .sl items.nl (items.l.map I) (zsl items.nl 1) none), (14, I ((items.l.length : Nat) : Int)), (15, I ((items.l.length : Nat) : Int))], [(0, ⟨[.agg [.sl e.items.nl (e.items.l.map S_Item.D) (zsl e.items.nl 4) none, I e.whole.lo, I e.whole.hi]], 3, false⟩)], 1, 0⟩

def sd39 (e : S_Estate) (items : GS Int) (i5 : Nat) (x5 : Int) : St := ⟨41, [(4, I 1), (39, B true), (38, B true), (37, B true), (36, I x5), (35, I (GS.at items (w64 (((i5 : Nat) : Int) - 1)))), (34, .ptr (I (GS.at items (w64 (((i5 : Nat) : Int) - 1))))), (33, I (w64 (((i5 : Nat) : Int) - 1))), (32, I ((i5 : Nat) : Int)), (31, .sl items.nl (items.l.map I) (zsl items.nl 1) none), (30, B true), (29, B true), (28, I ((i5 : Nat) : Int)), (27, B false), (26, B false), (25, B true), (24, I (w64 (((e.items.l.length : Nat) : Int) - 1))), (23, I ((e.items.l.length : Nat) : Int)), (22, .sl e.items.nl (e.items.l.map S_Item.D) (zsl e.items.nl 4) none), (21, .lref 0 0 3 0), (20, I x5), (7, I x5), (6, I ((i5 : Nat) : Int)), (19, I x5), (18, .ptr (I x5)), (17, I ((i5 : Nat) : Int)), (16, B true), (1, .sl items.nl (items.l.map I) (zsl items.nl 1) none), (2, .lref 0 0 3 0), (13, .sl items.nl (items.l.map I) (zsl items.nl 1) none), (14, I ((items.l.length : Nat) : Int)), (15, I ((i5 : Nat) : Int))], [(0, ⟨[.agg [.sl e.items.nl (e.items.l.map S_Item.D) (zsl e.items.nl 4) none, I e.whole.lo, I e.whole.hi]], 3, false⟩)], 1, 0⟩

def sd40 (e : S_Estate) (items : GS Int) (i5 : Nat) (x5 : Int) : St := ⟨41, [(4, I 1), (39, B true), (38, .tup []), (37, .tup []), (36, .tup []), (35, .tup []), (34, .tup []), (33, .tup []), (32, .tup []), (31, .tup []), (30, .tup []), (29, .tup []), (28, .tup []), (27, B true), (26, B true), (25, B false), (24, I (w64 (((e.items.l.length : Nat) : Int) - 1))), (23, I ((e.items.l.length : Nat) : Int)), (22, .sl e.items.nl (e.items.l.map S_Item.D) (zsl e.items.nl 4) none), (21, .lref 0 0 3 0), (20, I x5), (7, I x5), (6, I ((i5 : Nat) : Int)), (19, I x5), (18, .ptr (I x5)), (17, I ((i5 : Nat) : Int)), (16, B true), (1, .sl items.nl (items.l.map I) (zsl items.nl 1) none), (2, .lref 0 0 3 0), (13, .sl items.nl (items.l.map I) (zsl items.nl 1) none), (14, I ((items.l.length : Nat) : Int)), (15, I ((i5 : Nat) : Int))], [(0, ⟨[.agg [.sl e.items.nl (e.items.l.map S_Item.D) (zsl e.items.nl 4) none, I e.whole.lo, I e.whole.hi]], 3, false⟩)], 1, 0⟩

theorem T_orders_right (e : S_Estate) (items : GS Int) (hL_items : items.l.length ≤ 9223372036854775807) : (lim cfg).pure 76 [S_Estate.D e, GS.D I 1 items] = some (I (zB e items)) := by
  unfold zB
  cases h1 : ((zN e) != 0) with
  | true =>
    have g1 := bne_true h1
    exact za [.pure (I (zN e)), .dec true] (And.intro h1 (And.intro (T_orders_Check e) trivial)) (by kernel_rfl)
  | false =>
    have g1 := check_len (bne_false h1)
    cases h8 : orders_right_5 e items items.l 0 with
    | x0 =>
      try dsimp only
      exact za [.pure (I (zN e)), .dec false, .rw 14 (I ((items.l.length : Nat) : Int)), .loop (.exit 0) (sd38 e items)] (And.intro (po_lr (q := lr_orders_right_5 e items) (lp_orders_right_5 e items items.l 0 (List.drop_zero) (Nat.zero_le _) (by first | assumption | omega)) h8) (And.intro (zh I items) (And.intro h1 (And.intro (T_orders_Check e) trivial)))) (by kernel_rfl)
    | x1 i5 x5 =>
      try dsimp only
      exact za [.pure (I (zN e)), .dec false, .rw 14 (I ((items.l.length : Nat) : Int)), .loop .ret (sd39 e items i5 x5)] (And.intro (po_lr (q := lr_orders_right_5 e items) (lp_orders_right_5 e items items.l 0 (List.drop_zero) (Nat.zero_le _) (by first | assumption | omega)) h8) (And.intro (zh I items) (And.intro h1 (And.intro (T_orders_Check e) trivial)))) (by kernel_rfl)
    | x2 i5 x5 =>
      try dsimp only
      exact za [.pure (I (zN e)), .dec false, .rw 14 (I ((items.l.length : Nat) : Int)), .loop .ret (sd40 e items i5 x5)] (And.intro (po_lr (q := lr_orders_right_5 e items) (lp_orders_right_5 e items items.l 0 (List.drop_zero) (Nat.zero_le _) (by first | assumption | omega)) h8) (And.intro (zh I items) (And.intro h1 (And.intro (T_orders_Check e) trivial)))) (by kernel_rfl)

/-- Numbers that increase, above p and below n. -/
def inc (p n : Int) : List Int → Prop
  | [] => True
  | x :: l => p < x ∧ 0 ≤ x ∧ x < n ∧ inc x n l
theorem inc_mem : ∀ {p n : Int} {l : List Int}, inc p n l → ∀ x ∈ l, 0 ≤ x ∧ x < n
  | _, _, [], _, x, hx => by cases hx
  | p, n, y :: l, h, x, hx => by
    rcases List.mem_cons.1 hx with rfl | hx
    · exact ⟨h.2.1, h.2.2.1⟩
    · exact inc_mem h.2.2.2 x hx
theorem inc_len : ∀ {p n : Int} {l : List Int}, inc p n l → -1 ≤ p → l ≠ [] → (l.length : Int) ≤ n - p - 1
  | _, _, [], _, _, h => absurd rfl h
  | p, n, [y], h, _, _ => by have := h.1; have := h.2.2.1; simp; omega
  | p, n, y :: z :: l, h, hp, _ => by
    have := inc_len (l := z :: l) h.2.2.2 (by have := h.2.1; omega) (by simp)
    have := h.1
    simp only [List.length_cons] at *
    omega
theorem right5 {e : S_Estate} {items : GS Int} (hn : e.items.l.length ≤ 12) (hL : items.l.length ≤ 9223372036854775807) : ∀ (l : List Int) (i : Nat), items.l.drop i = l → (orders_right_5 e items l i = .x0 ↔ inc (if i = 0 then -1 else items.at ((i : Int) - 1)) (e.items.l.length : Int) l)
  | [], i, _ => by simp [orders_right_5, inc]
  | x :: l, i, hd => by
    have hlt := zr hd
    have hx : items.at (i : Int) = x := at_of hd
    unfold orders_right_5
    simp only [inc]
    cases h1 : zE x 0 (w64 (((e.items.l.length : Nat) : Int) - 1)) with
    | false =>
      simp only [cond_false]
      constructor
      · intro h; cases h
      · intro h
        exfalso
        have : zE x 0 (w64 (((e.items.l.length : Nat) : Int) - 1)) = true := by rw [within_eq, w64_eq (by omega) (by omega)]; simp; omega
        rw [this] at h1; cases h1
    | true =>
      have h1' := within_t h1
      rw [w64_eq (by omega) (by omega)] at h1'
      have ih := right5 (items := items) hn hL l (i + 1) (zJ hd)
      rw [if_neg (by omega), show ((i + 1 : Nat) : Int) - 1 = (i : Int) by omega, hx] at ih
      simp only [cond_true]
      by_cases h0 : i = 0
      · subst h0
        have e0 : decide (((0 : Nat) : Int) > 0) = false := rfl
        rw [e0, if_pos rfl]
        simp only [cond_false, ih]
        constructor
        · intro h; exact ⟨by omega, by omega, by omega, h⟩
        · intro h; exact h.2.2.2
      · rw [if_neg h0, decide_eq_true (by omega : ((i : Nat) : Int) > 0)]
        simp only [cond_true]
        rw [w64_eq (by omega) (by omega)]
        cases h2 : decide (items.at (((i : Nat) : Int) - 1) ≥ x) with
        | true =>
          have := of_decide_eq_true h2
          simp only [cond_true]
          constructor
          · intro h; cases h
          · intro h; omega
        | false =>
          have := of_decide_eq_false h2
          simp only [cond_false, ih]
          constructor
          · intro h; exact ⟨by omega, by omega, by omega, h⟩
          · intro h; exact h.2.2.2
theorem right_iff {e : S_Estate} {items : GS Int} (hL : items.l.length ≤ 9223372036854775807) : zB e items = 0 ↔ zN e = 0 ∧ inc (-1) (e.items.l.length : Int) items.l := by
  unfold zB
  cases h : (zN e != 0) with
  | true =>
    have := bne_true h
    simp only [cond_true]
    exact ⟨fun h => absurd h this, fun h => h.1⟩
  | false =>
    have h' := bne_false h
    have hl := check_len h'
    have k := right5 hl.2 hL items.l 0 List.drop_zero
    rw [if_pos rfl] at k
    simp only [cond_false]
    constructor
    · intro h1
      refine ⟨h', k.1 ?_⟩
      revert h1
      cases orders_right_5 e items items.l 0 <;> simp
    · intro h1
      rw [k.2 h1.2]
theorem right_ok {e : S_Estate} {items : GS Int} (hL : items.l.length ≤ 9223372036854775807) (h : zB e items = 0) : 1 ≤ e.items.l.length ∧ e.items.l.length ≤ 12 ∧ items.l.length ≤ 12 := by
  have h' := (right_iff hL).1 h
  have hl := check_len h'.1
  refine ⟨hl.1, hl.2, ?_⟩
  by_cases hn : items.l = []
  · rw [hn]; simp
  · have := inc_len h'.2 (by omega) hn
    omega
theorem right_all {e : S_Estate} {items : GS Int} (hL : items.l.length ≤ 9223372036854775807) (h : zB e items = 0) : ∀ i ∈ items.l, 0 ≤ i ∧ i < ((e.items.l.length : Nat) : Int) := inc_mem ((right_iff hL).1 h).2
end Go.VS

