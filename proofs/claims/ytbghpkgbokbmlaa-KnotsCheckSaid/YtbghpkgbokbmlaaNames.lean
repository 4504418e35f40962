/- The seat's names: the numbers of functions, the types. Written by a program. -/
import Derived.Test.YtbghpkgbokbmlaaZ1
import Derived.Test.YtbghpkgbokbmlaaProg
import Derived.KernelRfl
set_option linter.unusedVariables false
namespace Go.Am.N
open Go.Proofs
noncomputable abbrev P : Program := Try.prog
theorem hm : P.follows .mixedOrders = true := by kernel_rfl
abbrev law08_KnotsCheck : FuncId := 3
noncomputable abbrev fn_law08_KnotsCheck : Func := Try.f3
theorem get_law08_KnotsCheck : P.funcs[law08_KnotsCheck]? = some fn_law08_KnotsCheck := Try.func3
abbrev made_Light : FuncId := 8
noncomputable abbrev fn_made_Light : Func := Try.f8
theorem get_made_Light : P.funcs[made_Light]? = some fn_made_Light := Try.func8
abbrev law08_awake : FuncId := 9
noncomputable abbrev fn_law08_awake : Func := Try.f9
theorem get_law08_awake : P.funcs[law08_awake]? = some fn_law08_awake := Try.func9
abbrev law08_made : FuncId := 10
noncomputable abbrev fn_law08_made : Func := Try.f10
theorem get_law08_made : P.funcs[law08_made]? = some fn_law08_made := Try.func10
abbrev knots_Check : FuncId := 11
noncomputable abbrev fn_knots_Check : Func := Try.f11
theorem get_knots_Check : P.funcs[knots_Check]? = some fn_knots_Check := Try.func11
abbrev knots_Poles : FuncId := 12
noncomputable abbrev fn_knots_Poles : Func := Try.f12
theorem get_knots_Poles : P.funcs[knots_Poles]? = some fn_knots_Poles := Try.func12
abbrev ref08_Poles : FuncId := 13
noncomputable abbrev fn_ref08_Poles : Func := Try.f13
theorem get_ref08_Poles : P.funcs[ref08_Poles]? = some fn_ref08_Poles := Try.func13
abbrev ref08_Check : FuncId := 14
noncomputable abbrev fn_ref08_Check : Func := Try.f14
theorem get_ref08_Check : P.funcs[ref08_Check]? = some fn_ref08_Check := Try.func14
abbrev made_Rat : FuncId := 15
noncomputable abbrev fn_made_Rat : Func := Try.f15
theorem get_made_Rat : P.funcs[made_Rat]? = some fn_made_Rat := Try.func15
abbrev made_Mod : FuncId := 16
noncomputable abbrev fn_made_Mod : Func := Try.f16
theorem get_made_Mod : P.funcs[made_Mod]? = some fn_made_Mod := Try.func16
abbrev ref02_Int : FuncId := 17
noncomputable abbrev fn_ref02_Int : Func := Try.f17
theorem get_ref02_Int : P.funcs[ref02_Int]? = some fn_ref02_Int := Try.func17
abbrev knots_Greville : FuncId := 21
noncomputable abbrev fn_knots_Greville : Func := Try.f21
theorem get_knots_Greville : P.funcs[knots_Greville]? = some fn_knots_Greville := Try.func21
abbrev made_Roll : FuncId := 27
noncomputable abbrev fn_made_Roll : Func := Try.f27
theorem get_made_Roll : P.funcs[made_Roll]? = some fn_made_Roll := Try.func27
abbrev knots_Times : FuncId := 34
noncomputable abbrev fn_knots_Times : Func := Try.f34
theorem get_knots_Times : P.funcs[knots_Times]? = some fn_knots_Times := Try.func34
abbrev ref08_Times : FuncId := 35
noncomputable abbrev fn_ref08_Times : Func := Try.f35
theorem get_ref08_Times : P.funcs[ref08_Times]? = some fn_ref08_Times := Try.func35
abbrev knots_Distinct : FuncId := 36
noncomputable abbrev fn_knots_Distinct : Func := Try.f36
theorem get_knots_Distinct : P.funcs[knots_Distinct]? = some fn_knots_Distinct := Try.func36
abbrev ref08_Distinct : FuncId := 37
noncomputable abbrev fn_ref08_Distinct : Func := Try.f37
theorem get_ref08_Distinct : P.funcs[ref08_Distinct]? = some fn_ref08_Distinct := Try.func37
abbrev ref02_Cmp : FuncId := 41
noncomputable abbrev fn_ref02_Cmp : Func := Try.f41
theorem get_ref02_Cmp : P.funcs[ref02_Cmp]? = some fn_ref02_Cmp := Try.func41
abbrev ref02_Same : FuncId := 42
noncomputable abbrev fn_ref02_Same : Func := Try.f42
theorem get_ref02_Same : P.funcs[ref02_Same]? = some fn_ref02_Same := Try.func42
abbrev ref02_Text : FuncId := 43
noncomputable abbrev fn_ref02_Text : Func := Try.f43
theorem get_ref02_Text : P.funcs[ref02_Text]? = some fn_ref02_Text := Try.func43
abbrev made_Dice_Next : FuncId := 44
noncomputable abbrev fn_made_Dice_Next : Func := Try.f44
theorem get_made_Dice_Next : P.funcs[made_Dice_Next]? = some fn_made_Dice_Next := Try.func44
abbrev made_Dice_Knots : FuncId := 45
noncomputable abbrev fn_made_Dice_Knots : Func := Try.f45
theorem get_made_Dice_Knots : P.funcs[made_Dice_Knots]? = some fn_made_Dice_Knots := Try.func45
abbrev slices_IsSortedFunc_api_Rat_api_Rat : FuncId := 46
noncomputable abbrev fn_slices_IsSortedFunc_api_Rat_api_Rat : Func := Try.f46
theorem get_slices_IsSortedFunc_api_Rat_api_Rat : P.funcs[slices_IsSortedFunc_api_Rat_api_Rat]? = some fn_slices_IsSortedFunc_api_Rat_api_Rat := Try.func46
abbrev rational_Cmp : FuncId := 47
noncomputable abbrev fn_rational_Cmp : Func := Try.f47
theorem get_rational_Cmp : P.funcs[rational_Cmp]? = some fn_rational_Cmp := Try.func47
abbrev rational_Same : FuncId := 48
noncomputable abbrev fn_rational_Same : Func := Try.f48
theorem get_rational_Same : P.funcs[rational_Same]? = some fn_rational_Same := Try.func48
abbrev ref02_Frac : FuncId := 49
noncomputable abbrev fn_ref02_Frac : Func := Try.f49
theorem get_ref02_Frac : P.funcs[ref02_Frac]? = some fn_ref02_Frac := Try.func49
abbrev ref02_size : FuncId := 50
noncomputable abbrev fn_ref02_size : Func := Try.f50
theorem get_ref02_size : P.funcs[ref02_size]? = some fn_ref02_size := Try.func50
abbrev rational_Quo : FuncId := 51
noncomputable abbrev fn_rational_Quo : Func := Try.f51
theorem get_rational_Quo : P.funcs[rational_Quo]? = some fn_rational_Quo := Try.func51
abbrev rational_Sub : FuncId := 52
noncomputable abbrev fn_rational_Sub : Func := Try.f52
theorem get_rational_Sub : P.funcs[rational_Sub]? = some fn_rational_Sub := Try.func52
abbrev rational_Add : FuncId := 53
noncomputable abbrev fn_rational_Add : Func := Try.f53
theorem get_rational_Add : P.funcs[rational_Add]? = some fn_rational_Add := Try.func53
abbrev rational_Mul : FuncId := 54
noncomputable abbrev fn_rational_Mul : Func := Try.f54
theorem get_rational_Mul : P.funcs[rational_Mul]? = some fn_rational_Mul := Try.func54
abbrev ref02_Sub : FuncId := 56
noncomputable abbrev fn_ref02_Sub : Func := Try.f56
theorem get_ref02_Sub : P.funcs[ref02_Sub]? = some fn_ref02_Sub := Try.func56
abbrev ref02_Add : FuncId := 57
noncomputable abbrev fn_ref02_Add : Func := Try.f57
theorem get_ref02_Add : P.funcs[ref02_Add]? = some fn_ref02_Add := Try.func57
abbrev ref02_Mul : FuncId := 58
noncomputable abbrev fn_ref02_Mul : Func := Try.f58
theorem get_ref02_Mul : P.funcs[ref02_Mul]? = some fn_ref02_Mul := Try.func58
abbrev rational_Make : FuncId := 59
noncomputable abbrev fn_rational_Make : Func := Try.f59
theorem get_rational_Make : P.funcs[rational_Make]? = some fn_rational_Make := Try.func59
abbrev slices_CompactFunc_api_Rat_api_Rat : FuncId := 71
noncomputable abbrev fn_slices_CompactFunc_api_Rat_api_Rat : Func := Try.f71
theorem get_slices_CompactFunc_api_Rat_api_Rat : P.funcs[slices_CompactFunc_api_Rat_api_Rat]? = some fn_slices_CompactFunc_api_Rat_api_Rat := Try.func71
abbrev knots_copied : FuncId := 72
noncomputable abbrev fn_knots_copied : Func := Try.f72
theorem get_knots_copied : P.funcs[knots_copied]? = some fn_knots_copied := Try.func72
abbrev ref02_Sign : FuncId := 75
noncomputable abbrev fn_ref02_Sign : Func := Try.f75
theorem get_ref02_Sign : P.funcs[ref02_Sign]? = some fn_ref02_Sign := Try.func75
abbrev ref01_Cmp : FuncId := 76
noncomputable abbrev fn_ref01_Cmp : Func := Try.f76
theorem get_ref01_Cmp : P.funcs[ref01_Cmp]? = some fn_ref01_Cmp := Try.func76
abbrev ref01_Mul : FuncId := 77
noncomputable abbrev fn_ref01_Mul : Func := Try.f77
theorem get_ref01_Mul : P.funcs[ref01_Mul]? = some fn_ref01_Mul := Try.func77
abbrev ref02_Den : FuncId := 78
noncomputable abbrev fn_ref02_Den : Func := Try.f78
theorem get_ref02_Den : P.funcs[ref02_Den]? = some fn_ref02_Den := Try.func78
abbrev ref01_Text : FuncId := 79
noncomputable abbrev fn_ref01_Text : Func := Try.f79
theorem get_ref01_Text : P.funcs[ref01_Text]? = some fn_ref01_Text := Try.func79
abbrev rational_Sign : FuncId := 80
noncomputable abbrev fn_rational_Sign : Func := Try.f80
theorem get_rational_Sign : P.funcs[rational_Sign]? = some fn_rational_Sign := Try.func80
abbrev rational_parts : FuncId := 81
noncomputable abbrev fn_rational_parts : Func := Try.f81
theorem get_rational_parts : P.funcs[rational_parts]? = some fn_rational_parts := Try.func81
abbrev slices_Equal_uint32_uint32 : FuncId := 82
noncomputable abbrev fn_slices_Equal_uint32_uint32 : Func := Try.f82
theorem get_slices_Equal_uint32_uint32 : P.funcs[slices_Equal_uint32_uint32]? = some fn_slices_Equal_uint32_uint32 := Try.func82
abbrev natural_Cmp : FuncId := 83
noncomputable abbrev fn_natural_Cmp : Func := Try.f83
theorem get_natural_Cmp : P.funcs[natural_Cmp]? = some fn_natural_Cmp := Try.func83
abbrev natural_Mul : FuncId := 84
noncomputable abbrev fn_natural_Mul : Func := Try.f84
theorem get_natural_Mul : P.funcs[natural_Mul]? = some fn_natural_Mul := Try.func84
abbrev rational_den : FuncId := 85
noncomputable abbrev fn_rational_den : Func := Try.f85
theorem get_rational_den : P.funcs[rational_den]? = some fn_rational_den := Try.func85
abbrev ref02_Make : FuncId := 86
noncomputable abbrev fn_ref02_Make : Func := Try.f86
theorem get_ref02_Make : P.funcs[ref02_Make]? = some fn_ref02_Make := Try.func86
abbrev ref01_Of : FuncId := 87
noncomputable abbrev fn_ref01_Of : Func := Try.f87
theorem get_ref01_Of : P.funcs[ref01_Of]? = some fn_ref01_Of := Try.func87
abbrev rational_short : FuncId := 88
noncomputable abbrev fn_rational_short : Func := Try.f88
theorem get_rational_short : P.funcs[rational_short]? = some fn_rational_short := Try.func88
abbrev rational_reduce : FuncId := 89
noncomputable abbrev fn_rational_reduce : Func := Try.f89
theorem get_rational_reduce : P.funcs[rational_reduce]? = some fn_rational_reduce := Try.func89
abbrev rational_add : FuncId := 90
noncomputable abbrev fn_rational_add : Func := Try.f90
theorem get_rational_add : P.funcs[rational_add]? = some fn_rational_add := Try.func90
abbrev ref02_Neg : FuncId := 92
noncomputable abbrev fn_ref02_Neg : Func := Try.f92
theorem get_ref02_Neg : P.funcs[ref02_Neg]? = some fn_ref02_Neg := Try.func92
abbrev ref02_reduce : FuncId := 93
noncomputable abbrev fn_ref02_reduce : Func := Try.f93
theorem get_ref02_reduce : P.funcs[ref02_reduce]? = some fn_ref02_reduce := Try.func93
abbrev ref01_Add : FuncId := 94
noncomputable abbrev fn_ref01_Add : Func := Try.f94
theorem get_ref01_Add : P.funcs[ref01_Add]? = some fn_ref01_Add := Try.func94
abbrev ref01_Sub : FuncId := 95
noncomputable abbrev fn_ref01_Sub : Func := Try.f95
theorem get_ref01_Sub : P.funcs[ref01_Sub]? = some fn_ref01_Sub := Try.func95
abbrev rational_size : FuncId := 96
noncomputable abbrev fn_rational_size : Func := Try.f96
theorem get_rational_size : P.funcs[rational_size]? = some fn_rational_size := Try.func96
abbrev rational_Min : FuncId := 107
noncomputable abbrev fn_rational_Min : Func := Try.f107
theorem get_rational_Min : P.funcs[rational_Min]? = some fn_rational_Min := Try.func107
abbrev rational_Max : FuncId := 108
noncomputable abbrev fn_rational_Max : Func := Try.f108
theorem get_rational_Max : P.funcs[rational_Max]? = some fn_rational_Max := Try.func108
abbrev ref01_Trim : FuncId := 111
noncomputable abbrev fn_ref01_Trim : Func := Try.f111
theorem get_ref01_Trim : P.funcs[ref01_Trim]? = some fn_ref01_Trim := Try.func111
abbrev ref01_byLimb : FuncId := 112
noncomputable abbrev fn_ref01_byLimb : Func := Try.f112
theorem get_ref01_byLimb : P.funcs[ref01_byLimb]? = some fn_ref01_byLimb := Try.func112
abbrev natural_Bits : FuncId := 113
noncomputable abbrev fn_natural_Bits : Func := Try.f113
theorem get_natural_Bits : P.funcs[natural_Bits]? = some fn_natural_Bits := Try.func113
abbrev rational_word : FuncId := 114
noncomputable abbrev fn_rational_word : Func := Try.f114
theorem get_rational_word : P.funcs[rational_word]? = some fn_rational_word := Try.func114
abbrev natural_trim : FuncId := 115
noncomputable abbrev fn_natural_trim : Func := Try.f115
theorem get_natural_trim : P.funcs[natural_trim]? = some fn_natural_trim := Try.func115
abbrev rational_one : FuncId := 116
noncomputable abbrev fn_rational_one : Func := Try.f116
theorem get_rational_one : P.funcs[rational_one]? = some fn_rational_one := Try.func116
abbrev rational_divisor : FuncId := 117
noncomputable abbrev fn_rational_divisor : Func := Try.f117
theorem get_rational_divisor : P.funcs[rational_divisor]? = some fn_rational_divisor := Try.func117
abbrev rational_limbs : FuncId := 118
noncomputable abbrev fn_rational_limbs : Func := Try.f118
theorem get_rational_limbs : P.funcs[rational_limbs]? = some fn_rational_limbs := Try.func118
abbrev natural_Gcd : FuncId := 119
noncomputable abbrev fn_natural_Gcd : Func := Try.f119
theorem get_natural_Gcd : P.funcs[natural_Gcd]? = some fn_natural_Gcd := Try.func119
abbrev natural_Div : FuncId := 120
noncomputable abbrev fn_natural_Div : Func := Try.f120
theorem get_natural_Div : P.funcs[natural_Div]? = some fn_natural_Div := Try.func120
abbrev natural_Add : FuncId := 121
noncomputable abbrev fn_natural_Add : Func := Try.f121
theorem get_natural_Add : P.funcs[natural_Add]? = some fn_natural_Add := Try.func121
abbrev math_bits_Add64 : FuncId := 122
noncomputable abbrev fn_math_bits_Add64 : Func := Try.f122
theorem get_math_bits_Add64 : P.funcs[math_bits_Add64]? = some fn_math_bits_Add64 := Try.func122
abbrev natural_Sub : FuncId := 123
noncomputable abbrev fn_natural_Sub : Func := Try.f123
theorem get_natural_Sub : P.funcs[natural_Sub]? = some fn_natural_Sub := Try.func123
abbrev ref01_Gcd : FuncId := 124
noncomputable abbrev fn_ref01_Gcd : Func := Try.f124
theorem get_ref01_Gcd : P.funcs[ref01_Gcd]? = some fn_ref01_Gcd := Try.func124
abbrev ref01_Div : FuncId := 125
noncomputable abbrev fn_ref01_Div : Func := Try.f125
theorem get_ref01_Div : P.funcs[ref01_Div]? = some fn_ref01_Div := Try.func125
abbrev ref01_minus : FuncId := 126
noncomputable abbrev fn_ref01_minus : Func := Try.f126
theorem get_ref01_minus : P.funcs[ref01_minus]? = some fn_ref01_minus := Try.func126
abbrev natural_Of : FuncId := 127
noncomputable abbrev fn_natural_Of : Func := Try.f127
theorem get_natural_Of : P.funcs[natural_Of]? = some fn_natural_Of := Try.func127
abbrev math_bits_Len32 : FuncId := 137
noncomputable abbrev fn_math_bits_Len32 : Func := Try.f137
theorem get_math_bits_Len32 : P.funcs[math_bits_Len32]? = some fn_math_bits_Len32 := Try.func137
abbrev rational_copied : FuncId := 141
noncomputable abbrev fn_rational_copied : Func := Try.f141
theorem get_rational_copied : P.funcs[rational_copied]? = some fn_rational_copied := Try.func141
abbrev slices_Clone_uint32_uint32 : FuncId := 143
noncomputable abbrev fn_slices_Clone_uint32_uint32 : Func := Try.f143
theorem get_slices_Clone_uint32_uint32 : P.funcs[slices_Clone_uint32_uint32]? = some fn_slices_Clone_uint32_uint32 := Try.func143
abbrev natural_word : FuncId := 144
noncomputable abbrev fn_natural_word : Func := Try.f144
theorem get_natural_word : P.funcs[natural_word]? = some fn_natural_word := Try.func144
abbrev natural_small : FuncId := 145
noncomputable abbrev fn_natural_small : Func := Try.f145
theorem get_natural_small : P.funcs[natural_small]? = some fn_natural_small := Try.func145
abbrev math_bits_LeadingZeros32 : FuncId := 146
noncomputable abbrev fn_math_bits_LeadingZeros32 : Func := Try.f146
theorem get_math_bits_LeadingZeros32 : P.funcs[math_bits_LeadingZeros32]? = some fn_math_bits_LeadingZeros32 := Try.func146
abbrev natural_raise : FuncId := 147
noncomputable abbrev fn_natural_raise : Func := Try.f147
theorem get_natural_raise : P.funcs[natural_raise]? = some fn_natural_raise := Try.func147
abbrev ref01_small : FuncId := 148
noncomputable abbrev fn_ref01_small : Func := Try.f148
theorem get_ref01_small : P.funcs[ref01_small]? = some fn_ref01_small := Try.func148
abbrev ref01_Bits : FuncId := 149
noncomputable abbrev fn_ref01_Bits : Func := Try.f149
theorem get_ref01_Bits : P.funcs[ref01_Bits]? = some fn_ref01_Bits := Try.func149
abbrev ref01_up : FuncId := 150
noncomputable abbrev fn_ref01_up : Func := Try.f150
theorem get_ref01_up : P.funcs[ref01_up]? = some fn_ref01_up := Try.func150
abbrev ref01_shifted : FuncId := 151
noncomputable abbrev fn_ref01_shifted : Func := Try.f151
theorem get_ref01_shifted : P.funcs[ref01_shifted]? = some fn_ref01_shifted := Try.func151
abbrev ref01_times : FuncId := 152
noncomputable abbrev fn_ref01_times : Func := Try.f152
theorem get_ref01_times : P.funcs[ref01_times]? = some fn_ref01_times := Try.func152
abbrev ref01_down : FuncId := 153
noncomputable abbrev fn_ref01_down : Func := Try.f153
theorem get_ref01_down : P.funcs[ref01_down]? = some fn_ref01_down := Try.func153
abbrev ty2 : TI := ⟨.int .i64, 1, 8, .int .i64 0⟩
theorem ok2 : TyOK P 2 ty2 := tyOK (by kernel_rfl) (by kernel_rfl) (by kernel_rfl)
abbrev ty3 : TI := ⟨.int .i64, 1, 8, .int .i64 0⟩
theorem ok3 : TyOK P 3 ty3 := tyOK (by kernel_rfl) (by kernel_rfl) (by kernel_rfl)
abbrev ty4 : TI := ⟨.bool, 1, 1, .bool false⟩
theorem ok4 : TyOK P 4 ty4 := tyOK (by kernel_rfl) (by kernel_rfl) (by kernel_rfl)
abbrev ty5 : TI := ⟨.int .u8, 1, 1, .int .u8 0⟩
theorem ok5 : TyOK P 5 ty5 := tyOK (by kernel_rfl) (by kernel_rfl) (by kernel_rfl)
abbrev ty6 : TI := ⟨.int .u8, 1, 1, .int .u8 0⟩
theorem ok6 : TyOK P 6 ty6 := tyOK (by kernel_rfl) (by kernel_rfl) (by kernel_rfl)
abbrev ty7 : TI := ⟨.struct #[{ name := "x", type := 2, offset := 0, embedded := false, tag := "", pkgPath := "runtime", byteOffset := 0 }, { name := "y", type := 3, offset := 1, embedded := false, tag := "", pkgPath := "runtime", byteOffset := 8 }, { name := "signed", type := 4, offset := 2, embedded := false, tag := "", pkgPath := "runtime", byteOffset := 16 }, { name := "code", type := 6, offset := 3, embedded := false, tag := "", pkgPath := "runtime", byteOffset := 17 }], 4, 24, .agg [.int .i64 0, .int .i64 0, .bool false, .int .u8 0]⟩
theorem ok7 : TyOK P 7 ty7 := tyOK (by kernel_rfl) (by kernel_rfl) (by kernel_rfl)
abbrev ty8 : TI := ⟨.struct #[{ name := "x", type := 2, offset := 0, embedded := false, tag := "", pkgPath := "runtime", byteOffset := 0 }, { name := "y", type := 3, offset := 1, embedded := false, tag := "", pkgPath := "runtime", byteOffset := 8 }, { name := "signed", type := 4, offset := 2, embedded := false, tag := "", pkgPath := "runtime", byteOffset := 16 }, { name := "code", type := 6, offset := 3, embedded := false, tag := "", pkgPath := "runtime", byteOffset := 17 }], 4, 24, .agg [.int .i64 0, .int .i64 0, .bool false, .int .u8 0]⟩
theorem ok8 : TyOK P 8 ty8 := tyOK (by kernel_rfl) (by kernel_rfl) (by kernel_rfl)
abbrev ty9 : TI := ⟨.string, 1, 16, .tuple []⟩
theorem ok9 : TyOK P 9 ty9 := tyOK' (by kernel_rfl) (by kernel_rfl) rfl
abbrev ty10 : TI := ⟨.string, 1, 16, .tuple []⟩
theorem ok10 : TyOK P 10 ty10 := tyOK' (by kernel_rfl) (by kernel_rfl) rfl
abbrev ty11 : TI := ⟨.string, 1, 16, .tuple []⟩
theorem ok11 : TyOK P 11 ty11 := tyOK' (by kernel_rfl) (by kernel_rfl) rfl
abbrev ty12 : TI := ⟨.int .u64, 1, 8, .int .u64 0⟩
theorem ok12 : TyOK P 12 ty12 := tyOK (by kernel_rfl) (by kernel_rfl) (by kernel_rfl)
abbrev ty13 : TI := ⟨.struct #[{ name := "msg", type := 9, offset := 0, embedded := false, tag := "", pkgPath := "runtime", byteOffset := 0 }, { name := "addr", type := 12, offset := 1, embedded := false, tag := "", pkgPath := "runtime", byteOffset := 16 }], 2, 24, .tuple []⟩
theorem ok13 : TyOK P 13 ty13 := tyOK' (by kernel_rfl) (by kernel_rfl) rfl
abbrev ty14 : TI := ⟨.struct #[{ name := "msg", type := 9, offset := 0, embedded := false, tag := "", pkgPath := "runtime", byteOffset := 0 }, { name := "addr", type := 12, offset := 1, embedded := false, tag := "", pkgPath := "runtime", byteOffset := 16 }], 2, 24, .tuple []⟩
theorem ok14 : TyOK P 14 ty14 := tyOK' (by kernel_rfl) (by kernel_rfl) rfl
abbrev ty15 : TI := ⟨.pointer 166, 1, 8, .tuple []⟩
theorem ok15 : TyOK P 15 ty15 := tyOK' (by kernel_rfl) (by kernel_rfl) rfl
abbrev ty16 : TI := ⟨.pointer 169, 1, 8, .tuple []⟩
theorem ok16 : TyOK P 16 ty16 := tyOK' (by kernel_rfl) (by kernel_rfl) rfl
abbrev ty17 : TI := ⟨.pointer 178, 1, 8, .tuple []⟩
theorem ok17 : TyOK P 17 ty17 := tyOK' (by kernel_rfl) (by kernel_rfl) rfl
abbrev ty18 : TI := ⟨.struct #[{ name := "typ", type := 17, offset := 0, embedded := false, tag := "", pkgPath := "internal/runtime/maps", byteOffset := 0 }], 1, 8, .tuple []⟩
theorem ok18 : TyOK P 18 ty18 := tyOK' (by kernel_rfl) (by kernel_rfl) rfl
abbrev ty19 : TI := ⟨.struct #[{ name := "typ", type := 17, offset := 0, embedded := false, tag := "", pkgPath := "internal/runtime/maps", byteOffset := 0 }], 1, 8, .tuple []⟩
theorem ok19 : TyOK P 19 ty19 := tyOK' (by kernel_rfl) (by kernel_rfl) rfl
abbrev ty21 : TI := ⟨.int .i32, 1, 4, .int .i32 0⟩
theorem ok21 : TyOK P 21 ty21 := tyOK (by kernel_rfl) (by kernel_rfl) (by kernel_rfl)
abbrev ty22 : TI := ⟨.slice 3, 1, 24, .nil⟩
theorem ok22 : TyOK P 22 ty22 := tyOK (by kernel_rfl) (by kernel_rfl) (by kernel_rfl)
abbrev ty25 : TI := ⟨.slice 33, 1, 24, .nil⟩
theorem ok25 : TyOK P 25 ty25 := tyOK (by kernel_rfl) (by kernel_rfl) (by kernel_rfl)
abbrev ty28 : TI := ⟨.int .i64, 1, 8, .int .i64 0⟩
theorem ok28 : TyOK P 28 ty28 := tyOK (by kernel_rfl) (by kernel_rfl) (by kernel_rfl)
abbrev ty31 : TI := ⟨.slice 106, 1, 24, .nil⟩
theorem ok31 : TyOK P 31 ty31 := tyOK (by kernel_rfl) (by kernel_rfl) (by kernel_rfl)
abbrev ty32 : TI := ⟨.struct #[{ name := "Neg", type := 4, offset := 0, embedded := false, tag := "", pkgPath := "", byteOffset := 0 }, { name := "Num", type := 31, offset := 1, embedded := false, tag := "", pkgPath := "", byteOffset := 8 }, { name := "Den", type := 31, offset := 2, embedded := false, tag := "", pkgPath := "", byteOffset := 32 }], 3, 56, .agg [.bool false, .nil, .nil]⟩
theorem ok32 : TyOK P 32 ty32 := tyOK (by kernel_rfl) (by kernel_rfl) (by kernel_rfl)
abbrev ty33 : TI := ⟨.struct #[{ name := "Neg", type := 4, offset := 0, embedded := false, tag := "", pkgPath := "", byteOffset := 0 }, { name := "Num", type := 31, offset := 1, embedded := false, tag := "", pkgPath := "", byteOffset := 8 }, { name := "Den", type := 31, offset := 2, embedded := false, tag := "", pkgPath := "", byteOffset := 32 }], 3, 56, .rat 0 1⟩
theorem ok33 : TyOK P 33 ty33 := tyOK (by kernel_rfl) (by kernel_rfl) (by kernel_rfl)
abbrev ty44 : TI := ⟨.slice 52, 1, 24, .nil⟩
theorem ok44 : TyOK P 44 ty44 := tyOK (by kernel_rfl) (by kernel_rfl) (by kernel_rfl)
abbrev ty46 : TI := ⟨.pointer 84, 1, 8, .tuple []⟩
theorem ok46 : TyOK P 46 ty46 := tyOK' (by kernel_rfl) (by kernel_rfl) rfl
abbrev ty48 : TI := ⟨.slice 22, 1, 24, .nil⟩
theorem ok48 : TyOK P 48 ty48 := tyOK (by kernel_rfl) (by kernel_rfl) (by kernel_rfl)
abbrev ty50 : TI := ⟨.slice 57, 1, 24, .nil⟩
theorem ok50 : TyOK P 50 ty50 := tyOK (by kernel_rfl) (by kernel_rfl) (by kernel_rfl)
abbrev ty51 : TI := ⟨.struct #[{ name := "A", type := 50, offset := 0, embedded := false, tag := "", pkgPath := "", byteOffset := 0 }, { name := "B", type := 50, offset := 1, embedded := false, tag := "", pkgPath := "", byteOffset := 24 }, { name := "Kind", type := 3, offset := 2, embedded := false, tag := "", pkgPath := "", byteOffset := 48 }, { name := "K", type := 3, offset := 3, embedded := false, tag := "", pkgPath := "", byteOffset := 56 }], 4, 64, .agg [.nil, .nil, .int .i64 0, .int .i64 0]⟩
theorem ok51 : TyOK P 51 ty51 := tyOK (by kernel_rfl) (by kernel_rfl) (by kernel_rfl)
abbrev ty52 : TI := ⟨.struct #[{ name := "A", type := 50, offset := 0, embedded := false, tag := "", pkgPath := "", byteOffset := 0 }, { name := "B", type := 50, offset := 1, embedded := false, tag := "", pkgPath := "", byteOffset := 24 }, { name := "Kind", type := 3, offset := 2, embedded := false, tag := "", pkgPath := "", byteOffset := 48 }, { name := "K", type := 3, offset := 3, embedded := false, tag := "", pkgPath := "", byteOffset := 56 }], 4, 64, .agg [.nil, .nil, .int .i64 0, .int .i64 0]⟩
theorem ok52 : TyOK P 52 ty52 := tyOK (by kernel_rfl) (by kernel_rfl) (by kernel_rfl)
abbrev ty56 : TI := ⟨.struct #[{ name := "Lo", type := 33, offset := 0, embedded := false, tag := "", pkgPath := "", byteOffset := 0 }, { name := "Hi", type := 33, offset := 3, embedded := false, tag := "", pkgPath := "", byteOffset := 56 }], 6, 112, .agg [.rat 0 1, .rat 0 1]⟩
theorem ok56 : TyOK P 56 ty56 := tyOK (by kernel_rfl) (by kernel_rfl) (by kernel_rfl)
abbrev ty57 : TI := ⟨.struct #[{ name := "Lo", type := 33, offset := 0, embedded := false, tag := "", pkgPath := "", byteOffset := 0 }, { name := "Hi", type := 33, offset := 3, embedded := false, tag := "", pkgPath := "", byteOffset := 56 }], 6, 112, .agg [.rat 0 1, .rat 0 1]⟩
theorem ok57 : TyOK P 57 ty57 := tyOK (by kernel_rfl) (by kernel_rfl) (by kernel_rfl)
abbrev ty83 : TI := ⟨.struct #[{ name := "L", type := 22, offset := 0, embedded := false, tag := "", pkgPath := "", byteOffset := 0 }, { name := "At", type := 3, offset := 1, embedded := false, tag := "", pkgPath := "", byteOffset := 24 }], 2, 32, .agg [.nil, .int .i64 0]⟩
theorem ok83 : TyOK P 83 ty83 := tyOK (by kernel_rfl) (by kernel_rfl) (by kernel_rfl)
abbrev ty84 : TI := ⟨.struct #[{ name := "L", type := 22, offset := 0, embedded := false, tag := "", pkgPath := "", byteOffset := 0 }, { name := "At", type := 3, offset := 1, embedded := false, tag := "", pkgPath := "", byteOffset := 24 }], 2, 32, .agg [.nil, .int .i64 0]⟩
theorem ok84 : TyOK P 84 ty84 := tyOK (by kernel_rfl) (by kernel_rfl) (by kernel_rfl)
abbrev ty85 : TI := ⟨.slice 4, 1, 24, .nil⟩
theorem ok85 : TyOK P 85 ty85 := tyOK (by kernel_rfl) (by kernel_rfl) (by kernel_rfl)
abbrev ty102 : TI := ⟨.int .u64, 1, 8, .int .u64 0⟩
theorem ok102 : TyOK P 102 ty102 := tyOK (by kernel_rfl) (by kernel_rfl) (by kernel_rfl)
abbrev ty106 : TI := ⟨.int .u32, 1, 4, .int .u32 0⟩
theorem ok106 : TyOK P 106 ty106 := tyOK (by kernel_rfl) (by kernel_rfl) (by kernel_rfl)
abbrev ty119 : TI := ⟨.int .u64, 1, 8, .int .u64 0⟩
theorem ok119 : TyOK P 119 ty119 := tyOK (by kernel_rfl) (by kernel_rfl) (by kernel_rfl)
abbrev ty125 : TI := ⟨.slice 5, 1, 24, .nil⟩
theorem ok125 : TyOK P 125 ty125 := tyOK (by kernel_rfl) (by kernel_rfl) (by kernel_rfl)
abbrev ty138 : TI := ⟨.int .i64, 1, 8, .int .i64 0⟩
theorem ok138 : TyOK P 138 ty138 := tyOK (by kernel_rfl) (by kernel_rfl) (by kernel_rfl)
abbrev ty148 : TI := ⟨.slice 50, 1, 24, .nil⟩
theorem ok148 : TyOK P 148 ty148 := tyOK (by kernel_rfl) (by kernel_rfl) (by kernel_rfl)
abbrev ty154 : TI := ⟨.int .u64, 1, 8, .int .u64 0⟩
theorem ok154 : TyOK P 154 ty154 := tyOK (by kernel_rfl) (by kernel_rfl) (by kernel_rfl)
abbrev ty158 : TI := ⟨.pointer 3, 1, 8, .tuple []⟩
theorem ok158 : TyOK P 158 ty158 := tyOK' (by kernel_rfl) (by kernel_rfl) rfl
abbrev ty161 : TI := ⟨.pointer 154, 1, 8, .tuple []⟩
theorem ok161 : TyOK P 161 ty161 := tyOK' (by kernel_rfl) (by kernel_rfl) rfl
abbrev ty165 : TI := ⟨.struct #[{ name := "_interface", type := 17, offset := 0, embedded := false, tag := "", pkgPath := "runtime", byteOffset := 0 }, { name := "concrete", type := 17, offset := 1, embedded := false, tag := "", pkgPath := "runtime", byteOffset := 8 }, { name := "asserted", type := 17, offset := 2, embedded := false, tag := "", pkgPath := "runtime", byteOffset := 16 }, { name := "missingMethod", type := 9, offset := 3, embedded := false, tag := "", pkgPath := "runtime", byteOffset := 24 }], 4, 40, .tuple []⟩
theorem ok165 : TyOK P 165 ty165 := tyOK' (by kernel_rfl) (by kernel_rfl) rfl
abbrev ty166 : TI := ⟨.struct #[{ name := "_interface", type := 17, offset := 0, embedded := false, tag := "", pkgPath := "runtime", byteOffset := 0 }, { name := "concrete", type := 17, offset := 1, embedded := false, tag := "", pkgPath := "runtime", byteOffset := 8 }, { name := "asserted", type := 17, offset := 2, embedded := false, tag := "", pkgPath := "runtime", byteOffset := 16 }, { name := "missingMethod", type := 9, offset := 3, embedded := false, tag := "", pkgPath := "runtime", byteOffset := 24 }], 4, 40, .tuple []⟩
theorem ok166 : TyOK P 166 ty166 := tyOK' (by kernel_rfl) (by kernel_rfl) rfl
abbrev ty171 : TI := ⟨.int .u8, 1, 1, .int .u8 0⟩
theorem ok171 : TyOK P 171 ty171 := tyOK (by kernel_rfl) (by kernel_rfl) (by kernel_rfl)
abbrev ty172 : TI := ⟨.int .u8, 1, 1, .int .u8 0⟩
theorem ok172 : TyOK P 172 ty172 := tyOK (by kernel_rfl) (by kernel_rfl) (by kernel_rfl)
abbrev ty174 : TI := ⟨.pointer 5, 1, 8, .tuple []⟩
theorem ok174 : TyOK P 174 ty174 := tyOK' (by kernel_rfl) (by kernel_rfl) rfl
abbrev ty175 : TI := ⟨.int .i32, 1, 4, .int .i32 0⟩
theorem ok175 : TyOK P 175 ty175 := tyOK (by kernel_rfl) (by kernel_rfl) (by kernel_rfl)
abbrev ty176 : TI := ⟨.int .i32, 1, 4, .int .i32 0⟩
theorem ok176 : TyOK P 176 ty176 := tyOK (by kernel_rfl) (by kernel_rfl) (by kernel_rfl)
abbrev ty177 : TI := ⟨.struct #[{ name := "Size_", type := 12, offset := 0, embedded := false, tag := "", pkgPath := "", byteOffset := 0 }, { name := "PtrBytes", type := 12, offset := 1, embedded := false, tag := "", pkgPath := "", byteOffset := 8 }, { name := "Hash", type := 106, offset := 2, embedded := false, tag := "", pkgPath := "", byteOffset := 16 }, { name := "TFlag", type := 171, offset := 3, embedded := false, tag := "", pkgPath := "", byteOffset := 20 }, { name := "Align_", type := 5, offset := 4, embedded := false, tag := "", pkgPath := "", byteOffset := 21 }, { name := "FieldAlign_", type := 5, offset := 5, embedded := false, tag := "", pkgPath := "", byteOffset := 22 }, { name := "Kind_", type := 172, offset := 6, embedded := false, tag := "", pkgPath := "", byteOffset := 23 }, { name := "Equal", type := 173, offset := 7, embedded := false, tag := "", pkgPath := "", byteOffset := 24 }, { name := "GCData", type := 174, offset := 8, embedded := false, tag := "", pkgPath := "", byteOffset := 32 }, { name := "Str", type := 175, offset := 9, embedded := false, tag := "", pkgPath := "", byteOffset := 40 }, { name := "PtrToThis", type := 176, offset := 10, embedded := false, tag := "", pkgPath := "", byteOffset := 44 }], 11, 48, .tuple []⟩
theorem ok177 : TyOK P 177 ty177 := tyOK' (by kernel_rfl) (by kernel_rfl) rfl
abbrev ty178 : TI := ⟨.struct #[{ name := "Size_", type := 12, offset := 0, embedded := false, tag := "", pkgPath := "", byteOffset := 0 }, { name := "PtrBytes", type := 12, offset := 1, embedded := false, tag := "", pkgPath := "", byteOffset := 8 }, { name := "Hash", type := 106, offset := 2, embedded := false, tag := "", pkgPath := "", byteOffset := 16 }, { name := "TFlag", type := 171, offset := 3, embedded := false, tag := "", pkgPath := "", byteOffset := 20 }, { name := "Align_", type := 5, offset := 4, embedded := false, tag := "", pkgPath := "", byteOffset := 21 }, { name := "FieldAlign_", type := 5, offset := 5, embedded := false, tag := "", pkgPath := "", byteOffset := 22 }, { name := "Kind_", type := 172, offset := 6, embedded := false, tag := "", pkgPath := "", byteOffset := 23 }, { name := "Equal", type := 173, offset := 7, embedded := false, tag := "", pkgPath := "", byteOffset := 24 }, { name := "GCData", type := 174, offset := 8, embedded := false, tag := "", pkgPath := "", byteOffset := 32 }, { name := "Str", type := 175, offset := 9, embedded := false, tag := "", pkgPath := "", byteOffset := 40 }, { name := "PtrToThis", type := 176, offset := 10, embedded := false, tag := "", pkgPath := "", byteOffset := 44 }], 11, 48, .tuple []⟩
theorem ok178 : TyOK P 178 ty178 := tyOK' (by kernel_rfl) (by kernel_rfl) rfl
abbrev T : Types := [(2, ty2), (3, ty3), (4, ty4), (5, ty5), (6, ty6), (7, ty7), (8, ty8), (9, ty9), (10, ty10), (11, ty11), (12, ty12), (13, ty13), (14, ty14), (15, ty15), (16, ty16), (17, ty17), (18, ty18), (19, ty19), (21, ty21), (22, ty22), (25, ty25), (28, ty28), (31, ty31), (32, ty32), (33, ty33), (44, ty44), (46, ty46), (48, ty48), (50, ty50), (51, ty51), (52, ty52), (56, ty56), (57, ty57), (83, ty83), (84, ty84), (85, ty85), (102, ty102), (106, ty106), (119, ty119), (125, ty125), (138, ty138), (148, ty148), (154, ty154), (158, ty158), (161, ty161), (165, ty165), (166, ty166), (171, ty171), (172, ty172), (174, ty174), (175, ty175), (176, ty176), (177, ty177), (178, ty178)]
theorem hT : TOK P T := tok_cons ok2 (tok_cons ok3 (tok_cons ok4 (tok_cons ok5 (tok_cons ok6 (tok_cons ok7 (tok_cons ok8 (tok_cons ok9 (tok_cons ok10 (tok_cons ok11 (tok_cons ok12 (tok_cons ok13 (tok_cons ok14 (tok_cons ok15 (tok_cons ok16 (tok_cons ok17 (tok_cons ok18 (tok_cons ok19 (tok_cons ok21 (tok_cons ok22 (tok_cons ok25 (tok_cons ok28 (tok_cons ok31 (tok_cons ok32 (tok_cons ok33 (tok_cons ok44 (tok_cons ok46 (tok_cons ok48 (tok_cons ok50 (tok_cons ok51 (tok_cons ok52 (tok_cons ok56 (tok_cons ok57 (tok_cons ok83 (tok_cons ok84 (tok_cons ok85 (tok_cons ok102 (tok_cons ok106 (tok_cons ok119 (tok_cons ok125 (tok_cons ok138 (tok_cons ok148 (tok_cons ok154 (tok_cons ok158 (tok_cons ok161 (tok_cons ok165 (tok_cons ok166 (tok_cons ok171 (tok_cons ok172 (tok_cons ok174 (tok_cons ok175 (tok_cons ok176 (tok_cons ok177 (tok_cons ok178 (tok_nil))))))))))))))))))))))))))))))))))))))))))))))))))))))
end Go.Am.N
