/- The seat's names: the numbers of functions, the types. Written by a program. -/
import Derived.Test.YtnocdkaonpdmjaaZ2
import Derived.Test.YtnocdkaonpdmjaaProg
import Derived.KernelRfl
set_option linter.unusedVariables false
namespace Go.Am.N
open Go.Proofs
noncomputable abbrev P : Program := Try.prog
theorem hm : P.follows .mixedOrders = true := by kernel_rfl
abbrev law08_KnotsStay : FuncId := 5
noncomputable abbrev fn_law08_KnotsStay : Func := Try.f5
theorem get_law08_KnotsStay : P.funcs[law08_KnotsStay]? = some fn_law08_KnotsStay := Try.func5
abbrev made_Light : FuncId := 6
noncomputable abbrev fn_made_Light : Func := Try.f6
theorem get_made_Light : P.funcs[made_Light]? = some fn_made_Light := Try.func6
abbrev law08_awake : FuncId := 7
noncomputable abbrev fn_law08_awake : Func := Try.f7
theorem get_law08_awake : P.funcs[law08_awake]? = some fn_law08_awake := Try.func7
abbrev law08_made : FuncId := 8
noncomputable abbrev fn_law08_made : Func := Try.f8
theorem get_law08_made : P.funcs[law08_made]? = some fn_law08_made := Try.func8
abbrev knots_Affine : FuncId := 9
noncomputable abbrev fn_knots_Affine : Func := Try.f9
theorem get_knots_Affine : P.funcs[knots_Affine]? = some fn_knots_Affine := Try.func9
abbrev ref02_SameList : FuncId := 12
noncomputable abbrev fn_ref02_SameList : Func := Try.f12
theorem get_ref02_SameList : P.funcs[ref02_SameList]? = some fn_ref02_SameList := Try.func12
abbrev knots_Greville : FuncId := 13
noncomputable abbrev fn_knots_Greville : Func := Try.f13
theorem get_knots_Greville : P.funcs[knots_Greville]? = some fn_knots_Greville := Try.func13
abbrev knots_Mirror : FuncId := 15
noncomputable abbrev fn_knots_Mirror : Func := Try.f15
theorem get_knots_Mirror : P.funcs[knots_Mirror]? = some fn_knots_Mirror := Try.func15
abbrev made_Mod : FuncId := 17
noncomputable abbrev fn_made_Mod : Func := Try.f17
theorem get_made_Mod : P.funcs[made_Mod]? = some fn_made_Mod := Try.func17
abbrev knots_Interval : FuncId := 18
noncomputable abbrev fn_knots_Interval : Func := Try.f18
theorem get_knots_Interval : P.funcs[knots_Interval]? = some fn_knots_Interval := Try.func18
abbrev knots_Times : FuncId := 20
noncomputable abbrev fn_knots_Times : Func := Try.f20
theorem get_knots_Times : P.funcs[knots_Times]? = some fn_knots_Times := Try.func20
abbrev knots_Distinct : FuncId := 22
noncomputable abbrev fn_knots_Distinct : Func := Try.f22
theorem get_knots_Distinct : P.funcs[knots_Distinct]? = some fn_knots_Distinct := Try.func22
abbrev knots_Insert : FuncId := 24
noncomputable abbrev fn_knots_Insert : Func := Try.f24
theorem get_knots_Insert : P.funcs[knots_Insert]? = some fn_knots_Insert := Try.func24
abbrev ref02_Int : FuncId := 26
noncomputable abbrev fn_ref02_Int : Func := Try.f26
theorem get_ref02_Int : P.funcs[ref02_Int]? = some fn_ref02_Int := Try.func26
abbrev made_Within : FuncId := 27
noncomputable abbrev fn_made_Within : Func := Try.f27
theorem get_made_Within : P.funcs[made_Within]? = some fn_made_Within := Try.func27
abbrev ref02_Cmp : FuncId := 28
noncomputable abbrev fn_ref02_Cmp : Func := Try.f28
theorem get_ref02_Cmp : P.funcs[ref02_Cmp]? = some fn_ref02_Cmp := Try.func28
abbrev knots_Check : FuncId := 29
noncomputable abbrev fn_knots_Check : Func := Try.f29
theorem get_knots_Check : P.funcs[knots_Check]? = some fn_knots_Check := Try.func29
abbrev ref02_Same : FuncId := 30
noncomputable abbrev fn_ref02_Same : Func := Try.f30
theorem get_ref02_Same : P.funcs[ref02_Same]? = some fn_ref02_Same := Try.func30
abbrev knots_Poles : FuncId := 31
noncomputable abbrev fn_knots_Poles : Func := Try.f31
theorem get_knots_Poles : P.funcs[knots_Poles]? = some fn_knots_Poles := Try.func31
abbrev ref02_Text : FuncId := 32
noncomputable abbrev fn_ref02_Text : Func := Try.f32
theorem get_ref02_Text : P.funcs[ref02_Text]? = some fn_ref02_Text := Try.func32
abbrev made_Roll : FuncId := 33
noncomputable abbrev fn_made_Roll : Func := Try.f33
theorem get_made_Roll : P.funcs[made_Roll]? = some fn_made_Roll := Try.func33
abbrev made_Dice_Next : FuncId := 34
noncomputable abbrev fn_made_Dice_Next : Func := Try.f34
theorem get_made_Dice_Next : P.funcs[made_Dice_Next]? = some fn_made_Dice_Next := Try.func34
abbrev made_Dice_Knots : FuncId := 35
noncomputable abbrev fn_made_Dice_Knots : Func := Try.f35
theorem get_made_Dice_Knots : P.funcs[made_Dice_Knots]? = some fn_made_Dice_Knots := Try.func35
abbrev rational_Cmp : FuncId := 36
noncomputable abbrev fn_rational_Cmp : Func := Try.f36
theorem get_rational_Cmp : P.funcs[rational_Cmp]? = some fn_rational_Cmp := Try.func36
abbrev rational_Quo : FuncId := 37
noncomputable abbrev fn_rational_Quo : Func := Try.f37
theorem get_rational_Quo : P.funcs[rational_Quo]? = some fn_rational_Quo := Try.func37
abbrev rational_Sub : FuncId := 38
noncomputable abbrev fn_rational_Sub : Func := Try.f38
theorem get_rational_Sub : P.funcs[rational_Sub]? = some fn_rational_Sub := Try.func38
abbrev rational_Add : FuncId := 39
noncomputable abbrev fn_rational_Add : Func := Try.f39
theorem get_rational_Add : P.funcs[rational_Add]? = some fn_rational_Add := Try.func39
abbrev rational_Mul : FuncId := 40
noncomputable abbrev fn_rational_Mul : Func := Try.f40
theorem get_rational_Mul : P.funcs[rational_Mul]? = some fn_rational_Mul := Try.func40
abbrev ref02_Frac : FuncId := 41
noncomputable abbrev fn_ref02_Frac : Func := Try.f41
theorem get_ref02_Frac : P.funcs[ref02_Frac]? = some fn_ref02_Frac := Try.func41
abbrev ref02_Sub : FuncId := 43
noncomputable abbrev fn_ref02_Sub : Func := Try.f43
theorem get_ref02_Sub : P.funcs[ref02_Sub]? = some fn_ref02_Sub := Try.func43
abbrev ref02_Add : FuncId := 44
noncomputable abbrev fn_ref02_Add : Func := Try.f44
theorem get_ref02_Add : P.funcs[ref02_Add]? = some fn_ref02_Add := Try.func44
abbrev ref02_Mul : FuncId := 45
noncomputable abbrev fn_ref02_Mul : Func := Try.f45
theorem get_ref02_Mul : P.funcs[ref02_Mul]? = some fn_ref02_Mul := Try.func45
abbrev rational_Make : FuncId := 46
noncomputable abbrev fn_rational_Make : Func := Try.f46
theorem get_rational_Make : P.funcs[rational_Make]? = some fn_rational_Make := Try.func46
abbrev slices_Backward_api_Rat_api_Rat : FuncId := 48
noncomputable abbrev fn_slices_Backward_api_Rat_api_Rat : Func := Try.f48
theorem get_slices_Backward_api_Rat_api_Rat : P.funcs[slices_Backward_api_Rat_api_Rat]? = some fn_slices_Backward_api_Rat_api_Rat := Try.func48
abbrev rational_Same : FuncId := 49
noncomputable abbrev fn_rational_Same : Func := Try.f49
theorem get_rational_Same : P.funcs[rational_Same]? = some fn_rational_Same := Try.func49
abbrev slices_CompactFunc_api_Rat_api_Rat : FuncId := 50
noncomputable abbrev fn_slices_CompactFunc_api_Rat_api_Rat : Func := Try.f50
theorem get_slices_CompactFunc_api_Rat_api_Rat : P.funcs[slices_CompactFunc_api_Rat_api_Rat]? = some fn_slices_CompactFunc_api_Rat_api_Rat := Try.func50
abbrev knots_copied : FuncId := 51
noncomputable abbrev fn_knots_copied : Func := Try.f51
theorem get_knots_copied : P.funcs[knots_copied]? = some fn_knots_copied := Try.func51
abbrev slices_Insert_api_Rat_api_Rat : FuncId := 52
noncomputable abbrev fn_slices_Insert_api_Rat_api_Rat : Func := Try.f52
theorem get_slices_Insert_api_Rat_api_Rat : P.funcs[slices_Insert_api_Rat_api_Rat]? = some fn_slices_Insert_api_Rat_api_Rat := Try.func52
abbrev ref02_size : FuncId := 53
noncomputable abbrev fn_ref02_size : Func := Try.f53
theorem get_ref02_size : P.funcs[ref02_size]? = some fn_ref02_size := Try.func53
abbrev made_Part : FuncId := 54
noncomputable abbrev fn_made_Part : Func := Try.f54
theorem get_made_Part : P.funcs[made_Part]? = some fn_made_Part := Try.func54
abbrev ref02_Sign : FuncId := 55
noncomputable abbrev fn_ref02_Sign : Func := Try.f55
theorem get_ref02_Sign : P.funcs[ref02_Sign]? = some fn_ref02_Sign := Try.func55
abbrev ref01_Cmp : FuncId := 56
noncomputable abbrev fn_ref01_Cmp : Func := Try.f56
theorem get_ref01_Cmp : P.funcs[ref01_Cmp]? = some fn_ref01_Cmp := Try.func56
abbrev ref01_Mul : FuncId := 57
noncomputable abbrev fn_ref01_Mul : Func := Try.f57
theorem get_ref01_Mul : P.funcs[ref01_Mul]? = some fn_ref01_Mul := Try.func57
abbrev ref02_Den : FuncId := 58
noncomputable abbrev fn_ref02_Den : Func := Try.f58
theorem get_ref02_Den : P.funcs[ref02_Den]? = some fn_ref02_Den := Try.func58
abbrev slices_IsSortedFunc_api_Rat_api_Rat : FuncId := 59
noncomputable abbrev fn_slices_IsSortedFunc_api_Rat_api_Rat : Func := Try.f59
theorem get_slices_IsSortedFunc_api_Rat_api_Rat : P.funcs[slices_IsSortedFunc_api_Rat_api_Rat]? = some fn_slices_IsSortedFunc_api_Rat_api_Rat := Try.func59
abbrev ref01_Text : FuncId := 60
noncomputable abbrev fn_ref01_Text : Func := Try.f60
theorem get_ref01_Text : P.funcs[ref01_Text]? = some fn_ref01_Text := Try.func60
abbrev rational_Sign : FuncId := 61
noncomputable abbrev fn_rational_Sign : Func := Try.f61
theorem get_rational_Sign : P.funcs[rational_Sign]? = some fn_rational_Sign := Try.func61
abbrev rational_parts : FuncId := 62
noncomputable abbrev fn_rational_parts : Func := Try.f62
theorem get_rational_parts : P.funcs[rational_parts]? = some fn_rational_parts := Try.func62
abbrev slices_Equal_uint32_uint32 : FuncId := 63
noncomputable abbrev fn_slices_Equal_uint32_uint32 : Func := Try.f63
theorem get_slices_Equal_uint32_uint32 : P.funcs[slices_Equal_uint32_uint32]? = some fn_slices_Equal_uint32_uint32 := Try.func63
abbrev natural_Cmp : FuncId := 64
noncomputable abbrev fn_natural_Cmp : Func := Try.f64
theorem get_natural_Cmp : P.funcs[natural_Cmp]? = some fn_natural_Cmp := Try.func64
abbrev natural_Mul : FuncId := 65
noncomputable abbrev fn_natural_Mul : Func := Try.f65
theorem get_natural_Mul : P.funcs[natural_Mul]? = some fn_natural_Mul := Try.func65
abbrev rational_den : FuncId := 66
noncomputable abbrev fn_rational_den : Func := Try.f66
theorem get_rational_den : P.funcs[rational_den]? = some fn_rational_den := Try.func66
abbrev rational_short : FuncId := 67
noncomputable abbrev fn_rational_short : Func := Try.f67
theorem get_rational_short : P.funcs[rational_short]? = some fn_rational_short := Try.func67
abbrev rational_reduce : FuncId := 68
noncomputable abbrev fn_rational_reduce : Func := Try.f68
theorem get_rational_reduce : P.funcs[rational_reduce]? = some fn_rational_reduce := Try.func68
abbrev rational_add : FuncId := 69
noncomputable abbrev fn_rational_add : Func := Try.f69
theorem get_rational_add : P.funcs[rational_add]? = some fn_rational_add := Try.func69
abbrev ref02_Make : FuncId := 70
noncomputable abbrev fn_ref02_Make : Func := Try.f70
theorem get_ref02_Make : P.funcs[ref02_Make]? = some fn_ref02_Make := Try.func70
abbrev ref02_Neg : FuncId := 72
noncomputable abbrev fn_ref02_Neg : Func := Try.f72
theorem get_ref02_Neg : P.funcs[ref02_Neg]? = some fn_ref02_Neg := Try.func72
abbrev ref02_reduce : FuncId := 73
noncomputable abbrev fn_ref02_reduce : Func := Try.f73
theorem get_ref02_reduce : P.funcs[ref02_reduce]? = some fn_ref02_reduce := Try.func73
abbrev ref01_Add : FuncId := 74
noncomputable abbrev fn_ref01_Add : Func := Try.f74
theorem get_ref01_Add : P.funcs[ref01_Add]? = some fn_ref01_Add := Try.func74
abbrev ref01_Sub : FuncId := 75
noncomputable abbrev fn_ref01_Sub : Func := Try.f75
theorem get_ref01_Sub : P.funcs[ref01_Sub]? = some fn_ref01_Sub := Try.func75
abbrev rational_size : FuncId := 76
noncomputable abbrev fn_rational_size : Func := Try.f76
theorem get_rational_size : P.funcs[rational_size]? = some fn_rational_size := Try.func76
abbrev slices_Backward_api_Rat_api_Rat_1 : FuncId := 77
noncomputable abbrev fn_slices_Backward_api_Rat_api_Rat_1 : Func := Try.f77
theorem get_slices_Backward_api_Rat_api_Rat_1 : P.funcs[slices_Backward_api_Rat_api_Rat_1]? = some fn_slices_Backward_api_Rat_api_Rat_1 := Try.func77
abbrev ref01_Of : FuncId := 80
noncomputable abbrev fn_ref01_Of : Func := Try.f80
theorem get_ref01_Of : P.funcs[ref01_Of]? = some fn_ref01_Of := Try.func80
abbrev ref01_Trim : FuncId := 81
noncomputable abbrev fn_ref01_Trim : Func := Try.f81
theorem get_ref01_Trim : P.funcs[ref01_Trim]? = some fn_ref01_Trim := Try.func81
abbrev ref01_byLimb : FuncId := 82
noncomputable abbrev fn_ref01_byLimb : Func := Try.f82
theorem get_ref01_byLimb : P.funcs[ref01_byLimb]? = some fn_ref01_byLimb := Try.func82
abbrev natural_Bits : FuncId := 83
noncomputable abbrev fn_natural_Bits : Func := Try.f83
theorem get_natural_Bits : P.funcs[natural_Bits]? = some fn_natural_Bits := Try.func83
abbrev rational_word : FuncId := 84
noncomputable abbrev fn_rational_word : Func := Try.f84
theorem get_rational_word : P.funcs[rational_word]? = some fn_rational_word := Try.func84
abbrev natural_trim : FuncId := 85
noncomputable abbrev fn_natural_trim : Func := Try.f85
theorem get_natural_trim : P.funcs[natural_trim]? = some fn_natural_trim := Try.func85
abbrev rational_one : FuncId := 86
noncomputable abbrev fn_rational_one : Func := Try.f86
theorem get_rational_one : P.funcs[rational_one]? = some fn_rational_one := Try.func86
abbrev rational_divisor : FuncId := 87
noncomputable abbrev fn_rational_divisor : Func := Try.f87
theorem get_rational_divisor : P.funcs[rational_divisor]? = some fn_rational_divisor := Try.func87
abbrev rational_limbs : FuncId := 88
noncomputable abbrev fn_rational_limbs : Func := Try.f88
theorem get_rational_limbs : P.funcs[rational_limbs]? = some fn_rational_limbs := Try.func88
abbrev natural_Gcd : FuncId := 89
noncomputable abbrev fn_natural_Gcd : Func := Try.f89
theorem get_natural_Gcd : P.funcs[natural_Gcd]? = some fn_natural_Gcd := Try.func89
abbrev natural_Div : FuncId := 90
noncomputable abbrev fn_natural_Div : Func := Try.f90
theorem get_natural_Div : P.funcs[natural_Div]? = some fn_natural_Div := Try.func90
abbrev natural_Add : FuncId := 91
noncomputable abbrev fn_natural_Add : Func := Try.f91
theorem get_natural_Add : P.funcs[natural_Add]? = some fn_natural_Add := Try.func91
abbrev math_bits_Add64 : FuncId := 92
noncomputable abbrev fn_math_bits_Add64 : Func := Try.f92
theorem get_math_bits_Add64 : P.funcs[math_bits_Add64]? = some fn_math_bits_Add64 := Try.func92
abbrev natural_Sub : FuncId := 93
noncomputable abbrev fn_natural_Sub : Func := Try.f93
theorem get_natural_Sub : P.funcs[natural_Sub]? = some fn_natural_Sub := Try.func93
abbrev ref01_Gcd : FuncId := 94
noncomputable abbrev fn_ref01_Gcd : Func := Try.f94
theorem get_ref01_Gcd : P.funcs[ref01_Gcd]? = some fn_ref01_Gcd := Try.func94
abbrev ref01_Div : FuncId := 95
noncomputable abbrev fn_ref01_Div : Func := Try.f95
theorem get_ref01_Div : P.funcs[ref01_Div]? = some fn_ref01_Div := Try.func95
abbrev ref01_minus : FuncId := 96
noncomputable abbrev fn_ref01_minus : Func := Try.f96
theorem get_ref01_minus : P.funcs[ref01_minus]? = some fn_ref01_minus := Try.func96
abbrev natural_Of : FuncId := 97
noncomputable abbrev fn_natural_Of : Func := Try.f97
theorem get_natural_Of : P.funcs[natural_Of]? = some fn_natural_Of := Try.func97
abbrev math_bits_Len32 : FuncId := 99
noncomputable abbrev fn_math_bits_Len32 : Func := Try.f99
theorem get_math_bits_Len32 : P.funcs[math_bits_Len32]? = some fn_math_bits_Len32 := Try.func99
abbrev slices_Clone_uint32_uint32 : FuncId := 100
noncomputable abbrev fn_slices_Clone_uint32_uint32 : Func := Try.f100
theorem get_slices_Clone_uint32_uint32 : P.funcs[slices_Clone_uint32_uint32]? = some fn_slices_Clone_uint32_uint32 := Try.func100
abbrev natural_word : FuncId := 101
noncomputable abbrev fn_natural_word : Func := Try.f101
theorem get_natural_word : P.funcs[natural_word]? = some fn_natural_word := Try.func101
abbrev natural_small : FuncId := 102
noncomputable abbrev fn_natural_small : Func := Try.f102
theorem get_natural_small : P.funcs[natural_small]? = some fn_natural_small := Try.func102
abbrev math_bits_LeadingZeros32 : FuncId := 103
noncomputable abbrev fn_math_bits_LeadingZeros32 : Func := Try.f103
theorem get_math_bits_LeadingZeros32 : P.funcs[math_bits_LeadingZeros32]? = some fn_math_bits_LeadingZeros32 := Try.func103
abbrev natural_raise : FuncId := 104
noncomputable abbrev fn_natural_raise : Func := Try.f104
theorem get_natural_raise : P.funcs[natural_raise]? = some fn_natural_raise := Try.func104
abbrev ref01_small : FuncId := 105
noncomputable abbrev fn_ref01_small : Func := Try.f105
theorem get_ref01_small : P.funcs[ref01_small]? = some fn_ref01_small := Try.func105
abbrev ref01_Bits : FuncId := 106
noncomputable abbrev fn_ref01_Bits : Func := Try.f106
theorem get_ref01_Bits : P.funcs[ref01_Bits]? = some fn_ref01_Bits := Try.func106
abbrev ref01_up : FuncId := 107
noncomputable abbrev fn_ref01_up : Func := Try.f107
theorem get_ref01_up : P.funcs[ref01_up]? = some fn_ref01_up := Try.func107
abbrev ref01_shifted : FuncId := 108
noncomputable abbrev fn_ref01_shifted : Func := Try.f108
theorem get_ref01_shifted : P.funcs[ref01_shifted]? = some fn_ref01_shifted := Try.func108
abbrev ref01_times : FuncId := 109
noncomputable abbrev fn_ref01_times : Func := Try.f109
theorem get_ref01_times : P.funcs[ref01_times]? = some fn_ref01_times := Try.func109
abbrev ref01_down : FuncId := 110
noncomputable abbrev fn_ref01_down : Func := Try.f110
theorem get_ref01_down : P.funcs[ref01_down]? = some fn_ref01_down := Try.func110
abbrev ty2 : TI := ⟨.int .i64, 1, 8, .int .i64 0⟩
theorem ok2 : TyOK P 2 ty2 := tyOK (by kernel_rfl) (by kernel_rfl) (by kernel_rfl)
abbrev ty3 : TI := ⟨.int .i64, 1, 8, .int .i64 0⟩
theorem ok3 : TyOK P 3 ty3 := tyOK (by kernel_rfl) (by kernel_rfl) (by kernel_rfl)
abbrev ty4 : TI := ⟨.bool, 1, 1, .bool false⟩
theorem ok4 : TyOK P 4 ty4 := tyOK (by kernel_rfl) (by kernel_rfl) (by kernel_rfl)
abbrev ty5 : TI := ⟨.int .u8, 1, 1, .int .u8 0⟩
theorem ok5 : TyOK P 5 ty5 := tyOK (by kernel_rfl) (by kernel_rfl) (by kernel_rfl)
abbrev ty6 : TI := ⟨.int .u8, 1, 1, .int .u8 0⟩
theorem ok6 : TyOK P 6 ty6 := tyOK (by kernel_rfl) (by kernel_rfl) (by kernel_rfl)
abbrev ty7 : TI := ⟨.struct #[{ name := "x", type := 2, offset := 0, embedded := false, tag := "", pkgPath := "runtime", byteOffset := 0 }, { name := "y", type := 3, offset := 1, embedded := false, tag := "", pkgPath := "runtime", byteOffset := 8 }, { name := "signed", type := 4, offset := 2, embedded := false, tag := "", pkgPath := "runtime", byteOffset := 16 }, { name := "code", type := 6, offset := 3, embedded := false, tag := "", pkgPath := "runtime", byteOffset := 17 }], 4, 24, .agg [.int .i64 0, .int .i64 0, .bool false, .int .u8 0]⟩
theorem ok7 : TyOK P 7 ty7 := tyOK (by kernel_rfl) (by kernel_rfl) (by kernel_rfl)
abbrev ty8 : TI := ⟨.struct #[{ name := "x", type := 2, offset := 0, embedded := false, tag := "", pkgPath := "runtime", byteOffset := 0 }, { name := "y", type := 3, offset := 1, embedded := false, tag := "", pkgPath := "runtime", byteOffset := 8 }, { name := "signed", type := 4, offset := 2, embedded := false, tag := "", pkgPath := "runtime", byteOffset := 16 }, { name := "code", type := 6, offset := 3, embedded := false, tag := "", pkgPath := "runtime", byteOffset := 17 }], 4, 24, .agg [.int .i64 0, .int .i64 0, .bool false, .int .u8 0]⟩
theorem ok8 : TyOK P 8 ty8 := tyOK (by kernel_rfl) (by kernel_rfl) (by kernel_rfl)
abbrev ty9 : TI := ⟨.string, 1, 16, .tuple []⟩
theorem ok9 : TyOK P 9 ty9 := tyOK' (by kernel_rfl) (by kernel_rfl) rfl
abbrev ty10 : TI := ⟨.string, 1, 16, .tuple []⟩
theorem ok10 : TyOK P 10 ty10 := tyOK' (by kernel_rfl) (by kernel_rfl) rfl
abbrev ty11 : TI := ⟨.string, 1, 16, .tuple []⟩
theorem ok11 : TyOK P 11 ty11 := tyOK' (by kernel_rfl) (by kernel_rfl) rfl
abbrev ty12 : TI := ⟨.int .u64, 1, 8, .int .u64 0⟩
theorem ok12 : TyOK P 12 ty12 := tyOK (by kernel_rfl) (by kernel_rfl) (by kernel_rfl)
abbrev ty13 : TI := ⟨.struct #[{ name := "msg", type := 9, offset := 0, embedded := false, tag := "", pkgPath := "runtime", byteOffset := 0 }, { name := "addr", type := 12, offset := 1, embedded := false, tag := "", pkgPath := "runtime", byteOffset := 16 }], 2, 24, .tuple []⟩
theorem ok13 : TyOK P 13 ty13 := tyOK' (by kernel_rfl) (by kernel_rfl) rfl
abbrev ty14 : TI := ⟨.struct #[{ name := "msg", type := 9, offset := 0, embedded := false, tag := "", pkgPath := "runtime", byteOffset := 0 }, { name := "addr", type := 12, offset := 1, embedded := false, tag := "", pkgPath := "runtime", byteOffset := 16 }], 2, 24, .tuple []⟩
theorem ok14 : TyOK P 14 ty14 := tyOK' (by kernel_rfl) (by kernel_rfl) rfl
abbrev ty15 : TI := ⟨.pointer 116, 1, 8, .tuple []⟩
theorem ok15 : TyOK P 15 ty15 := tyOK' (by kernel_rfl) (by kernel_rfl) rfl
abbrev ty16 : TI := ⟨.pointer 119, 1, 8, .tuple []⟩
theorem ok16 : TyOK P 16 ty16 := tyOK' (by kernel_rfl) (by kernel_rfl) rfl
abbrev ty17 : TI := ⟨.pointer 128, 1, 8, .tuple []⟩
theorem ok17 : TyOK P 17 ty17 := tyOK' (by kernel_rfl) (by kernel_rfl) rfl
abbrev ty18 : TI := ⟨.struct #[{ name := "typ", type := 17, offset := 0, embedded := false, tag := "", pkgPath := "internal/runtime/maps", byteOffset := 0 }], 1, 8, .tuple []⟩
theorem ok18 : TyOK P 18 ty18 := tyOK' (by kernel_rfl) (by kernel_rfl) rfl
abbrev ty19 : TI := ⟨.struct #[{ name := "typ", type := 17, offset := 0, embedded := false, tag := "", pkgPath := "internal/runtime/maps", byteOffset := 0 }], 1, 8, .tuple []⟩
theorem ok19 : TyOK P 19 ty19 := tyOK' (by kernel_rfl) (by kernel_rfl) rfl
abbrev ty21 : TI := ⟨.int .i32, 1, 4, .int .i32 0⟩
theorem ok21 : TyOK P 21 ty21 := tyOK (by kernel_rfl) (by kernel_rfl) (by kernel_rfl)
abbrev ty22 : TI := ⟨.slice 3, 1, 24, .nil⟩
theorem ok22 : TyOK P 22 ty22 := tyOK (by kernel_rfl) (by kernel_rfl) (by kernel_rfl)
abbrev ty25 : TI := ⟨.slice 33, 1, 24, .nil⟩
theorem ok25 : TyOK P 25 ty25 := tyOK (by kernel_rfl) (by kernel_rfl) (by kernel_rfl)
abbrev ty28 : TI := ⟨.int .i64, 1, 8, .int .i64 0⟩
theorem ok28 : TyOK P 28 ty28 := tyOK (by kernel_rfl) (by kernel_rfl) (by kernel_rfl)
abbrev ty31 : TI := ⟨.slice 83, 1, 24, .nil⟩
theorem ok31 : TyOK P 31 ty31 := tyOK (by kernel_rfl) (by kernel_rfl) (by kernel_rfl)
abbrev ty32 : TI := ⟨.struct #[{ name := "Neg", type := 4, offset := 0, embedded := false, tag := "", pkgPath := "", byteOffset := 0 }, { name := "Num", type := 31, offset := 1, embedded := false, tag := "", pkgPath := "", byteOffset := 8 }, { name := "Den", type := 31, offset := 2, embedded := false, tag := "", pkgPath := "", byteOffset := 32 }], 3, 56, .agg [.bool false, .nil, .nil]⟩
theorem ok32 : TyOK P 32 ty32 := tyOK (by kernel_rfl) (by kernel_rfl) (by kernel_rfl)
abbrev ty33 : TI := ⟨.struct #[{ name := "Neg", type := 4, offset := 0, embedded := false, tag := "", pkgPath := "", byteOffset := 0 }, { name := "Num", type := 31, offset := 1, embedded := false, tag := "", pkgPath := "", byteOffset := 8 }, { name := "Den", type := 31, offset := 2, embedded := false, tag := "", pkgPath := "", byteOffset := 32 }], 3, 56, .rat 0 1⟩
theorem ok33 : TyOK P 33 ty33 := tyOK (by kernel_rfl) (by kernel_rfl) (by kernel_rfl)
abbrev ty46 : TI := ⟨.struct #[{ name := "Lo", type := 33, offset := 0, embedded := false, tag := "", pkgPath := "", byteOffset := 0 }, { name := "Hi", type := 33, offset := 3, embedded := false, tag := "", pkgPath := "", byteOffset := 56 }], 6, 112, .agg [.rat 0 1, .rat 0 1]⟩
theorem ok46 : TyOK P 46 ty46 := tyOK (by kernel_rfl) (by kernel_rfl) (by kernel_rfl)
abbrev ty47 : TI := ⟨.struct #[{ name := "Lo", type := 33, offset := 0, embedded := false, tag := "", pkgPath := "", byteOffset := 0 }, { name := "Hi", type := 33, offset := 3, embedded := false, tag := "", pkgPath := "", byteOffset := 56 }], 6, 112, .agg [.rat 0 1, .rat 0 1]⟩
theorem ok47 : TyOK P 47 ty47 := tyOK (by kernel_rfl) (by kernel_rfl) (by kernel_rfl)
abbrev ty54 : TI := ⟨.pointer 78, 1, 8, .tuple []⟩
theorem ok54 : TyOK P 54 ty54 := tyOK' (by kernel_rfl) (by kernel_rfl) rfl
abbrev ty77 : TI := ⟨.struct #[{ name := "L", type := 22, offset := 0, embedded := false, tag := "", pkgPath := "", byteOffset := 0 }, { name := "At", type := 3, offset := 1, embedded := false, tag := "", pkgPath := "", byteOffset := 24 }], 2, 32, .agg [.nil, .int .i64 0]⟩
theorem ok77 : TyOK P 77 ty77 := tyOK (by kernel_rfl) (by kernel_rfl) (by kernel_rfl)
abbrev ty78 : TI := ⟨.struct #[{ name := "L", type := 22, offset := 0, embedded := false, tag := "", pkgPath := "", byteOffset := 0 }, { name := "At", type := 3, offset := 1, embedded := false, tag := "", pkgPath := "", byteOffset := 24 }], 2, 32, .agg [.nil, .int .i64 0]⟩
theorem ok78 : TyOK P 78 ty78 := tyOK (by kernel_rfl) (by kernel_rfl) (by kernel_rfl)
abbrev ty79 : TI := ⟨.int .u64, 1, 8, .int .u64 0⟩
theorem ok79 : TyOK P 79 ty79 := tyOK (by kernel_rfl) (by kernel_rfl) (by kernel_rfl)
abbrev ty83 : TI := ⟨.int .u32, 1, 4, .int .u32 0⟩
theorem ok83 : TyOK P 83 ty83 := tyOK (by kernel_rfl) (by kernel_rfl) (by kernel_rfl)
abbrev ty94 : TI := ⟨.int .u64, 1, 8, .int .u64 0⟩
theorem ok94 : TyOK P 94 ty94 := tyOK (by kernel_rfl) (by kernel_rfl) (by kernel_rfl)
abbrev ty96 : TI := ⟨.slice 5, 1, 24, .nil⟩
theorem ok96 : TyOK P 96 ty96 := tyOK (by kernel_rfl) (by kernel_rfl) (by kernel_rfl)
abbrev ty115 : TI := ⟨.struct #[{ name := "_interface", type := 17, offset := 0, embedded := false, tag := "", pkgPath := "runtime", byteOffset := 0 }, { name := "concrete", type := 17, offset := 1, embedded := false, tag := "", pkgPath := "runtime", byteOffset := 8 }, { name := "asserted", type := 17, offset := 2, embedded := false, tag := "", pkgPath := "runtime", byteOffset := 16 }, { name := "missingMethod", type := 9, offset := 3, embedded := false, tag := "", pkgPath := "runtime", byteOffset := 24 }], 4, 40, .tuple []⟩
theorem ok115 : TyOK P 115 ty115 := tyOK' (by kernel_rfl) (by kernel_rfl) rfl
abbrev ty116 : TI := ⟨.struct #[{ name := "_interface", type := 17, offset := 0, embedded := false, tag := "", pkgPath := "runtime", byteOffset := 0 }, { name := "concrete", type := 17, offset := 1, embedded := false, tag := "", pkgPath := "runtime", byteOffset := 8 }, { name := "asserted", type := 17, offset := 2, embedded := false, tag := "", pkgPath := "runtime", byteOffset := 16 }, { name := "missingMethod", type := 9, offset := 3, embedded := false, tag := "", pkgPath := "runtime", byteOffset := 24 }], 4, 40, .tuple []⟩
theorem ok116 : TyOK P 116 ty116 := tyOK' (by kernel_rfl) (by kernel_rfl) rfl
abbrev ty121 : TI := ⟨.int .u8, 1, 1, .int .u8 0⟩
theorem ok121 : TyOK P 121 ty121 := tyOK (by kernel_rfl) (by kernel_rfl) (by kernel_rfl)
abbrev ty122 : TI := ⟨.int .u8, 1, 1, .int .u8 0⟩
theorem ok122 : TyOK P 122 ty122 := tyOK (by kernel_rfl) (by kernel_rfl) (by kernel_rfl)
abbrev ty124 : TI := ⟨.pointer 5, 1, 8, .tuple []⟩
theorem ok124 : TyOK P 124 ty124 := tyOK' (by kernel_rfl) (by kernel_rfl) rfl
abbrev ty125 : TI := ⟨.int .i32, 1, 4, .int .i32 0⟩
theorem ok125 : TyOK P 125 ty125 := tyOK (by kernel_rfl) (by kernel_rfl) (by kernel_rfl)
abbrev ty126 : TI := ⟨.int .i32, 1, 4, .int .i32 0⟩
theorem ok126 : TyOK P 126 ty126 := tyOK (by kernel_rfl) (by kernel_rfl) (by kernel_rfl)
abbrev ty127 : TI := ⟨.struct #[{ name := "Size_", type := 12, offset := 0, embedded := false, tag := "", pkgPath := "", byteOffset := 0 }, { name := "PtrBytes", type := 12, offset := 1, embedded := false, tag := "", pkgPath := "", byteOffset := 8 }, { name := "Hash", type := 83, offset := 2, embedded := false, tag := "", pkgPath := "", byteOffset := 16 }, { name := "TFlag", type := 121, offset := 3, embedded := false, tag := "", pkgPath := "", byteOffset := 20 }, { name := "Align_", type := 5, offset := 4, embedded := false, tag := "", pkgPath := "", byteOffset := 21 }, { name := "FieldAlign_", type := 5, offset := 5, embedded := false, tag := "", pkgPath := "", byteOffset := 22 }, { name := "Kind_", type := 122, offset := 6, embedded := false, tag := "", pkgPath := "", byteOffset := 23 }, { name := "Equal", type := 123, offset := 7, embedded := false, tag := "", pkgPath := "", byteOffset := 24 }, { name := "GCData", type := 124, offset := 8, embedded := false, tag := "", pkgPath := "", byteOffset := 32 }, { name := "Str", type := 125, offset := 9, embedded := false, tag := "", pkgPath := "", byteOffset := 40 }, { name := "PtrToThis", type := 126, offset := 10, embedded := false, tag := "", pkgPath := "", byteOffset := 44 }], 11, 48, .tuple []⟩
theorem ok127 : TyOK P 127 ty127 := tyOK' (by kernel_rfl) (by kernel_rfl) rfl
abbrev ty128 : TI := ⟨.struct #[{ name := "Size_", type := 12, offset := 0, embedded := false, tag := "", pkgPath := "", byteOffset := 0 }, { name := "PtrBytes", type := 12, offset := 1, embedded := false, tag := "", pkgPath := "", byteOffset := 8 }, { name := "Hash", type := 83, offset := 2, embedded := false, tag := "", pkgPath := "", byteOffset := 16 }, { name := "TFlag", type := 121, offset := 3, embedded := false, tag := "", pkgPath := "", byteOffset := 20 }, { name := "Align_", type := 5, offset := 4, embedded := false, tag := "", pkgPath := "", byteOffset := 21 }, { name := "FieldAlign_", type := 5, offset := 5, embedded := false, tag := "", pkgPath := "", byteOffset := 22 }, { name := "Kind_", type := 122, offset := 6, embedded := false, tag := "", pkgPath := "", byteOffset := 23 }, { name := "Equal", type := 123, offset := 7, embedded := false, tag := "", pkgPath := "", byteOffset := 24 }, { name := "GCData", type := 124, offset := 8, embedded := false, tag := "", pkgPath := "", byteOffset := 32 }, { name := "Str", type := 125, offset := 9, embedded := false, tag := "", pkgPath := "", byteOffset := 40 }, { name := "PtrToThis", type := 126, offset := 10, embedded := false, tag := "", pkgPath := "", byteOffset := 44 }], 11, 48, .tuple []⟩
theorem ok128 : TyOK P 128 ty128 := tyOK' (by kernel_rfl) (by kernel_rfl) rfl
abbrev T : Types := [(2, ty2), (3, ty3), (4, ty4), (5, ty5), (6, ty6), (7, ty7), (8, ty8), (9, ty9), (10, ty10), (11, ty11), (12, ty12), (13, ty13), (14, ty14), (15, ty15), (16, ty16), (17, ty17), (18, ty18), (19, ty19), (21, ty21), (22, ty22), (25, ty25), (28, ty28), (31, ty31), (32, ty32), (33, ty33), (46, ty46), (47, ty47), (54, ty54), (77, ty77), (78, ty78), (79, ty79), (83, ty83), (94, ty94), (96, ty96), (115, ty115), (116, ty116), (121, ty121), (122, ty122), (124, ty124), (125, ty125), (126, ty126), (127, ty127), (128, ty128)]
theorem hT : TOK P T := tok_cons ok2 (tok_cons ok3 (tok_cons ok4 (tok_cons ok5 (tok_cons ok6 (tok_cons ok7 (tok_cons ok8 (tok_cons ok9 (tok_cons ok10 (tok_cons ok11 (tok_cons ok12 (tok_cons ok13 (tok_cons ok14 (tok_cons ok15 (tok_cons ok16 (tok_cons ok17 (tok_cons ok18 (tok_cons ok19 (tok_cons ok21 (tok_cons ok22 (tok_cons ok25 (tok_cons ok28 (tok_cons ok31 (tok_cons ok32 (tok_cons ok33 (tok_cons ok46 (tok_cons ok47 (tok_cons ok54 (tok_cons ok77 (tok_cons ok78 (tok_cons ok79 (tok_cons ok83 (tok_cons ok94 (tok_cons ok96 (tok_cons ok115 (tok_cons ok116 (tok_cons ok121 (tok_cons ok122 (tok_cons ok124 (tok_cons ok125 (tok_cons ok126 (tok_cons ok127 (tok_cons ok128 (tok_nil)))))))))))))))))))))))))))))))))))))))))))
end Go.Am.N
