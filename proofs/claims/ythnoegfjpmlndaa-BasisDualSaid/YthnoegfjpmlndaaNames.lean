/- The seat's names: the numbers of functions, the types. Written by a program. -/
import Derived.Test.YthnoegfjpmlndaaZ1
import Derived.Test.YthnoegfjpmlndaaProg
import Derived.KernelRfl
set_option linter.unusedVariables false
namespace Go.Am.N
open Go.Proofs
noncomputable abbrev P : Program := Try.prog
theorem hm : P.follows .mixedOrders = true := by kernel_rfl
abbrev law09_BasisDual : FuncId := 7
noncomputable abbrev fn_law09_BasisDual : Func := Try.f7
theorem get_law09_BasisDual : P.funcs[law09_BasisDual]? = some fn_law09_BasisDual := Try.func7
abbrev made_Light : FuncId := 13
noncomputable abbrev fn_made_Light : Func := Try.f13
theorem get_made_Light : P.funcs[made_Light]? = some fn_made_Light := Try.func13
abbrev law09_awake : FuncId := 14
noncomputable abbrev fn_law09_awake : Func := Try.f14
theorem get_law09_awake : P.funcs[law09_awake]? = some fn_law09_awake := Try.func14
abbrev law09_made : FuncId := 15
noncomputable abbrev fn_law09_made : Func := Try.f15
theorem get_law09_made : P.funcs[law09_made]? = some fn_law09_made := Try.func15
abbrev made_Rat : FuncId := 16
noncomputable abbrev fn_made_Rat : Func := Try.f16
theorem get_made_Rat : P.funcs[made_Rat]? = some fn_made_Rat := Try.func16
abbrev made_Mod : FuncId := 17
noncomputable abbrev fn_made_Mod : Func := Try.f17
theorem get_made_Mod : P.funcs[made_Mod]? = some fn_made_Mod := Try.func17
abbrev basis_Blossom : FuncId := 18
noncomputable abbrev fn_basis_Blossom : Func := Try.f18
theorem get_basis_Blossom : P.funcs[basis_Blossom]? = some fn_basis_Blossom := Try.func18
abbrev ref02_Same : FuncId := 20
noncomputable abbrev fn_ref02_Same : Func := Try.f20
theorem get_ref02_Same : P.funcs[ref02_Same]? = some fn_ref02_Same := Try.func20
abbrev made_Roll : FuncId := 22
noncomputable abbrev fn_made_Roll : Func := Try.f22
theorem get_made_Roll : P.funcs[made_Roll]? = some fn_made_Roll := Try.func22
abbrev made_Part : FuncId := 28
noncomputable abbrev fn_made_Part : Func := Try.f28
theorem get_made_Part : P.funcs[made_Part]? = some fn_made_Part := Try.func28
abbrev ref02_Mul : FuncId := 30
noncomputable abbrev fn_ref02_Mul : Func := Try.f30
theorem get_ref02_Mul : P.funcs[ref02_Mul]? = some fn_ref02_Mul := Try.func30
abbrev ref02_Cmp : FuncId := 32
noncomputable abbrev fn_ref02_Cmp : Func := Try.f32
theorem get_ref02_Cmp : P.funcs[ref02_Cmp]? = some fn_ref02_Cmp := Try.func32
abbrev basis_Values : FuncId := 34
noncomputable abbrev fn_basis_Values : Func := Try.f34
theorem get_basis_Values : P.funcs[basis_Values]? = some fn_basis_Values := Try.func34
abbrev basis_Sum : FuncId := 36
noncomputable abbrev fn_basis_Sum : Func := Try.f36
theorem get_basis_Sum : P.funcs[basis_Sum]? = some fn_basis_Sum := Try.func36
abbrev made_Within : FuncId := 39
noncomputable abbrev fn_made_Within : Func := Try.f39
theorem get_made_Within : P.funcs[made_Within]? = some fn_made_Within := Try.func39
abbrev ref02_Sign : FuncId := 40
noncomputable abbrev fn_ref02_Sign : Func := Try.f40
theorem get_ref02_Sign : P.funcs[ref02_Sign]? = some fn_ref02_Sign := Try.func40
abbrev ref02_Add : FuncId := 41
noncomputable abbrev fn_ref02_Add : Func := Try.f41
theorem get_ref02_Add : P.funcs[ref02_Add]? = some fn_ref02_Add := Try.func41
abbrev ref02_Int : FuncId := 43
noncomputable abbrev fn_ref02_Int : Func := Try.f43
theorem get_ref02_Int : P.funcs[ref02_Int]? = some fn_ref02_Int := Try.func43
abbrev law09_with : FuncId := 44
noncomputable abbrev fn_law09_with : Func := Try.f44
theorem get_law09_with : P.funcs[law09_with]? = some fn_law09_with := Try.func44
abbrev ref02_Mid : FuncId := 45
noncomputable abbrev fn_ref02_Mid : Func := Try.f45
theorem get_ref02_Mid : P.funcs[ref02_Mid]? = some fn_ref02_Mid := Try.func45
abbrev knots_Poles : FuncId := 49
noncomputable abbrev fn_knots_Poles : Func := Try.f49
theorem get_knots_Poles : P.funcs[knots_Poles]? = some fn_knots_Poles := Try.func49
abbrev knots_Interval : FuncId := 65
noncomputable abbrev fn_knots_Interval : Func := Try.f65
theorem get_knots_Interval : P.funcs[knots_Interval]? = some fn_knots_Interval := Try.func65
abbrev ref02_Frac : FuncId := 73
noncomputable abbrev fn_ref02_Frac : Func := Try.f73
theorem get_ref02_Frac : P.funcs[ref02_Frac]? = some fn_ref02_Frac := Try.func73
abbrev ref02_Text : FuncId := 74
noncomputable abbrev fn_ref02_Text : Func := Try.f74
theorem get_ref02_Text : P.funcs[ref02_Text]? = some fn_ref02_Text := Try.func74
abbrev made_Dice_Next : FuncId := 75
noncomputable abbrev fn_made_Dice_Next : Func := Try.f75
theorem get_made_Dice_Next : P.funcs[made_Dice_Next]? = some fn_made_Dice_Next := Try.func75
abbrev made_Dice_Knots : FuncId := 76
noncomputable abbrev fn_made_Dice_Knots : Func := Try.f76
theorem get_made_Dice_Knots : P.funcs[made_Dice_Knots]? = some fn_made_Dice_Knots := Try.func76
abbrev made_Dice_Number : FuncId := 77
noncomputable abbrev fn_made_Dice_Number : Func := Try.f77
theorem get_made_Dice_Number : P.funcs[made_Dice_Number]? = some fn_made_Dice_Number := Try.func77
abbrev rational_Cmp : FuncId := 78
noncomputable abbrev fn_rational_Cmp : Func := Try.f78
theorem get_rational_Cmp : P.funcs[rational_Cmp]? = some fn_rational_Cmp := Try.func78
abbrev basis_fraction : FuncId := 79
noncomputable abbrev fn_basis_fraction : Func := Try.f79
theorem get_basis_fraction : P.funcs[basis_fraction]? = some fn_basis_fraction := Try.func79
abbrev rational_Add : FuncId := 80
noncomputable abbrev fn_rational_Add : Func := Try.f80
theorem get_rational_Add : P.funcs[rational_Add]? = some fn_rational_Add := Try.func80
abbrev rational_Mul : FuncId := 81
noncomputable abbrev fn_rational_Mul : Func := Try.f81
theorem get_rational_Mul : P.funcs[rational_Mul]? = some fn_rational_Mul := Try.func81
abbrev rational_Sub : FuncId := 82
noncomputable abbrev fn_rational_Sub : Func := Try.f82
theorem get_rational_Sub : P.funcs[rational_Sub]? = some fn_rational_Sub := Try.func82
abbrev ref01_Cmp : FuncId := 84
noncomputable abbrev fn_ref01_Cmp : Func := Try.f84
theorem get_ref01_Cmp : P.funcs[ref01_Cmp]? = some fn_ref01_Cmp := Try.func84
abbrev made_Dice_number : FuncId := 90
noncomputable abbrev fn_made_Dice_number : Func := Try.f90
theorem get_made_Dice_number : P.funcs[made_Dice_number]? = some fn_made_Dice_number := Try.func90
abbrev rational_Quo : FuncId := 91
noncomputable abbrev fn_rational_Quo : Func := Try.f91
theorem get_rational_Quo : P.funcs[rational_Quo]? = some fn_rational_Quo := Try.func91
abbrev rational_Max : FuncId := 92
noncomputable abbrev fn_rational_Max : Func := Try.f92
theorem get_rational_Max : P.funcs[rational_Max]? = some fn_rational_Max := Try.func92
abbrev rational_Min : FuncId := 93
noncomputable abbrev fn_rational_Min : Func := Try.f93
theorem get_rational_Min : P.funcs[rational_Min]? = some fn_rational_Min := Try.func93
abbrev rational_Int : FuncId := 94
noncomputable abbrev fn_rational_Int : Func := Try.f94
theorem get_rational_Int : P.funcs[rational_Int]? = some fn_rational_Int := Try.func94
abbrev ref02_reduce : FuncId := 96
noncomputable abbrev fn_ref02_reduce : Func := Try.f96
theorem get_ref02_reduce : P.funcs[ref02_reduce]? = some fn_ref02_reduce := Try.func96
abbrev ref01_Mul : FuncId := 97
noncomputable abbrev fn_ref01_Mul : Func := Try.f97
theorem get_ref01_Mul : P.funcs[ref01_Mul]? = some fn_ref01_Mul := Try.func97
abbrev ref02_Den : FuncId := 98
noncomputable abbrev fn_ref02_Den : Func := Try.f98
theorem get_ref02_Den : P.funcs[ref02_Den]? = some fn_ref02_Den := Try.func98
abbrev ref02_Sub : FuncId := 100
noncomputable abbrev fn_ref02_Sub : Func := Try.f100
theorem get_ref02_Sub : P.funcs[ref02_Sub]? = some fn_ref02_Sub := Try.func100
abbrev ref01_Add : FuncId := 101
noncomputable abbrev fn_ref01_Add : Func := Try.f101
theorem get_ref01_Add : P.funcs[ref01_Add]? = some fn_ref01_Add := Try.func101
abbrev ref01_Sub : FuncId := 102
noncomputable abbrev fn_ref01_Sub : Func := Try.f102
theorem get_ref01_Sub : P.funcs[ref01_Sub]? = some fn_ref01_Sub := Try.func102
abbrev ref02_size : FuncId := 103
noncomputable abbrev fn_ref02_size : Func := Try.f103
theorem get_ref02_size : P.funcs[ref02_size]? = some fn_ref02_size := Try.func103
abbrev rational_Same : FuncId := 105
noncomputable abbrev fn_rational_Same : Func := Try.f105
theorem get_rational_Same : P.funcs[rational_Same]? = some fn_rational_Same := Try.func105
abbrev ref02_Make : FuncId := 114
noncomputable abbrev fn_ref02_Make : Func := Try.f114
theorem get_ref02_Make : P.funcs[ref02_Make]? = some fn_ref02_Make := Try.func114
abbrev ref01_Text : FuncId := 115
noncomputable abbrev fn_ref01_Text : Func := Try.f115
theorem get_ref01_Text : P.funcs[ref01_Text]? = some fn_ref01_Text := Try.func115
abbrev rational_Sign : FuncId := 116
noncomputable abbrev fn_rational_Sign : Func := Try.f116
theorem get_rational_Sign : P.funcs[rational_Sign]? = some fn_rational_Sign := Try.func116
abbrev rational_parts : FuncId := 117
noncomputable abbrev fn_rational_parts : Func := Try.f117
theorem get_rational_parts : P.funcs[rational_parts]? = some fn_rational_parts := Try.func117
abbrev slices_Equal_uint32_uint32 : FuncId := 118
noncomputable abbrev fn_slices_Equal_uint32_uint32 : Func := Try.f118
theorem get_slices_Equal_uint32_uint32 : P.funcs[slices_Equal_uint32_uint32]? = some fn_slices_Equal_uint32_uint32 := Try.func118
abbrev natural_Cmp : FuncId := 119
noncomputable abbrev fn_natural_Cmp : Func := Try.f119
theorem get_natural_Cmp : P.funcs[natural_Cmp]? = some fn_natural_Cmp := Try.func119
abbrev natural_Mul : FuncId := 120
noncomputable abbrev fn_natural_Mul : Func := Try.f120
theorem get_natural_Mul : P.funcs[natural_Mul]? = some fn_natural_Mul := Try.func120
abbrev rational_den : FuncId := 121
noncomputable abbrev fn_rational_den : Func := Try.f121
theorem get_rational_den : P.funcs[rational_den]? = some fn_rational_den := Try.func121
abbrev rational_add : FuncId := 122
noncomputable abbrev fn_rational_add : Func := Try.f122
theorem get_rational_add : P.funcs[rational_add]? = some fn_rational_add := Try.func122
abbrev rational_short : FuncId := 123
noncomputable abbrev fn_rational_short : Func := Try.f123
theorem get_rational_short : P.funcs[rational_short]? = some fn_rational_short := Try.func123
abbrev rational_reduce : FuncId := 124
noncomputable abbrev fn_rational_reduce : Func := Try.f124
theorem get_rational_reduce : P.funcs[rational_reduce]? = some fn_rational_reduce := Try.func124
abbrev rational_copied : FuncId := 126
noncomputable abbrev fn_rational_copied : Func := Try.f126
theorem get_rational_copied : P.funcs[rational_copied]? = some fn_rational_copied := Try.func126
abbrev rational_size : FuncId := 127
noncomputable abbrev fn_rational_size : Func := Try.f127
theorem get_rational_size : P.funcs[rational_size]? = some fn_rational_size := Try.func127
abbrev rational_one : FuncId := 128
noncomputable abbrev fn_rational_one : Func := Try.f128
theorem get_rational_one : P.funcs[rational_one]? = some fn_rational_one := Try.func128
abbrev ref01_Trim : FuncId := 129
noncomputable abbrev fn_ref01_Trim : Func := Try.f129
theorem get_ref01_Trim : P.funcs[ref01_Trim]? = some fn_ref01_Trim := Try.func129
abbrev ref01_Gcd : FuncId := 130
noncomputable abbrev fn_ref01_Gcd : Func := Try.f130
theorem get_ref01_Gcd : P.funcs[ref01_Gcd]? = some fn_ref01_Gcd := Try.func130
abbrev ref01_Div : FuncId := 131
noncomputable abbrev fn_ref01_Div : Func := Try.f131
theorem get_ref01_Div : P.funcs[ref01_Div]? = some fn_ref01_Div := Try.func131
abbrev ref02_Neg : FuncId := 133
noncomputable abbrev fn_ref02_Neg : Func := Try.f133
theorem get_ref02_Neg : P.funcs[ref02_Neg]? = some fn_ref02_Neg := Try.func133
abbrev ref01_minus : FuncId := 134
noncomputable abbrev fn_ref01_minus : Func := Try.f134
theorem get_ref01_minus : P.funcs[ref01_minus]? = some fn_ref01_minus := Try.func134
abbrev ref01_Of : FuncId := 135
noncomputable abbrev fn_ref01_Of : Func := Try.f135
theorem get_ref01_Of : P.funcs[ref01_Of]? = some fn_ref01_Of := Try.func135
abbrev ref01_byLimb : FuncId := 140
noncomputable abbrev fn_ref01_byLimb : Func := Try.f140
theorem get_ref01_byLimb : P.funcs[ref01_byLimb]? = some fn_ref01_byLimb := Try.func140
abbrev natural_Bits : FuncId := 141
noncomputable abbrev fn_natural_Bits : Func := Try.f141
theorem get_natural_Bits : P.funcs[natural_Bits]? = some fn_natural_Bits := Try.func141
abbrev rational_word : FuncId := 142
noncomputable abbrev fn_rational_word : Func := Try.f142
theorem get_rational_word : P.funcs[rational_word]? = some fn_rational_word := Try.func142
abbrev natural_trim : FuncId := 143
noncomputable abbrev fn_natural_trim : Func := Try.f143
theorem get_natural_trim : P.funcs[natural_trim]? = some fn_natural_trim := Try.func143
abbrev math_bits_Add64 : FuncId := 144
noncomputable abbrev fn_math_bits_Add64 : Func := Try.f144
theorem get_math_bits_Add64 : P.funcs[math_bits_Add64]? = some fn_math_bits_Add64 := Try.func144
abbrev natural_Add : FuncId := 145
noncomputable abbrev fn_natural_Add : Func := Try.f145
theorem get_natural_Add : P.funcs[natural_Add]? = some fn_natural_Add := Try.func145
abbrev natural_Sub : FuncId := 146
noncomputable abbrev fn_natural_Sub : Func := Try.f146
theorem get_natural_Sub : P.funcs[natural_Sub]? = some fn_natural_Sub := Try.func146
abbrev rational_divisor : FuncId := 147
noncomputable abbrev fn_rational_divisor : Func := Try.f147
theorem get_rational_divisor : P.funcs[rational_divisor]? = some fn_rational_divisor := Try.func147
abbrev rational_limbs : FuncId := 148
noncomputable abbrev fn_rational_limbs : Func := Try.f148
theorem get_rational_limbs : P.funcs[rational_limbs]? = some fn_rational_limbs := Try.func148
abbrev natural_Gcd : FuncId := 149
noncomputable abbrev fn_natural_Gcd : Func := Try.f149
theorem get_natural_Gcd : P.funcs[natural_Gcd]? = some fn_natural_Gcd := Try.func149
abbrev natural_Div : FuncId := 150
noncomputable abbrev fn_natural_Div : Func := Try.f150
theorem get_natural_Div : P.funcs[natural_Div]? = some fn_natural_Div := Try.func150
abbrev slices_Clone_uint32_uint32 : FuncId := 151
noncomputable abbrev fn_slices_Clone_uint32_uint32 : Func := Try.f151
theorem get_slices_Clone_uint32_uint32 : P.funcs[slices_Clone_uint32_uint32]? = some fn_slices_Clone_uint32_uint32 := Try.func151
abbrev natural_Of : FuncId := 152
noncomputable abbrev fn_natural_Of : Func := Try.f152
theorem get_natural_Of : P.funcs[natural_Of]? = some fn_natural_Of := Try.func152
abbrev ref01_small : FuncId := 153
noncomputable abbrev fn_ref01_small : Func := Try.f153
theorem get_ref01_small : P.funcs[ref01_small]? = some fn_ref01_small := Try.func153
abbrev ref01_Bits : FuncId := 154
noncomputable abbrev fn_ref01_Bits : Func := Try.f154
theorem get_ref01_Bits : P.funcs[ref01_Bits]? = some fn_ref01_Bits := Try.func154
abbrev ref01_up : FuncId := 155
noncomputable abbrev fn_ref01_up : Func := Try.f155
theorem get_ref01_up : P.funcs[ref01_up]? = some fn_ref01_up := Try.func155
abbrev ref01_shifted : FuncId := 156
noncomputable abbrev fn_ref01_shifted : Func := Try.f156
theorem get_ref01_shifted : P.funcs[ref01_shifted]? = some fn_ref01_shifted := Try.func156
abbrev ref01_times : FuncId := 157
noncomputable abbrev fn_ref01_times : Func := Try.f157
theorem get_ref01_times : P.funcs[ref01_times]? = some fn_ref01_times := Try.func157
abbrev ref01_down : FuncId := 158
noncomputable abbrev fn_ref01_down : Func := Try.f158
theorem get_ref01_down : P.funcs[ref01_down]? = some fn_ref01_down := Try.func158
abbrev math_bits_Len32 : FuncId := 160
noncomputable abbrev fn_math_bits_Len32 : Func := Try.f160
theorem get_math_bits_Len32 : P.funcs[math_bits_Len32]? = some fn_math_bits_Len32 := Try.func160
abbrev natural_word : FuncId := 161
noncomputable abbrev fn_natural_word : Func := Try.f161
theorem get_natural_word : P.funcs[natural_word]? = some fn_natural_word := Try.func161
abbrev natural_small : FuncId := 162
noncomputable abbrev fn_natural_small : Func := Try.f162
theorem get_natural_small : P.funcs[natural_small]? = some fn_natural_small := Try.func162
abbrev math_bits_LeadingZeros32 : FuncId := 163
noncomputable abbrev fn_math_bits_LeadingZeros32 : Func := Try.f163
theorem get_math_bits_LeadingZeros32 : P.funcs[math_bits_LeadingZeros32]? = some fn_math_bits_LeadingZeros32 := Try.func163
abbrev natural_raise : FuncId := 164
noncomputable abbrev fn_natural_raise : Func := Try.f164
theorem get_natural_raise : P.funcs[natural_raise]? = some fn_natural_raise := Try.func164
abbrev ty2 : TI := ⟨.int .i64, 1, 8, .int .i64 0⟩
theorem ok2 : TyOK P 2 ty2 := tyOK (by kernel_rfl) (by kernel_rfl) (by kernel_rfl)
abbrev ty3 : TI := ⟨.int .i64, 1, 8, .int .i64 0⟩
theorem ok3 : TyOK P 3 ty3 := tyOK (by kernel_rfl) (by kernel_rfl) (by kernel_rfl)
abbrev ty4 : TI := ⟨.bool, 1, 1, .bool false⟩
theorem ok4 : TyOK P 4 ty4 := tyOK (by kernel_rfl) (by kernel_rfl) (by kernel_rfl)
abbrev ty5 : TI := ⟨.int .u8, 1, 1, .int .u8 0⟩
theorem ok5 : TyOK P 5 ty5 := tyOK (by kernel_rfl) (by kernel_rfl) (by kernel_rfl)
abbrev ty6 : TI := ⟨.int .u8, 1, 1, .int .u8 0⟩
theorem ok6 : TyOK P 6 ty6 := tyOK (by kernel_rfl) (by kernel_rfl) (by kernel_rfl)
abbrev ty7 : TI := ⟨.struct #[{ name := "x", type := 2, offset := 0, embedded := false, tag := "", pkgPath := "runtime", byteOffset := 0 }, { name := "y", type := 3, offset := 1, embedded := false, tag := "", pkgPath := "runtime", byteOffset := 8 }, { name := "signed", type := 4, offset := 2, embedded := false, tag := "", pkgPath := "runtime", byteOffset := 16 }, { name := "code", type := 6, offset := 3, embedded := false, tag := "", pkgPath := "runtime", byteOffset := 17 }], 4, 24, .agg [.int .i64 0, .int .i64 0, .bool false, .int .u8 0]⟩
theorem ok7 : TyOK P 7 ty7 := tyOK (by kernel_rfl) (by kernel_rfl) (by kernel_rfl)
abbrev ty8 : TI := ⟨.struct #[{ name := "x", type := 2, offset := 0, embedded := false, tag := "", pkgPath := "runtime", byteOffset := 0 }, { name := "y", type := 3, offset := 1, embedded := false, tag := "", pkgPath := "runtime", byteOffset := 8 }, { name := "signed", type := 4, offset := 2, embedded := false, tag := "", pkgPath := "runtime", byteOffset := 16 }, { name := "code", type := 6, offset := 3, embedded := false, tag := "", pkgPath := "runtime", byteOffset := 17 }], 4, 24, .agg [.int .i64 0, .int .i64 0, .bool false, .int .u8 0]⟩
theorem ok8 : TyOK P 8 ty8 := tyOK (by kernel_rfl) (by kernel_rfl) (by kernel_rfl)
abbrev ty9 : TI := ⟨.string, 1, 16, .tuple []⟩
theorem ok9 : TyOK P 9 ty9 := tyOK' (by kernel_rfl) (by kernel_rfl) rfl
abbrev ty10 : TI := ⟨.string, 1, 16, .tuple []⟩
theorem ok10 : TyOK P 10 ty10 := tyOK' (by kernel_rfl) (by kernel_rfl) rfl
abbrev ty11 : TI := ⟨.string, 1, 16, .tuple []⟩
theorem ok11 : TyOK P 11 ty11 := tyOK' (by kernel_rfl) (by kernel_rfl) rfl
abbrev ty12 : TI := ⟨.int .u64, 1, 8, .int .u64 0⟩
theorem ok12 : TyOK P 12 ty12 := tyOK (by kernel_rfl) (by kernel_rfl) (by kernel_rfl)
abbrev ty13 : TI := ⟨.struct #[{ name := "msg", type := 9, offset := 0, embedded := false, tag := "", pkgPath := "runtime", byteOffset := 0 }, { name := "addr", type := 12, offset := 1, embedded := false, tag := "", pkgPath := "runtime", byteOffset := 16 }], 2, 24, .tuple []⟩
theorem ok13 : TyOK P 13 ty13 := tyOK' (by kernel_rfl) (by kernel_rfl) rfl
abbrev ty14 : TI := ⟨.struct #[{ name := "msg", type := 9, offset := 0, embedded := false, tag := "", pkgPath := "runtime", byteOffset := 0 }, { name := "addr", type := 12, offset := 1, embedded := false, tag := "", pkgPath := "runtime", byteOffset := 16 }], 2, 24, .tuple []⟩
theorem ok14 : TyOK P 14 ty14 := tyOK' (by kernel_rfl) (by kernel_rfl) rfl
abbrev ty15 : TI := ⟨.pointer 158, 1, 8, .tuple []⟩
theorem ok15 : TyOK P 15 ty15 := tyOK' (by kernel_rfl) (by kernel_rfl) rfl
abbrev ty16 : TI := ⟨.pointer 161, 1, 8, .tuple []⟩
theorem ok16 : TyOK P 16 ty16 := tyOK' (by kernel_rfl) (by kernel_rfl) rfl
abbrev ty17 : TI := ⟨.pointer 170, 1, 8, .tuple []⟩
theorem ok17 : TyOK P 17 ty17 := tyOK' (by kernel_rfl) (by kernel_rfl) rfl
abbrev ty18 : TI := ⟨.struct #[{ name := "typ", type := 17, offset := 0, embedded := false, tag := "", pkgPath := "internal/runtime/maps", byteOffset := 0 }], 1, 8, .tuple []⟩
theorem ok18 : TyOK P 18 ty18 := tyOK' (by kernel_rfl) (by kernel_rfl) rfl
abbrev ty19 : TI := ⟨.struct #[{ name := "typ", type := 17, offset := 0, embedded := false, tag := "", pkgPath := "internal/runtime/maps", byteOffset := 0 }], 1, 8, .tuple []⟩
theorem ok19 : TyOK P 19 ty19 := tyOK' (by kernel_rfl) (by kernel_rfl) rfl
abbrev ty21 : TI := ⟨.int .i32, 1, 4, .int .i32 0⟩
theorem ok21 : TyOK P 21 ty21 := tyOK (by kernel_rfl) (by kernel_rfl) (by kernel_rfl)
abbrev ty22 : TI := ⟨.slice 3, 1, 24, .nil⟩
theorem ok22 : TyOK P 22 ty22 := tyOK (by kernel_rfl) (by kernel_rfl) (by kernel_rfl)
abbrev ty25 : TI := ⟨.slice 30, 1, 24, .nil⟩
theorem ok25 : TyOK P 25 ty25 := tyOK (by kernel_rfl) (by kernel_rfl) (by kernel_rfl)
abbrev ty28 : TI := ⟨.slice 127, 1, 24, .nil⟩
theorem ok28 : TyOK P 28 ty28 := tyOK (by kernel_rfl) (by kernel_rfl) (by kernel_rfl)
abbrev ty29 : TI := ⟨.struct #[{ name := "Neg", type := 4, offset := 0, embedded := false, tag := "", pkgPath := "", byteOffset := 0 }, { name := "Num", type := 28, offset := 1, embedded := false, tag := "", pkgPath := "", byteOffset := 8 }, { name := "Den", type := 28, offset := 2, embedded := false, tag := "", pkgPath := "", byteOffset := 32 }], 3, 56, .agg [.bool false, .nil, .nil]⟩
theorem ok29 : TyOK P 29 ty29 := tyOK (by kernel_rfl) (by kernel_rfl) (by kernel_rfl)
abbrev ty30 : TI := ⟨.struct #[{ name := "Neg", type := 4, offset := 0, embedded := false, tag := "", pkgPath := "", byteOffset := 0 }, { name := "Num", type := 28, offset := 1, embedded := false, tag := "", pkgPath := "", byteOffset := 8 }, { name := "Den", type := 28, offset := 2, embedded := false, tag := "", pkgPath := "", byteOffset := 32 }], 3, 56, .rat 0 1⟩
theorem ok30 : TyOK P 30 ty30 := tyOK (by kernel_rfl) (by kernel_rfl) (by kernel_rfl)
abbrev ty33 : TI := ⟨.int .i64, 1, 8, .int .i64 0⟩
theorem ok33 : TyOK P 33 ty33 := tyOK (by kernel_rfl) (by kernel_rfl) (by kernel_rfl)
abbrev ty38 : TI := ⟨.pointer 103, 1, 8, .tuple []⟩
theorem ok38 : TyOK P 38 ty38 := tyOK' (by kernel_rfl) (by kernel_rfl) rfl
abbrev ty40 : TI := ⟨.array 3 30, 9, 168, .agg [.rat 0 1, .rat 0 1, .rat 0 1]⟩
theorem ok40 : TyOK P 40 ty40 := tyOK (by kernel_rfl) (by kernel_rfl) (by kernel_rfl)
abbrev ty41 : TI := ⟨.array 3 30, 9, 168, .agg [.rat 0 1, .rat 0 1, .rat 0 1]⟩
theorem ok41 : TyOK P 41 ty41 := tyOK (by kernel_rfl) (by kernel_rfl) (by kernel_rfl)
abbrev ty58 : TI := ⟨.struct #[{ name := "Lo", type := 30, offset := 0, embedded := false, tag := "", pkgPath := "", byteOffset := 0 }, { name := "Hi", type := 30, offset := 3, embedded := false, tag := "", pkgPath := "", byteOffset := 56 }], 6, 112, .agg [.rat 0 1, .rat 0 1]⟩
theorem ok58 : TyOK P 58 ty58 := tyOK (by kernel_rfl) (by kernel_rfl) (by kernel_rfl)
abbrev ty59 : TI := ⟨.struct #[{ name := "Lo", type := 30, offset := 0, embedded := false, tag := "", pkgPath := "", byteOffset := 0 }, { name := "Hi", type := 30, offset := 3, embedded := false, tag := "", pkgPath := "", byteOffset := 56 }], 6, 112, .agg [.rat 0 1, .rat 0 1]⟩
theorem ok59 : TyOK P 59 ty59 := tyOK (by kernel_rfl) (by kernel_rfl) (by kernel_rfl)
abbrev ty70 : TI := ⟨.array 3 41, 27, 504, .agg [.agg [.rat 0 1, .rat 0 1, .rat 0 1], .agg [.rat 0 1, .rat 0 1, .rat 0 1], .agg [.rat 0 1, .rat 0 1, .rat 0 1]]⟩
theorem ok70 : TyOK P 70 ty70 := tyOK (by kernel_rfl) (by kernel_rfl) (by kernel_rfl)
abbrev ty71 : TI := ⟨.struct #[{ name := "M", type := 70, offset := 0, embedded := false, tag := "", pkgPath := "", byteOffset := 0 }, { name := "T", type := 41, offset := 27, embedded := false, tag := "", pkgPath := "", byteOffset := 504 }], 36, 672, .agg [.agg [.agg [.rat 0 1, .rat 0 1, .rat 0 1], .agg [.rat 0 1, .rat 0 1, .rat 0 1], .agg [.rat 0 1, .rat 0 1, .rat 0 1]], .agg [.rat 0 1, .rat 0 1, .rat 0 1]]⟩
theorem ok71 : TyOK P 71 ty71 := tyOK (by kernel_rfl) (by kernel_rfl) (by kernel_rfl)
abbrev ty72 : TI := ⟨.struct #[{ name := "M", type := 70, offset := 0, embedded := false, tag := "", pkgPath := "", byteOffset := 0 }, { name := "T", type := 41, offset := 27, embedded := false, tag := "", pkgPath := "", byteOffset := 504 }], 36, 672, .agg [.agg [.agg [.rat 0 1, .rat 0 1, .rat 0 1], .agg [.rat 0 1, .rat 0 1, .rat 0 1], .agg [.rat 0 1, .rat 0 1, .rat 0 1]], .agg [.rat 0 1, .rat 0 1, .rat 0 1]]⟩
theorem ok72 : TyOK P 72 ty72 := tyOK (by kernel_rfl) (by kernel_rfl) (by kernel_rfl)
abbrev ty96 : TI := ⟨.struct #[{ name := "N", type := 41, offset := 0, embedded := false, tag := "", pkgPath := "", byteOffset := 0 }, { name := "D", type := 30, offset := 9, embedded := false, tag := "", pkgPath := "", byteOffset := 168 }], 12, 224, .agg [.agg [.rat 0 1, .rat 0 1, .rat 0 1], .rat 0 1]⟩
theorem ok96 : TyOK P 96 ty96 := tyOK (by kernel_rfl) (by kernel_rfl) (by kernel_rfl)
abbrev ty97 : TI := ⟨.struct #[{ name := "N", type := 41, offset := 0, embedded := false, tag := "", pkgPath := "", byteOffset := 0 }, { name := "D", type := 30, offset := 9, embedded := false, tag := "", pkgPath := "", byteOffset := 168 }], 12, 224, .agg [.agg [.rat 0 1, .rat 0 1, .rat 0 1], .rat 0 1]⟩
theorem ok97 : TyOK P 97 ty97 := tyOK (by kernel_rfl) (by kernel_rfl) (by kernel_rfl)
abbrev ty102 : TI := ⟨.struct #[{ name := "L", type := 22, offset := 0, embedded := false, tag := "", pkgPath := "", byteOffset := 0 }, { name := "At", type := 3, offset := 1, embedded := false, tag := "", pkgPath := "", byteOffset := 24 }], 2, 32, .agg [.nil, .int .i64 0]⟩
theorem ok102 : TyOK P 102 ty102 := tyOK (by kernel_rfl) (by kernel_rfl) (by kernel_rfl)
abbrev ty103 : TI := ⟨.struct #[{ name := "L", type := 22, offset := 0, embedded := false, tag := "", pkgPath := "", byteOffset := 0 }, { name := "At", type := 3, offset := 1, embedded := false, tag := "", pkgPath := "", byteOffset := 24 }], 2, 32, .agg [.nil, .int .i64 0]⟩
theorem ok103 : TyOK P 103 ty103 := tyOK (by kernel_rfl) (by kernel_rfl) (by kernel_rfl)
abbrev ty123 : TI := ⟨.int .u64, 1, 8, .int .u64 0⟩
theorem ok123 : TyOK P 123 ty123 := tyOK (by kernel_rfl) (by kernel_rfl) (by kernel_rfl)
abbrev ty127 : TI := ⟨.int .u32, 1, 4, .int .u32 0⟩
theorem ok127 : TyOK P 127 ty127 := tyOK (by kernel_rfl) (by kernel_rfl) (by kernel_rfl)
abbrev ty137 : TI := ⟨.int .u64, 1, 8, .int .u64 0⟩
theorem ok137 : TyOK P 137 ty137 := tyOK (by kernel_rfl) (by kernel_rfl) (by kernel_rfl)
abbrev ty141 : TI := ⟨.slice 5, 1, 24, .nil⟩
theorem ok141 : TyOK P 141 ty141 := tyOK (by kernel_rfl) (by kernel_rfl) (by kernel_rfl)
abbrev ty157 : TI := ⟨.struct #[{ name := "_interface", type := 17, offset := 0, embedded := false, tag := "", pkgPath := "runtime", byteOffset := 0 }, { name := "concrete", type := 17, offset := 1, embedded := false, tag := "", pkgPath := "runtime", byteOffset := 8 }, { name := "asserted", type := 17, offset := 2, embedded := false, tag := "", pkgPath := "runtime", byteOffset := 16 }, { name := "missingMethod", type := 9, offset := 3, embedded := false, tag := "", pkgPath := "runtime", byteOffset := 24 }], 4, 40, .tuple []⟩
theorem ok157 : TyOK P 157 ty157 := tyOK' (by kernel_rfl) (by kernel_rfl) rfl
abbrev ty158 : TI := ⟨.struct #[{ name := "_interface", type := 17, offset := 0, embedded := false, tag := "", pkgPath := "runtime", byteOffset := 0 }, { name := "concrete", type := 17, offset := 1, embedded := false, tag := "", pkgPath := "runtime", byteOffset := 8 }, { name := "asserted", type := 17, offset := 2, embedded := false, tag := "", pkgPath := "runtime", byteOffset := 16 }, { name := "missingMethod", type := 9, offset := 3, embedded := false, tag := "", pkgPath := "runtime", byteOffset := 24 }], 4, 40, .tuple []⟩
theorem ok158 : TyOK P 158 ty158 := tyOK' (by kernel_rfl) (by kernel_rfl) rfl
abbrev ty163 : TI := ⟨.int .u8, 1, 1, .int .u8 0⟩
theorem ok163 : TyOK P 163 ty163 := tyOK (by kernel_rfl) (by kernel_rfl) (by kernel_rfl)
abbrev ty164 : TI := ⟨.int .u8, 1, 1, .int .u8 0⟩
theorem ok164 : TyOK P 164 ty164 := tyOK (by kernel_rfl) (by kernel_rfl) (by kernel_rfl)
abbrev ty166 : TI := ⟨.pointer 5, 1, 8, .tuple []⟩
theorem ok166 : TyOK P 166 ty166 := tyOK' (by kernel_rfl) (by kernel_rfl) rfl
abbrev ty167 : TI := ⟨.int .i32, 1, 4, .int .i32 0⟩
theorem ok167 : TyOK P 167 ty167 := tyOK (by kernel_rfl) (by kernel_rfl) (by kernel_rfl)
abbrev ty168 : TI := ⟨.int .i32, 1, 4, .int .i32 0⟩
theorem ok168 : TyOK P 168 ty168 := tyOK (by kernel_rfl) (by kernel_rfl) (by kernel_rfl)
abbrev ty169 : TI := ⟨.struct #[{ name := "Size_", type := 12, offset := 0, embedded := false, tag := "", pkgPath := "", byteOffset := 0 }, { name := "PtrBytes", type := 12, offset := 1, embedded := false, tag := "", pkgPath := "", byteOffset := 8 }, { name := "Hash", type := 127, offset := 2, embedded := false, tag := "", pkgPath := "", byteOffset := 16 }, { name := "TFlag", type := 163, offset := 3, embedded := false, tag := "", pkgPath := "", byteOffset := 20 }, { name := "Align_", type := 5, offset := 4, embedded := false, tag := "", pkgPath := "", byteOffset := 21 }, { name := "FieldAlign_", type := 5, offset := 5, embedded := false, tag := "", pkgPath := "", byteOffset := 22 }, { name := "Kind_", type := 164, offset := 6, embedded := false, tag := "", pkgPath := "", byteOffset := 23 }, { name := "Equal", type := 165, offset := 7, embedded := false, tag := "", pkgPath := "", byteOffset := 24 }, { name := "GCData", type := 166, offset := 8, embedded := false, tag := "", pkgPath := "", byteOffset := 32 }, { name := "Str", type := 167, offset := 9, embedded := false, tag := "", pkgPath := "", byteOffset := 40 }, { name := "PtrToThis", type := 168, offset := 10, embedded := false, tag := "", pkgPath := "", byteOffset := 44 }], 11, 48, .tuple []⟩
theorem ok169 : TyOK P 169 ty169 := tyOK' (by kernel_rfl) (by kernel_rfl) rfl
abbrev ty170 : TI := ⟨.struct #[{ name := "Size_", type := 12, offset := 0, embedded := false, tag := "", pkgPath := "", byteOffset := 0 }, { name := "PtrBytes", type := 12, offset := 1, embedded := false, tag := "", pkgPath := "", byteOffset := 8 }, { name := "Hash", type := 127, offset := 2, embedded := false, tag := "", pkgPath := "", byteOffset := 16 }, { name := "TFlag", type := 163, offset := 3, embedded := false, tag := "", pkgPath := "", byteOffset := 20 }, { name := "Align_", type := 5, offset := 4, embedded := false, tag := "", pkgPath := "", byteOffset := 21 }, { name := "FieldAlign_", type := 5, offset := 5, embedded := false, tag := "", pkgPath := "", byteOffset := 22 }, { name := "Kind_", type := 164, offset := 6, embedded := false, tag := "", pkgPath := "", byteOffset := 23 }, { name := "Equal", type := 165, offset := 7, embedded := false, tag := "", pkgPath := "", byteOffset := 24 }, { name := "GCData", type := 166, offset := 8, embedded := false, tag := "", pkgPath := "", byteOffset := 32 }, { name := "Str", type := 167, offset := 9, embedded := false, tag := "", pkgPath := "", byteOffset := 40 }, { name := "PtrToThis", type := 168, offset := 10, embedded := false, tag := "", pkgPath := "", byteOffset := 44 }], 11, 48, .tuple []⟩
theorem ok170 : TyOK P 170 ty170 := tyOK' (by kernel_rfl) (by kernel_rfl) rfl
abbrev T : Types := [(2, ty2), (3, ty3), (4, ty4), (5, ty5), (6, ty6), (7, ty7), (8, ty8), (9, ty9), (10, ty10), (11, ty11), (12, ty12), (13, ty13), (14, ty14), (15, ty15), (16, ty16), (17, ty17), (18, ty18), (19, ty19), (21, ty21), (22, ty22), (25, ty25), (28, ty28), (29, ty29), (30, ty30), (33, ty33), (38, ty38), (40, ty40), (41, ty41), (58, ty58), (59, ty59), (70, ty70), (71, ty71), (72, ty72), (96, ty96), (97, ty97), (102, ty102), (103, ty103), (123, ty123), (127, ty127), (137, ty137), (141, ty141), (157, ty157), (158, ty158), (163, ty163), (164, ty164), (166, ty166), (167, ty167), (168, ty168), (169, ty169), (170, ty170)]
theorem hT : TOK P T := tok_cons ok2 (tok_cons ok3 (tok_cons ok4 (tok_cons ok5 (tok_cons ok6 (tok_cons ok7 (tok_cons ok8 (tok_cons ok9 (tok_cons ok10 (tok_cons ok11 (tok_cons ok12 (tok_cons ok13 (tok_cons ok14 (tok_cons ok15 (tok_cons ok16 (tok_cons ok17 (tok_cons ok18 (tok_cons ok19 (tok_cons ok21 (tok_cons ok22 (tok_cons ok25 (tok_cons ok28 (tok_cons ok29 (tok_cons ok30 (tok_cons ok33 (tok_cons ok38 (tok_cons ok40 (tok_cons ok41 (tok_cons ok58 (tok_cons ok59 (tok_cons ok70 (tok_cons ok71 (tok_cons ok72 (tok_cons ok96 (tok_cons ok97 (tok_cons ok102 (tok_cons ok103 (tok_cons ok123 (tok_cons ok127 (tok_cons ok137 (tok_cons ok141 (tok_cons ok157 (tok_cons ok158 (tok_cons ok163 (tok_cons ok164 (tok_cons ok166 (tok_cons ok167 (tok_cons ok168 (tok_cons ok169 (tok_cons ok170 (tok_nil))))))))))))))))))))))))))))))))))))))))))))))))))
end Go.Am.N
