/- The seat's names: the numbers of functions, the types. Written by a program. -/
import Derived.Test.YtbghpkgbokbmlaaGreatZ1
import Derived.Test.YtbghpkgbokbmlaaGreatProg
import Derived.KernelRfl
set_option linter.unusedVariables false
namespace Go.Am.N
open Go.Proofs
noncomputable abbrev P : Program := Tryz.prog
theorem hm : P.follows .mixedOrders = true := by kernel_rfl
abbrev law14_ShapesCircles : FuncId := 5
noncomputable abbrev fn_law14_ShapesCircles : Func := Tryz.f5
theorem get_law14_ShapesCircles : P.funcs[law14_ShapesCircles]? = some fn_law14_ShapesCircles := Tryz.func5
abbrev made_Light : FuncId := 10
noncomputable abbrev fn_made_Light : Func := Tryz.f10
theorem get_made_Light : P.funcs[made_Light]? = some fn_made_Light := Tryz.func10
abbrev law14_awake : FuncId := 11
noncomputable abbrev fn_law14_awake : Func := Tryz.f11
theorem get_law14_awake : P.funcs[law14_awake]? = some fn_law14_awake := Tryz.func11
abbrev made_Roll : FuncId := 12
noncomputable abbrev fn_made_Roll : Func := Tryz.f12
theorem get_made_Roll : P.funcs[made_Roll]? = some fn_made_Roll := Tryz.func12
abbrev made_Mod : FuncId := 14
noncomputable abbrev fn_made_Mod : Func := Tryz.f14
theorem get_made_Mod : P.funcs[made_Mod]? = some fn_made_Mod := Tryz.func14
abbrev shapes_Revolve : FuncId := 15
noncomputable abbrev fn_shapes_Revolve : Func := Tryz.f15
theorem get_shapes_Revolve : P.funcs[shapes_Revolve]? = some fn_shapes_Revolve := Tryz.func15
abbrev made_Within : FuncId := 18
noncomputable abbrev fn_made_Within : Func := Tryz.f18
theorem get_made_Within : P.funcs[made_Within]? = some fn_made_Within := Tryz.func18
abbrev ref10_Eval : FuncId := 20
noncomputable abbrev fn_ref10_Eval : Func := Tryz.f20
theorem get_ref10_Eval : P.funcs[ref10_Eval]? = some fn_ref10_Eval := Tryz.func20
abbrev ref02_Neg : FuncId := 21
noncomputable abbrev fn_ref02_Neg : Func := Tryz.f21
theorem get_ref02_Neg : P.funcs[ref02_Neg]? = some fn_ref02_Neg := Tryz.func21
abbrev ref02_Same : FuncId := 22
noncomputable abbrev fn_ref02_Same : Func := Tryz.f22
theorem get_ref02_Same : P.funcs[ref02_Same]? = some fn_ref02_Same := Tryz.func22
abbrev ref04_Same : FuncId := 24
noncomputable abbrev fn_ref04_Same : Func := Tryz.f24
theorem get_ref04_Same : P.funcs[ref04_Same]? = some fn_ref04_Same := Tryz.func24
abbrev shapes_Rotation : FuncId := 25
noncomputable abbrev fn_shapes_Rotation : Func := Tryz.f25
theorem get_shapes_Rotation : P.funcs[shapes_Rotation]? = some fn_shapes_Rotation := Tryz.func25
abbrev made_Dice_Point : FuncId := 27
noncomputable abbrev fn_made_Dice_Point : Func := Tryz.f27
theorem get_made_Dice_Point : P.funcs[made_Dice_Point]? = some fn_made_Dice_Point := Tryz.func27
abbrev ref04_Sub : FuncId := 28
noncomputable abbrev fn_ref04_Sub : Func := Tryz.f28
theorem get_ref04_Sub : P.funcs[ref04_Sub]? = some fn_ref04_Sub := Tryz.func28
abbrev vector_Apply : FuncId := 29
noncomputable abbrev fn_vector_Apply : Func := Tryz.f29
theorem get_vector_Apply : P.funcs[vector_Apply]? = some fn_vector_Apply := Tryz.func29
abbrev ref04_Dot : FuncId := 31
noncomputable abbrev fn_ref04_Dot : Func := Tryz.f31
theorem get_ref04_Dot : P.funcs[ref04_Dot]? = some fn_ref04_Dot := Tryz.func31
abbrev ref02_Int : FuncId := 33
noncomputable abbrev fn_ref02_Int : Func := Tryz.f33
theorem get_ref02_Int : P.funcs[ref02_Int]? = some fn_ref02_Int := Tryz.func33
abbrev made_Dice_Number : FuncId := 36
noncomputable abbrev fn_made_Dice_Number : Func := Tryz.f36
theorem get_made_Dice_Number : P.funcs[made_Dice_Number]? = some fn_made_Dice_Number := Tryz.func36
abbrev shapes_Circle : FuncId := 37
noncomputable abbrev fn_shapes_Circle : Func := Tryz.f37
theorem get_shapes_Circle : P.funcs[shapes_Circle]? = some fn_shapes_Circle := Tryz.func37
abbrev ref02_Sign : FuncId := 38
noncomputable abbrev fn_ref02_Sign : Func := Tryz.f38
theorem get_ref02_Sign : P.funcs[ref02_Sign]? = some fn_ref02_Sign := Tryz.func38
abbrev ref10_Check : FuncId := 39
noncomputable abbrev fn_ref10_Check : Func := Tryz.f39
theorem get_ref10_Check : P.funcs[ref10_Check]? = some fn_ref10_Check := Tryz.func39
abbrev ref10_Domain : FuncId := 40
noncomputable abbrev fn_ref10_Domain : Func := Tryz.f40
theorem get_ref10_Domain : P.funcs[ref10_Domain]? = some fn_ref10_Domain := Tryz.func40
abbrev ref10_Ends : FuncId := 41
noncomputable abbrev fn_ref10_Ends : Func := Tryz.f41
theorem get_ref10_Ends : P.funcs[ref10_Ends]? = some fn_ref10_Ends := Tryz.func41
abbrev ref02_Mul : FuncId := 42
noncomputable abbrev fn_ref02_Mul : Func := Tryz.f42
theorem get_ref02_Mul : P.funcs[ref02_Mul]? = some fn_ref02_Mul := Tryz.func42
abbrev ref10_Same : FuncId := 46
noncomputable abbrev fn_ref10_Same : Func := Tryz.f46
theorem get_ref10_Same : P.funcs[ref10_Same]? = some fn_ref10_Same := Tryz.func46
abbrev shapes_Line : FuncId := 47
noncomputable abbrev fn_shapes_Line : Func := Tryz.f47
theorem get_shapes_Line : P.funcs[shapes_Line]? = some fn_shapes_Line := Tryz.func47
abbrev made_Part : FuncId := 59
noncomputable abbrev fn_made_Part : Func := Tryz.f59
theorem get_made_Part : P.funcs[made_Part]? = some fn_made_Part := Tryz.func59
abbrev ref04_Add : FuncId := 60
noncomputable abbrev fn_ref04_Add : Func := Tryz.f60
theorem get_ref04_Add : P.funcs[ref04_Add]? = some fn_ref04_Add := Tryz.func60
abbrev ref04_Scale : FuncId := 61
noncomputable abbrev fn_ref04_Scale : Func := Tryz.f61
theorem get_ref04_Scale : P.funcs[ref04_Scale]? = some fn_ref04_Scale := Tryz.func61
abbrev made_Dice_Next : FuncId := 67
noncomputable abbrev fn_made_Dice_Next : Func := Tryz.f67
theorem get_made_Dice_Next : P.funcs[made_Dice_Next]? = some fn_made_Dice_Next := Tryz.func67
abbrev ref14_Quarter : FuncId := 79
noncomputable abbrev fn_ref14_Quarter : Func := Tryz.f79
theorem get_ref14_Quarter : P.funcs[ref14_Quarter]? = some fn_ref14_Quarter := Tryz.func79
abbrev ref02_Frac : FuncId := 80
noncomputable abbrev fn_ref02_Frac : Func := Tryz.f80
theorem get_ref02_Frac : P.funcs[ref02_Frac]? = some fn_ref02_Frac := Tryz.func80
abbrev ref04_Unit : FuncId := 81
noncomputable abbrev fn_ref04_Unit : Func := Tryz.f81
theorem get_ref04_Unit : P.funcs[ref04_Unit]? = some fn_ref04_Unit := Tryz.func81
abbrev ref02_Text : FuncId := 82
noncomputable abbrev fn_ref02_Text : Func := Tryz.f82
theorem get_ref02_Text : P.funcs[ref02_Text]? = some fn_ref02_Text := Tryz.func82
abbrev shapes_Quarter : FuncId := 83
noncomputable abbrev fn_shapes_Quarter : Func := Tryz.f83
theorem get_shapes_Quarter : P.funcs[shapes_Quarter]? = some fn_shapes_Quarter := Tryz.func83
abbrev shapes_clamped : FuncId := 86
noncomputable abbrev fn_shapes_clamped : Func := Tryz.f86
theorem get_shapes_clamped : P.funcs[shapes_clamped]? = some fn_shapes_clamped := Tryz.func86
abbrev spline_Copied : FuncId := 87
noncomputable abbrev fn_spline_Copied : Func := Tryz.f87
theorem get_spline_Copied : P.funcs[spline_Copied]? = some fn_spline_Copied := Tryz.func87
abbrev shapes_round : FuncId := 88
noncomputable abbrev fn_shapes_round : Func := Tryz.f88
theorem get_shapes_round : P.funcs[shapes_round]? = some fn_shapes_round := Tryz.func88
abbrev rational_Int : FuncId := 89
noncomputable abbrev fn_rational_Int : Func := Tryz.f89
theorem get_rational_Int : P.funcs[rational_Int]? = some fn_rational_Int := Tryz.func89
abbrev rational_Sub : FuncId := 90
noncomputable abbrev fn_rational_Sub : Func := Tryz.f90
theorem get_rational_Sub : P.funcs[rational_Sub]? = some fn_rational_Sub := Tryz.func90
abbrev rational_Mul : FuncId := 91
noncomputable abbrev fn_rational_Mul : Func := Tryz.f91
theorem get_rational_Mul : P.funcs[rational_Mul]? = some fn_rational_Mul := Tryz.func91
abbrev rational_Add : FuncId := 92
noncomputable abbrev fn_rational_Add : Func := Tryz.f92
theorem get_rational_Add : P.funcs[rational_Add]? = some fn_rational_Add := Tryz.func92
abbrev ref02_Valids : FuncId := 93
noncomputable abbrev fn_ref02_Valids : Func := Tryz.f93
theorem get_ref02_Valids : P.funcs[ref02_Valids]? = some fn_ref02_Valids := Tryz.func93
abbrev ref04_Valid : FuncId := 94
noncomputable abbrev fn_ref04_Valid : Func := Tryz.f94
theorem get_ref04_Valid : P.funcs[ref04_Valid]? = some fn_ref04_Valid := Tryz.func94
abbrev ref02_Valid : FuncId := 95
noncomputable abbrev fn_ref02_Valid : Func := Tryz.f95
theorem get_ref02_Valid : P.funcs[ref02_Valid]? = some fn_ref02_Valid := Tryz.func95
abbrev ref08_Check : FuncId := 96
noncomputable abbrev fn_ref08_Check : Func := Tryz.f96
theorem get_ref08_Check : P.funcs[ref08_Check]? = some fn_ref08_Check := Tryz.func96
abbrev ref08_Poles : FuncId := 97
noncomputable abbrev fn_ref08_Poles : Func := Tryz.f97
theorem get_ref08_Poles : P.funcs[ref08_Poles]? = some fn_ref08_Poles := Tryz.func97
abbrev ref10_Short : FuncId := 98
noncomputable abbrev fn_ref10_Short : Func := Tryz.f98
theorem get_ref10_Short : P.funcs[ref10_Short]? = some fn_ref10_Short := Tryz.func98
abbrev ref02_Add : FuncId := 99
noncomputable abbrev fn_ref02_Add : Func := Tryz.f99
theorem get_ref02_Add : P.funcs[ref02_Add]? = some fn_ref02_Add := Tryz.func99
abbrev ref02_Sub : FuncId := 100
noncomputable abbrev fn_ref02_Sub : Func := Tryz.f100
theorem get_ref02_Sub : P.funcs[ref02_Sub]? = some fn_ref02_Sub := Tryz.func100
abbrev ref08_Interval : FuncId := 102
noncomputable abbrev fn_ref08_Interval : Func := Tryz.f102
theorem get_ref08_Interval : P.funcs[ref08_Interval]? = some fn_ref08_Interval := Tryz.func102
abbrev ref10_Drop : FuncId := 103
noncomputable abbrev fn_ref10_Drop : Func := Tryz.f103
theorem get_ref10_Drop : P.funcs[ref10_Drop]? = some fn_ref10_Drop := Tryz.func103
abbrev ref10_Homogeneous : FuncId := 104
noncomputable abbrev fn_ref10_Homogeneous : Func := Tryz.f104
theorem get_ref10_Homogeneous : P.funcs[ref10_Homogeneous]? = some fn_ref10_Homogeneous := Tryz.func104
abbrev ref01_Cmp : FuncId := 105
noncomputable abbrev fn_ref01_Cmp : Func := Tryz.f105
theorem get_ref01_Cmp : P.funcs[ref01_Cmp]? = some fn_ref01_Cmp := Tryz.func105
abbrev vector_Identity : FuncId := 106
noncomputable abbrev fn_vector_Identity : Func := Tryz.f106
theorem get_vector_Identity : P.funcs[vector_Identity]? = some fn_vector_Identity := Tryz.func106
abbrev rational_Quo : FuncId := 107
noncomputable abbrev fn_rational_Quo : Func := Tryz.f107
theorem get_rational_Quo : P.funcs[rational_Quo]? = some fn_rational_Quo := Tryz.func107
abbrev rational_Neg : FuncId := 108
noncomputable abbrev fn_rational_Neg : Func := Tryz.f108
theorem get_rational_Neg : P.funcs[rational_Neg]? = some fn_rational_Neg := Tryz.func108
abbrev made_Dice_number : FuncId := 109
noncomputable abbrev fn_made_Dice_number : Func := Tryz.f109
theorem get_made_Dice_number : P.funcs[made_Dice_number]? = some fn_made_Dice_number := Tryz.func109
abbrev vector_Add : FuncId := 110
noncomputable abbrev fn_vector_Add : Func := Tryz.f110
theorem get_vector_Add : P.funcs[vector_Add]? = some fn_vector_Add := Tryz.func110
abbrev vector_Turn : FuncId := 111
noncomputable abbrev fn_vector_Turn : Func := Tryz.f111
theorem get_vector_Turn : P.funcs[vector_Turn]? = some fn_vector_Turn := Tryz.func111
abbrev ref02_size : FuncId := 114
noncomputable abbrev fn_ref02_size : Func := Tryz.f114
theorem get_ref02_size : P.funcs[ref02_size]? = some fn_ref02_size := Tryz.func114
abbrev ref02_SameList : FuncId := 115
noncomputable abbrev fn_ref02_SameList : Func := Tryz.f115
theorem get_ref02_SameList : P.funcs[ref02_SameList]? = some fn_ref02_SameList := Tryz.func115
abbrev ref10_SamePoles : FuncId := 116
noncomputable abbrev fn_ref10_SamePoles : Func := Tryz.f116
theorem get_ref10_SamePoles : P.funcs[ref10_SamePoles]? = some fn_ref10_SamePoles := Tryz.func116
abbrev rational_Sign : FuncId := 119
noncomputable abbrev fn_rational_Sign : Func := Tryz.f119
theorem get_rational_Sign : P.funcs[rational_Sign]? = some fn_rational_Sign := Tryz.func119
abbrev shapes_pole : FuncId := 120
noncomputable abbrev fn_shapes_pole : Func := Tryz.f120
theorem get_shapes_pole : P.funcs[shapes_pole]? = some fn_shapes_pole := Tryz.func120
abbrev vector_Scale : FuncId := 121
noncomputable abbrev fn_vector_Scale : Func := Tryz.f121
theorem get_vector_Scale : P.funcs[vector_Scale]? = some fn_vector_Scale := Tryz.func121
abbrev shapes_ints : FuncId := 122
noncomputable abbrev fn_shapes_ints : Func := Tryz.f122
theorem get_shapes_ints : P.funcs[shapes_ints]? = some fn_shapes_ints := Tryz.func122
abbrev ref10_shortPoles : FuncId := 123
noncomputable abbrev fn_ref10_shortPoles : Func := Tryz.f123
theorem get_ref10_shortPoles : P.funcs[ref10_shortPoles]? = some fn_ref10_shortPoles := Tryz.func123
abbrev ref02_reduce : FuncId := 124
noncomputable abbrev fn_ref02_reduce : Func := Tryz.f124
theorem get_ref02_reduce : P.funcs[ref02_reduce]? = some fn_ref02_reduce := Tryz.func124
abbrev ref01_Mul : FuncId := 125
noncomputable abbrev fn_ref01_Mul : Func := Tryz.f125
theorem get_ref01_Mul : P.funcs[ref01_Mul]? = some fn_ref01_Mul := Tryz.func125
abbrev ref02_Den : FuncId := 126
noncomputable abbrev fn_ref02_Den : Func := Tryz.f126
theorem get_ref02_Den : P.funcs[ref02_Den]? = some fn_ref02_Den := Tryz.func126
abbrev ref14_ints : FuncId := 127
noncomputable abbrev fn_ref14_ints : Func := Tryz.f127
theorem get_ref14_ints : P.funcs[ref14_ints]? = some fn_ref14_ints := Tryz.func127
abbrev ref14_pole : FuncId := 128
noncomputable abbrev fn_ref14_pole : Func := Tryz.f128
theorem get_ref14_pole : P.funcs[ref14_pole]? = some fn_ref14_pole := Tryz.func128
abbrev ref14_at : FuncId := 131
noncomputable abbrev fn_ref14_at : Func := Tryz.f131
theorem get_ref14_at : P.funcs[ref14_at]? = some fn_ref14_at := Tryz.func131
abbrev ref02_Over : FuncId := 133
noncomputable abbrev fn_ref02_Over : Func := Tryz.f133
theorem get_ref02_Over : P.funcs[ref02_Over]? = some fn_ref02_Over := Tryz.func133
abbrev rational_Same : FuncId := 135
noncomputable abbrev fn_rational_Same : Func := Tryz.f135
theorem get_rational_Same : P.funcs[rational_Same]? = some fn_rational_Same := Tryz.func135
abbrev rational_Cmp : FuncId := 153
noncomputable abbrev fn_rational_Cmp : Func := Tryz.f153
theorem get_rational_Cmp : P.funcs[rational_Cmp]? = some fn_rational_Cmp := Tryz.func153
abbrev ref02_Cmp : FuncId := 154
noncomputable abbrev fn_ref02_Cmp : Func := Tryz.f154
theorem get_ref02_Cmp : P.funcs[ref02_Cmp]? = some fn_ref02_Cmp := Tryz.func154
abbrev ref02_Make : FuncId := 157
noncomputable abbrev fn_ref02_Make : Func := Tryz.f157
theorem get_ref02_Make : P.funcs[ref02_Make]? = some fn_ref02_Make := Tryz.func157
abbrev ref01_Text : FuncId := 158
noncomputable abbrev fn_ref01_Text : Func := Tryz.f158
theorem get_ref01_Text : P.funcs[ref01_Text]? = some fn_ref01_Text := Tryz.func158
abbrev rational_reduce : FuncId := 159
noncomputable abbrev fn_rational_reduce : Func := Tryz.f159
theorem get_rational_reduce : P.funcs[rational_reduce]? = some fn_rational_reduce := Tryz.func159
abbrev rational_size : FuncId := 160
noncomputable abbrev fn_rational_size : Func := Tryz.f160
theorem get_rational_size : P.funcs[rational_size]? = some fn_rational_size := Tryz.func160
abbrev rational_one : FuncId := 161
noncomputable abbrev fn_rational_one : Func := Tryz.f161
theorem get_rational_one : P.funcs[rational_one]? = some fn_rational_one := Tryz.func161
abbrev rational_add : FuncId := 162
noncomputable abbrev fn_rational_add : Func := Tryz.f162
theorem get_rational_add : P.funcs[rational_add]? = some fn_rational_add := Tryz.func162
abbrev rational_parts : FuncId := 163
noncomputable abbrev fn_rational_parts : Func := Tryz.f163
theorem get_rational_parts : P.funcs[rational_parts]? = some fn_rational_parts := Tryz.func163
abbrev rational_short : FuncId := 164
noncomputable abbrev fn_rational_short : Func := Tryz.f164
theorem get_rational_short : P.funcs[rational_short]? = some fn_rational_short := Tryz.func164
abbrev natural_Mul : FuncId := 165
noncomputable abbrev fn_natural_Mul : Func := Tryz.f165
theorem get_natural_Mul : P.funcs[natural_Mul]? = some fn_natural_Mul := Tryz.func165
abbrev rational_den : FuncId := 166
noncomputable abbrev fn_rational_den : Func := Tryz.f166
theorem get_rational_den : P.funcs[rational_den]? = some fn_rational_den := Tryz.func166
abbrev ref01_Valid : FuncId := 167
noncomputable abbrev fn_ref01_Valid : Func := Tryz.f167
theorem get_ref01_Valid : P.funcs[ref01_Valid]? = some fn_ref01_Valid := Tryz.func167
abbrev ref01_Gcd : FuncId := 168
noncomputable abbrev fn_ref01_Gcd : Func := Tryz.f168
theorem get_ref01_Gcd : P.funcs[ref01_Gcd]? = some fn_ref01_Gcd := Tryz.func168
abbrev ref08_Distinct : FuncId := 169
noncomputable abbrev fn_ref08_Distinct : Func := Tryz.f169
theorem get_ref08_Distinct : P.funcs[ref08_Distinct]? = some fn_ref08_Distinct := Tryz.func169
abbrev ref08_Times : FuncId := 170
noncomputable abbrev fn_ref08_Times : Func := Tryz.f170
theorem get_ref08_Times : P.funcs[ref08_Times]? = some fn_ref08_Times := Tryz.func170
abbrev ref02_Bits : FuncId := 171
noncomputable abbrev fn_ref02_Bits : Func := Tryz.f171
theorem get_ref02_Bits : P.funcs[ref02_Bits]? = some fn_ref02_Bits := Tryz.func171
abbrev ref01_Add : FuncId := 172
noncomputable abbrev fn_ref01_Add : Func := Tryz.f172
theorem get_ref01_Add : P.funcs[ref01_Add]? = some fn_ref01_Add := Tryz.func172
abbrev ref01_Sub : FuncId := 173
noncomputable abbrev fn_ref01_Sub : Func := Tryz.f173
theorem get_ref01_Sub : P.funcs[ref01_Sub]? = some fn_ref01_Sub := Tryz.func173
abbrev ref09_Values : FuncId := 176
noncomputable abbrev fn_ref09_Values : Func := Tryz.f176
theorem get_ref09_Values : P.funcs[ref09_Values]? = some fn_ref09_Values := Tryz.func176
abbrev ref10_Lift : FuncId := 177
noncomputable abbrev fn_ref10_Lift : Func := Tryz.f177
theorem get_ref10_Lift : P.funcs[ref10_Lift]? = some fn_ref10_Lift := Tryz.func177
abbrev rational_copied : FuncId := 178
noncomputable abbrev fn_rational_copied : Func := Tryz.f178
theorem get_rational_copied : P.funcs[rational_copied]? = some fn_rational_copied := Tryz.func178
abbrev vector_each : FuncId := 179
noncomputable abbrev fn_vector_each : Func := Tryz.f179
theorem get_vector_each : P.funcs[vector_each]? = some fn_vector_each := Tryz.func179
abbrev vector_Dot : FuncId := 180
noncomputable abbrev fn_vector_Dot : Func := Tryz.f180
theorem get_vector_Dot : P.funcs[vector_Dot]? = some fn_vector_Dot := Tryz.func180
abbrev ref01_Of : FuncId := 183
noncomputable abbrev fn_ref01_Of : Func := Tryz.f183
theorem get_ref01_Of : P.funcs[ref01_Of]? = some fn_ref01_Of := Tryz.func183
abbrev natural_Bits : FuncId := 184
noncomputable abbrev fn_natural_Bits : Func := Tryz.f184
theorem get_natural_Bits : P.funcs[natural_Bits]? = some fn_natural_Bits := Tryz.func184
abbrev ref01_Trim : FuncId := 185
noncomputable abbrev fn_ref01_Trim : Func := Tryz.f185
theorem get_ref01_Trim : P.funcs[ref01_Trim]? = some fn_ref01_Trim := Tryz.func185
abbrev ref01_Div : FuncId := 186
noncomputable abbrev fn_ref01_Div : Func := Tryz.f186
theorem get_ref01_Div : P.funcs[ref01_Div]? = some fn_ref01_Div := Tryz.func186
abbrev ref02_Quo : FuncId := 187
noncomputable abbrev fn_ref02_Quo : Func := Tryz.f187
theorem get_ref02_Quo : P.funcs[ref02_Quo]? = some fn_ref02_Quo := Tryz.func187
abbrev slices_Equal_uint32_uint32 : FuncId := 188
noncomputable abbrev fn_slices_Equal_uint32_uint32 : Func := Tryz.f188
theorem get_slices_Equal_uint32_uint32 : P.funcs[slices_Equal_uint32_uint32]? = some fn_slices_Equal_uint32_uint32 := Tryz.func188
abbrev rational_Max : FuncId := 190
noncomputable abbrev fn_rational_Max : Func := Tryz.f190
theorem get_rational_Max : P.funcs[rational_Max]? = some fn_rational_Max := Tryz.func190
abbrev rational_Min : FuncId := 191
noncomputable abbrev fn_rational_Min : Func := Tryz.f191
theorem get_rational_Min : P.funcs[rational_Min]? = some fn_rational_Min := Tryz.func191
abbrev natural_Cmp : FuncId := 196
noncomputable abbrev fn_natural_Cmp : Func := Tryz.f196
theorem get_natural_Cmp : P.funcs[natural_Cmp]? = some fn_natural_Cmp := Tryz.func196
abbrev ref01_byLimb : FuncId := 199
noncomputable abbrev fn_ref01_byLimb : Func := Tryz.f199
theorem get_ref01_byLimb : P.funcs[ref01_byLimb]? = some fn_ref01_byLimb := Tryz.func199
abbrev rational_word : FuncId := 200
noncomputable abbrev fn_rational_word : Func := Tryz.f200
theorem get_rational_word : P.funcs[rational_word]? = some fn_rational_word := Tryz.func200
abbrev natural_Gcd : FuncId := 201
noncomputable abbrev fn_natural_Gcd : Func := Tryz.f201
theorem get_natural_Gcd : P.funcs[natural_Gcd]? = some fn_natural_Gcd := Tryz.func201
abbrev natural_Div : FuncId := 202
noncomputable abbrev fn_natural_Div : Func := Tryz.f202
theorem get_natural_Div : P.funcs[natural_Div]? = some fn_natural_Div := Tryz.func202
abbrev natural_Add : FuncId := 203
noncomputable abbrev fn_natural_Add : Func := Tryz.f203
theorem get_natural_Add : P.funcs[natural_Add]? = some fn_natural_Add := Tryz.func203
abbrev natural_Of : FuncId := 204
noncomputable abbrev fn_natural_Of : Func := Tryz.f204
theorem get_natural_Of : P.funcs[natural_Of]? = some fn_natural_Of := Tryz.func204
abbrev math_bits_Add64 : FuncId := 205
noncomputable abbrev fn_math_bits_Add64 : Func := Tryz.f205
theorem get_math_bits_Add64 : P.funcs[math_bits_Add64]? = some fn_math_bits_Add64 := Tryz.func205
abbrev natural_Sub : FuncId := 206
noncomputable abbrev fn_natural_Sub : Func := Tryz.f206
theorem get_natural_Sub : P.funcs[natural_Sub]? = some fn_natural_Sub := Tryz.func206
abbrev rational_divisor : FuncId := 207
noncomputable abbrev fn_rational_divisor : Func := Tryz.f207
theorem get_rational_divisor : P.funcs[rational_divisor]? = some fn_rational_divisor := Tryz.func207
abbrev rational_limbs : FuncId := 208
noncomputable abbrev fn_rational_limbs : Func := Tryz.f208
theorem get_rational_limbs : P.funcs[rational_limbs]? = some fn_rational_limbs := Tryz.func208
abbrev natural_trim : FuncId := 209
noncomputable abbrev fn_natural_trim : Func := Tryz.f209
theorem get_natural_trim : P.funcs[natural_trim]? = some fn_natural_trim := Tryz.func209
abbrev ref01_small : FuncId := 210
noncomputable abbrev fn_ref01_small : Func := Tryz.f210
theorem get_ref01_small : P.funcs[ref01_small]? = some fn_ref01_small := Tryz.func210
abbrev ref01_Bits : FuncId := 211
noncomputable abbrev fn_ref01_Bits : Func := Tryz.f211
theorem get_ref01_Bits : P.funcs[ref01_Bits]? = some fn_ref01_Bits := Tryz.func211
abbrev ref01_minus : FuncId := 212
noncomputable abbrev fn_ref01_minus : Func := Tryz.f212
theorem get_ref01_minus : P.funcs[ref01_minus]? = some fn_ref01_minus := Tryz.func212
abbrev ref09_function : FuncId := 213
noncomputable abbrev fn_ref09_function : Func := Tryz.f213
theorem get_ref09_function : P.funcs[ref09_function]? = some fn_ref09_function := Tryz.func213
abbrev slices_Clone_uint32_uint32 : FuncId := 214
noncomputable abbrev fn_slices_Clone_uint32_uint32 : Func := Tryz.f214
theorem get_slices_Clone_uint32_uint32 : P.funcs[slices_Clone_uint32_uint32]? = some fn_slices_Clone_uint32_uint32 := Tryz.func214
abbrev math_bits_Len32 : FuncId := 216
noncomputable abbrev fn_math_bits_Len32 : Func := Tryz.f216
theorem get_math_bits_Len32 : P.funcs[math_bits_Len32]? = some fn_math_bits_Len32 := Tryz.func216
abbrev ref01_up : FuncId := 217
noncomputable abbrev fn_ref01_up : Func := Tryz.f217
theorem get_ref01_up : P.funcs[ref01_up]? = some fn_ref01_up := Tryz.func217
abbrev ref01_shifted : FuncId := 218
noncomputable abbrev fn_ref01_shifted : Func := Tryz.f218
theorem get_ref01_shifted : P.funcs[ref01_shifted]? = some fn_ref01_shifted := Tryz.func218
abbrev ref01_times : FuncId := 219
noncomputable abbrev fn_ref01_times : Func := Tryz.f219
theorem get_ref01_times : P.funcs[ref01_times]? = some fn_ref01_times := Tryz.func219
abbrev ref01_down : FuncId := 220
noncomputable abbrev fn_ref01_down : Func := Tryz.f220
theorem get_ref01_down : P.funcs[ref01_down]? = some fn_ref01_down := Tryz.func220
abbrev natural_word : FuncId := 233
noncomputable abbrev fn_natural_word : Func := Tryz.f233
theorem get_natural_word : P.funcs[natural_word]? = some fn_natural_word := Tryz.func233
abbrev natural_small : FuncId := 234
noncomputable abbrev fn_natural_small : Func := Tryz.f234
theorem get_natural_small : P.funcs[natural_small]? = some fn_natural_small := Tryz.func234
abbrev math_bits_LeadingZeros32 : FuncId := 235
noncomputable abbrev fn_math_bits_LeadingZeros32 : Func := Tryz.f235
theorem get_math_bits_LeadingZeros32 : P.funcs[math_bits_LeadingZeros32]? = some fn_math_bits_LeadingZeros32 := Tryz.func235
abbrev natural_raise : FuncId := 236
noncomputable abbrev fn_natural_raise : Func := Tryz.f236
theorem get_natural_raise : P.funcs[natural_raise]? = some fn_natural_raise := Tryz.func236
abbrev ref09_part : FuncId := 237
noncomputable abbrev fn_ref09_part : Func := Tryz.f237
theorem get_ref09_part : P.funcs[ref09_part]? = some fn_ref09_part := Tryz.func237
abbrev ty2 : TI := ⟨.int .i64, 1, 8, .int .i64 0⟩
theorem ok2 : TyOK P 2 ty2 := tyOK (by kernel_rfl) (by kernel_rfl) (by kernel_rfl)
abbrev ty3 : TI := ⟨.int .i64, 1, 8, .int .i64 0⟩
theorem ok3 : TyOK P 3 ty3 := tyOK (by kernel_rfl) (by kernel_rfl) (by kernel_rfl)
abbrev ty4 : TI := ⟨.bool, 1, 1, .bool false⟩
theorem ok4 : TyOK P 4 ty4 := tyOK (by kernel_rfl) (by kernel_rfl) (by kernel_rfl)
abbrev ty5 : TI := ⟨.int .u8, 1, 1, .int .u8 0⟩
theorem ok5 : TyOK P 5 ty5 := tyOK (by kernel_rfl) (by kernel_rfl) (by kernel_rfl)
abbrev ty6 : TI := ⟨.int .u8, 1, 1, .int .u8 0⟩
theorem ok6 : TyOK P 6 ty6 := tyOK (by kernel_rfl) (by kernel_rfl) (by kernel_rfl)
abbrev ty7 : TI := ⟨.struct #[{ name := "x", type := 2, offset := 0, embedded := false, tag := "", pkgPath := "runtime", byteOffset := 0 }, { name := "y", type := 3, offset := 1, embedded := false, tag := "", pkgPath := "runtime", byteOffset := 8 }, { name := "signed", type := 4, offset := 2, embedded := false, tag := "", pkgPath := "runtime", byteOffset := 16 }, { name := "code", type := 6, offset := 3, embedded := false, tag := "", pkgPath := "runtime", byteOffset := 17 }], 4, 24, .agg [.int .i64 0, .int .i64 0, .bool false, .int .u8 0]⟩
theorem ok7 : TyOK P 7 ty7 := tyOK (by kernel_rfl) (by kernel_rfl) (by kernel_rfl)
abbrev ty8 : TI := ⟨.struct #[{ name := "x", type := 2, offset := 0, embedded := false, tag := "", pkgPath := "runtime", byteOffset := 0 }, { name := "y", type := 3, offset := 1, embedded := false, tag := "", pkgPath := "runtime", byteOffset := 8 }, { name := "signed", type := 4, offset := 2, embedded := false, tag := "", pkgPath := "runtime", byteOffset := 16 }, { name := "code", type := 6, offset := 3, embedded := false, tag := "", pkgPath := "runtime", byteOffset := 17 }], 4, 24, .agg [.int .i64 0, .int .i64 0, .bool false, .int .u8 0]⟩
theorem ok8 : TyOK P 8 ty8 := tyOK (by kernel_rfl) (by kernel_rfl) (by kernel_rfl)
abbrev ty9 : TI := ⟨.string, 1, 16, .tuple []⟩
theorem ok9 : TyOK P 9 ty9 := tyOK' (by kernel_rfl) (by kernel_rfl) rfl
abbrev ty10 : TI := ⟨.string, 1, 16, .tuple []⟩
theorem ok10 : TyOK P 10 ty10 := tyOK' (by kernel_rfl) (by kernel_rfl) rfl
abbrev ty11 : TI := ⟨.string, 1, 16, .tuple []⟩
theorem ok11 : TyOK P 11 ty11 := tyOK' (by kernel_rfl) (by kernel_rfl) rfl
abbrev ty12 : TI := ⟨.int .u64, 1, 8, .int .u64 0⟩
theorem ok12 : TyOK P 12 ty12 := tyOK (by kernel_rfl) (by kernel_rfl) (by kernel_rfl)
abbrev ty13 : TI := ⟨.struct #[{ name := "msg", type := 9, offset := 0, embedded := false, tag := "", pkgPath := "runtime", byteOffset := 0 }, { name := "addr", type := 12, offset := 1, embedded := false, tag := "", pkgPath := "runtime", byteOffset := 16 }], 2, 24, .tuple []⟩
theorem ok13 : TyOK P 13 ty13 := tyOK' (by kernel_rfl) (by kernel_rfl) rfl
abbrev ty14 : TI := ⟨.struct #[{ name := "msg", type := 9, offset := 0, embedded := false, tag := "", pkgPath := "runtime", byteOffset := 0 }, { name := "addr", type := 12, offset := 1, embedded := false, tag := "", pkgPath := "runtime", byteOffset := 16 }], 2, 24, .tuple []⟩
theorem ok14 : TyOK P 14 ty14 := tyOK' (by kernel_rfl) (by kernel_rfl) rfl
abbrev ty15 : TI := ⟨.pointer 246, 1, 8, .tuple []⟩
theorem ok15 : TyOK P 15 ty15 := tyOK' (by kernel_rfl) (by kernel_rfl) rfl
abbrev ty16 : TI := ⟨.pointer 249, 1, 8, .tuple []⟩
theorem ok16 : TyOK P 16 ty16 := tyOK' (by kernel_rfl) (by kernel_rfl) rfl
abbrev ty17 : TI := ⟨.pointer 258, 1, 8, .tuple []⟩
theorem ok17 : TyOK P 17 ty17 := tyOK' (by kernel_rfl) (by kernel_rfl) rfl
abbrev ty18 : TI := ⟨.struct #[{ name := "typ", type := 17, offset := 0, embedded := false, tag := "", pkgPath := "internal/runtime/maps", byteOffset := 0 }], 1, 8, .tuple []⟩
theorem ok18 : TyOK P 18 ty18 := tyOK' (by kernel_rfl) (by kernel_rfl) rfl
abbrev ty19 : TI := ⟨.struct #[{ name := "typ", type := 17, offset := 0, embedded := false, tag := "", pkgPath := "internal/runtime/maps", byteOffset := 0 }], 1, 8, .tuple []⟩
theorem ok19 : TyOK P 19 ty19 := tyOK' (by kernel_rfl) (by kernel_rfl) rfl
abbrev ty21 : TI := ⟨.int .i32, 1, 4, .int .i32 0⟩
theorem ok21 : TyOK P 21 ty21 := tyOK (by kernel_rfl) (by kernel_rfl) (by kernel_rfl)
abbrev ty22 : TI := ⟨.slice 3, 1, 24, .nil⟩
theorem ok22 : TyOK P 22 ty22 := tyOK (by kernel_rfl) (by kernel_rfl) (by kernel_rfl)
abbrev ty25 : TI := ⟨.slice 42, 1, 24, .nil⟩
theorem ok25 : TyOK P 25 ty25 := tyOK (by kernel_rfl) (by kernel_rfl) (by kernel_rfl)
abbrev ty26 : TI := ⟨.slice 123, 1, 24, .nil⟩
theorem ok26 : TyOK P 26 ty26 := tyOK (by kernel_rfl) (by kernel_rfl) (by kernel_rfl)
abbrev ty27 : TI := ⟨.struct #[{ name := "Degree", type := 3, offset := 0, embedded := false, tag := "", pkgPath := "", byteOffset := 0 }, { name := "Knots", type := 25, offset := 1, embedded := false, tag := "", pkgPath := "", byteOffset := 8 }, { name := "Poles", type := 26, offset := 2, embedded := false, tag := "", pkgPath := "", byteOffset := 32 }], 3, 56, .agg [.int .i64 0, .nil, .nil]⟩
theorem ok27 : TyOK P 27 ty27 := tyOK (by kernel_rfl) (by kernel_rfl) (by kernel_rfl)
abbrev ty28 : TI := ⟨.struct #[{ name := "Degree", type := 3, offset := 0, embedded := false, tag := "", pkgPath := "", byteOffset := 0 }, { name := "Knots", type := 25, offset := 1, embedded := false, tag := "", pkgPath := "", byteOffset := 8 }, { name := "Poles", type := 26, offset := 2, embedded := false, tag := "", pkgPath := "", byteOffset := 32 }], 3, 56, .agg [.int .i64 0, .nil, .nil]⟩
theorem ok28 : TyOK P 28 ty28 := tyOK (by kernel_rfl) (by kernel_rfl) (by kernel_rfl)
abbrev ty29 : TI := ⟨.pointer 120, 1, 8, .tuple []⟩
theorem ok29 : TyOK P 29 ty29 := tyOK' (by kernel_rfl) (by kernel_rfl) rfl
abbrev ty33 : TI := ⟨.slice 26, 1, 24, .nil⟩
theorem ok33 : TyOK P 33 ty33 := tyOK (by kernel_rfl) (by kernel_rfl) (by kernel_rfl)
abbrev ty34 : TI := ⟨.struct #[{ name := "U", type := 3, offset := 0, embedded := false, tag := "", pkgPath := "", byteOffset := 0 }, { name := "V", type := 3, offset := 1, embedded := false, tag := "", pkgPath := "", byteOffset := 8 }, { name := "KnotsU", type := 25, offset := 2, embedded := false, tag := "", pkgPath := "", byteOffset := 16 }, { name := "KnotsV", type := 25, offset := 3, embedded := false, tag := "", pkgPath := "", byteOffset := 40 }, { name := "Poles", type := 33, offset := 4, embedded := false, tag := "", pkgPath := "", byteOffset := 64 }], 5, 88, .agg [.int .i64 0, .int .i64 0, .nil, .nil, .nil]⟩
theorem ok34 : TyOK P 34 ty34 := tyOK (by kernel_rfl) (by kernel_rfl) (by kernel_rfl)
abbrev ty35 : TI := ⟨.struct #[{ name := "U", type := 3, offset := 0, embedded := false, tag := "", pkgPath := "", byteOffset := 0 }, { name := "V", type := 3, offset := 1, embedded := false, tag := "", pkgPath := "", byteOffset := 8 }, { name := "KnotsU", type := 25, offset := 2, embedded := false, tag := "", pkgPath := "", byteOffset := 16 }, { name := "KnotsV", type := 25, offset := 3, embedded := false, tag := "", pkgPath := "", byteOffset := 40 }, { name := "Poles", type := 33, offset := 4, embedded := false, tag := "", pkgPath := "", byteOffset := 64 }], 5, 88, .agg [.int .i64 0, .int .i64 0, .nil, .nil, .nil]⟩
theorem ok35 : TyOK P 35 ty35 := tyOK (by kernel_rfl) (by kernel_rfl) (by kernel_rfl)
abbrev ty36 : TI := ⟨.int .i64, 1, 8, .int .i64 0⟩
theorem ok36 : TyOK P 36 ty36 := tyOK (by kernel_rfl) (by kernel_rfl) (by kernel_rfl)
abbrev ty40 : TI := ⟨.slice 188, 1, 24, .nil⟩
theorem ok40 : TyOK P 40 ty40 := tyOK (by kernel_rfl) (by kernel_rfl) (by kernel_rfl)
abbrev ty41 : TI := ⟨.struct #[{ name := "Neg", type := 4, offset := 0, embedded := false, tag := "", pkgPath := "", byteOffset := 0 }, { name := "Num", type := 40, offset := 1, embedded := false, tag := "", pkgPath := "", byteOffset := 8 }, { name := "Den", type := 40, offset := 2, embedded := false, tag := "", pkgPath := "", byteOffset := 32 }], 3, 56, .agg [.bool false, .nil, .nil]⟩
theorem ok41 : TyOK P 41 ty41 := tyOK (by kernel_rfl) (by kernel_rfl) (by kernel_rfl)
abbrev ty42 : TI := ⟨.struct #[{ name := "Neg", type := 4, offset := 0, embedded := false, tag := "", pkgPath := "", byteOffset := 0 }, { name := "Num", type := 40, offset := 1, embedded := false, tag := "", pkgPath := "", byteOffset := 8 }, { name := "Den", type := 40, offset := 2, embedded := false, tag := "", pkgPath := "", byteOffset := 32 }], 3, 56, .rat 0 1⟩
theorem ok42 : TyOK P 42 ty42 := tyOK (by kernel_rfl) (by kernel_rfl) (by kernel_rfl)
abbrev ty43 : TI := ⟨.struct #[{ name := "Lo", type := 42, offset := 0, embedded := false, tag := "", pkgPath := "", byteOffset := 0 }, { name := "Hi", type := 42, offset := 3, embedded := false, tag := "", pkgPath := "", byteOffset := 56 }], 6, 112, .agg [.rat 0 1, .rat 0 1]⟩
theorem ok43 : TyOK P 43 ty43 := tyOK (by kernel_rfl) (by kernel_rfl) (by kernel_rfl)
abbrev ty44 : TI := ⟨.struct #[{ name := "Lo", type := 42, offset := 0, embedded := false, tag := "", pkgPath := "", byteOffset := 0 }, { name := "Hi", type := 42, offset := 3, embedded := false, tag := "", pkgPath := "", byteOffset := 56 }], 6, 112, .agg [.rat 0 1, .rat 0 1]⟩
theorem ok44 : TyOK P 44 ty44 := tyOK (by kernel_rfl) (by kernel_rfl) (by kernel_rfl)
abbrev ty48 : TI := ⟨.array 3 42, 9, 168, .agg [.rat 0 1, .rat 0 1, .rat 0 1]⟩
theorem ok48 : TyOK P 48 ty48 := tyOK (by kernel_rfl) (by kernel_rfl) (by kernel_rfl)
abbrev ty49 : TI := ⟨.array 3 42, 9, 168, .agg [.rat 0 1, .rat 0 1, .rat 0 1]⟩
theorem ok49 : TyOK P 49 ty49 := tyOK (by kernel_rfl) (by kernel_rfl) (by kernel_rfl)
abbrev ty58 : TI := ⟨.array 3 49, 27, 504, .agg [.agg [.rat 0 1, .rat 0 1, .rat 0 1], .agg [.rat 0 1, .rat 0 1, .rat 0 1], .agg [.rat 0 1, .rat 0 1, .rat 0 1]]⟩
theorem ok58 : TyOK P 58 ty58 := tyOK (by kernel_rfl) (by kernel_rfl) (by kernel_rfl)
abbrev ty59 : TI := ⟨.struct #[{ name := "M", type := 58, offset := 0, embedded := false, tag := "", pkgPath := "", byteOffset := 0 }, { name := "T", type := 49, offset := 27, embedded := false, tag := "", pkgPath := "", byteOffset := 504 }], 36, 672, .agg [.agg [.agg [.rat 0 1, .rat 0 1, .rat 0 1], .agg [.rat 0 1, .rat 0 1, .rat 0 1], .agg [.rat 0 1, .rat 0 1, .rat 0 1]], .agg [.rat 0 1, .rat 0 1, .rat 0 1]]⟩
theorem ok59 : TyOK P 59 ty59 := tyOK (by kernel_rfl) (by kernel_rfl) (by kernel_rfl)
abbrev ty60 : TI := ⟨.struct #[{ name := "M", type := 58, offset := 0, embedded := false, tag := "", pkgPath := "", byteOffset := 0 }, { name := "T", type := 49, offset := 27, embedded := false, tag := "", pkgPath := "", byteOffset := 504 }], 36, 672, .agg [.agg [.agg [.rat 0 1, .rat 0 1, .rat 0 1], .agg [.rat 0 1, .rat 0 1, .rat 0 1], .agg [.rat 0 1, .rat 0 1, .rat 0 1]], .agg [.rat 0 1, .rat 0 1, .rat 0 1]]⟩
theorem ok60 : TyOK P 60 ty60 := tyOK (by kernel_rfl) (by kernel_rfl) (by kernel_rfl)
abbrev ty82 : TI := ⟨.slice 49, 1, 24, .nil⟩
theorem ok82 : TyOK P 82 ty82 := tyOK (by kernel_rfl) (by kernel_rfl) (by kernel_rfl)
abbrev ty98 : TI := ⟨.slice 103, 1, 24, .nil⟩
theorem ok98 : TyOK P 98 ty98 := tyOK (by kernel_rfl) (by kernel_rfl) (by kernel_rfl)
abbrev ty101 : TI := ⟨.slice 44, 1, 24, .nil⟩
theorem ok101 : TyOK P 101 ty101 := tyOK (by kernel_rfl) (by kernel_rfl) (by kernel_rfl)
abbrev ty102 : TI := ⟨.struct #[{ name := "A", type := 101, offset := 0, embedded := false, tag := "", pkgPath := "", byteOffset := 0 }, { name := "B", type := 101, offset := 1, embedded := false, tag := "", pkgPath := "", byteOffset := 24 }, { name := "Kind", type := 3, offset := 2, embedded := false, tag := "", pkgPath := "", byteOffset := 48 }, { name := "K", type := 3, offset := 3, embedded := false, tag := "", pkgPath := "", byteOffset := 56 }], 4, 64, .agg [.nil, .nil, .int .i64 0, .int .i64 0]⟩
theorem ok102 : TyOK P 102 ty102 := tyOK (by kernel_rfl) (by kernel_rfl) (by kernel_rfl)
abbrev ty103 : TI := ⟨.struct #[{ name := "A", type := 101, offset := 0, embedded := false, tag := "", pkgPath := "", byteOffset := 0 }, { name := "B", type := 101, offset := 1, embedded := false, tag := "", pkgPath := "", byteOffset := 24 }, { name := "Kind", type := 3, offset := 2, embedded := false, tag := "", pkgPath := "", byteOffset := 48 }, { name := "K", type := 3, offset := 3, embedded := false, tag := "", pkgPath := "", byteOffset := 56 }], 4, 64, .agg [.nil, .nil, .int .i64 0, .int .i64 0]⟩
theorem ok103 : TyOK P 103 ty103 := tyOK (by kernel_rfl) (by kernel_rfl) (by kernel_rfl)
abbrev ty111 : TI := ⟨.slice 22, 1, 24, .nil⟩
theorem ok111 : TyOK P 111 ty111 := tyOK (by kernel_rfl) (by kernel_rfl) (by kernel_rfl)
abbrev ty119 : TI := ⟨.struct #[{ name := "L", type := 22, offset := 0, embedded := false, tag := "", pkgPath := "", byteOffset := 0 }, { name := "At", type := 3, offset := 1, embedded := false, tag := "", pkgPath := "", byteOffset := 24 }], 2, 32, .agg [.nil, .int .i64 0]⟩
theorem ok119 : TyOK P 119 ty119 := tyOK (by kernel_rfl) (by kernel_rfl) (by kernel_rfl)
abbrev ty120 : TI := ⟨.struct #[{ name := "L", type := 22, offset := 0, embedded := false, tag := "", pkgPath := "", byteOffset := 0 }, { name := "At", type := 3, offset := 1, embedded := false, tag := "", pkgPath := "", byteOffset := 24 }], 2, 32, .agg [.nil, .int .i64 0]⟩
theorem ok120 : TyOK P 120 ty120 := tyOK (by kernel_rfl) (by kernel_rfl) (by kernel_rfl)
abbrev ty122 : TI := ⟨.struct #[{ name := "P", type := 49, offset := 0, embedded := false, tag := "", pkgPath := "", byteOffset := 0 }, { name := "W", type := 42, offset := 9, embedded := false, tag := "", pkgPath := "", byteOffset := 168 }], 12, 224, .agg [.agg [.rat 0 1, .rat 0 1, .rat 0 1], .rat 0 1]⟩
theorem ok122 : TyOK P 122 ty122 := tyOK (by kernel_rfl) (by kernel_rfl) (by kernel_rfl)
abbrev ty123 : TI := ⟨.struct #[{ name := "P", type := 49, offset := 0, embedded := false, tag := "", pkgPath := "", byteOffset := 0 }, { name := "W", type := 42, offset := 9, embedded := false, tag := "", pkgPath := "", byteOffset := 168 }], 12, 224, .agg [.agg [.rat 0 1, .rat 0 1, .rat 0 1], .rat 0 1]⟩
theorem ok123 : TyOK P 123 ty123 := tyOK (by kernel_rfl) (by kernel_rfl) (by kernel_rfl)
abbrev ty127 : TI := ⟨.array 3 2, 3, 24, .agg [.int .i64 0, .int .i64 0, .int .i64 0]⟩
theorem ok127 : TyOK P 127 ty127 := tyOK (by kernel_rfl) (by kernel_rfl) (by kernel_rfl)
abbrev ty128 : TI := ⟨.array 9 127, 27, 216, .agg [.agg [.int .i64 0, .int .i64 0, .int .i64 0], .agg [.int .i64 0, .int .i64 0, .int .i64 0], .agg [.int .i64 0, .int .i64 0, .int .i64 0], .agg [.int .i64 0, .int .i64 0, .int .i64 0], .agg [.int .i64 0, .int .i64 0, .int .i64 0], .agg [.int .i64 0, .int .i64 0, .int .i64 0], .agg [.int .i64 0, .int .i64 0, .int .i64 0], .agg [.int .i64 0, .int .i64 0, .int .i64 0], .agg [.int .i64 0, .int .i64 0, .int .i64 0]]⟩
theorem ok128 : TyOK P 128 ty128 := tyOK (by kernel_rfl) (by kernel_rfl) (by kernel_rfl)
abbrev ty130 : TI := ⟨.slice 127, 1, 24, .nil⟩
theorem ok130 : TyOK P 130 ty130 := tyOK (by kernel_rfl) (by kernel_rfl) (by kernel_rfl)
abbrev ty140 : TI := ⟨.array 4 42, 12, 224, .agg [.rat 0 1, .rat 0 1, .rat 0 1, .rat 0 1]⟩
theorem ok140 : TyOK P 140 ty140 := tyOK (by kernel_rfl) (by kernel_rfl) (by kernel_rfl)
abbrev ty151 : TI := ⟨.slice 28, 1, 24, .nil⟩
theorem ok151 : TyOK P 151 ty151 := tyOK (by kernel_rfl) (by kernel_rfl) (by kernel_rfl)
abbrev ty161 : TI := ⟨.slice 2, 1, 24, .nil⟩
theorem ok161 : TyOK P 161 ty161 := tyOK (by kernel_rfl) (by kernel_rfl) (by kernel_rfl)
abbrev ty175 : TI := ⟨.slice 4, 1, 24, .nil⟩
theorem ok175 : TyOK P 175 ty175 := tyOK (by kernel_rfl) (by kernel_rfl) (by kernel_rfl)
abbrev ty183 : TI := ⟨.int .u64, 1, 8, .int .u64 0⟩
theorem ok183 : TyOK P 183 ty183 := tyOK (by kernel_rfl) (by kernel_rfl) (by kernel_rfl)
abbrev ty188 : TI := ⟨.int .u32, 1, 4, .int .u32 0⟩
theorem ok188 : TyOK P 188 ty188 := tyOK (by kernel_rfl) (by kernel_rfl) (by kernel_rfl)
abbrev ty202 : TI := ⟨.int .u64, 1, 8, .int .u64 0⟩
theorem ok202 : TyOK P 202 ty202 := tyOK (by kernel_rfl) (by kernel_rfl) (by kernel_rfl)
abbrev ty209 : TI := ⟨.slice 5, 1, 24, .nil⟩
theorem ok209 : TyOK P 209 ty209 := tyOK (by kernel_rfl) (by kernel_rfl) (by kernel_rfl)
abbrev ty223 : TI := ⟨.slice 101, 1, 24, .nil⟩
theorem ok223 : TyOK P 223 ty223 := tyOK (by kernel_rfl) (by kernel_rfl) (by kernel_rfl)
abbrev ty227 : TI := ⟨.int .i64, 1, 8, .int .i64 0⟩
theorem ok227 : TyOK P 227 ty227 := tyOK (by kernel_rfl) (by kernel_rfl) (by kernel_rfl)
abbrev ty235 : TI := ⟨.int .u64, 1, 8, .int .u64 0⟩
theorem ok235 : TyOK P 235 ty235 := tyOK (by kernel_rfl) (by kernel_rfl) (by kernel_rfl)
abbrev ty239 : TI := ⟨.pointer 3, 1, 8, .tuple []⟩
theorem ok239 : TyOK P 239 ty239 := tyOK' (by kernel_rfl) (by kernel_rfl) rfl
abbrev ty241 : TI := ⟨.pointer 235, 1, 8, .tuple []⟩
theorem ok241 : TyOK P 241 ty241 := tyOK' (by kernel_rfl) (by kernel_rfl) rfl
abbrev ty245 : TI := ⟨.struct #[{ name := "_interface", type := 17, offset := 0, embedded := false, tag := "", pkgPath := "runtime", byteOffset := 0 }, { name := "concrete", type := 17, offset := 1, embedded := false, tag := "", pkgPath := "runtime", byteOffset := 8 }, { name := "asserted", type := 17, offset := 2, embedded := false, tag := "", pkgPath := "runtime", byteOffset := 16 }, { name := "missingMethod", type := 9, offset := 3, embedded := false, tag := "", pkgPath := "runtime", byteOffset := 24 }], 4, 40, .tuple []⟩
theorem ok245 : TyOK P 245 ty245 := tyOK' (by kernel_rfl) (by kernel_rfl) rfl
abbrev ty246 : TI := ⟨.struct #[{ name := "_interface", type := 17, offset := 0, embedded := false, tag := "", pkgPath := "runtime", byteOffset := 0 }, { name := "concrete", type := 17, offset := 1, embedded := false, tag := "", pkgPath := "runtime", byteOffset := 8 }, { name := "asserted", type := 17, offset := 2, embedded := false, tag := "", pkgPath := "runtime", byteOffset := 16 }, { name := "missingMethod", type := 9, offset := 3, embedded := false, tag := "", pkgPath := "runtime", byteOffset := 24 }], 4, 40, .tuple []⟩
theorem ok246 : TyOK P 246 ty246 := tyOK' (by kernel_rfl) (by kernel_rfl) rfl
abbrev ty251 : TI := ⟨.int .u8, 1, 1, .int .u8 0⟩
theorem ok251 : TyOK P 251 ty251 := tyOK (by kernel_rfl) (by kernel_rfl) (by kernel_rfl)
abbrev ty252 : TI := ⟨.int .u8, 1, 1, .int .u8 0⟩
theorem ok252 : TyOK P 252 ty252 := tyOK (by kernel_rfl) (by kernel_rfl) (by kernel_rfl)
abbrev ty254 : TI := ⟨.pointer 5, 1, 8, .tuple []⟩
theorem ok254 : TyOK P 254 ty254 := tyOK' (by kernel_rfl) (by kernel_rfl) rfl
abbrev ty255 : TI := ⟨.int .i32, 1, 4, .int .i32 0⟩
theorem ok255 : TyOK P 255 ty255 := tyOK (by kernel_rfl) (by kernel_rfl) (by kernel_rfl)
abbrev ty256 : TI := ⟨.int .i32, 1, 4, .int .i32 0⟩
theorem ok256 : TyOK P 256 ty256 := tyOK (by kernel_rfl) (by kernel_rfl) (by kernel_rfl)
abbrev ty257 : TI := ⟨.struct #[{ name := "Size_", type := 12, offset := 0, embedded := false, tag := "", pkgPath := "", byteOffset := 0 }, { name := "PtrBytes", type := 12, offset := 1, embedded := false, tag := "", pkgPath := "", byteOffset := 8 }, { name := "Hash", type := 188, offset := 2, embedded := false, tag := "", pkgPath := "", byteOffset := 16 }, { name := "TFlag", type := 251, offset := 3, embedded := false, tag := "", pkgPath := "", byteOffset := 20 }, { name := "Align_", type := 5, offset := 4, embedded := false, tag := "", pkgPath := "", byteOffset := 21 }, { name := "FieldAlign_", type := 5, offset := 5, embedded := false, tag := "", pkgPath := "", byteOffset := 22 }, { name := "Kind_", type := 252, offset := 6, embedded := false, tag := "", pkgPath := "", byteOffset := 23 }, { name := "Equal", type := 253, offset := 7, embedded := false, tag := "", pkgPath := "", byteOffset := 24 }, { name := "GCData", type := 254, offset := 8, embedded := false, tag := "", pkgPath := "", byteOffset := 32 }, { name := "Str", type := 255, offset := 9, embedded := false, tag := "", pkgPath := "", byteOffset := 40 }, { name := "PtrToThis", type := 256, offset := 10, embedded := false, tag := "", pkgPath := "", byteOffset := 44 }], 11, 48, .tuple []⟩
theorem ok257 : TyOK P 257 ty257 := tyOK' (by kernel_rfl) (by kernel_rfl) rfl
abbrev ty258 : TI := ⟨.struct #[{ name := "Size_", type := 12, offset := 0, embedded := false, tag := "", pkgPath := "", byteOffset := 0 }, { name := "PtrBytes", type := 12, offset := 1, embedded := false, tag := "", pkgPath := "", byteOffset := 8 }, { name := "Hash", type := 188, offset := 2, embedded := false, tag := "", pkgPath := "", byteOffset := 16 }, { name := "TFlag", type := 251, offset := 3, embedded := false, tag := "", pkgPath := "", byteOffset := 20 }, { name := "Align_", type := 5, offset := 4, embedded := false, tag := "", pkgPath := "", byteOffset := 21 }, { name := "FieldAlign_", type := 5, offset := 5, embedded := false, tag := "", pkgPath := "", byteOffset := 22 }, { name := "Kind_", type := 252, offset := 6, embedded := false, tag := "", pkgPath := "", byteOffset := 23 }, { name := "Equal", type := 253, offset := 7, embedded := false, tag := "", pkgPath := "", byteOffset := 24 }, { name := "GCData", type := 254, offset := 8, embedded := false, tag := "", pkgPath := "", byteOffset := 32 }, { name := "Str", type := 255, offset := 9, embedded := false, tag := "", pkgPath := "", byteOffset := 40 }, { name := "PtrToThis", type := 256, offset := 10, embedded := false, tag := "", pkgPath := "", byteOffset := 44 }], 11, 48, .tuple []⟩
theorem ok258 : TyOK P 258 ty258 := tyOK' (by kernel_rfl) (by kernel_rfl) rfl
abbrev T : Types := [(2, ty2), (3, ty3), (4, ty4), (5, ty5), (6, ty6), (7, ty7), (8, ty8), (9, ty9), (10, ty10), (11, ty11), (12, ty12), (13, ty13), (14, ty14), (15, ty15), (16, ty16), (17, ty17), (18, ty18), (19, ty19), (21, ty21), (22, ty22), (25, ty25), (26, ty26), (27, ty27), (28, ty28), (29, ty29), (33, ty33), (34, ty34), (35, ty35), (36, ty36), (40, ty40), (41, ty41), (42, ty42), (43, ty43), (44, ty44), (48, ty48), (49, ty49), (58, ty58), (59, ty59), (60, ty60), (82, ty82), (98, ty98), (101, ty101), (102, ty102), (103, ty103), (111, ty111), (119, ty119), (120, ty120), (122, ty122), (123, ty123), (127, ty127), (128, ty128), (130, ty130), (140, ty140), (151, ty151), (161, ty161), (175, ty175), (183, ty183), (188, ty188), (202, ty202), (209, ty209), (223, ty223), (227, ty227), (235, ty235), (239, ty239), (241, ty241), (245, ty245), (246, ty246), (251, ty251), (252, ty252), (254, ty254), (255, ty255), (256, ty256), (257, ty257), (258, ty258)]
theorem hT : TOK P T := tok_cons ok2 (tok_cons ok3 (tok_cons ok4 (tok_cons ok5 (tok_cons ok6 (tok_cons ok7 (tok_cons ok8 (tok_cons ok9 (tok_cons ok10 (tok_cons ok11 (tok_cons ok12 (tok_cons ok13 (tok_cons ok14 (tok_cons ok15 (tok_cons ok16 (tok_cons ok17 (tok_cons ok18 (tok_cons ok19 (tok_cons ok21 (tok_cons ok22 (tok_cons ok25 (tok_cons ok26 (tok_cons ok27 (tok_cons ok28 (tok_cons ok29 (tok_cons ok33 (tok_cons ok34 (tok_cons ok35 (tok_cons ok36 (tok_cons ok40 (tok_cons ok41 (tok_cons ok42 (tok_cons ok43 (tok_cons ok44 (tok_cons ok48 (tok_cons ok49 (tok_cons ok58 (tok_cons ok59 (tok_cons ok60 (tok_cons ok82 (tok_cons ok98 (tok_cons ok101 (tok_cons ok102 (tok_cons ok103 (tok_cons ok111 (tok_cons ok119 (tok_cons ok120 (tok_cons ok122 (tok_cons ok123 (tok_cons ok127 (tok_cons ok128 (tok_cons ok130 (tok_cons ok140 (tok_cons ok151 (tok_cons ok161 (tok_cons ok175 (tok_cons ok183 (tok_cons ok188 (tok_cons ok202 (tok_cons ok209 (tok_cons ok223 (tok_cons ok227 (tok_cons ok235 (tok_cons ok239 (tok_cons ok241 (tok_cons ok245 (tok_cons ok246 (tok_cons ok251 (tok_cons ok252 (tok_cons ok254 (tok_cons ok255 (tok_cons ok256 (tok_cons ok257 (tok_cons ok258 (tok_nil))))))))))))))))))))))))))))))))))))))))))))))))))))))))))))))))))))))))))
end Go.Am.N
