/- The seat's names: the numbers of functions, the types. Written by a program. -/
import Derived.Test.YtajjlacbodnggaaGreatZ1
import Derived.Test.YtajjlacbodnggaaGreatProg
import Derived.KernelRfl
set_option linter.unusedVariables false
namespace Go.Am.N
open Go.Proofs

noncomputable abbrev P : Program := Tryz.prog
theorem hm : P.follows .mixedOrders = true := by kernel_rfl

abbrev main_main : FuncId := 0
noncomputable abbrev fn_main_main : Func := Tryz.f0
theorem get_main_main : P.funcs[main_main]? = some fn_main_main := Tryz.func0
abbrev gosem_cut : FuncId := 1
noncomputable abbrev fn_gosem_cut : Func := Tryz.f1
theorem get_gosem_cut : P.funcs[gosem_cut]? = some fn_gosem_cut := Tryz.func1
abbrev gosem_cut_init : FuncId := 2
noncomputable abbrev fn_gosem_cut_init : Func := Tryz.f2
theorem get_gosem_cut_init : P.funcs[gosem_cut_init]? = some fn_gosem_cut_init := Tryz.func2
abbrev law04_VectorMaps : FuncId := 3
noncomputable abbrev fn_law04_VectorMaps : Func := Tryz.f3
theorem get_law04_VectorMaps : P.funcs[law04_VectorMaps]? = some fn_law04_VectorMaps := Tryz.func3
abbrev law04_VectorBoxes : FuncId := 4
noncomputable abbrev fn_law04_VectorBoxes : Func := Tryz.f4
theorem get_law04_VectorBoxes : P.funcs[law04_VectorBoxes]? = some fn_law04_VectorBoxes := Tryz.func4
abbrev made_Light : FuncId := 5
noncomputable abbrev fn_made_Light : Func := Tryz.f5
theorem get_made_Light : P.funcs[made_Light]? = some fn_made_Light := Tryz.func5
abbrev law04_awake : FuncId := 6
noncomputable abbrev fn_law04_awake : Func := Tryz.f6
theorem get_law04_awake : P.funcs[law04_awake]? = some fn_law04_awake := Tryz.func6
abbrev made_Roll : FuncId := 7
noncomputable abbrev fn_made_Roll : Func := Tryz.f7
theorem get_made_Roll : P.funcs[made_Roll]? = some fn_made_Roll := Tryz.func7
abbrev made_Dice_Map : FuncId := 8
noncomputable abbrev fn_made_Dice_Map : Func := Tryz.f8
theorem get_made_Dice_Map : P.funcs[made_Dice_Map]? = some fn_made_Dice_Map := Tryz.func8
abbrev made_Dice_Point : FuncId := 9
noncomputable abbrev fn_made_Dice_Point : Func := Tryz.f9
theorem get_made_Dice_Point : P.funcs[made_Dice_Point]? = some fn_made_Dice_Point := Tryz.func9
abbrev vector_Inverse : FuncId := 10
noncomputable abbrev fn_vector_Inverse : Func := Tryz.f10
theorem get_vector_Inverse : P.funcs[vector_Inverse]? = some fn_vector_Inverse := Tryz.func10
abbrev ref04_Inverse : FuncId := 11
noncomputable abbrev fn_ref04_Inverse : Func := Tryz.f11
theorem get_ref04_Inverse : P.funcs[ref04_Inverse]? = some fn_ref04_Inverse := Tryz.func11
abbrev ref04_SameMap : FuncId := 12
noncomputable abbrev fn_ref04_SameMap : Func := Tryz.f12
theorem get_ref04_SameMap : P.funcs[ref04_SameMap]? = some fn_ref04_SameMap := Tryz.func12
abbrev ref04_Same : FuncId := 13
noncomputable abbrev fn_ref04_Same : Func := Tryz.f13
theorem get_ref04_Same : P.funcs[ref04_Same]? = some fn_ref04_Same := Tryz.func13
abbrev vector_Apply : FuncId := 14
noncomputable abbrev fn_vector_Apply : Func := Tryz.f14
theorem get_vector_Apply : P.funcs[vector_Apply]? = some fn_vector_Apply := Tryz.func14
abbrev ref04_Apply : FuncId := 15
noncomputable abbrev fn_ref04_Apply : Func := Tryz.f15
theorem get_ref04_Apply : P.funcs[ref04_Apply]? = some fn_ref04_Apply := Tryz.func15
abbrev vector_Turn : FuncId := 16
noncomputable abbrev fn_vector_Turn : Func := Tryz.f16
theorem get_vector_Turn : P.funcs[vector_Turn]? = some fn_vector_Turn := Tryz.func16
abbrev ref04_Turn : FuncId := 17
noncomputable abbrev fn_ref04_Turn : Func := Tryz.f17
theorem get_ref04_Turn : P.funcs[ref04_Turn]? = some fn_ref04_Turn := Tryz.func17
abbrev vector_Compose : FuncId := 18
noncomputable abbrev fn_vector_Compose : Func := Tryz.f18
theorem get_vector_Compose : P.funcs[vector_Compose]? = some fn_vector_Compose := Tryz.func18
abbrev ref04_Compose : FuncId := 19
noncomputable abbrev fn_ref04_Compose : Func := Tryz.f19
theorem get_ref04_Compose : P.funcs[ref04_Compose]? = some fn_ref04_Compose := Tryz.func19
abbrev ref02_Same : FuncId := 20
noncomputable abbrev fn_ref02_Same : Func := Tryz.f20
theorem get_ref02_Same : P.funcs[ref02_Same]? = some fn_ref02_Same := Tryz.func20
abbrev vector_Volume : FuncId := 21
noncomputable abbrev fn_vector_Volume : Func := Tryz.f21
theorem get_vector_Volume : P.funcs[vector_Volume]? = some fn_vector_Volume := Tryz.func21
abbrev ref04_Volume : FuncId := 22
noncomputable abbrev fn_ref04_Volume : Func := Tryz.f22
theorem get_ref04_Volume : P.funcs[ref04_Volume]? = some fn_ref04_Volume := Tryz.func22
abbrev vector_Identity : FuncId := 23
noncomputable abbrev fn_vector_Identity : Func := Tryz.f23
theorem get_vector_Identity : P.funcs[vector_Identity]? = some fn_vector_Identity := Tryz.func23
abbrev ref04_Identity : FuncId := 24
noncomputable abbrev fn_ref04_Identity : Func := Tryz.f24
theorem get_ref04_Identity : P.funcs[ref04_Identity]? = some fn_ref04_Identity := Tryz.func24
abbrev vector_BoxOf : FuncId := 25
noncomputable abbrev fn_vector_BoxOf : Func := Tryz.f25
theorem get_vector_BoxOf : P.funcs[vector_BoxOf]? = some fn_vector_BoxOf := Tryz.func25
abbrev ref04_BoxOf : FuncId := 26
noncomputable abbrev fn_ref04_BoxOf : Func := Tryz.f26
theorem get_ref04_BoxOf : P.funcs[ref04_BoxOf]? = some fn_ref04_BoxOf := Tryz.func26
abbrev made_Dice_Span : FuncId := 27
noncomputable abbrev fn_made_Dice_Span : Func := Tryz.f27
theorem get_made_Dice_Span : P.funcs[made_Dice_Span]? = some fn_made_Dice_Span := Tryz.func27
abbrev ref04_SameBox : FuncId := 28
noncomputable abbrev fn_ref04_SameBox : Func := Tryz.f28
theorem get_ref04_SameBox : P.funcs[ref04_SameBox]? = some fn_ref04_SameBox := Tryz.func28
abbrev vector_Meets : FuncId := 29
noncomputable abbrev fn_vector_Meets : Func := Tryz.f29
theorem get_vector_Meets : P.funcs[vector_Meets]? = some fn_vector_Meets := Tryz.func29
abbrev ref04_Meets : FuncId := 30
noncomputable abbrev fn_ref04_Meets : Func := Tryz.f30
theorem get_ref04_Meets : P.funcs[ref04_Meets]? = some fn_ref04_Meets := Tryz.func30
abbrev vector_Segment : FuncId := 31
noncomputable abbrev fn_vector_Segment : Func := Tryz.f31
theorem get_vector_Segment : P.funcs[vector_Segment]? = some fn_vector_Segment := Tryz.func31
abbrev ref04_Segment : FuncId := 32
noncomputable abbrev fn_ref04_Segment : Func := Tryz.f32
theorem get_ref04_Segment : P.funcs[ref04_Segment]? = some fn_ref04_Segment := Tryz.func32
abbrev ref04_Unit : FuncId := 33
noncomputable abbrev fn_ref04_Unit : Func := Tryz.f33
theorem get_ref04_Unit : P.funcs[ref04_Unit]? = some fn_ref04_Unit := Tryz.func33
abbrev vector_Through : FuncId := 34
noncomputable abbrev fn_vector_Through : Func := Tryz.f34
theorem get_vector_Through : P.funcs[vector_Through]? = some fn_vector_Through := Tryz.func34
abbrev vector_Orient2 : FuncId := 35
noncomputable abbrev fn_vector_Orient2 : Func := Tryz.f35
theorem get_vector_Orient2 : P.funcs[vector_Orient2]? = some fn_vector_Orient2 := Tryz.func35
abbrev vector_Side : FuncId := 36
noncomputable abbrev fn_vector_Side : Func := Tryz.f36
theorem get_vector_Side : P.funcs[vector_Side]? = some fn_vector_Side := Tryz.func36
abbrev vector_Add : FuncId := 37
noncomputable abbrev fn_vector_Add : Func := Tryz.f37
theorem get_vector_Add : P.funcs[vector_Add]? = some fn_vector_Add := Tryz.func37
abbrev vector_Cross : FuncId := 38
noncomputable abbrev fn_vector_Cross : Func := Tryz.f38
theorem get_vector_Cross : P.funcs[vector_Cross]? = some fn_vector_Cross := Tryz.func38
abbrev made_Dice_number : FuncId := 39
noncomputable abbrev fn_made_Dice_number : Func := Tryz.f39
theorem get_made_Dice_number : P.funcs[made_Dice_number]? = some fn_made_Dice_number := Tryz.func39
abbrev rational_Quo : FuncId := 40
noncomputable abbrev fn_rational_Quo : Func := Tryz.f40
theorem get_rational_Quo : P.funcs[rational_Quo]? = some fn_rational_Quo := Tryz.func40
abbrev rational_Int : FuncId := 41
noncomputable abbrev fn_rational_Int : Func := Tryz.f41
theorem get_rational_Int : P.funcs[rational_Int]? = some fn_rational_Int := Tryz.func41
abbrev vector_Scale : FuncId := 42
noncomputable abbrev fn_vector_Scale : Func := Tryz.f42
theorem get_vector_Scale : P.funcs[vector_Scale]? = some fn_vector_Scale := Tryz.func42
abbrev vector_transposed : FuncId := 43
noncomputable abbrev fn_vector_transposed : Func := Tryz.f43
theorem get_vector_transposed : P.funcs[vector_transposed]? = some fn_vector_transposed := Tryz.func43
abbrev ref02_Sign : FuncId := 44
noncomputable abbrev fn_ref02_Sign : Func := Tryz.f44
theorem get_ref02_Sign : P.funcs[ref02_Sign]? = some fn_ref02_Sign := Tryz.func44
abbrev ref02_Over : FuncId := 45
noncomputable abbrev fn_ref02_Over : Func := Tryz.f45
theorem get_ref02_Over : P.funcs[ref02_Over]? = some fn_ref02_Over := Tryz.func45
abbrev ref02_Int : FuncId := 46
noncomputable abbrev fn_ref02_Int : Func := Tryz.f46
theorem get_ref02_Int : P.funcs[ref02_Int]? = some fn_ref02_Int := Tryz.func46
abbrev ref04_columns : FuncId := 47
noncomputable abbrev fn_ref04_columns : Func := Tryz.f47
theorem get_ref04_columns : P.funcs[ref04_columns]? = some fn_ref04_columns := Tryz.func47
abbrev ref04_Scale : FuncId := 48
noncomputable abbrev fn_ref04_Scale : Func := Tryz.f48
theorem get_ref04_Scale : P.funcs[ref04_Scale]? = some fn_ref04_Scale := Tryz.func48
abbrev ref04_Cross : FuncId := 49
noncomputable abbrev fn_ref04_Cross : Func := Tryz.f49
theorem get_ref04_Cross : P.funcs[ref04_Cross]? = some fn_ref04_Cross := Tryz.func49
abbrev ref04_Add : FuncId := 50
noncomputable abbrev fn_ref04_Add : Func := Tryz.f50
theorem get_ref04_Add : P.funcs[ref04_Add]? = some fn_ref04_Add := Tryz.func50
abbrev vector_Dot : FuncId := 51
noncomputable abbrev fn_vector_Dot : Func := Tryz.f51
theorem get_vector_Dot : P.funcs[vector_Dot]? = some fn_vector_Dot := Tryz.func51
abbrev ref04_Dot : FuncId := 52
noncomputable abbrev fn_ref04_Dot : Func := Tryz.f52
theorem get_ref04_Dot : P.funcs[ref04_Dot]? = some fn_ref04_Dot := Tryz.func52
abbrev ref01_Cmp : FuncId := 53
noncomputable abbrev fn_ref01_Cmp : Func := Tryz.f53
theorem get_ref01_Cmp : P.funcs[ref01_Cmp]? = some fn_ref01_Cmp := Tryz.func53
abbrev vector_Det : FuncId := 54
noncomputable abbrev fn_vector_Det : Func := Tryz.f54
theorem get_vector_Det : P.funcs[vector_Det]? = some fn_vector_Det := Tryz.func54
abbrev ref04_Det : FuncId := 55
noncomputable abbrev fn_ref04_Det : Func := Tryz.f55
theorem get_ref04_Det : P.funcs[ref04_Det]? = some fn_ref04_Det := Tryz.func55
abbrev span_Point : FuncId := 56
noncomputable abbrev fn_span_Point : Func := Tryz.f56
theorem get_span_Point : P.funcs[span_Point]? = some fn_span_Point := Tryz.func56
abbrev span_Hull : FuncId := 57
noncomputable abbrev fn_span_Hull : Func := Tryz.f57
theorem get_span_Hull : P.funcs[span_Hull]? = some fn_span_Hull := Tryz.func57
abbrev ref04_PointBox : FuncId := 58
noncomputable abbrev fn_ref04_PointBox : Func := Tryz.f58
theorem get_ref04_PointBox : P.funcs[ref04_PointBox]? = some fn_ref04_PointBox := Tryz.func58
abbrev ref03_Hull : FuncId := 59
noncomputable abbrev fn_ref03_Hull : Func := Tryz.f59
theorem get_ref03_Hull : P.funcs[ref03_Hull]? = some fn_ref03_Hull := Tryz.func59
abbrev ref03_Point : FuncId := 60
noncomputable abbrev fn_ref03_Point : Func := Tryz.f60
theorem get_ref03_Point : P.funcs[ref03_Point]? = some fn_ref03_Point := Tryz.func60
abbrev ref02_Min : FuncId := 61
noncomputable abbrev fn_ref02_Min : Func := Tryz.f61
theorem get_ref02_Min : P.funcs[ref02_Min]? = some fn_ref02_Min := Tryz.func61
abbrev ref02_Max : FuncId := 62
noncomputable abbrev fn_ref02_Max : Func := Tryz.f62
theorem get_ref02_Max : P.funcs[ref02_Max]? = some fn_ref02_Max := Tryz.func62
abbrev ref03_Same : FuncId := 63
noncomputable abbrev fn_ref03_Same : Func := Tryz.f63
theorem get_ref03_Same : P.funcs[ref03_Same]? = some fn_ref03_Same := Tryz.func63
abbrev span_Meet : FuncId := 64
noncomputable abbrev fn_span_Meet : Func := Tryz.f64
theorem get_span_Meet : P.funcs[span_Meet]? = some fn_span_Meet := Tryz.func64
abbrev ref03_Meet : FuncId := 65
noncomputable abbrev fn_ref03_Meet : Func := Tryz.f65
theorem get_ref03_Meet : P.funcs[ref03_Meet]? = some fn_ref03_Meet := Tryz.func65
abbrev vector_Sub : FuncId := 66
noncomputable abbrev fn_vector_Sub : Func := Tryz.f66
theorem get_vector_Sub : P.funcs[vector_Sub]? = some fn_vector_Sub := Tryz.func66
abbrev rational_Max : FuncId := 67
noncomputable abbrev fn_rational_Max : Func := Tryz.f67
theorem get_rational_Max : P.funcs[rational_Max]? = some fn_rational_Max := Tryz.func67
abbrev rational_Min : FuncId := 68
noncomputable abbrev fn_rational_Min : Func := Tryz.f68
theorem get_rational_Min : P.funcs[rational_Min]? = some fn_rational_Min := Tryz.func68
abbrev ref04_Sub : FuncId := 69
noncomputable abbrev fn_ref04_Sub : Func := Tryz.f69
theorem get_ref04_Sub : P.funcs[ref04_Sub]? = some fn_ref04_Sub := Tryz.func69
abbrev ref02_Cmp : FuncId := 70
noncomputable abbrev fn_ref02_Cmp : Func := Tryz.f70
theorem get_ref02_Cmp : P.funcs[ref02_Cmp]? = some fn_ref02_Cmp := Tryz.func70
abbrev vector_Zero : FuncId := 71
noncomputable abbrev fn_vector_Zero : Func := Tryz.f71
theorem get_vector_Zero : P.funcs[vector_Zero]? = some fn_vector_Zero := Tryz.func71
abbrev rational_Sign : FuncId := 72
noncomputable abbrev fn_rational_Sign : Func := Tryz.f72
theorem get_rational_Sign : P.funcs[rational_Sign]? = some fn_rational_Sign := Tryz.func72
abbrev rational_Cmp : FuncId := 73
noncomputable abbrev fn_rational_Cmp : Func := Tryz.f73
theorem get_rational_Cmp : P.funcs[rational_Cmp]? = some fn_rational_Cmp := Tryz.func73
abbrev vector_each : FuncId := 74
noncomputable abbrev fn_vector_each : Func := Tryz.f74
theorem get_vector_each : P.funcs[vector_each]? = some fn_vector_each := Tryz.func74
abbrev rational_Add : FuncId := 75
noncomputable abbrev fn_rational_Add : Func := Tryz.f75
theorem get_rational_Add : P.funcs[rational_Add]? = some fn_rational_Add := Tryz.func75
abbrev rational_Sub : FuncId := 76
noncomputable abbrev fn_rational_Sub : Func := Tryz.f76
theorem get_rational_Sub : P.funcs[rational_Sub]? = some fn_rational_Sub := Tryz.func76
abbrev rational_Mul : FuncId := 77
noncomputable abbrev fn_rational_Mul : Func := Tryz.f77
theorem get_rational_Mul : P.funcs[rational_Mul]? = some fn_rational_Mul := Tryz.func77
abbrev made_Dice_Next : FuncId := 78
noncomputable abbrev fn_made_Dice_Next : Func := Tryz.f78
theorem get_made_Dice_Next : P.funcs[made_Dice_Next]? = some fn_made_Dice_Next := Tryz.func78
abbrev ref02_Frac : FuncId := 79
noncomputable abbrev fn_ref02_Frac : Func := Tryz.f79
theorem get_ref02_Frac : P.funcs[ref02_Frac]? = some fn_ref02_Frac := Tryz.func79
abbrev rational_parts : FuncId := 80
noncomputable abbrev fn_rational_parts : Func := Tryz.f80
theorem get_rational_parts : P.funcs[rational_parts]? = some fn_rational_parts := Tryz.func80
abbrev rational_short : FuncId := 81
noncomputable abbrev fn_rational_short : Func := Tryz.f81
theorem get_rational_short : P.funcs[rational_short]? = some fn_rational_short := Tryz.func81
abbrev rational_reduce : FuncId := 82
noncomputable abbrev fn_rational_reduce : Func := Tryz.f82
theorem get_rational_reduce : P.funcs[rational_reduce]? = some fn_rational_reduce := Tryz.func82
abbrev natural_Mul : FuncId := 83
noncomputable abbrev fn_natural_Mul : Func := Tryz.f83
theorem get_natural_Mul : P.funcs[natural_Mul]? = some fn_natural_Mul := Tryz.func83
abbrev rational_den : FuncId := 84
noncomputable abbrev fn_rational_den : Func := Tryz.f84
theorem get_rational_den : P.funcs[rational_den]? = some fn_rational_den := Tryz.func84
abbrev rational_size : FuncId := 85
noncomputable abbrev fn_rational_size : Func := Tryz.f85
theorem get_rational_size : P.funcs[rational_size]? = some fn_rational_size := Tryz.func85
abbrev rational_one : FuncId := 86
noncomputable abbrev fn_rational_one : Func := Tryz.f86
theorem get_rational_one : P.funcs[rational_one]? = some fn_rational_one := Tryz.func86
abbrev ref02_Quo : FuncId := 87
noncomputable abbrev fn_ref02_Quo : Func := Tryz.f87
theorem get_ref02_Quo : P.funcs[ref02_Quo]? = some fn_ref02_Quo := Tryz.func87
abbrev ref02_size : FuncId := 88
noncomputable abbrev fn_ref02_size : Func := Tryz.f88
theorem get_ref02_size : P.funcs[ref02_size]? = some fn_ref02_size := Tryz.func88
abbrev ref02_Mul : FuncId := 89
noncomputable abbrev fn_ref02_Mul : Func := Tryz.f89
theorem get_ref02_Mul : P.funcs[ref02_Mul]? = some fn_ref02_Mul := Tryz.func89
abbrev ref02_Sub : FuncId := 90
noncomputable abbrev fn_ref02_Sub : Func := Tryz.f90
theorem get_ref02_Sub : P.funcs[ref02_Sub]? = some fn_ref02_Sub := Tryz.func90
abbrev ref02_Add : FuncId := 91
noncomputable abbrev fn_ref02_Add : Func := Tryz.f91
theorem get_ref02_Add : P.funcs[ref02_Add]? = some fn_ref02_Add := Tryz.func91
abbrev span_Of : FuncId := 92
noncomputable abbrev fn_span_Of : Func := Tryz.f92
theorem get_span_Of : P.funcs[span_Of]? = some fn_span_Of := Tryz.func92
abbrev rational_copied : FuncId := 93
noncomputable abbrev fn_rational_copied : Func := Tryz.f93
theorem get_rational_copied : P.funcs[rational_copied]? = some fn_rational_copied := Tryz.func93
abbrev ref01_Mul : FuncId := 94
noncomputable abbrev fn_ref01_Mul : Func := Tryz.f94
theorem get_ref01_Mul : P.funcs[ref01_Mul]? = some fn_ref01_Mul := Tryz.func94
abbrev ref02_Den : FuncId := 95
noncomputable abbrev fn_ref02_Den : Func := Tryz.f95
theorem get_ref02_Den : P.funcs[ref02_Den]? = some fn_ref02_Den := Tryz.func95
abbrev vector_Same : FuncId := 96
noncomputable abbrev fn_vector_Same : Func := Tryz.f96
theorem get_vector_Same : P.funcs[vector_Same]? = some fn_vector_Same := Tryz.func96
abbrev natural_Bits : FuncId := 97
noncomputable abbrev fn_natural_Bits : Func := Tryz.f97
theorem get_natural_Bits : P.funcs[natural_Bits]? = some fn_natural_Bits := Tryz.func97
abbrev slices_Equal_uint32_uint32 : FuncId := 98
noncomputable abbrev fn_slices_Equal_uint32_uint32 : Func := Tryz.f98
theorem get_slices_Equal_uint32_uint32 : P.funcs[slices_Equal_uint32_uint32]? = some fn_slices_Equal_uint32_uint32 := Tryz.func98
abbrev natural_Cmp : FuncId := 99
noncomputable abbrev fn_natural_Cmp : Func := Tryz.f99
theorem get_natural_Cmp : P.funcs[natural_Cmp]? = some fn_natural_Cmp := Tryz.func99
abbrev rational_add : FuncId := 100
noncomputable abbrev fn_rational_add : Func := Tryz.f100
theorem get_rational_add : P.funcs[rational_add]? = some fn_rational_add := Tryz.func100
abbrev made_Mod : FuncId := 101
noncomputable abbrev fn_made_Mod : Func := Tryz.f101
theorem get_made_Mod : P.funcs[made_Mod]? = some fn_made_Mod := Tryz.func101
abbrev ref02_Make : FuncId := 102
noncomputable abbrev fn_ref02_Make : Func := Tryz.f102
theorem get_ref02_Make : P.funcs[ref02_Make]? = some fn_ref02_Make := Tryz.func102
abbrev rational_word : FuncId := 103
noncomputable abbrev fn_rational_word : Func := Tryz.f103
theorem get_rational_word : P.funcs[rational_word]? = some fn_rational_word := Tryz.func103
abbrev rational_divisor : FuncId := 104
noncomputable abbrev fn_rational_divisor : Func := Tryz.f104
theorem get_rational_divisor : P.funcs[rational_divisor]? = some fn_rational_divisor := Tryz.func104
abbrev rational_limbs : FuncId := 105
noncomputable abbrev fn_rational_limbs : Func := Tryz.f105
theorem get_rational_limbs : P.funcs[rational_limbs]? = some fn_rational_limbs := Tryz.func105
abbrev natural_Gcd : FuncId := 106
noncomputable abbrev fn_natural_Gcd : Func := Tryz.f106
theorem get_natural_Gcd : P.funcs[natural_Gcd]? = some fn_natural_Gcd := Tryz.func106
abbrev natural_Div : FuncId := 107
noncomputable abbrev fn_natural_Div : Func := Tryz.f107
theorem get_natural_Div : P.funcs[natural_Div]? = some fn_natural_Div := Tryz.func107
abbrev natural_Add : FuncId := 108
noncomputable abbrev fn_natural_Add : Func := Tryz.f108
theorem get_natural_Add : P.funcs[natural_Add]? = some fn_natural_Add := Tryz.func108
abbrev natural_trim : FuncId := 109
noncomputable abbrev fn_natural_trim : Func := Tryz.f109
theorem get_natural_trim : P.funcs[natural_trim]? = some fn_natural_trim := Tryz.func109
abbrev natural_Of : FuncId := 110
noncomputable abbrev fn_natural_Of : Func := Tryz.f110
theorem get_natural_Of : P.funcs[natural_Of]? = some fn_natural_Of := Tryz.func110
abbrev ref02_reduce : FuncId := 111
noncomputable abbrev fn_ref02_reduce : Func := Tryz.f111
theorem get_ref02_reduce : P.funcs[ref02_reduce]? = some fn_ref02_reduce := Tryz.func111
abbrev ref01_Of : FuncId := 112
noncomputable abbrev fn_ref01_Of : Func := Tryz.f112
theorem get_ref01_Of : P.funcs[ref01_Of]? = some fn_ref01_Of := Tryz.func112
abbrev ref02_Neg : FuncId := 113
noncomputable abbrev fn_ref02_Neg : Func := Tryz.f113
theorem get_ref02_Neg : P.funcs[ref02_Neg]? = some fn_ref02_Neg := Tryz.func113
abbrev ref01_Add : FuncId := 114
noncomputable abbrev fn_ref01_Add : Func := Tryz.f114
theorem get_ref01_Add : P.funcs[ref01_Add]? = some fn_ref01_Add := Tryz.func114
abbrev ref01_Sub : FuncId := 115
noncomputable abbrev fn_ref01_Sub : Func := Tryz.f115
theorem get_ref01_Sub : P.funcs[ref01_Sub]? = some fn_ref01_Sub := Tryz.func115
abbrev slices_Clone_uint32_uint32 : FuncId := 116
noncomputable abbrev fn_slices_Clone_uint32_uint32 : Func := Tryz.f116
theorem get_slices_Clone_uint32_uint32 : P.funcs[slices_Clone_uint32_uint32]? = some fn_slices_Clone_uint32_uint32 := Tryz.func116
abbrev ref01_Trim : FuncId := 117
noncomputable abbrev fn_ref01_Trim : Func := Tryz.f117
theorem get_ref01_Trim : P.funcs[ref01_Trim]? = some fn_ref01_Trim := Tryz.func117
abbrev rational_Same : FuncId := 118
noncomputable abbrev fn_rational_Same : Func := Tryz.f118
theorem get_rational_Same : P.funcs[rational_Same]? = some fn_rational_Same := Tryz.func118
abbrev math_bits_Len32 : FuncId := 119
noncomputable abbrev fn_math_bits_Len32 : Func := Tryz.f119
theorem get_math_bits_Len32 : P.funcs[math_bits_Len32]? = some fn_math_bits_Len32 := Tryz.func119
abbrev math_bits_Add64 : FuncId := 120
noncomputable abbrev fn_math_bits_Add64 : Func := Tryz.f120
theorem get_math_bits_Add64 : P.funcs[math_bits_Add64]? = some fn_math_bits_Add64 := Tryz.func120
abbrev natural_Sub : FuncId := 121
noncomputable abbrev fn_natural_Sub : Func := Tryz.f121
theorem get_natural_Sub : P.funcs[natural_Sub]? = some fn_natural_Sub := Tryz.func121
abbrev natural_word : FuncId := 122
noncomputable abbrev fn_natural_word : Func := Tryz.f122
theorem get_natural_word : P.funcs[natural_word]? = some fn_natural_word := Tryz.func122
abbrev natural_small : FuncId := 123
noncomputable abbrev fn_natural_small : Func := Tryz.f123
theorem get_natural_small : P.funcs[natural_small]? = some fn_natural_small := Tryz.func123
abbrev math_bits_LeadingZeros32 : FuncId := 124
noncomputable abbrev fn_math_bits_LeadingZeros32 : Func := Tryz.f124
theorem get_math_bits_LeadingZeros32 : P.funcs[math_bits_LeadingZeros32]? = some fn_math_bits_LeadingZeros32 := Tryz.func124
abbrev natural_raise : FuncId := 125
noncomputable abbrev fn_natural_raise : Func := Tryz.f125
theorem get_natural_raise : P.funcs[natural_raise]? = some fn_natural_raise := Tryz.func125
abbrev ref01_Gcd : FuncId := 126
noncomputable abbrev fn_ref01_Gcd : Func := Tryz.f126
theorem get_ref01_Gcd : P.funcs[ref01_Gcd]? = some fn_ref01_Gcd := Tryz.func126
abbrev ref01_Div : FuncId := 127
noncomputable abbrev fn_ref01_Div : Func := Tryz.f127
theorem get_ref01_Div : P.funcs[ref01_Div]? = some fn_ref01_Div := Tryz.func127
abbrev ref01_minus : FuncId := 128
noncomputable abbrev fn_ref01_minus : Func := Tryz.f128
theorem get_ref01_minus : P.funcs[ref01_minus]? = some fn_ref01_minus := Tryz.func128
abbrev ref01_small : FuncId := 129
noncomputable abbrev fn_ref01_small : Func := Tryz.f129
theorem get_ref01_small : P.funcs[ref01_small]? = some fn_ref01_small := Tryz.func129
abbrev ref01_byLimb : FuncId := 130
noncomputable abbrev fn_ref01_byLimb : Func := Tryz.f130
theorem get_ref01_byLimb : P.funcs[ref01_byLimb]? = some fn_ref01_byLimb := Tryz.func130
abbrev ref01_Bits : FuncId := 131
noncomputable abbrev fn_ref01_Bits : Func := Tryz.f131
theorem get_ref01_Bits : P.funcs[ref01_Bits]? = some fn_ref01_Bits := Tryz.func131
abbrev ref01_up : FuncId := 132
noncomputable abbrev fn_ref01_up : Func := Tryz.f132
theorem get_ref01_up : P.funcs[ref01_up]? = some fn_ref01_up := Tryz.func132
abbrev ref01_shifted : FuncId := 133
noncomputable abbrev fn_ref01_shifted : Func := Tryz.f133
theorem get_ref01_shifted : P.funcs[ref01_shifted]? = some fn_ref01_shifted := Tryz.func133
abbrev ref01_times : FuncId := 134
noncomputable abbrev fn_ref01_times : Func := Tryz.f134
theorem get_ref01_times : P.funcs[ref01_times]? = some fn_ref01_times := Tryz.func134
abbrev ref01_down : FuncId := 135
noncomputable abbrev fn_ref01_down : Func := Tryz.f135
theorem get_ref01_down : P.funcs[ref01_down]? = some fn_ref01_down := Tryz.func135
abbrev runtime_boundsError_Error : FuncId := 136
noncomputable abbrev fn_runtime_boundsError_Error : Func := Tryz.f136
theorem get_runtime_boundsError_Error : P.funcs[runtime_boundsError_Error]? = some fn_runtime_boundsError_Error := Tryz.func136
abbrev runtime_boundsError_RuntimeError : FuncId := 137
noncomputable abbrev fn_runtime_boundsError_RuntimeError : Func := Tryz.f137
theorem get_runtime_boundsError_RuntimeError : P.funcs[runtime_boundsError_RuntimeError]? = some fn_runtime_boundsError_RuntimeError := Tryz.func137
abbrev runtime_errorString_Error : FuncId := 138
noncomputable abbrev fn_runtime_errorString_Error : Func := Tryz.f138
theorem get_runtime_errorString_Error : P.funcs[runtime_errorString_Error]? = some fn_runtime_errorString_Error := Tryz.func138
abbrev runtime_errorString_RuntimeError : FuncId := 139
noncomputable abbrev fn_runtime_errorString_RuntimeError : Func := Tryz.f139
theorem get_runtime_errorString_RuntimeError : P.funcs[runtime_errorString_RuntimeError]? = some fn_runtime_errorString_RuntimeError := Tryz.func139
abbrev runtime_plainError_Error : FuncId := 140
noncomputable abbrev fn_runtime_plainError_Error : Func := Tryz.f140
theorem get_runtime_plainError_Error : P.funcs[runtime_plainError_Error]? = some fn_runtime_plainError_Error := Tryz.func140
abbrev runtime_plainError_RuntimeError : FuncId := 141
noncomputable abbrev fn_runtime_plainError_RuntimeError : Func := Tryz.f141
theorem get_runtime_plainError_RuntimeError : P.funcs[runtime_plainError_RuntimeError]? = some fn_runtime_plainError_RuntimeError := Tryz.func141
abbrev runtime_errorAddressString_Error : FuncId := 142
noncomputable abbrev fn_runtime_errorAddressString_Error : Func := Tryz.f142
theorem get_runtime_errorAddressString_Error : P.funcs[runtime_errorAddressString_Error]? = some fn_runtime_errorAddressString_Error := Tryz.func142
abbrev runtime_errorAddressString_RuntimeError : FuncId := 143
noncomputable abbrev fn_runtime_errorAddressString_RuntimeError : Func := Tryz.f143
theorem get_runtime_errorAddressString_RuntimeError : P.funcs[runtime_errorAddressString_RuntimeError]? = some fn_runtime_errorAddressString_RuntimeError := Tryz.func143
abbrev runtime_TypeAssertionError_Error : FuncId := 144
noncomputable abbrev fn_runtime_TypeAssertionError_Error : Func := Tryz.f144
theorem get_runtime_TypeAssertionError_Error : P.funcs[runtime_TypeAssertionError_Error]? = some fn_runtime_TypeAssertionError_Error := Tryz.func144
abbrev runtime_TypeAssertionError_RuntimeError : FuncId := 145
noncomputable abbrev fn_runtime_TypeAssertionError_RuntimeError : Func := Tryz.f145
theorem get_runtime_TypeAssertionError_RuntimeError : P.funcs[runtime_TypeAssertionError_RuntimeError]? = some fn_runtime_TypeAssertionError_RuntimeError := Tryz.func145
abbrev runtime_PanicNilError_Error : FuncId := 146
noncomputable abbrev fn_runtime_PanicNilError_Error : Func := Tryz.f146
theorem get_runtime_PanicNilError_Error : P.funcs[runtime_PanicNilError_Error]? = some fn_runtime_PanicNilError_Error := Tryz.func146
abbrev runtime_PanicNilError_RuntimeError : FuncId := 147
noncomputable abbrev fn_runtime_PanicNilError_RuntimeError : Func := Tryz.f147
theorem get_runtime_PanicNilError_RuntimeError : P.funcs[runtime_PanicNilError_RuntimeError]? = some fn_runtime_PanicNilError_RuntimeError := Tryz.func147
abbrev internal_abi_Type_Align : FuncId := 148
noncomputable abbrev fn_internal_abi_Type_Align : Func := Tryz.f148
theorem get_internal_abi_Type_Align : P.funcs[internal_abi_Type_Align]? = some fn_internal_abi_Type_Align := Tryz.func148
abbrev internal_runtime_maps_unhashableTypeError_Error : FuncId := 149
noncomputable abbrev fn_internal_runtime_maps_unhashableTypeError_Error : Func := Tryz.f149
theorem get_internal_runtime_maps_unhashableTypeError_Error : P.funcs[internal_runtime_maps_unhashableTypeError_Error]? = some fn_internal_runtime_maps_unhashableTypeError_Error := Tryz.func149
abbrev internal_runtime_maps_unhashableTypeError_RuntimeError : FuncId := 150
noncomputable abbrev fn_internal_runtime_maps_unhashableTypeError_RuntimeError : Func := Tryz.f150
theorem get_internal_runtime_maps_unhashableTypeError_RuntimeError : P.funcs[internal_runtime_maps_unhashableTypeError_RuntimeError]? = some fn_internal_runtime_maps_unhashableTypeError_RuntimeError := Tryz.func150
abbrev made_Dice_Left : FuncId := 151
noncomputable abbrev fn_made_Dice_Left : Func := Tryz.f151
theorem get_made_Dice_Left : P.funcs[made_Dice_Left]? = some fn_made_Dice_Left := Tryz.func151
abbrev internal_abi_Kind_String : FuncId := 152
noncomputable abbrev fn_internal_abi_Kind_String : Func := Tryz.f152
theorem get_internal_abi_Kind_String : P.funcs[internal_abi_Kind_String]? = some fn_internal_abi_Kind_String := Tryz.func152

/-- int64 -/
abbrev ty2 : TI := ⟨.int .i64, 1, 8, .int .i64 0⟩
theorem ok2 : TyOK P 2 ty2 := tyOK (by kernel_rfl) (by kernel_rfl) (by kernel_rfl)
/-- int -/
abbrev ty3 : TI := ⟨.int .i64, 1, 8, .int .i64 0⟩
theorem ok3 : TyOK P 3 ty3 := tyOK (by kernel_rfl) (by kernel_rfl) (by kernel_rfl)
/-- bool -/
abbrev ty4 : TI := ⟨.bool, 1, 1, .bool false⟩
theorem ok4 : TyOK P 4 ty4 := tyOK (by kernel_rfl) (by kernel_rfl) (by kernel_rfl)
/-- uint8 -/
abbrev ty5 : TI := ⟨.int .u8, 1, 1, .int .u8 0⟩
theorem ok5 : TyOK P 5 ty5 := tyOK (by kernel_rfl) (by kernel_rfl) (by kernel_rfl)
/-- abi.BoundsErrorCode -/
abbrev ty6 : TI := ⟨.int .u8, 1, 1, .int .u8 0⟩
theorem ok6 : TyOK P 6 ty6 := tyOK (by kernel_rfl) (by kernel_rfl) (by kernel_rfl)
/-- struct { x int64; y int; signed bool; code abi.BoundsErrorCode } -/
abbrev ty7 : TI := ⟨.struct #[{ name := "x", type := 2, offset := 0, embedded := false, tag := "", pkgPath := "runtime", byteOffset := 0 }, { name := "y", type := 3, offset := 1, embedded := false, tag := "", pkgPath := "runtime", byteOffset := 8 }, { name := "signed", type := 4, offset := 2, embedded := false, tag := "", pkgPath := "runtime", byteOffset := 16 }, { name := "code", type := 6, offset := 3, embedded := false, tag := "", pkgPath := "runtime", byteOffset := 17 }], 4, 24, .agg [.int .i64 0, .int .i64 0, .bool false, .int .u8 0]⟩
theorem ok7 : TyOK P 7 ty7 := tyOK (by kernel_rfl) (by kernel_rfl) (by kernel_rfl)
/-- runtime.boundsError -/
abbrev ty8 : TI := ⟨.struct #[{ name := "x", type := 2, offset := 0, embedded := false, tag := "", pkgPath := "runtime", byteOffset := 0 }, { name := "y", type := 3, offset := 1, embedded := false, tag := "", pkgPath := "runtime", byteOffset := 8 }, { name := "signed", type := 4, offset := 2, embedded := false, tag := "", pkgPath := "runtime", byteOffset := 16 }, { name := "code", type := 6, offset := 3, embedded := false, tag := "", pkgPath := "runtime", byteOffset := 17 }], 4, 24, .agg [.int .i64 0, .int .i64 0, .bool false, .int .u8 0]⟩
theorem ok8 : TyOK P 8 ty8 := tyOK (by kernel_rfl) (by kernel_rfl) (by kernel_rfl)
/-- string -/
abbrev ty9 : TI := ⟨.string, 1, 16, .tuple []⟩
theorem ok9 : TyOK P 9 ty9 := tyOK' (by kernel_rfl) (by kernel_rfl) rfl
/-- runtime.errorString -/
abbrev ty10 : TI := ⟨.string, 1, 16, .tuple []⟩
theorem ok10 : TyOK P 10 ty10 := tyOK' (by kernel_rfl) (by kernel_rfl) rfl
/-- runtime.plainError -/
abbrev ty11 : TI := ⟨.string, 1, 16, .tuple []⟩
theorem ok11 : TyOK P 11 ty11 := tyOK' (by kernel_rfl) (by kernel_rfl) rfl
/-- uintptr -/
abbrev ty12 : TI := ⟨.int .u64, 1, 8, .int .u64 0⟩
theorem ok12 : TyOK P 12 ty12 := tyOK (by kernel_rfl) (by kernel_rfl) (by kernel_rfl)
/-- struct { msg string; addr uintptr } -/
abbrev ty13 : TI := ⟨.struct #[{ name := "msg", type := 9, offset := 0, embedded := false, tag := "", pkgPath := "runtime", byteOffset := 0 }, { name := "addr", type := 12, offset := 1, embedded := false, tag := "", pkgPath := "runtime", byteOffset := 16 }], 2, 24, .tuple []⟩
theorem ok13 : TyOK P 13 ty13 := tyOK' (by kernel_rfl) (by kernel_rfl) rfl
/-- runtime.errorAddressString -/
abbrev ty14 : TI := ⟨.struct #[{ name := "msg", type := 9, offset := 0, embedded := false, tag := "", pkgPath := "runtime", byteOffset := 0 }, { name := "addr", type := 12, offset := 1, embedded := false, tag := "", pkgPath := "runtime", byteOffset := 16 }], 2, 24, .tuple []⟩
theorem ok14 : TyOK P 14 ty14 := tyOK' (by kernel_rfl) (by kernel_rfl) rfl
/-- *runtime.TypeAssertionError -/
abbrev ty15 : TI := ⟨.pointer 128, 1, 8, .tuple []⟩
theorem ok15 : TyOK P 15 ty15 := tyOK' (by kernel_rfl) (by kernel_rfl) rfl
/-- *runtime.PanicNilError -/
abbrev ty16 : TI := ⟨.pointer 131, 1, 8, .tuple []⟩
theorem ok16 : TyOK P 16 ty16 := tyOK' (by kernel_rfl) (by kernel_rfl) rfl
/-- *abi.Type -/
abbrev ty17 : TI := ⟨.pointer 140, 1, 8, .tuple []⟩
theorem ok17 : TyOK P 17 ty17 := tyOK' (by kernel_rfl) (by kernel_rfl) rfl
/-- struct { typ *abi.Type } -/
abbrev ty18 : TI := ⟨.struct #[{ name := "typ", type := 17, offset := 0, embedded := false, tag := "", pkgPath := "internal/runtime/maps", byteOffset := 0 }], 1, 8, .tuple []⟩
theorem ok18 : TyOK P 18 ty18 := tyOK' (by kernel_rfl) (by kernel_rfl) rfl
/-- maps.unhashableTypeError -/
abbrev ty19 : TI := ⟨.struct #[{ name := "typ", type := 17, offset := 0, embedded := false, tag := "", pkgPath := "internal/runtime/maps", byteOffset := 0 }], 1, 8, .tuple []⟩
theorem ok19 : TyOK P 19 ty19 := tyOK' (by kernel_rfl) (by kernel_rfl) rfl
/-- int32 -/
abbrev ty21 : TI := ⟨.int .i32, 1, 4, .int .i32 0⟩
theorem ok21 : TyOK P 21 ty21 := tyOK (by kernel_rfl) (by kernel_rfl) (by kernel_rfl)
/-- []int -/
abbrev ty22 : TI := ⟨.slice 3, 1, 24, .nil⟩
theorem ok22 : TyOK P 22 ty22 := tyOK (by kernel_rfl) (by kernel_rfl) (by kernel_rfl)
/-- *brepkernelmade.Dice -/
abbrev ty25 : TI := ⟨.pointer 66, 1, 8, .tuple []⟩
theorem ok25 : TyOK P 25 ty25 := tyOK' (by kernel_rfl) (by kernel_rfl) rfl
/-- []uint32 -/
abbrev ty27 : TI := ⟨.slice 99, 1, 24, .nil⟩
theorem ok27 : TyOK P 27 ty27 := tyOK (by kernel_rfl) (by kernel_rfl) (by kernel_rfl)
/-- struct { Neg bool; Num []uint32; Den []uint32 } -/
abbrev ty28 : TI := ⟨.struct #[{ name := "Neg", type := 4, offset := 0, embedded := false, tag := "", pkgPath := "", byteOffset := 0 }, { name := "Num", type := 27, offset := 1, embedded := false, tag := "", pkgPath := "", byteOffset := 8 }, { name := "Den", type := 27, offset := 2, embedded := false, tag := "", pkgPath := "", byteOffset := 32 }], 3, 56, .agg [.bool false, .nil, .nil]⟩
theorem ok28 : TyOK P 28 ty28 := tyOK (by kernel_rfl) (by kernel_rfl) (by kernel_rfl)
/-- api.Rat -/
abbrev ty29 : TI := ⟨.struct #[{ name := "Neg", type := 4, offset := 0, embedded := false, tag := "", pkgPath := "", byteOffset := 0 }, { name := "Num", type := 27, offset := 1, embedded := false, tag := "", pkgPath := "", byteOffset := 8 }, { name := "Den", type := 27, offset := 2, embedded := false, tag := "", pkgPath := "", byteOffset := 32 }], 3, 56, .rat 0 1⟩
theorem ok29 : TyOK P 29 ty29 := tyOK (by kernel_rfl) (by kernel_rfl) (by kernel_rfl)
/-- [3]api.Rat -/
abbrev ty30 : TI := ⟨.array 3 29, 9, 168, .agg [.rat 0 1, .rat 0 1, .rat 0 1]⟩
theorem ok30 : TyOK P 30 ty30 := tyOK (by kernel_rfl) (by kernel_rfl) (by kernel_rfl)
/-- api.Point -/
abbrev ty31 : TI := ⟨.array 3 29, 9, 168, .agg [.rat 0 1, .rat 0 1, .rat 0 1]⟩
theorem ok31 : TyOK P 31 ty31 := tyOK (by kernel_rfl) (by kernel_rfl) (by kernel_rfl)
/-- [3]api.Point -/
abbrev ty32 : TI := ⟨.array 3 31, 27, 504, .agg [.agg [.rat 0 1, .rat 0 1, .rat 0 1], .agg [.rat 0 1, .rat 0 1, .rat 0 1], .agg [.rat 0 1, .rat 0 1, .rat 0 1]]⟩
theorem ok32 : TyOK P 32 ty32 := tyOK (by kernel_rfl) (by kernel_rfl) (by kernel_rfl)
/-- struct { M [3]api.Point; T api.Point } -/
abbrev ty33 : TI := ⟨.struct #[{ name := "M", type := 32, offset := 0, embedded := false, tag := "", pkgPath := "", byteOffset := 0 }, { name := "T", type := 31, offset := 27, embedded := false, tag := "", pkgPath := "", byteOffset := 504 }], 36, 672, .agg [.agg [.agg [.rat 0 1, .rat 0 1, .rat 0 1], .agg [.rat 0 1, .rat 0 1, .rat 0 1], .agg [.rat 0 1, .rat 0 1, .rat 0 1]], .agg [.rat 0 1, .rat 0 1, .rat 0 1]]⟩
theorem ok33 : TyOK P 33 ty33 := tyOK (by kernel_rfl) (by kernel_rfl) (by kernel_rfl)
/-- api.Map -/
abbrev ty34 : TI := ⟨.struct #[{ name := "M", type := 32, offset := 0, embedded := false, tag := "", pkgPath := "", byteOffset := 0 }, { name := "T", type := 31, offset := 27, embedded := false, tag := "", pkgPath := "", byteOffset := 504 }], 36, 672, .agg [.agg [.agg [.rat 0 1, .rat 0 1, .rat 0 1], .agg [.rat 0 1, .rat 0 1, .rat 0 1], .agg [.rat 0 1, .rat 0 1, .rat 0 1]], .agg [.rat 0 1, .rat 0 1, .rat 0 1]]⟩
theorem ok34 : TyOK P 34 ty34 := tyOK (by kernel_rfl) (by kernel_rfl) (by kernel_rfl)
/-- api.Errno -/
abbrev ty37 : TI := ⟨.int .i64, 1, 8, .int .i64 0⟩
theorem ok37 : TyOK P 37 ty37 := tyOK (by kernel_rfl) (by kernel_rfl) (by kernel_rfl)
/-- []api.Point -/
abbrev ty46 : TI := ⟨.slice 31, 1, 24, .nil⟩
theorem ok46 : TyOK P 46 ty46 := tyOK (by kernel_rfl) (by kernel_rfl) (by kernel_rfl)
/-- struct { Lo api.Rat; Hi api.Rat } -/
abbrev ty47 : TI := ⟨.struct #[{ name := "Lo", type := 29, offset := 0, embedded := false, tag := "", pkgPath := "", byteOffset := 0 }, { name := "Hi", type := 29, offset := 3, embedded := false, tag := "", pkgPath := "", byteOffset := 56 }], 6, 112, .agg [.rat 0 1, .rat 0 1]⟩
theorem ok47 : TyOK P 47 ty47 := tyOK (by kernel_rfl) (by kernel_rfl) (by kernel_rfl)
/-- api.Span -/
abbrev ty48 : TI := ⟨.struct #[{ name := "Lo", type := 29, offset := 0, embedded := false, tag := "", pkgPath := "", byteOffset := 0 }, { name := "Hi", type := 29, offset := 3, embedded := false, tag := "", pkgPath := "", byteOffset := 56 }], 6, 112, .agg [.rat 0 1, .rat 0 1]⟩
theorem ok48 : TyOK P 48 ty48 := tyOK (by kernel_rfl) (by kernel_rfl) (by kernel_rfl)
/-- [3]api.Span -/
abbrev ty49 : TI := ⟨.array 3 48, 18, 336, .agg [.agg [.rat 0 1, .rat 0 1], .agg [.rat 0 1, .rat 0 1], .agg [.rat 0 1, .rat 0 1]]⟩
theorem ok49 : TyOK P 49 ty49 := tyOK (by kernel_rfl) (by kernel_rfl) (by kernel_rfl)
/-- api.Box -/
abbrev ty50 : TI := ⟨.array 3 48, 18, 336, .agg [.agg [.rat 0 1, .rat 0 1], .agg [.rat 0 1, .rat 0 1], .agg [.rat 0 1, .rat 0 1]]⟩
theorem ok50 : TyOK P 50 ty50 := tyOK (by kernel_rfl) (by kernel_rfl) (by kernel_rfl)
/-- struct { N api.Point; D api.Rat } -/
abbrev ty58 : TI := ⟨.struct #[{ name := "N", type := 31, offset := 0, embedded := false, tag := "", pkgPath := "", byteOffset := 0 }, { name := "D", type := 29, offset := 9, embedded := false, tag := "", pkgPath := "", byteOffset := 168 }], 12, 224, .agg [.agg [.rat 0 1, .rat 0 1, .rat 0 1], .rat 0 1]⟩
theorem ok58 : TyOK P 58 ty58 := tyOK (by kernel_rfl) (by kernel_rfl) (by kernel_rfl)
/-- api.Plane -/
abbrev ty59 : TI := ⟨.struct #[{ name := "N", type := 31, offset := 0, embedded := false, tag := "", pkgPath := "", byteOffset := 0 }, { name := "D", type := 29, offset := 9, embedded := false, tag := "", pkgPath := "", byteOffset := 168 }], 12, 224, .agg [.agg [.rat 0 1, .rat 0 1, .rat 0 1], .rat 0 1]⟩
theorem ok59 : TyOK P 59 ty59 := tyOK (by kernel_rfl) (by kernel_rfl) (by kernel_rfl)
/-- struct { L []int; At int } -/
abbrev ty65 : TI := ⟨.struct #[{ name := "L", type := 22, offset := 0, embedded := false, tag := "", pkgPath := "", byteOffset := 0 }, { name := "At", type := 3, offset := 1, embedded := false, tag := "", pkgPath := "", byteOffset := 24 }], 2, 32, .agg [.nil, .int .i64 0]⟩
theorem ok65 : TyOK P 65 ty65 := tyOK (by kernel_rfl) (by kernel_rfl) (by kernel_rfl)
/-- brepkernelmade.Dice -/
abbrev ty66 : TI := ⟨.struct #[{ name := "L", type := 22, offset := 0, embedded := false, tag := "", pkgPath := "", byteOffset := 0 }, { name := "At", type := 3, offset := 1, embedded := false, tag := "", pkgPath := "", byteOffset := 24 }], 2, 32, .agg [.nil, .int .i64 0]⟩
theorem ok66 : TyOK P 66 ty66 := tyOK (by kernel_rfl) (by kernel_rfl) (by kernel_rfl)
/-- uint64 -/
abbrev ty88 : TI := ⟨.int .u64, 1, 8, .int .u64 0⟩
theorem ok88 : TyOK P 88 ty88 := tyOK (by kernel_rfl) (by kernel_rfl) (by kernel_rfl)
/-- uint32 -/
abbrev ty99 : TI := ⟨.int .u32, 1, 4, .int .u32 0⟩
theorem ok99 : TyOK P 99 ty99 := tyOK (by kernel_rfl) (by kernel_rfl) (by kernel_rfl)
/-- uint -/
abbrev ty112 : TI := ⟨.int .u64, 1, 8, .int .u64 0⟩
theorem ok112 : TyOK P 112 ty112 := tyOK (by kernel_rfl) (by kernel_rfl) (by kernel_rfl)
/-- struct { _interface *abi.Type; concrete *abi.Type; asserted *abi.Type; missingMethod string } -/
abbrev ty127 : TI := ⟨.struct #[{ name := "_interface", type := 17, offset := 0, embedded := false, tag := "", pkgPath := "runtime", byteOffset := 0 }, { name := "concrete", type := 17, offset := 1, embedded := false, tag := "", pkgPath := "runtime", byteOffset := 8 }, { name := "asserted", type := 17, offset := 2, embedded := false, tag := "", pkgPath := "runtime", byteOffset := 16 }, { name := "missingMethod", type := 9, offset := 3, embedded := false, tag := "", pkgPath := "runtime", byteOffset := 24 }], 4, 40, .tuple []⟩
theorem ok127 : TyOK P 127 ty127 := tyOK' (by kernel_rfl) (by kernel_rfl) rfl
/-- runtime.TypeAssertionError -/
abbrev ty128 : TI := ⟨.struct #[{ name := "_interface", type := 17, offset := 0, embedded := false, tag := "", pkgPath := "runtime", byteOffset := 0 }, { name := "concrete", type := 17, offset := 1, embedded := false, tag := "", pkgPath := "runtime", byteOffset := 8 }, { name := "asserted", type := 17, offset := 2, embedded := false, tag := "", pkgPath := "runtime", byteOffset := 16 }, { name := "missingMethod", type := 9, offset := 3, embedded := false, tag := "", pkgPath := "runtime", byteOffset := 24 }], 4, 40, .tuple []⟩
theorem ok128 : TyOK P 128 ty128 := tyOK' (by kernel_rfl) (by kernel_rfl) rfl
/-- abi.TFlag -/
abbrev ty133 : TI := ⟨.int .u8, 1, 1, .int .u8 0⟩
theorem ok133 : TyOK P 133 ty133 := tyOK (by kernel_rfl) (by kernel_rfl) (by kernel_rfl)
/-- abi.Kind -/
abbrev ty134 : TI := ⟨.int .u8, 1, 1, .int .u8 0⟩
theorem ok134 : TyOK P 134 ty134 := tyOK (by kernel_rfl) (by kernel_rfl) (by kernel_rfl)
/-- *uint8 -/
abbrev ty136 : TI := ⟨.pointer 5, 1, 8, .tuple []⟩
theorem ok136 : TyOK P 136 ty136 := tyOK' (by kernel_rfl) (by kernel_rfl) rfl
/-- abi.NameOff -/
abbrev ty137 : TI := ⟨.int .i32, 1, 4, .int .i32 0⟩
theorem ok137 : TyOK P 137 ty137 := tyOK (by kernel_rfl) (by kernel_rfl) (by kernel_rfl)
/-- abi.TypeOff -/
abbrev ty138 : TI := ⟨.int .i32, 1, 4, .int .i32 0⟩
theorem ok138 : TyOK P 138 ty138 := tyOK (by kernel_rfl) (by kernel_rfl) (by kernel_rfl)
/-- struct { Size_ uintptr; PtrBytes uintptr; Hash uint32; TFlag abi.TFlag; Align_ uint8; FieldAlign_ uint8; Kind_ abi.Kind; Equal func(unsafe.Pointer, unsafe.Pointer) bool; GCData *uint8; Str abi.NameOff; PtrToThis abi.TypeOff } -/
abbrev ty139 : TI := ⟨.struct #[{ name := "Size_", type := 12, offset := 0, embedded := false, tag := "", pkgPath := "", byteOffset := 0 }, { name := "PtrBytes", type := 12, offset := 1, embedded := false, tag := "", pkgPath := "", byteOffset := 8 }, { name := "Hash", type := 99, offset := 2, embedded := false, tag := "", pkgPath := "", byteOffset := 16 }, { name := "TFlag", type := 133, offset := 3, embedded := false, tag := "", pkgPath := "", byteOffset := 20 }, { name := "Align_", type := 5, offset := 4, embedded := false, tag := "", pkgPath := "", byteOffset := 21 }, { name := "FieldAlign_", type := 5, offset := 5, embedded := false, tag := "", pkgPath := "", byteOffset := 22 }, { name := "Kind_", type := 134, offset := 6, embedded := false, tag := "", pkgPath := "", byteOffset := 23 }, { name := "Equal", type := 135, offset := 7, embedded := false, tag := "", pkgPath := "", byteOffset := 24 }, { name := "GCData", type := 136, offset := 8, embedded := false, tag := "", pkgPath := "", byteOffset := 32 }, { name := "Str", type := 137, offset := 9, embedded := false, tag := "", pkgPath := "", byteOffset := 40 }, { name := "PtrToThis", type := 138, offset := 10, embedded := false, tag := "", pkgPath := "", byteOffset := 44 }], 11, 48, .tuple []⟩
theorem ok139 : TyOK P 139 ty139 := tyOK' (by kernel_rfl) (by kernel_rfl) rfl
/-- abi.Type -/
abbrev ty140 : TI := ⟨.struct #[{ name := "Size_", type := 12, offset := 0, embedded := false, tag := "", pkgPath := "", byteOffset := 0 }, { name := "PtrBytes", type := 12, offset := 1, embedded := false, tag := "", pkgPath := "", byteOffset := 8 }, { name := "Hash", type := 99, offset := 2, embedded := false, tag := "", pkgPath := "", byteOffset := 16 }, { name := "TFlag", type := 133, offset := 3, embedded := false, tag := "", pkgPath := "", byteOffset := 20 }, { name := "Align_", type := 5, offset := 4, embedded := false, tag := "", pkgPath := "", byteOffset := 21 }, { name := "FieldAlign_", type := 5, offset := 5, embedded := false, tag := "", pkgPath := "", byteOffset := 22 }, { name := "Kind_", type := 134, offset := 6, embedded := false, tag := "", pkgPath := "", byteOffset := 23 }, { name := "Equal", type := 135, offset := 7, embedded := false, tag := "", pkgPath := "", byteOffset := 24 }, { name := "GCData", type := 136, offset := 8, embedded := false, tag := "", pkgPath := "", byteOffset := 32 }, { name := "Str", type := 137, offset := 9, embedded := false, tag := "", pkgPath := "", byteOffset := 40 }, { name := "PtrToThis", type := 138, offset := 10, embedded := false, tag := "", pkgPath := "", byteOffset := 44 }], 11, 48, .tuple []⟩
theorem ok140 : TyOK P 140 ty140 := tyOK' (by kernel_rfl) (by kernel_rfl) rfl
abbrev T : Types := [(2, ty2), (3, ty3), (4, ty4), (5, ty5), (6, ty6), (7, ty7), (8, ty8), (9, ty9), (10, ty10), (11, ty11), (12, ty12), (13, ty13), (14, ty14), (15, ty15), (16, ty16), (17, ty17), (18, ty18), (19, ty19), (21, ty21), (22, ty22), (25, ty25), (27, ty27), (28, ty28), (29, ty29), (30, ty30), (31, ty31), (32, ty32), (33, ty33), (34, ty34), (37, ty37), (46, ty46), (47, ty47), (48, ty48), (49, ty49), (50, ty50), (58, ty58), (59, ty59), (65, ty65), (66, ty66), (88, ty88), (99, ty99), (112, ty112), (127, ty127), (128, ty128), (133, ty133), (134, ty134), (136, ty136), (137, ty137), (138, ty138), (139, ty139), (140, ty140)]
theorem hT : TOK P T := tok_cons ok2 (tok_cons ok3 (tok_cons ok4 (tok_cons ok5 (tok_cons ok6 (tok_cons ok7 (tok_cons ok8 (tok_cons ok9 (tok_cons ok10 (tok_cons ok11 (tok_cons ok12 (tok_cons ok13 (tok_cons ok14 (tok_cons ok15 (tok_cons ok16 (tok_cons ok17 (tok_cons ok18 (tok_cons ok19 (tok_cons ok21 (tok_cons ok22 (tok_cons ok25 (tok_cons ok27 (tok_cons ok28 (tok_cons ok29 (tok_cons ok30 (tok_cons ok31 (tok_cons ok32 (tok_cons ok33 (tok_cons ok34 (tok_cons ok37 (tok_cons ok46 (tok_cons ok47 (tok_cons ok48 (tok_cons ok49 (tok_cons ok50 (tok_cons ok58 (tok_cons ok59 (tok_cons ok65 (tok_cons ok66 (tok_cons ok88 (tok_cons ok99 (tok_cons ok112 (tok_cons ok127 (tok_cons ok128 (tok_cons ok133 (tok_cons ok134 (tok_cons ok136 (tok_cons ok137 (tok_cons ok138 (tok_cons ok139 (tok_cons ok140 (tok_nil)))))))))))))))))))))))))))))))))))))))))))))))))))
end Go.Am.N
