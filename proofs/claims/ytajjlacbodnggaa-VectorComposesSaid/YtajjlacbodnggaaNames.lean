/- The seat's names: the numbers of functions, the types. Written by a program. -/
import Derived.Test.YtajjlacbodnggaaZ1
import Derived.Test.YtajjlacbodnggaaProg
import Derived.KernelRfl
set_option linter.unusedVariables false
namespace Go.Am.N
open Go.Proofs

noncomputable abbrev P : Program := Try.prog
theorem hm : P.follows .mixedOrders = true := by kernel_rfl

abbrev main_main : FuncId := 0
noncomputable abbrev fn_main_main : Func := Try.f0
theorem get_main_main : P.funcs[main_main]? = some fn_main_main := Try.func0
abbrev gosem_cut : FuncId := 1
noncomputable abbrev fn_gosem_cut : Func := Try.f1
theorem get_gosem_cut : P.funcs[gosem_cut]? = some fn_gosem_cut := Try.func1
abbrev gosem_cut_init : FuncId := 2
noncomputable abbrev fn_gosem_cut_init : Func := Try.f2
theorem get_gosem_cut_init : P.funcs[gosem_cut_init]? = some fn_gosem_cut_init := Try.func2
abbrev law04_VectorProducts : FuncId := 3
noncomputable abbrev fn_law04_VectorProducts : Func := Try.f3
theorem get_law04_VectorProducts : P.funcs[law04_VectorProducts]? = some fn_law04_VectorProducts := Try.func3
abbrev law04_VectorSums : FuncId := 4
noncomputable abbrev fn_law04_VectorSums : Func := Try.f4
theorem get_law04_VectorSums : P.funcs[law04_VectorSums]? = some fn_law04_VectorSums := Try.func4
abbrev law04_VectorSigns : FuncId := 5
noncomputable abbrev fn_law04_VectorSigns : Func := Try.f5
theorem get_law04_VectorSigns : P.funcs[law04_VectorSigns]? = some fn_law04_VectorSigns := Try.func5
abbrev law04_VectorSides : FuncId := 6
noncomputable abbrev fn_law04_VectorSides : Func := Try.f6
theorem get_law04_VectorSides : P.funcs[law04_VectorSides]? = some fn_law04_VectorSides := Try.func6
abbrev law04_VectorNearest : FuncId := 7
noncomputable abbrev fn_law04_VectorNearest : Func := Try.f7
theorem get_law04_VectorNearest : P.funcs[law04_VectorNearest]? = some fn_law04_VectorNearest := Try.func7
abbrev law04_VectorComposes : FuncId := 8
noncomputable abbrev fn_law04_VectorComposes : Func := Try.f8
theorem get_law04_VectorComposes : P.funcs[law04_VectorComposes]? = some fn_law04_VectorComposes := Try.func8
abbrev made_Light : FuncId := 9
noncomputable abbrev fn_made_Light : Func := Try.f9
theorem get_made_Light : P.funcs[made_Light]? = some fn_made_Light := Try.func9
abbrev law04_awake : FuncId := 10
noncomputable abbrev fn_law04_awake : Func := Try.f10
theorem get_law04_awake : P.funcs[law04_awake]? = some fn_law04_awake := Try.func10
abbrev made_Roll : FuncId := 11
noncomputable abbrev fn_made_Roll : Func := Try.f11
theorem get_made_Roll : P.funcs[made_Roll]? = some fn_made_Roll := Try.func11
abbrev made_Dice_Point : FuncId := 12
noncomputable abbrev fn_made_Dice_Point : Func := Try.f12
theorem get_made_Dice_Point : P.funcs[made_Dice_Point]? = some fn_made_Dice_Point := Try.func12
abbrev vector_Cross : FuncId := 13
noncomputable abbrev fn_vector_Cross : Func := Try.f13
theorem get_vector_Cross : P.funcs[vector_Cross]? = some fn_vector_Cross := Try.func13
abbrev vector_Dot : FuncId := 14
noncomputable abbrev fn_vector_Dot : Func := Try.f14
theorem get_vector_Dot : P.funcs[vector_Dot]? = some fn_vector_Dot := Try.func14
abbrev ref02_Sub : FuncId := 15
noncomputable abbrev fn_ref02_Sub : Func := Try.f15
theorem get_ref02_Sub : P.funcs[ref02_Sub]? = some fn_ref02_Sub := Try.func15
abbrev ref02_Mul : FuncId := 16
noncomputable abbrev fn_ref02_Mul : Func := Try.f16
theorem get_ref02_Mul : P.funcs[ref02_Mul]? = some fn_ref02_Mul := Try.func16
abbrev vector_Add : FuncId := 17
noncomputable abbrev fn_vector_Add : Func := Try.f17
theorem get_vector_Add : P.funcs[vector_Add]? = some fn_vector_Add := Try.func17
abbrev ref02_Sign : FuncId := 18
noncomputable abbrev fn_ref02_Sign : Func := Try.f18
theorem get_ref02_Sign : P.funcs[ref02_Sign]? = some fn_ref02_Sign := Try.func18
abbrev ref02_Same : FuncId := 19
noncomputable abbrev fn_ref02_Same : Func := Try.f19
theorem get_ref02_Same : P.funcs[ref02_Same]? = some fn_ref02_Same := Try.func19
abbrev vector_Zero : FuncId := 20
noncomputable abbrev fn_vector_Zero : Func := Try.f20
theorem get_vector_Zero : P.funcs[vector_Zero]? = some fn_vector_Zero := Try.func20
abbrev vector_Det : FuncId := 21
noncomputable abbrev fn_vector_Det : Func := Try.f21
theorem get_vector_Det : P.funcs[vector_Det]? = some fn_vector_Det := Try.func21
abbrev made_Dice_Number : FuncId := 22
noncomputable abbrev fn_made_Dice_Number : Func := Try.f22
theorem get_made_Dice_Number : P.funcs[made_Dice_Number]? = some fn_made_Dice_Number := Try.func22
abbrev vector_Same : FuncId := 23
noncomputable abbrev fn_vector_Same : Func := Try.f23
theorem get_vector_Same : P.funcs[vector_Same]? = some fn_vector_Same := Try.func23
abbrev ref04_Same : FuncId := 24
noncomputable abbrev fn_ref04_Same : Func := Try.f24
theorem get_ref04_Same : P.funcs[ref04_Same]? = some fn_ref04_Same := Try.func24
abbrev ref04_Zero : FuncId := 25
noncomputable abbrev fn_ref04_Zero : Func := Try.f25
theorem get_ref04_Zero : P.funcs[ref04_Zero]? = some fn_ref04_Zero := Try.func25
abbrev ref04_Add : FuncId := 26
noncomputable abbrev fn_ref04_Add : Func := Try.f26
theorem get_ref04_Add : P.funcs[ref04_Add]? = some fn_ref04_Add := Try.func26
abbrev vector_Sub : FuncId := 27
noncomputable abbrev fn_vector_Sub : Func := Try.f27
theorem get_vector_Sub : P.funcs[vector_Sub]? = some fn_vector_Sub := Try.func27
abbrev ref04_Sub : FuncId := 28
noncomputable abbrev fn_ref04_Sub : Func := Try.f28
theorem get_ref04_Sub : P.funcs[ref04_Sub]? = some fn_ref04_Sub := Try.func28
abbrev vector_Scale : FuncId := 29
noncomputable abbrev fn_vector_Scale : Func := Try.f29
theorem get_vector_Scale : P.funcs[vector_Scale]? = some fn_vector_Scale := Try.func29
abbrev ref04_Scale : FuncId := 30
noncomputable abbrev fn_ref04_Scale : Func := Try.f30
theorem get_ref04_Scale : P.funcs[ref04_Scale]? = some fn_ref04_Scale := Try.func30
abbrev ref04_Dot : FuncId := 31
noncomputable abbrev fn_ref04_Dot : Func := Try.f31
theorem get_ref04_Dot : P.funcs[ref04_Dot]? = some fn_ref04_Dot := Try.func31
abbrev ref04_Cross : FuncId := 32
noncomputable abbrev fn_ref04_Cross : Func := Try.f32
theorem get_ref04_Cross : P.funcs[ref04_Cross]? = some fn_ref04_Cross := Try.func32
abbrev ref04_Det : FuncId := 33
noncomputable abbrev fn_ref04_Det : Func := Try.f33
theorem get_ref04_Det : P.funcs[ref04_Det]? = some fn_ref04_Det := Try.func33
abbrev vector_Orient3 : FuncId := 34
noncomputable abbrev fn_vector_Orient3 : Func := Try.f34
theorem get_vector_Orient3 : P.funcs[vector_Orient3]? = some fn_vector_Orient3 := Try.func34
abbrev vector_Orient2 : FuncId := 35
noncomputable abbrev fn_vector_Orient2 : Func := Try.f35
theorem get_vector_Orient2 : P.funcs[vector_Orient2]? = some fn_vector_Orient2 := Try.func35
abbrev vector_Through : FuncId := 36
noncomputable abbrev fn_vector_Through : Func := Try.f36
theorem get_vector_Through : P.funcs[vector_Through]? = some fn_vector_Through := Try.func36
abbrev vector_Side : FuncId := 37
noncomputable abbrev fn_vector_Side : Func := Try.f37
theorem get_vector_Side : P.funcs[vector_Side]? = some fn_vector_Side := Try.func37
abbrev ref04_Through : FuncId := 38
noncomputable abbrev fn_ref04_Through : Func := Try.f38
theorem get_ref04_Through : P.funcs[ref04_Through]? = some fn_ref04_Through := Try.func38
abbrev law04_samePlanes : FuncId := 39
noncomputable abbrev fn_law04_samePlanes : Func := Try.f39
theorem get_law04_samePlanes : P.funcs[law04_samePlanes]? = some fn_law04_samePlanes := Try.func39
abbrev ref04_Orient2 : FuncId := 40
noncomputable abbrev fn_ref04_Orient2 : Func := Try.f40
theorem get_ref04_Orient2 : P.funcs[ref04_Orient2]? = some fn_ref04_Orient2 := Try.func40
abbrev ref04_Orient3 : FuncId := 41
noncomputable abbrev fn_ref04_Orient3 : Func := Try.f41
theorem get_ref04_Orient3 : P.funcs[ref04_Orient3]? = some fn_ref04_Orient3 := Try.func41
abbrev vector_SamePlane : FuncId := 42
noncomputable abbrev fn_vector_SamePlane : Func := Try.f42
theorem get_vector_SamePlane : P.funcs[vector_SamePlane]? = some fn_vector_SamePlane := Try.func42
abbrev ref04_SamePlane : FuncId := 43
noncomputable abbrev fn_ref04_SamePlane : Func := Try.f43
theorem get_ref04_SamePlane : P.funcs[ref04_SamePlane]? = some fn_ref04_SamePlane := Try.func43
abbrev ref04_Side : FuncId := 44
noncomputable abbrev fn_ref04_Side : Func := Try.f44
theorem get_ref04_Side : P.funcs[ref04_Side]? = some fn_ref04_Side := Try.func44
abbrev vector_Segment : FuncId := 45
noncomputable abbrev fn_vector_Segment : Func := Try.f45
theorem get_vector_Segment : P.funcs[vector_Segment]? = some fn_vector_Segment := Try.func45
abbrev made_Part : FuncId := 46
noncomputable abbrev fn_made_Part : Func := Try.f46
theorem get_made_Part : P.funcs[made_Part]? = some fn_made_Part := Try.func46
abbrev ref02_Cmp : FuncId := 47
noncomputable abbrev fn_ref02_Cmp : Func := Try.f47
theorem get_ref02_Cmp : P.funcs[ref02_Cmp]? = some fn_ref02_Cmp := Try.func47
abbrev made_Dice_Map : FuncId := 48
noncomputable abbrev fn_made_Dice_Map : Func := Try.f48
theorem get_made_Dice_Map : P.funcs[made_Dice_Map]? = some fn_made_Dice_Map := Try.func48
abbrev vector_Compose : FuncId := 49
noncomputable abbrev fn_vector_Compose : Func := Try.f49
theorem get_vector_Compose : P.funcs[vector_Compose]? = some fn_vector_Compose := Try.func49
abbrev vector_Inverse : FuncId := 50
noncomputable abbrev fn_vector_Inverse : Func := Try.f50
theorem get_vector_Inverse : P.funcs[vector_Inverse]? = some fn_vector_Inverse := Try.func50
abbrev vector_Volume : FuncId := 51
noncomputable abbrev fn_vector_Volume : Func := Try.f51
theorem get_vector_Volume : P.funcs[vector_Volume]? = some fn_vector_Volume := Try.func51
abbrev vector_Apply : FuncId := 52
noncomputable abbrev fn_vector_Apply : Func := Try.f52
theorem get_vector_Apply : P.funcs[vector_Apply]? = some fn_vector_Apply := Try.func52
abbrev vector_Turn : FuncId := 53
noncomputable abbrev fn_vector_Turn : Func := Try.f53
theorem get_vector_Turn : P.funcs[vector_Turn]? = some fn_vector_Turn := Try.func53
abbrev vector_Identity : FuncId := 54
noncomputable abbrev fn_vector_Identity : Func := Try.f54
theorem get_vector_Identity : P.funcs[vector_Identity]? = some fn_vector_Identity := Try.func54
abbrev ref04_Unit : FuncId := 55
noncomputable abbrev fn_ref04_Unit : Func := Try.f55
theorem get_ref04_Unit : P.funcs[ref04_Unit]? = some fn_ref04_Unit := Try.func55
abbrev made_Dice_number : FuncId := 56
noncomputable abbrev fn_made_Dice_number : Func := Try.f56
theorem get_made_Dice_number : P.funcs[made_Dice_number]? = some fn_made_Dice_number := Try.func56
abbrev rational_Sub : FuncId := 57
noncomputable abbrev fn_rational_Sub : Func := Try.f57
theorem get_rational_Sub : P.funcs[rational_Sub]? = some fn_rational_Sub := Try.func57
abbrev rational_Mul : FuncId := 58
noncomputable abbrev fn_rational_Mul : Func := Try.f58
theorem get_rational_Mul : P.funcs[rational_Mul]? = some fn_rational_Mul := Try.func58
abbrev rational_Add : FuncId := 59
noncomputable abbrev fn_rational_Add : Func := Try.f59
theorem get_rational_Add : P.funcs[rational_Add]? = some fn_rational_Add := Try.func59
abbrev ref02_Add : FuncId := 60
noncomputable abbrev fn_ref02_Add : Func := Try.f60
theorem get_ref02_Add : P.funcs[ref02_Add]? = some fn_ref02_Add := Try.func60
abbrev ref02_Neg : FuncId := 61
noncomputable abbrev fn_ref02_Neg : Func := Try.f61
theorem get_ref02_Neg : P.funcs[ref02_Neg]? = some fn_ref02_Neg := Try.func61
abbrev ref02_reduce : FuncId := 62
noncomputable abbrev fn_ref02_reduce : Func := Try.f62
theorem get_ref02_reduce : P.funcs[ref02_reduce]? = some fn_ref02_reduce := Try.func62
abbrev ref01_Mul : FuncId := 63
noncomputable abbrev fn_ref01_Mul : Func := Try.f63
theorem get_ref01_Mul : P.funcs[ref01_Mul]? = some fn_ref01_Mul := Try.func63
abbrev ref02_Den : FuncId := 64
noncomputable abbrev fn_ref02_Den : Func := Try.f64
theorem get_ref02_Den : P.funcs[ref02_Den]? = some fn_ref02_Den := Try.func64
abbrev vector_each : FuncId := 65
noncomputable abbrev fn_vector_each : Func := Try.f65
theorem get_vector_each : P.funcs[vector_each]? = some fn_vector_each := Try.func65
abbrev ref01_Cmp : FuncId := 66
noncomputable abbrev fn_ref01_Cmp : Func := Try.f66
theorem get_ref01_Cmp : P.funcs[ref01_Cmp]? = some fn_ref01_Cmp := Try.func66
abbrev rational_Same : FuncId := 67
noncomputable abbrev fn_rational_Same : Func := Try.f67
theorem get_rational_Same : P.funcs[rational_Same]? = some fn_rational_Same := Try.func67
abbrev rational_Sign : FuncId := 68
noncomputable abbrev fn_rational_Sign : Func := Try.f68
theorem get_rational_Sign : P.funcs[rational_Sign]? = some fn_rational_Sign := Try.func68
abbrev rational_Cmp : FuncId := 69
noncomputable abbrev fn_rational_Cmp : Func := Try.f69
theorem get_rational_Cmp : P.funcs[rational_Cmp]? = some fn_rational_Cmp := Try.func69
abbrev ref04_SameNumbers : FuncId := 70
noncomputable abbrev fn_ref04_SameNumbers : Func := Try.f70
theorem get_ref04_SameNumbers : P.funcs[ref04_SameNumbers]? = some fn_ref04_SameNumbers := Try.func70
abbrev rational_Quo : FuncId := 71
noncomputable abbrev fn_rational_Quo : Func := Try.f71
theorem get_rational_Quo : P.funcs[rational_Quo]? = some fn_rational_Quo := Try.func71
abbrev rational_Max : FuncId := 72
noncomputable abbrev fn_rational_Max : Func := Try.f72
theorem get_rational_Max : P.funcs[rational_Max]? = some fn_rational_Max := Try.func72
abbrev rational_Min : FuncId := 73
noncomputable abbrev fn_rational_Min : Func := Try.f73
theorem get_rational_Min : P.funcs[rational_Min]? = some fn_rational_Min := Try.func73
abbrev rational_Int : FuncId := 74
noncomputable abbrev fn_rational_Int : Func := Try.f74
theorem get_rational_Int : P.funcs[rational_Int]? = some fn_rational_Int := Try.func74
abbrev made_Mod : FuncId := 75
noncomputable abbrev fn_made_Mod : Func := Try.f75
theorem get_made_Mod : P.funcs[made_Mod]? = some fn_made_Mod := Try.func75
abbrev ref02_Frac : FuncId := 76
noncomputable abbrev fn_ref02_Frac : Func := Try.f76
theorem get_ref02_Frac : P.funcs[ref02_Frac]? = some fn_ref02_Frac := Try.func76
abbrev vector_transposed : FuncId := 77
noncomputable abbrev fn_vector_transposed : Func := Try.f77
theorem get_vector_transposed : P.funcs[vector_transposed]? = some fn_vector_transposed := Try.func77
abbrev ref02_Int : FuncId := 78
noncomputable abbrev fn_ref02_Int : Func := Try.f78
theorem get_ref02_Int : P.funcs[ref02_Int]? = some fn_ref02_Int := Try.func78
abbrev made_Dice_Next : FuncId := 79
noncomputable abbrev fn_made_Dice_Next : Func := Try.f79
theorem get_made_Dice_Next : P.funcs[made_Dice_Next]? = some fn_made_Dice_Next := Try.func79
abbrev rational_add : FuncId := 80
noncomputable abbrev fn_rational_add : Func := Try.f80
theorem get_rational_add : P.funcs[rational_add]? = some fn_rational_add := Try.func80
abbrev rational_parts : FuncId := 81
noncomputable abbrev fn_rational_parts : Func := Try.f81
theorem get_rational_parts : P.funcs[rational_parts]? = some fn_rational_parts := Try.func81
abbrev rational_short : FuncId := 82
noncomputable abbrev fn_rational_short : Func := Try.f82
theorem get_rational_short : P.funcs[rational_short]? = some fn_rational_short := Try.func82
abbrev rational_reduce : FuncId := 83
noncomputable abbrev fn_rational_reduce : Func := Try.f83
theorem get_rational_reduce : P.funcs[rational_reduce]? = some fn_rational_reduce := Try.func83
abbrev natural_Mul : FuncId := 84
noncomputable abbrev fn_natural_Mul : Func := Try.f84
theorem get_natural_Mul : P.funcs[natural_Mul]? = some fn_natural_Mul := Try.func84
abbrev rational_den : FuncId := 85
noncomputable abbrev fn_rational_den : Func := Try.f85
theorem get_rational_den : P.funcs[rational_den]? = some fn_rational_den := Try.func85
abbrev ref01_Add : FuncId := 86
noncomputable abbrev fn_ref01_Add : Func := Try.f86
theorem get_ref01_Add : P.funcs[ref01_Add]? = some fn_ref01_Add := Try.func86
abbrev ref01_Sub : FuncId := 87
noncomputable abbrev fn_ref01_Sub : Func := Try.f87
theorem get_ref01_Sub : P.funcs[ref01_Sub]? = some fn_ref01_Sub := Try.func87
abbrev ref01_Trim : FuncId := 88
noncomputable abbrev fn_ref01_Trim : Func := Try.f88
theorem get_ref01_Trim : P.funcs[ref01_Trim]? = some fn_ref01_Trim := Try.func88
abbrev ref01_Gcd : FuncId := 89
noncomputable abbrev fn_ref01_Gcd : Func := Try.f89
theorem get_ref01_Gcd : P.funcs[ref01_Gcd]? = some fn_ref01_Gcd := Try.func89
abbrev ref01_Div : FuncId := 90
noncomputable abbrev fn_ref01_Div : Func := Try.f90
theorem get_ref01_Div : P.funcs[ref01_Div]? = some fn_ref01_Div := Try.func90
abbrev slices_Equal_uint32_uint32 : FuncId := 91
noncomputable abbrev fn_slices_Equal_uint32_uint32 : Func := Try.f91
theorem get_slices_Equal_uint32_uint32 : P.funcs[slices_Equal_uint32_uint32]? = some fn_slices_Equal_uint32_uint32 := Try.func91
abbrev natural_Bits : FuncId := 92
noncomputable abbrev fn_natural_Bits : Func := Try.f92
theorem get_natural_Bits : P.funcs[natural_Bits]? = some fn_natural_Bits := Try.func92
abbrev natural_Cmp : FuncId := 93
noncomputable abbrev fn_natural_Cmp : Func := Try.f93
theorem get_natural_Cmp : P.funcs[natural_Cmp]? = some fn_natural_Cmp := Try.func93
abbrev rational_copied : FuncId := 94
noncomputable abbrev fn_rational_copied : Func := Try.f94
theorem get_rational_copied : P.funcs[rational_copied]? = some fn_rational_copied := Try.func94
abbrev rational_size : FuncId := 95
noncomputable abbrev fn_rational_size : Func := Try.f95
theorem get_rational_size : P.funcs[rational_size]? = some fn_rational_size := Try.func95
abbrev rational_one : FuncId := 96
noncomputable abbrev fn_rational_one : Func := Try.f96
theorem get_rational_one : P.funcs[rational_one]? = some fn_rational_one := Try.func96
abbrev ref02_Make : FuncId := 97
noncomputable abbrev fn_ref02_Make : Func := Try.f97
theorem get_ref02_Make : P.funcs[ref02_Make]? = some fn_ref02_Make := Try.func97
abbrev ref02_size : FuncId := 98
noncomputable abbrev fn_ref02_size : Func := Try.f98
theorem get_ref02_size : P.funcs[ref02_size]? = some fn_ref02_size := Try.func98
abbrev math_bits_Add64 : FuncId := 99
noncomputable abbrev fn_math_bits_Add64 : Func := Try.f99
theorem get_math_bits_Add64 : P.funcs[math_bits_Add64]? = some fn_math_bits_Add64 := Try.func99
abbrev natural_Add : FuncId := 100
noncomputable abbrev fn_natural_Add : Func := Try.f100
theorem get_natural_Add : P.funcs[natural_Add]? = some fn_natural_Add := Try.func100
abbrev natural_Sub : FuncId := 101
noncomputable abbrev fn_natural_Sub : Func := Try.f101
theorem get_natural_Sub : P.funcs[natural_Sub]? = some fn_natural_Sub := Try.func101
abbrev rational_word : FuncId := 102
noncomputable abbrev fn_rational_word : Func := Try.f102
theorem get_rational_word : P.funcs[rational_word]? = some fn_rational_word := Try.func102
abbrev rational_divisor : FuncId := 103
noncomputable abbrev fn_rational_divisor : Func := Try.f103
theorem get_rational_divisor : P.funcs[rational_divisor]? = some fn_rational_divisor := Try.func103
abbrev rational_limbs : FuncId := 104
noncomputable abbrev fn_rational_limbs : Func := Try.f104
theorem get_rational_limbs : P.funcs[rational_limbs]? = some fn_rational_limbs := Try.func104
abbrev natural_Gcd : FuncId := 105
noncomputable abbrev fn_natural_Gcd : Func := Try.f105
theorem get_natural_Gcd : P.funcs[natural_Gcd]? = some fn_natural_Gcd := Try.func105
abbrev natural_Div : FuncId := 106
noncomputable abbrev fn_natural_Div : Func := Try.f106
theorem get_natural_Div : P.funcs[natural_Div]? = some fn_natural_Div := Try.func106
abbrev natural_trim : FuncId := 107
noncomputable abbrev fn_natural_trim : Func := Try.f107
theorem get_natural_trim : P.funcs[natural_trim]? = some fn_natural_trim := Try.func107
abbrev ref01_minus : FuncId := 108
noncomputable abbrev fn_ref01_minus : Func := Try.f108
theorem get_ref01_minus : P.funcs[ref01_minus]? = some fn_ref01_minus := Try.func108
abbrev ref01_small : FuncId := 109
noncomputable abbrev fn_ref01_small : Func := Try.f109
theorem get_ref01_small : P.funcs[ref01_small]? = some fn_ref01_small := Try.func109
abbrev ref01_Of : FuncId := 110
noncomputable abbrev fn_ref01_Of : Func := Try.f110
theorem get_ref01_Of : P.funcs[ref01_Of]? = some fn_ref01_Of := Try.func110
abbrev ref01_byLimb : FuncId := 111
noncomputable abbrev fn_ref01_byLimb : Func := Try.f111
theorem get_ref01_byLimb : P.funcs[ref01_byLimb]? = some fn_ref01_byLimb := Try.func111
abbrev ref01_Bits : FuncId := 112
noncomputable abbrev fn_ref01_Bits : Func := Try.f112
theorem get_ref01_Bits : P.funcs[ref01_Bits]? = some fn_ref01_Bits := Try.func112
abbrev ref01_up : FuncId := 113
noncomputable abbrev fn_ref01_up : Func := Try.f113
theorem get_ref01_up : P.funcs[ref01_up]? = some fn_ref01_up := Try.func113
abbrev ref01_shifted : FuncId := 114
noncomputable abbrev fn_ref01_shifted : Func := Try.f114
theorem get_ref01_shifted : P.funcs[ref01_shifted]? = some fn_ref01_shifted := Try.func114
abbrev ref01_times : FuncId := 115
noncomputable abbrev fn_ref01_times : Func := Try.f115
theorem get_ref01_times : P.funcs[ref01_times]? = some fn_ref01_times := Try.func115
abbrev ref01_down : FuncId := 116
noncomputable abbrev fn_ref01_down : Func := Try.f116
theorem get_ref01_down : P.funcs[ref01_down]? = some fn_ref01_down := Try.func116
abbrev math_bits_Len32 : FuncId := 117
noncomputable abbrev fn_math_bits_Len32 : Func := Try.f117
theorem get_math_bits_Len32 : P.funcs[math_bits_Len32]? = some fn_math_bits_Len32 := Try.func117
abbrev slices_Clone_uint32_uint32 : FuncId := 118
noncomputable abbrev fn_slices_Clone_uint32_uint32 : Func := Try.f118
theorem get_slices_Clone_uint32_uint32 : P.funcs[slices_Clone_uint32_uint32]? = some fn_slices_Clone_uint32_uint32 := Try.func118
abbrev natural_Of : FuncId := 119
noncomputable abbrev fn_natural_Of : Func := Try.f119
theorem get_natural_Of : P.funcs[natural_Of]? = some fn_natural_Of := Try.func119
abbrev natural_word : FuncId := 120
noncomputable abbrev fn_natural_word : Func := Try.f120
theorem get_natural_word : P.funcs[natural_word]? = some fn_natural_word := Try.func120
abbrev natural_small : FuncId := 121
noncomputable abbrev fn_natural_small : Func := Try.f121
theorem get_natural_small : P.funcs[natural_small]? = some fn_natural_small := Try.func121
abbrev math_bits_LeadingZeros32 : FuncId := 122
noncomputable abbrev fn_math_bits_LeadingZeros32 : Func := Try.f122
theorem get_math_bits_LeadingZeros32 : P.funcs[math_bits_LeadingZeros32]? = some fn_math_bits_LeadingZeros32 := Try.func122
abbrev natural_raise : FuncId := 123
noncomputable abbrev fn_natural_raise : Func := Try.f123
theorem get_natural_raise : P.funcs[natural_raise]? = some fn_natural_raise := Try.func123
abbrev runtime_boundsError_Error : FuncId := 124
noncomputable abbrev fn_runtime_boundsError_Error : Func := Try.f124
theorem get_runtime_boundsError_Error : P.funcs[runtime_boundsError_Error]? = some fn_runtime_boundsError_Error := Try.func124
abbrev runtime_boundsError_RuntimeError : FuncId := 125
noncomputable abbrev fn_runtime_boundsError_RuntimeError : Func := Try.f125
theorem get_runtime_boundsError_RuntimeError : P.funcs[runtime_boundsError_RuntimeError]? = some fn_runtime_boundsError_RuntimeError := Try.func125
abbrev runtime_errorString_Error : FuncId := 126
noncomputable abbrev fn_runtime_errorString_Error : Func := Try.f126
theorem get_runtime_errorString_Error : P.funcs[runtime_errorString_Error]? = some fn_runtime_errorString_Error := Try.func126
abbrev runtime_errorString_RuntimeError : FuncId := 127
noncomputable abbrev fn_runtime_errorString_RuntimeError : Func := Try.f127
theorem get_runtime_errorString_RuntimeError : P.funcs[runtime_errorString_RuntimeError]? = some fn_runtime_errorString_RuntimeError := Try.func127
abbrev runtime_plainError_Error : FuncId := 128
noncomputable abbrev fn_runtime_plainError_Error : Func := Try.f128
theorem get_runtime_plainError_Error : P.funcs[runtime_plainError_Error]? = some fn_runtime_plainError_Error := Try.func128
abbrev runtime_plainError_RuntimeError : FuncId := 129
noncomputable abbrev fn_runtime_plainError_RuntimeError : Func := Try.f129
theorem get_runtime_plainError_RuntimeError : P.funcs[runtime_plainError_RuntimeError]? = some fn_runtime_plainError_RuntimeError := Try.func129
abbrev runtime_errorAddressString_Error : FuncId := 130
noncomputable abbrev fn_runtime_errorAddressString_Error : Func := Try.f130
theorem get_runtime_errorAddressString_Error : P.funcs[runtime_errorAddressString_Error]? = some fn_runtime_errorAddressString_Error := Try.func130
abbrev runtime_errorAddressString_RuntimeError : FuncId := 131
noncomputable abbrev fn_runtime_errorAddressString_RuntimeError : Func := Try.f131
theorem get_runtime_errorAddressString_RuntimeError : P.funcs[runtime_errorAddressString_RuntimeError]? = some fn_runtime_errorAddressString_RuntimeError := Try.func131
abbrev runtime_TypeAssertionError_Error : FuncId := 132
noncomputable abbrev fn_runtime_TypeAssertionError_Error : Func := Try.f132
theorem get_runtime_TypeAssertionError_Error : P.funcs[runtime_TypeAssertionError_Error]? = some fn_runtime_TypeAssertionError_Error := Try.func132
abbrev runtime_TypeAssertionError_RuntimeError : FuncId := 133
noncomputable abbrev fn_runtime_TypeAssertionError_RuntimeError : Func := Try.f133
theorem get_runtime_TypeAssertionError_RuntimeError : P.funcs[runtime_TypeAssertionError_RuntimeError]? = some fn_runtime_TypeAssertionError_RuntimeError := Try.func133
abbrev runtime_PanicNilError_Error : FuncId := 134
noncomputable abbrev fn_runtime_PanicNilError_Error : Func := Try.f134
theorem get_runtime_PanicNilError_Error : P.funcs[runtime_PanicNilError_Error]? = some fn_runtime_PanicNilError_Error := Try.func134
abbrev runtime_PanicNilError_RuntimeError : FuncId := 135
noncomputable abbrev fn_runtime_PanicNilError_RuntimeError : Func := Try.f135
theorem get_runtime_PanicNilError_RuntimeError : P.funcs[runtime_PanicNilError_RuntimeError]? = some fn_runtime_PanicNilError_RuntimeError := Try.func135
abbrev internal_abi_Type_Align : FuncId := 136
noncomputable abbrev fn_internal_abi_Type_Align : Func := Try.f136
theorem get_internal_abi_Type_Align : P.funcs[internal_abi_Type_Align]? = some fn_internal_abi_Type_Align := Try.func136
abbrev internal_runtime_maps_unhashableTypeError_Error : FuncId := 137
noncomputable abbrev fn_internal_runtime_maps_unhashableTypeError_Error : Func := Try.f137
theorem get_internal_runtime_maps_unhashableTypeError_Error : P.funcs[internal_runtime_maps_unhashableTypeError_Error]? = some fn_internal_runtime_maps_unhashableTypeError_Error := Try.func137
abbrev internal_runtime_maps_unhashableTypeError_RuntimeError : FuncId := 138
noncomputable abbrev fn_internal_runtime_maps_unhashableTypeError_RuntimeError : Func := Try.f138
theorem get_internal_runtime_maps_unhashableTypeError_RuntimeError : P.funcs[internal_runtime_maps_unhashableTypeError_RuntimeError]? = some fn_internal_runtime_maps_unhashableTypeError_RuntimeError := Try.func138
abbrev made_Dice_Left : FuncId := 139
noncomputable abbrev fn_made_Dice_Left : Func := Try.f139
theorem get_made_Dice_Left : P.funcs[made_Dice_Left]? = some fn_made_Dice_Left := Try.func139
abbrev internal_abi_Kind_String : FuncId := 140
noncomputable abbrev fn_internal_abi_Kind_String : Func := Try.f140
theorem get_internal_abi_Kind_String : P.funcs[internal_abi_Kind_String]? = some fn_internal_abi_Kind_String := Try.func140

/-- int64 -/
abbrev ty2 : TI := ⟨.int .i64, 1, 8, .int .i64 0⟩
theorem ok2 : TyOK P 2 ty2 := tyOK (by kernel_rfl) (by kernel_rfl) (by kernel_rfl)
/-- int -/
abbrev ty3 : TI := ⟨.int .i64, 1, 8, .int .i64 0⟩
theorem ok3 : TyOK P 3 ty3 := tyOK (by kernel_rfl) (by kernel_rfl) (by kernel_rfl)
/-- bool -/
abbrev ty4 : TI := ⟨.bool, 1, 1, .bool false⟩
theorem ok4 : TyOK P 4 ty4 := tyOK (by kernel_rfl) (by kernel_rfl) (by kernel_rfl)
/-- uint8 -/
abbrev ty5 : TI := ⟨.int .u8, 1, 1, .int .u8 0⟩
theorem ok5 : TyOK P 5 ty5 := tyOK (by kernel_rfl) (by kernel_rfl) (by kernel_rfl)
/-- abi.BoundsErrorCode -/
abbrev ty6 : TI := ⟨.int .u8, 1, 1, .int .u8 0⟩
theorem ok6 : TyOK P 6 ty6 := tyOK (by kernel_rfl) (by kernel_rfl) (by kernel_rfl)
/-- struct { x int64; y int; signed bool; code abi.BoundsErrorCode } -/
abbrev ty7 : TI := ⟨.struct #[{ name := "x", type := 2, offset := 0, embedded := false, tag := "", pkgPath := "runtime", byteOffset := 0 }, { name := "y", type := 3, offset := 1, embedded := false, tag := "", pkgPath := "runtime", byteOffset := 8 }, { name := "signed", type := 4, offset := 2, embedded := false, tag := "", pkgPath := "runtime", byteOffset := 16 }, { name := "code", type := 6, offset := 3, embedded := false, tag := "", pkgPath := "runtime", byteOffset := 17 }], 4, 24, .agg [.int .i64 0, .int .i64 0, .bool false, .int .u8 0]⟩
theorem ok7 : TyOK P 7 ty7 := tyOK (by kernel_rfl) (by kernel_rfl) (by kernel_rfl)
/-- runtime.boundsError -/
abbrev ty8 : TI := ⟨.struct #[{ name := "x", type := 2, offset := 0, embedded := false, tag := "", pkgPath := "runtime", byteOffset := 0 }, { name := "y", type := 3, offset := 1, embedded := false, tag := "", pkgPath := "runtime", byteOffset := 8 }, { name := "signed", type := 4, offset := 2, embedded := false, tag := "", pkgPath := "runtime", byteOffset := 16 }, { name := "code", type := 6, offset := 3, embedded := false, tag := "", pkgPath := "runtime", byteOffset := 17 }], 4, 24, .agg [.int .i64 0, .int .i64 0, .bool false, .int .u8 0]⟩
theorem ok8 : TyOK P 8 ty8 := tyOK (by kernel_rfl) (by kernel_rfl) (by kernel_rfl)
/-- string -/
abbrev ty9 : TI := ⟨.string, 1, 16, .tuple []⟩
theorem ok9 : TyOK P 9 ty9 := tyOK' (by kernel_rfl) (by kernel_rfl) rfl
/-- runtime.errorString -/
abbrev ty10 : TI := ⟨.string, 1, 16, .tuple []⟩
theorem ok10 : TyOK P 10 ty10 := tyOK' (by kernel_rfl) (by kernel_rfl) rfl
/-- runtime.plainError -/
abbrev ty11 : TI := ⟨.string, 1, 16, .tuple []⟩
theorem ok11 : TyOK P 11 ty11 := tyOK' (by kernel_rfl) (by kernel_rfl) rfl
/-- uintptr -/
abbrev ty12 : TI := ⟨.int .u64, 1, 8, .int .u64 0⟩
theorem ok12 : TyOK P 12 ty12 := tyOK (by kernel_rfl) (by kernel_rfl) (by kernel_rfl)
/-- struct { msg string; addr uintptr } -/
abbrev ty13 : TI := ⟨.struct #[{ name := "msg", type := 9, offset := 0, embedded := false, tag := "", pkgPath := "runtime", byteOffset := 0 }, { name := "addr", type := 12, offset := 1, embedded := false, tag := "", pkgPath := "runtime", byteOffset := 16 }], 2, 24, .tuple []⟩
theorem ok13 : TyOK P 13 ty13 := tyOK' (by kernel_rfl) (by kernel_rfl) rfl
/-- runtime.errorAddressString -/
abbrev ty14 : TI := ⟨.struct #[{ name := "msg", type := 9, offset := 0, embedded := false, tag := "", pkgPath := "runtime", byteOffset := 0 }, { name := "addr", type := 12, offset := 1, embedded := false, tag := "", pkgPath := "runtime", byteOffset := 16 }], 2, 24, .tuple []⟩
theorem ok14 : TyOK P 14 ty14 := tyOK' (by kernel_rfl) (by kernel_rfl) rfl
/-- *runtime.TypeAssertionError -/
abbrev ty15 : TI := ⟨.pointer 115, 1, 8, .tuple []⟩
theorem ok15 : TyOK P 15 ty15 := tyOK' (by kernel_rfl) (by kernel_rfl) rfl
/-- *runtime.PanicNilError -/
abbrev ty16 : TI := ⟨.pointer 118, 1, 8, .tuple []⟩
theorem ok16 : TyOK P 16 ty16 := tyOK' (by kernel_rfl) (by kernel_rfl) rfl
/-- *abi.Type -/
abbrev ty17 : TI := ⟨.pointer 127, 1, 8, .tuple []⟩
theorem ok17 : TyOK P 17 ty17 := tyOK' (by kernel_rfl) (by kernel_rfl) rfl
/-- struct { typ *abi.Type } -/
abbrev ty18 : TI := ⟨.struct #[{ name := "typ", type := 17, offset := 0, embedded := false, tag := "", pkgPath := "internal/runtime/maps", byteOffset := 0 }], 1, 8, .tuple []⟩
theorem ok18 : TyOK P 18 ty18 := tyOK' (by kernel_rfl) (by kernel_rfl) rfl
/-- maps.unhashableTypeError -/
abbrev ty19 : TI := ⟨.struct #[{ name := "typ", type := 17, offset := 0, embedded := false, tag := "", pkgPath := "internal/runtime/maps", byteOffset := 0 }], 1, 8, .tuple []⟩
theorem ok19 : TyOK P 19 ty19 := tyOK' (by kernel_rfl) (by kernel_rfl) rfl
/-- int32 -/
abbrev ty21 : TI := ⟨.int .i32, 1, 4, .int .i32 0⟩
theorem ok21 : TyOK P 21 ty21 := tyOK (by kernel_rfl) (by kernel_rfl) (by kernel_rfl)
/-- []int -/
abbrev ty22 : TI := ⟨.slice 3, 1, 24, .nil⟩
theorem ok22 : TyOK P 22 ty22 := tyOK (by kernel_rfl) (by kernel_rfl) (by kernel_rfl)
/-- *brepkernelmade.Dice -/
abbrev ty25 : TI := ⟨.pointer 66, 1, 8, .tuple []⟩
theorem ok25 : TyOK P 25 ty25 := tyOK' (by kernel_rfl) (by kernel_rfl) rfl
/-- []uint32 -/
abbrev ty27 : TI := ⟨.slice 89, 1, 24, .nil⟩
theorem ok27 : TyOK P 27 ty27 := tyOK (by kernel_rfl) (by kernel_rfl) (by kernel_rfl)
/-- struct { Neg bool; Num []uint32; Den []uint32 } -/
abbrev ty28 : TI := ⟨.struct #[{ name := "Neg", type := 4, offset := 0, embedded := false, tag := "", pkgPath := "", byteOffset := 0 }, { name := "Num", type := 27, offset := 1, embedded := false, tag := "", pkgPath := "", byteOffset := 8 }, { name := "Den", type := 27, offset := 2, embedded := false, tag := "", pkgPath := "", byteOffset := 32 }], 3, 56, .agg [.bool false, .nil, .nil]⟩
theorem ok28 : TyOK P 28 ty28 := tyOK (by kernel_rfl) (by kernel_rfl) (by kernel_rfl)
/-- api.Rat -/
abbrev ty29 : TI := ⟨.struct #[{ name := "Neg", type := 4, offset := 0, embedded := false, tag := "", pkgPath := "", byteOffset := 0 }, { name := "Num", type := 27, offset := 1, embedded := false, tag := "", pkgPath := "", byteOffset := 8 }, { name := "Den", type := 27, offset := 2, embedded := false, tag := "", pkgPath := "", byteOffset := 32 }], 3, 56, .rat 0 1⟩
theorem ok29 : TyOK P 29 ty29 := tyOK (by kernel_rfl) (by kernel_rfl) (by kernel_rfl)
/-- [3]api.Rat -/
abbrev ty30 : TI := ⟨.array 3 29, 9, 168, .agg [.rat 0 1, .rat 0 1, .rat 0 1]⟩
theorem ok30 : TyOK P 30 ty30 := tyOK (by kernel_rfl) (by kernel_rfl) (by kernel_rfl)
/-- api.Point -/
abbrev ty31 : TI := ⟨.array 3 29, 9, 168, .agg [.rat 0 1, .rat 0 1, .rat 0 1]⟩
theorem ok31 : TyOK P 31 ty31 := tyOK (by kernel_rfl) (by kernel_rfl) (by kernel_rfl)
/-- struct { N api.Point; D api.Rat } -/
abbrev ty45 : TI := ⟨.struct #[{ name := "N", type := 31, offset := 0, embedded := false, tag := "", pkgPath := "", byteOffset := 0 }, { name := "D", type := 29, offset := 9, embedded := false, tag := "", pkgPath := "", byteOffset := 168 }], 12, 224, .agg [.agg [.rat 0 1, .rat 0 1, .rat 0 1], .rat 0 1]⟩
theorem ok45 : TyOK P 45 ty45 := tyOK (by kernel_rfl) (by kernel_rfl) (by kernel_rfl)
/-- api.Plane -/
abbrev ty46 : TI := ⟨.struct #[{ name := "N", type := 31, offset := 0, embedded := false, tag := "", pkgPath := "", byteOffset := 0 }, { name := "D", type := 29, offset := 9, embedded := false, tag := "", pkgPath := "", byteOffset := 168 }], 12, 224, .agg [.agg [.rat 0 1, .rat 0 1, .rat 0 1], .rat 0 1]⟩
theorem ok46 : TyOK P 46 ty46 := tyOK (by kernel_rfl) (by kernel_rfl) (by kernel_rfl)
/-- api.Errno -/
abbrev ty47 : TI := ⟨.int .i64, 1, 8, .int .i64 0⟩
theorem ok47 : TyOK P 47 ty47 := tyOK (by kernel_rfl) (by kernel_rfl) (by kernel_rfl)
/-- [3]api.Point -/
abbrev ty55 : TI := ⟨.array 3 31, 27, 504, .agg [.agg [.rat 0 1, .rat 0 1, .rat 0 1], .agg [.rat 0 1, .rat 0 1, .rat 0 1], .agg [.rat 0 1, .rat 0 1, .rat 0 1]]⟩
theorem ok55 : TyOK P 55 ty55 := tyOK (by kernel_rfl) (by kernel_rfl) (by kernel_rfl)
/-- struct { M [3]api.Point; T api.Point } -/
abbrev ty56 : TI := ⟨.struct #[{ name := "M", type := 55, offset := 0, embedded := false, tag := "", pkgPath := "", byteOffset := 0 }, { name := "T", type := 31, offset := 27, embedded := false, tag := "", pkgPath := "", byteOffset := 504 }], 36, 672, .agg [.agg [.agg [.rat 0 1, .rat 0 1, .rat 0 1], .agg [.rat 0 1, .rat 0 1, .rat 0 1], .agg [.rat 0 1, .rat 0 1, .rat 0 1]], .agg [.rat 0 1, .rat 0 1, .rat 0 1]]⟩
theorem ok56 : TyOK P 56 ty56 := tyOK (by kernel_rfl) (by kernel_rfl) (by kernel_rfl)
/-- api.Map -/
abbrev ty57 : TI := ⟨.struct #[{ name := "M", type := 55, offset := 0, embedded := false, tag := "", pkgPath := "", byteOffset := 0 }, { name := "T", type := 31, offset := 27, embedded := false, tag := "", pkgPath := "", byteOffset := 504 }], 36, 672, .agg [.agg [.agg [.rat 0 1, .rat 0 1, .rat 0 1], .agg [.rat 0 1, .rat 0 1, .rat 0 1], .agg [.rat 0 1, .rat 0 1, .rat 0 1]], .agg [.rat 0 1, .rat 0 1, .rat 0 1]]⟩
theorem ok57 : TyOK P 57 ty57 := tyOK (by kernel_rfl) (by kernel_rfl) (by kernel_rfl)
/-- struct { L []int; At int } -/
abbrev ty65 : TI := ⟨.struct #[{ name := "L", type := 22, offset := 0, embedded := false, tag := "", pkgPath := "", byteOffset := 0 }, { name := "At", type := 3, offset := 1, embedded := false, tag := "", pkgPath := "", byteOffset := 24 }], 2, 32, .agg [.nil, .int .i64 0]⟩
theorem ok65 : TyOK P 65 ty65 := tyOK (by kernel_rfl) (by kernel_rfl) (by kernel_rfl)
/-- brepkernelmade.Dice -/
abbrev ty66 : TI := ⟨.struct #[{ name := "L", type := 22, offset := 0, embedded := false, tag := "", pkgPath := "", byteOffset := 0 }, { name := "At", type := 3, offset := 1, embedded := false, tag := "", pkgPath := "", byteOffset := 24 }], 2, 32, .agg [.nil, .int .i64 0]⟩
theorem ok66 : TyOK P 66 ty66 := tyOK (by kernel_rfl) (by kernel_rfl) (by kernel_rfl)
/-- [4]api.Rat -/
abbrev ty73 : TI := ⟨.array 4 29, 12, 224, .agg [.rat 0 1, .rat 0 1, .rat 0 1, .rat 0 1]⟩
theorem ok73 : TyOK P 73 ty73 := tyOK (by kernel_rfl) (by kernel_rfl) (by kernel_rfl)
/-- uint64 -/
abbrev ty82 : TI := ⟨.int .u64, 1, 8, .int .u64 0⟩
theorem ok82 : TyOK P 82 ty82 := tyOK (by kernel_rfl) (by kernel_rfl) (by kernel_rfl)
/-- uint32 -/
abbrev ty89 : TI := ⟨.int .u32, 1, 4, .int .u32 0⟩
theorem ok89 : TyOK P 89 ty89 := tyOK (by kernel_rfl) (by kernel_rfl) (by kernel_rfl)
/-- uint -/
abbrev ty92 : TI := ⟨.int .u64, 1, 8, .int .u64 0⟩
theorem ok92 : TyOK P 92 ty92 := tyOK (by kernel_rfl) (by kernel_rfl) (by kernel_rfl)
/-- struct { _interface *abi.Type; concrete *abi.Type; asserted *abi.Type; missingMethod string } -/
abbrev ty114 : TI := ⟨.struct #[{ name := "_interface", type := 17, offset := 0, embedded := false, tag := "", pkgPath := "runtime", byteOffset := 0 }, { name := "concrete", type := 17, offset := 1, embedded := false, tag := "", pkgPath := "runtime", byteOffset := 8 }, { name := "asserted", type := 17, offset := 2, embedded := false, tag := "", pkgPath := "runtime", byteOffset := 16 }, { name := "missingMethod", type := 9, offset := 3, embedded := false, tag := "", pkgPath := "runtime", byteOffset := 24 }], 4, 40, .tuple []⟩
theorem ok114 : TyOK P 114 ty114 := tyOK' (by kernel_rfl) (by kernel_rfl) rfl
/-- runtime.TypeAssertionError -/
abbrev ty115 : TI := ⟨.struct #[{ name := "_interface", type := 17, offset := 0, embedded := false, tag := "", pkgPath := "runtime", byteOffset := 0 }, { name := "concrete", type := 17, offset := 1, embedded := false, tag := "", pkgPath := "runtime", byteOffset := 8 }, { name := "asserted", type := 17, offset := 2, embedded := false, tag := "", pkgPath := "runtime", byteOffset := 16 }, { name := "missingMethod", type := 9, offset := 3, embedded := false, tag := "", pkgPath := "runtime", byteOffset := 24 }], 4, 40, .tuple []⟩
theorem ok115 : TyOK P 115 ty115 := tyOK' (by kernel_rfl) (by kernel_rfl) rfl
/-- abi.TFlag -/
abbrev ty120 : TI := ⟨.int .u8, 1, 1, .int .u8 0⟩
theorem ok120 : TyOK P 120 ty120 := tyOK (by kernel_rfl) (by kernel_rfl) (by kernel_rfl)
/-- abi.Kind -/
abbrev ty121 : TI := ⟨.int .u8, 1, 1, .int .u8 0⟩
theorem ok121 : TyOK P 121 ty121 := tyOK (by kernel_rfl) (by kernel_rfl) (by kernel_rfl)
/-- *uint8 -/
abbrev ty123 : TI := ⟨.pointer 5, 1, 8, .tuple []⟩
theorem ok123 : TyOK P 123 ty123 := tyOK' (by kernel_rfl) (by kernel_rfl) rfl
/-- abi.NameOff -/
abbrev ty124 : TI := ⟨.int .i32, 1, 4, .int .i32 0⟩
theorem ok124 : TyOK P 124 ty124 := tyOK (by kernel_rfl) (by kernel_rfl) (by kernel_rfl)
/-- abi.TypeOff -/
abbrev ty125 : TI := ⟨.int .i32, 1, 4, .int .i32 0⟩
theorem ok125 : TyOK P 125 ty125 := tyOK (by kernel_rfl) (by kernel_rfl) (by kernel_rfl)
/-- struct { Size_ uintptr; PtrBytes uintptr; Hash uint32; TFlag abi.TFlag; Align_ uint8; FieldAlign_ uint8; Kind_ abi.Kind; Equal func(unsafe.Pointer, unsafe.Pointer) bool; GCData *uint8; Str abi.NameOff; PtrToThis abi.TypeOff } -/
abbrev ty126 : TI := ⟨.struct #[{ name := "Size_", type := 12, offset := 0, embedded := false, tag := "", pkgPath := "", byteOffset := 0 }, { name := "PtrBytes", type := 12, offset := 1, embedded := false, tag := "", pkgPath := "", byteOffset := 8 }, { name := "Hash", type := 89, offset := 2, embedded := false, tag := "", pkgPath := "", byteOffset := 16 }, { name := "TFlag", type := 120, offset := 3, embedded := false, tag := "", pkgPath := "", byteOffset := 20 }, { name := "Align_", type := 5, offset := 4, embedded := false, tag := "", pkgPath := "", byteOffset := 21 }, { name := "FieldAlign_", type := 5, offset := 5, embedded := false, tag := "", pkgPath := "", byteOffset := 22 }, { name := "Kind_", type := 121, offset := 6, embedded := false, tag := "", pkgPath := "", byteOffset := 23 }, { name := "Equal", type := 122, offset := 7, embedded := false, tag := "", pkgPath := "", byteOffset := 24 }, { name := "GCData", type := 123, offset := 8, embedded := false, tag := "", pkgPath := "", byteOffset := 32 }, { name := "Str", type := 124, offset := 9, embedded := false, tag := "", pkgPath := "", byteOffset := 40 }, { name := "PtrToThis", type := 125, offset := 10, embedded := false, tag := "", pkgPath := "", byteOffset := 44 }], 11, 48, .tuple []⟩
theorem ok126 : TyOK P 126 ty126 := tyOK' (by kernel_rfl) (by kernel_rfl) rfl
/-- abi.Type -/
abbrev ty127 : TI := ⟨.struct #[{ name := "Size_", type := 12, offset := 0, embedded := false, tag := "", pkgPath := "", byteOffset := 0 }, { name := "PtrBytes", type := 12, offset := 1, embedded := false, tag := "", pkgPath := "", byteOffset := 8 }, { name := "Hash", type := 89, offset := 2, embedded := false, tag := "", pkgPath := "", byteOffset := 16 }, { name := "TFlag", type := 120, offset := 3, embedded := false, tag := "", pkgPath := "", byteOffset := 20 }, { name := "Align_", type := 5, offset := 4, embedded := false, tag := "", pkgPath := "", byteOffset := 21 }, { name := "FieldAlign_", type := 5, offset := 5, embedded := false, tag := "", pkgPath := "", byteOffset := 22 }, { name := "Kind_", type := 121, offset := 6, embedded := false, tag := "", pkgPath := "", byteOffset := 23 }, { name := "Equal", type := 122, offset := 7, embedded := false, tag := "", pkgPath := "", byteOffset := 24 }, { name := "GCData", type := 123, offset := 8, embedded := false, tag := "", pkgPath := "", byteOffset := 32 }, { name := "Str", type := 124, offset := 9, embedded := false, tag := "", pkgPath := "", byteOffset := 40 }, { name := "PtrToThis", type := 125, offset := 10, embedded := false, tag := "", pkgPath := "", byteOffset := 44 }], 11, 48, .tuple []⟩
theorem ok127 : TyOK P 127 ty127 := tyOK' (by kernel_rfl) (by kernel_rfl) rfl
abbrev T : Types := [(2, ty2), (3, ty3), (4, ty4), (5, ty5), (6, ty6), (7, ty7), (8, ty8), (9, ty9), (10, ty10), (11, ty11), (12, ty12), (13, ty13), (14, ty14), (15, ty15), (16, ty16), (17, ty17), (18, ty18), (19, ty19), (21, ty21), (22, ty22), (25, ty25), (27, ty27), (28, ty28), (29, ty29), (30, ty30), (31, ty31), (45, ty45), (46, ty46), (47, ty47), (55, ty55), (56, ty56), (57, ty57), (65, ty65), (66, ty66), (73, ty73), (82, ty82), (89, ty89), (92, ty92), (114, ty114), (115, ty115), (120, ty120), (121, ty121), (123, ty123), (124, ty124), (125, ty125), (126, ty126), (127, ty127)]
theorem hT : TOK P T := tok_cons ok2 (tok_cons ok3 (tok_cons ok4 (tok_cons ok5 (tok_cons ok6 (tok_cons ok7 (tok_cons ok8 (tok_cons ok9 (tok_cons ok10 (tok_cons ok11 (tok_cons ok12 (tok_cons ok13 (tok_cons ok14 (tok_cons ok15 (tok_cons ok16 (tok_cons ok17 (tok_cons ok18 (tok_cons ok19 (tok_cons ok21 (tok_cons ok22 (tok_cons ok25 (tok_cons ok27 (tok_cons ok28 (tok_cons ok29 (tok_cons ok30 (tok_cons ok31 (tok_cons ok45 (tok_cons ok46 (tok_cons ok47 (tok_cons ok55 (tok_cons ok56 (tok_cons ok57 (tok_cons ok65 (tok_cons ok66 (tok_cons ok73 (tok_cons ok82 (tok_cons ok89 (tok_cons ok92 (tok_cons ok114 (tok_cons ok115 (tok_cons ok120 (tok_cons ok121 (tok_cons ok123 (tok_cons ok124 (tok_cons ok125 (tok_cons ok126 (tok_cons ok127 (tok_nil)))))))))))))))))))))))))))))))))))))))))))))))
end Go.Am.N
