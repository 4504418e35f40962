/- The seat's names: the numbers of functions, the types. Written by a program. -/
import Derived.Test.YthnoegfjpmlndaaZ1
import Derived.Test.YthnoegfjpmlndaaProg
import Derived.KernelRfl
set_option linter.unusedVariables false
namespace Go.Am.N
open Go.Proofs

noncomputable abbrev P : Program := Try.prog
theorem hm : P.follows .mixedOrders = true := by kernel_rfl

abbrev main_main : FuncId := 0
noncomputable abbrev fn_main_main : Func := Try.f0
theorem get_main_main : P.funcs[main_main]? = some fn_main_main := Try.func0
abbrev gosem_cut : FuncId := 1
noncomputable abbrev fn_gosem_cut : Func := Try.f1
theorem get_gosem_cut : P.funcs[gosem_cut]? = some fn_gosem_cut := Try.func1
abbrev gosem_cut_init : FuncId := 2
noncomputable abbrev fn_gosem_cut_init : Func := Try.f2
theorem get_gosem_cut_init : P.funcs[gosem_cut_init]? = some fn_gosem_cut_init := Try.func2
abbrev law09_BasisBlossoms : FuncId := 3
noncomputable abbrev fn_law09_BasisBlossoms : Func := Try.f3
theorem get_law09_BasisBlossoms : P.funcs[law09_BasisBlossoms]? = some fn_law09_BasisBlossoms := Try.func3
abbrev law04_VectorNearest : FuncId := 4
noncomputable abbrev fn_law04_VectorNearest : Func := Try.f4
theorem get_law04_VectorNearest : P.funcs[law04_VectorNearest]? = some fn_law04_VectorNearest := Try.func4
abbrev law09_BasisValues : FuncId := 5
noncomputable abbrev fn_law09_BasisValues : Func := Try.f5
theorem get_law09_BasisValues : P.funcs[law09_BasisValues]? = some fn_law09_BasisValues := Try.func5
abbrev law09_BasisUnity : FuncId := 6
noncomputable abbrev fn_law09_BasisUnity : Func := Try.f6
theorem get_law09_BasisUnity : P.funcs[law09_BasisUnity]? = some fn_law09_BasisUnity := Try.func6
abbrev law09_BasisDual : FuncId := 7
noncomputable abbrev fn_law09_BasisDual : Func := Try.f7
theorem get_law09_BasisDual : P.funcs[law09_BasisDual]? = some fn_law09_BasisDual := Try.func7
abbrev law08_KnotsCheck : FuncId := 8
noncomputable abbrev fn_law08_KnotsCheck : Func := Try.f8
theorem get_law08_KnotsCheck : P.funcs[law08_KnotsCheck]? = some fn_law08_KnotsCheck := Try.func8
abbrev law04_VectorComposes : FuncId := 9
noncomputable abbrev fn_law04_VectorComposes : Func := Try.f9
theorem get_law04_VectorComposes : P.funcs[law04_VectorComposes]? = some fn_law04_VectorComposes := Try.func9
abbrev law08_KnotsChanges : FuncId := 10
noncomputable abbrev fn_law08_KnotsChanges : Func := Try.f10
theorem get_law08_KnotsChanges : P.funcs[law08_KnotsChanges]? = some fn_law08_KnotsChanges := Try.func10
abbrev law08_KnotsReads : FuncId := 11
noncomputable abbrev fn_law08_KnotsReads : Func := Try.f11
theorem get_law08_KnotsReads : P.funcs[law08_KnotsReads]? = some fn_law08_KnotsReads := Try.func11
abbrev law08_KnotsStay : FuncId := 12
noncomputable abbrev fn_law08_KnotsStay : Func := Try.f12
theorem get_law08_KnotsStay : P.funcs[law08_KnotsStay]? = some fn_law08_KnotsStay := Try.func12
abbrev made_Light : FuncId := 13
noncomputable abbrev fn_made_Light : Func := Try.f13
theorem get_made_Light : P.funcs[made_Light]? = some fn_made_Light := Try.func13
abbrev law09_awake : FuncId := 14
noncomputable abbrev fn_law09_awake : Func := Try.f14
theorem get_law09_awake : P.funcs[law09_awake]? = some fn_law09_awake := Try.func14
abbrev law09_made : FuncId := 15
noncomputable abbrev fn_law09_made : Func := Try.f15
theorem get_law09_made : P.funcs[law09_made]? = some fn_law09_made := Try.func15
abbrev made_Rat : FuncId := 16
noncomputable abbrev fn_made_Rat : Func := Try.f16
theorem get_made_Rat : P.funcs[made_Rat]? = some fn_made_Rat := Try.func16
abbrev made_Mod : FuncId := 17
noncomputable abbrev fn_made_Mod : Func := Try.f17
theorem get_made_Mod : P.funcs[made_Mod]? = some fn_made_Mod := Try.func17
abbrev basis_Blossom : FuncId := 18
noncomputable abbrev fn_basis_Blossom : Func := Try.f18
theorem get_basis_Blossom : P.funcs[basis_Blossom]? = some fn_basis_Blossom := Try.func18
abbrev ref09_Blossom : FuncId := 19
noncomputable abbrev fn_ref09_Blossom : Func := Try.f19
theorem get_ref09_Blossom : P.funcs[ref09_Blossom]? = some fn_ref09_Blossom := Try.func19
abbrev ref02_Same : FuncId := 20
noncomputable abbrev fn_ref02_Same : Func := Try.f20
theorem get_ref02_Same : P.funcs[ref02_Same]? = some fn_ref02_Same := Try.func20
abbrev law04_awake : FuncId := 21
noncomputable abbrev fn_law04_awake : Func := Try.f21
theorem get_law04_awake : P.funcs[law04_awake]? = some fn_law04_awake := Try.func21
abbrev made_Roll : FuncId := 22
noncomputable abbrev fn_made_Roll : Func := Try.f22
theorem get_made_Roll : P.funcs[made_Roll]? = some fn_made_Roll := Try.func22
abbrev made_Dice_Point : FuncId := 23
noncomputable abbrev fn_made_Dice_Point : Func := Try.f23
theorem get_made_Dice_Point : P.funcs[made_Dice_Point]? = some fn_made_Dice_Point := Try.func23
abbrev vector_Segment : FuncId := 24
noncomputable abbrev fn_vector_Segment : Func := Try.f24
theorem get_vector_Segment : P.funcs[vector_Segment]? = some fn_vector_Segment := Try.func24
abbrev vector_Sub : FuncId := 25
noncomputable abbrev fn_vector_Sub : Func := Try.f25
theorem get_vector_Sub : P.funcs[vector_Sub]? = some fn_vector_Sub := Try.func25
abbrev vector_Add : FuncId := 26
noncomputable abbrev fn_vector_Add : Func := Try.f26
theorem get_vector_Add : P.funcs[vector_Add]? = some fn_vector_Add := Try.func26
abbrev vector_Scale : FuncId := 27
noncomputable abbrev fn_vector_Scale : Func := Try.f27
theorem get_vector_Scale : P.funcs[vector_Scale]? = some fn_vector_Scale := Try.func27
abbrev made_Part : FuncId := 28
noncomputable abbrev fn_made_Part : Func := Try.f28
theorem get_made_Part : P.funcs[made_Part]? = some fn_made_Part := Try.func28
abbrev vector_Cross : FuncId := 29
noncomputable abbrev fn_vector_Cross : Func := Try.f29
theorem get_vector_Cross : P.funcs[vector_Cross]? = some fn_vector_Cross := Try.func29
abbrev ref02_Mul : FuncId := 30
noncomputable abbrev fn_ref02_Mul : Func := Try.f30
theorem get_ref02_Mul : P.funcs[ref02_Mul]? = some fn_ref02_Mul := Try.func30
abbrev vector_Dot : FuncId := 31
noncomputable abbrev fn_vector_Dot : Func := Try.f31
theorem get_vector_Dot : P.funcs[vector_Dot]? = some fn_vector_Dot := Try.func31
abbrev ref02_Cmp : FuncId := 32
noncomputable abbrev fn_ref02_Cmp : Func := Try.f32
theorem get_ref02_Cmp : P.funcs[ref02_Cmp]? = some fn_ref02_Cmp := Try.func32
abbrev law09_at : FuncId := 33
noncomputable abbrev fn_law09_at : Func := Try.f33
theorem get_law09_at : P.funcs[law09_at]? = some fn_law09_at := Try.func33
abbrev basis_Values : FuncId := 34
noncomputable abbrev fn_basis_Values : Func := Try.f34
theorem get_basis_Values : P.funcs[basis_Values]? = some fn_basis_Values := Try.func34
abbrev ref09_Values : FuncId := 35
noncomputable abbrev fn_ref09_Values : Func := Try.f35
theorem get_ref09_Values : P.funcs[ref09_Values]? = some fn_ref09_Values := Try.func35
abbrev basis_Sum : FuncId := 36
noncomputable abbrev fn_basis_Sum : Func := Try.f36
theorem get_basis_Sum : P.funcs[basis_Sum]? = some fn_basis_Sum := Try.func36
abbrev ref09_Sum : FuncId := 37
noncomputable abbrev fn_ref09_Sum : Func := Try.f37
theorem get_ref09_Sum : P.funcs[ref09_Sum]? = some fn_ref09_Sum := Try.func37
abbrev ref02_SameList : FuncId := 38
noncomputable abbrev fn_ref02_SameList : Func := Try.f38
theorem get_ref02_SameList : P.funcs[ref02_SameList]? = some fn_ref02_SameList := Try.func38
abbrev made_Within : FuncId := 39
noncomputable abbrev fn_made_Within : Func := Try.f39
theorem get_made_Within : P.funcs[made_Within]? = some fn_made_Within := Try.func39
abbrev ref02_Sign : FuncId := 40
noncomputable abbrev fn_ref02_Sign : Func := Try.f40
theorem get_ref02_Sign : P.funcs[ref02_Sign]? = some fn_ref02_Sign := Try.func40
abbrev ref02_Add : FuncId := 41
noncomputable abbrev fn_ref02_Add : Func := Try.f41
theorem get_ref02_Add : P.funcs[ref02_Add]? = some fn_ref02_Add := Try.func41
abbrev ref08_Greville : FuncId := 42
noncomputable abbrev fn_ref08_Greville : Func := Try.f42
theorem get_ref08_Greville : P.funcs[ref08_Greville]? = some fn_ref08_Greville := Try.func42
abbrev ref02_Int : FuncId := 43
noncomputable abbrev fn_ref02_Int : Func := Try.f43
theorem get_ref02_Int : P.funcs[ref02_Int]? = some fn_ref02_Int := Try.func43
abbrev law09_with : FuncId := 44
noncomputable abbrev fn_law09_with : Func := Try.f44
theorem get_law09_with : P.funcs[law09_with]? = some fn_law09_with := Try.func44
abbrev ref02_Mid : FuncId := 45
noncomputable abbrev fn_ref02_Mid : Func := Try.f45
theorem get_ref02_Mid : P.funcs[ref02_Mid]? = some fn_ref02_Mid := Try.func45
abbrev law08_awake : FuncId := 46
noncomputable abbrev fn_law08_awake : Func := Try.f46
theorem get_law08_awake : P.funcs[law08_awake]? = some fn_law08_awake := Try.func46
abbrev law08_made : FuncId := 47
noncomputable abbrev fn_law08_made : Func := Try.f47
theorem get_law08_made : P.funcs[law08_made]? = some fn_law08_made := Try.func47
abbrev knots_Check : FuncId := 48
noncomputable abbrev fn_knots_Check : Func := Try.f48
theorem get_knots_Check : P.funcs[knots_Check]? = some fn_knots_Check := Try.func48
abbrev knots_Poles : FuncId := 49
noncomputable abbrev fn_knots_Poles : Func := Try.f49
theorem get_knots_Poles : P.funcs[knots_Poles]? = some fn_knots_Poles := Try.func49
abbrev ref08_Poles : FuncId := 50
noncomputable abbrev fn_ref08_Poles : Func := Try.f50
theorem get_ref08_Poles : P.funcs[ref08_Poles]? = some fn_ref08_Poles := Try.func50
abbrev ref08_Check : FuncId := 51
noncomputable abbrev fn_ref08_Check : Func := Try.f51
theorem get_ref08_Check : P.funcs[ref08_Check]? = some fn_ref08_Check := Try.func51
abbrev made_Dice_Map : FuncId := 52
noncomputable abbrev fn_made_Dice_Map : Func := Try.f52
theorem get_made_Dice_Map : P.funcs[made_Dice_Map]? = some fn_made_Dice_Map := Try.func52
abbrev vector_Compose : FuncId := 53
noncomputable abbrev fn_vector_Compose : Func := Try.f53
theorem get_vector_Compose : P.funcs[vector_Compose]? = some fn_vector_Compose := Try.func53
abbrev vector_Inverse : FuncId := 54
noncomputable abbrev fn_vector_Inverse : Func := Try.f54
theorem get_vector_Inverse : P.funcs[vector_Inverse]? = some fn_vector_Inverse := Try.func54
abbrev vector_Volume : FuncId := 55
noncomputable abbrev fn_vector_Volume : Func := Try.f55
theorem get_vector_Volume : P.funcs[vector_Volume]? = some fn_vector_Volume := Try.func55
abbrev vector_Same : FuncId := 56
noncomputable abbrev fn_vector_Same : Func := Try.f56
theorem get_vector_Same : P.funcs[vector_Same]? = some fn_vector_Same := Try.func56
abbrev vector_Apply : FuncId := 57
noncomputable abbrev fn_vector_Apply : Func := Try.f57
theorem get_vector_Apply : P.funcs[vector_Apply]? = some fn_vector_Apply := Try.func57
abbrev vector_Turn : FuncId := 58
noncomputable abbrev fn_vector_Turn : Func := Try.f58
theorem get_vector_Turn : P.funcs[vector_Turn]? = some fn_vector_Turn := Try.func58
abbrev vector_Identity : FuncId := 59
noncomputable abbrev fn_vector_Identity : Func := Try.f59
theorem get_vector_Identity : P.funcs[vector_Identity]? = some fn_vector_Identity := Try.func59
abbrev knots_Affine : FuncId := 60
noncomputable abbrev fn_knots_Affine : Func := Try.f60
theorem get_knots_Affine : P.funcs[knots_Affine]? = some fn_knots_Affine := Try.func60
abbrev ref08_Affine : FuncId := 61
noncomputable abbrev fn_ref08_Affine : Func := Try.f61
theorem get_ref08_Affine : P.funcs[ref08_Affine]? = some fn_ref08_Affine := Try.func61
abbrev knots_Greville : FuncId := 62
noncomputable abbrev fn_knots_Greville : Func := Try.f62
theorem get_knots_Greville : P.funcs[knots_Greville]? = some fn_knots_Greville := Try.func62
abbrev knots_Mirror : FuncId := 63
noncomputable abbrev fn_knots_Mirror : Func := Try.f63
theorem get_knots_Mirror : P.funcs[knots_Mirror]? = some fn_knots_Mirror := Try.func63
abbrev ref08_Mirror : FuncId := 64
noncomputable abbrev fn_ref08_Mirror : Func := Try.f64
theorem get_ref08_Mirror : P.funcs[ref08_Mirror]? = some fn_ref08_Mirror := Try.func64
abbrev knots_Interval : FuncId := 65
noncomputable abbrev fn_knots_Interval : Func := Try.f65
theorem get_knots_Interval : P.funcs[knots_Interval]? = some fn_knots_Interval := Try.func65
abbrev ref08_Interval : FuncId := 66
noncomputable abbrev fn_ref08_Interval : Func := Try.f66
theorem get_ref08_Interval : P.funcs[ref08_Interval]? = some fn_ref08_Interval := Try.func66
abbrev knots_Times : FuncId := 67
noncomputable abbrev fn_knots_Times : Func := Try.f67
theorem get_knots_Times : P.funcs[knots_Times]? = some fn_knots_Times := Try.func67
abbrev ref08_Times : FuncId := 68
noncomputable abbrev fn_ref08_Times : Func := Try.f68
theorem get_ref08_Times : P.funcs[ref08_Times]? = some fn_ref08_Times := Try.func68
abbrev knots_Distinct : FuncId := 69
noncomputable abbrev fn_knots_Distinct : Func := Try.f69
theorem get_knots_Distinct : P.funcs[knots_Distinct]? = some fn_knots_Distinct := Try.func69
abbrev ref08_Distinct : FuncId := 70
noncomputable abbrev fn_ref08_Distinct : Func := Try.f70
theorem get_ref08_Distinct : P.funcs[ref08_Distinct]? = some fn_ref08_Distinct := Try.func70
abbrev knots_Insert : FuncId := 71
noncomputable abbrev fn_knots_Insert : Func := Try.f71
theorem get_knots_Insert : P.funcs[knots_Insert]? = some fn_knots_Insert := Try.func71
abbrev ref08_Insert : FuncId := 72
noncomputable abbrev fn_ref08_Insert : Func := Try.f72
theorem get_ref08_Insert : P.funcs[ref08_Insert]? = some fn_ref08_Insert := Try.func72
abbrev ref02_Frac : FuncId := 73
noncomputable abbrev fn_ref02_Frac : Func := Try.f73
theorem get_ref02_Frac : P.funcs[ref02_Frac]? = some fn_ref02_Frac := Try.func73
abbrev ref02_Text : FuncId := 74
noncomputable abbrev fn_ref02_Text : Func := Try.f74
theorem get_ref02_Text : P.funcs[ref02_Text]? = some fn_ref02_Text := Try.func74
abbrev made_Dice_Next : FuncId := 75
noncomputable abbrev fn_made_Dice_Next : Func := Try.f75
theorem get_made_Dice_Next : P.funcs[made_Dice_Next]? = some fn_made_Dice_Next := Try.func75
abbrev made_Dice_Knots : FuncId := 76
noncomputable abbrev fn_made_Dice_Knots : Func := Try.f76
theorem get_made_Dice_Knots : P.funcs[made_Dice_Knots]? = some fn_made_Dice_Knots := Try.func76
abbrev made_Dice_Number : FuncId := 77
noncomputable abbrev fn_made_Dice_Number : Func := Try.f77
theorem get_made_Dice_Number : P.funcs[made_Dice_Number]? = some fn_made_Dice_Number := Try.func77
abbrev rational_Cmp : FuncId := 78
noncomputable abbrev fn_rational_Cmp : Func := Try.f78
theorem get_rational_Cmp : P.funcs[rational_Cmp]? = some fn_rational_Cmp := Try.func78
abbrev basis_fraction : FuncId := 79
noncomputable abbrev fn_basis_fraction : Func := Try.f79
theorem get_basis_fraction : P.funcs[basis_fraction]? = some fn_basis_fraction := Try.func79
abbrev rational_Add : FuncId := 80
noncomputable abbrev fn_rational_Add : Func := Try.f80
theorem get_rational_Add : P.funcs[rational_Add]? = some fn_rational_Add := Try.func80
abbrev rational_Mul : FuncId := 81
noncomputable abbrev fn_rational_Mul : Func := Try.f81
theorem get_rational_Mul : P.funcs[rational_Mul]? = some fn_rational_Mul := Try.func81
abbrev rational_Sub : FuncId := 82
noncomputable abbrev fn_rational_Sub : Func := Try.f82
theorem get_rational_Sub : P.funcs[rational_Sub]? = some fn_rational_Sub := Try.func82
abbrev ref09_Polar : FuncId := 83
noncomputable abbrev fn_ref09_Polar : Func := Try.f83
theorem get_ref09_Polar : P.funcs[ref09_Polar]? = some fn_ref09_Polar := Try.func83
abbrev ref01_Cmp : FuncId := 84
noncomputable abbrev fn_ref01_Cmp : Func := Try.f84
theorem get_ref01_Cmp : P.funcs[ref01_Cmp]? = some fn_ref01_Cmp := Try.func84
abbrev ref04_Unit : FuncId := 85
noncomputable abbrev fn_ref04_Unit : Func := Try.f85
theorem get_ref04_Unit : P.funcs[ref04_Unit]? = some fn_ref04_Unit := Try.func85
abbrev vector_Through : FuncId := 86
noncomputable abbrev fn_vector_Through : Func := Try.f86
theorem get_vector_Through : P.funcs[vector_Through]? = some fn_vector_Through := Try.func86
abbrev vector_Orient2 : FuncId := 87
noncomputable abbrev fn_vector_Orient2 : Func := Try.f87
theorem get_vector_Orient2 : P.funcs[vector_Orient2]? = some fn_vector_Orient2 := Try.func87
abbrev ref04_Same : FuncId := 88
noncomputable abbrev fn_ref04_Same : Func := Try.f88
theorem get_ref04_Same : P.funcs[ref04_Same]? = some fn_ref04_Same := Try.func88
abbrev vector_Side : FuncId := 89
noncomputable abbrev fn_vector_Side : Func := Try.f89
theorem get_vector_Side : P.funcs[vector_Side]? = some fn_vector_Side := Try.func89
abbrev made_Dice_number : FuncId := 90
noncomputable abbrev fn_made_Dice_number : Func := Try.f90
theorem get_made_Dice_number : P.funcs[made_Dice_number]? = some fn_made_Dice_number := Try.func90
abbrev rational_Quo : FuncId := 91
noncomputable abbrev fn_rational_Quo : Func := Try.f91
theorem get_rational_Quo : P.funcs[rational_Quo]? = some fn_rational_Quo := Try.func91
abbrev rational_Max : FuncId := 92
noncomputable abbrev fn_rational_Max : Func := Try.f92
theorem get_rational_Max : P.funcs[rational_Max]? = some fn_rational_Max := Try.func92
abbrev rational_Min : FuncId := 93
noncomputable abbrev fn_rational_Min : Func := Try.f93
theorem get_rational_Min : P.funcs[rational_Min]? = some fn_rational_Min := Try.func93
abbrev rational_Int : FuncId := 94
noncomputable abbrev fn_rational_Int : Func := Try.f94
theorem get_rational_Int : P.funcs[rational_Int]? = some fn_rational_Int := Try.func94
abbrev vector_each : FuncId := 95
noncomputable abbrev fn_vector_each : Func := Try.f95
theorem get_vector_each : P.funcs[vector_each]? = some fn_vector_each := Try.func95
abbrev ref02_reduce : FuncId := 96
noncomputable abbrev fn_ref02_reduce : Func := Try.f96
theorem get_ref02_reduce : P.funcs[ref02_reduce]? = some fn_ref02_reduce := Try.func96
abbrev ref01_Mul : FuncId := 97
noncomputable abbrev fn_ref01_Mul : Func := Try.f97
theorem get_ref01_Mul : P.funcs[ref01_Mul]? = some fn_ref01_Mul := Try.func97
abbrev ref02_Den : FuncId := 98
noncomputable abbrev fn_ref02_Den : Func := Try.f98
theorem get_ref02_Den : P.funcs[ref02_Den]? = some fn_ref02_Den := Try.func98
abbrev ref09_function : FuncId := 99
noncomputable abbrev fn_ref09_function : Func := Try.f99
theorem get_ref09_function : P.funcs[ref09_function]? = some fn_ref09_function := Try.func99
abbrev ref02_Sub : FuncId := 100
noncomputable abbrev fn_ref02_Sub : Func := Try.f100
theorem get_ref02_Sub : P.funcs[ref02_Sub]? = some fn_ref02_Sub := Try.func100
abbrev ref01_Add : FuncId := 101
noncomputable abbrev fn_ref01_Add : Func := Try.f101
theorem get_ref01_Add : P.funcs[ref01_Add]? = some fn_ref01_Add := Try.func101
abbrev ref01_Sub : FuncId := 102
noncomputable abbrev fn_ref01_Sub : Func := Try.f102
theorem get_ref01_Sub : P.funcs[ref01_Sub]? = some fn_ref01_Sub := Try.func102
abbrev ref02_size : FuncId := 103
noncomputable abbrev fn_ref02_size : Func := Try.f103
theorem get_ref02_size : P.funcs[ref02_size]? = some fn_ref02_size := Try.func103
abbrev slices_IsSortedFunc_api_Rat_api_Rat : FuncId := 104
noncomputable abbrev fn_slices_IsSortedFunc_api_Rat_api_Rat : Func := Try.f104
theorem get_slices_IsSortedFunc_api_Rat_api_Rat : P.funcs[slices_IsSortedFunc_api_Rat_api_Rat]? = some fn_slices_IsSortedFunc_api_Rat_api_Rat := Try.func104
abbrev rational_Same : FuncId := 105
noncomputable abbrev fn_rational_Same : Func := Try.f105
theorem get_rational_Same : P.funcs[rational_Same]? = some fn_rational_Same := Try.func105
abbrev vector_transposed : FuncId := 106
noncomputable abbrev fn_vector_transposed : Func := Try.f106
theorem get_vector_transposed : P.funcs[vector_transposed]? = some fn_vector_transposed := Try.func106
abbrev vector_Det : FuncId := 107
noncomputable abbrev fn_vector_Det : Func := Try.f107
theorem get_vector_Det : P.funcs[vector_Det]? = some fn_vector_Det := Try.func107
abbrev ref02_Over : FuncId := 108
noncomputable abbrev fn_ref02_Over : Func := Try.f108
theorem get_ref02_Over : P.funcs[ref02_Over]? = some fn_ref02_Over := Try.func108
abbrev rational_Make : FuncId := 109
noncomputable abbrev fn_rational_Make : Func := Try.f109
theorem get_rational_Make : P.funcs[rational_Make]? = some fn_rational_Make := Try.func109
abbrev slices_Backward_api_Rat_api_Rat : FuncId := 110
noncomputable abbrev fn_slices_Backward_api_Rat_api_Rat : Func := Try.f110
theorem get_slices_Backward_api_Rat_api_Rat : P.funcs[slices_Backward_api_Rat_api_Rat]? = some fn_slices_Backward_api_Rat_api_Rat := Try.func110
abbrev slices_CompactFunc_api_Rat_api_Rat : FuncId := 111
noncomputable abbrev fn_slices_CompactFunc_api_Rat_api_Rat : Func := Try.f111
theorem get_slices_CompactFunc_api_Rat_api_Rat : P.funcs[slices_CompactFunc_api_Rat_api_Rat]? = some fn_slices_CompactFunc_api_Rat_api_Rat := Try.func111
abbrev knots_copied : FuncId := 112
noncomputable abbrev fn_knots_copied : Func := Try.f112
theorem get_knots_copied : P.funcs[knots_copied]? = some fn_knots_copied := Try.func112
abbrev slices_Insert_api_Rat_api_Rat : FuncId := 113
noncomputable abbrev fn_slices_Insert_api_Rat_api_Rat : Func := Try.f113
theorem get_slices_Insert_api_Rat_api_Rat : P.funcs[slices_Insert_api_Rat_api_Rat]? = some fn_slices_Insert_api_Rat_api_Rat := Try.func113
abbrev ref02_Make : FuncId := 114
noncomputable abbrev fn_ref02_Make : Func := Try.f114
theorem get_ref02_Make : P.funcs[ref02_Make]? = some fn_ref02_Make := Try.func114
abbrev ref01_Text : FuncId := 115
noncomputable abbrev fn_ref01_Text : Func := Try.f115
theorem get_ref01_Text : P.funcs[ref01_Text]? = some fn_ref01_Text := Try.func115
abbrev rational_Sign : FuncId := 116
noncomputable abbrev fn_rational_Sign : Func := Try.f116
theorem get_rational_Sign : P.funcs[rational_Sign]? = some fn_rational_Sign := Try.func116
abbrev rational_parts : FuncId := 117
noncomputable abbrev fn_rational_parts : Func := Try.f117
theorem get_rational_parts : P.funcs[rational_parts]? = some fn_rational_parts := Try.func117
abbrev slices_Equal_uint32_uint32 : FuncId := 118
noncomputable abbrev fn_slices_Equal_uint32_uint32 : Func := Try.f118
theorem get_slices_Equal_uint32_uint32 : P.funcs[slices_Equal_uint32_uint32]? = some fn_slices_Equal_uint32_uint32 := Try.func118
abbrev natural_Cmp : FuncId := 119
noncomputable abbrev fn_natural_Cmp : Func := Try.f119
theorem get_natural_Cmp : P.funcs[natural_Cmp]? = some fn_natural_Cmp := Try.func119
abbrev natural_Mul : FuncId := 120
noncomputable abbrev fn_natural_Mul : Func := Try.f120
theorem get_natural_Mul : P.funcs[natural_Mul]? = some fn_natural_Mul := Try.func120
abbrev rational_den : FuncId := 121
noncomputable abbrev fn_rational_den : Func := Try.f121
theorem get_rational_den : P.funcs[rational_den]? = some fn_rational_den := Try.func121
abbrev rational_add : FuncId := 122
noncomputable abbrev fn_rational_add : Func := Try.f122
theorem get_rational_add : P.funcs[rational_add]? = some fn_rational_add := Try.func122
abbrev rational_short : FuncId := 123
noncomputable abbrev fn_rational_short : Func := Try.f123
theorem get_rational_short : P.funcs[rational_short]? = some fn_rational_short := Try.func123
abbrev rational_reduce : FuncId := 124
noncomputable abbrev fn_rational_reduce : Func := Try.f124
theorem get_rational_reduce : P.funcs[rational_reduce]? = some fn_rational_reduce := Try.func124
abbrev vector_Zero : FuncId := 125
noncomputable abbrev fn_vector_Zero : Func := Try.f125
theorem get_vector_Zero : P.funcs[vector_Zero]? = some fn_vector_Zero := Try.func125
abbrev rational_copied : FuncId := 126
noncomputable abbrev fn_rational_copied : Func := Try.f126
theorem get_rational_copied : P.funcs[rational_copied]? = some fn_rational_copied := Try.func126
abbrev rational_size : FuncId := 127
noncomputable abbrev fn_rational_size : Func := Try.f127
theorem get_rational_size : P.funcs[rational_size]? = some fn_rational_size := Try.func127
abbrev rational_one : FuncId := 128
noncomputable abbrev fn_rational_one : Func := Try.f128
theorem get_rational_one : P.funcs[rational_one]? = some fn_rational_one := Try.func128
abbrev ref01_Trim : FuncId := 129
noncomputable abbrev fn_ref01_Trim : Func := Try.f129
theorem get_ref01_Trim : P.funcs[ref01_Trim]? = some fn_ref01_Trim := Try.func129
abbrev ref01_Gcd : FuncId := 130
noncomputable abbrev fn_ref01_Gcd : Func := Try.f130
theorem get_ref01_Gcd : P.funcs[ref01_Gcd]? = some fn_ref01_Gcd := Try.func130
abbrev ref01_Div : FuncId := 131
noncomputable abbrev fn_ref01_Div : Func := Try.f131
theorem get_ref01_Div : P.funcs[ref01_Div]? = some fn_ref01_Div := Try.func131
abbrev ref09_part : FuncId := 132
noncomputable abbrev fn_ref09_part : Func := Try.f132
theorem get_ref09_part : P.funcs[ref09_part]? = some fn_ref09_part := Try.func132
abbrev ref02_Neg : FuncId := 133
noncomputable abbrev fn_ref02_Neg : Func := Try.f133
theorem get_ref02_Neg : P.funcs[ref02_Neg]? = some fn_ref02_Neg := Try.func133
abbrev ref01_minus : FuncId := 134
noncomputable abbrev fn_ref01_minus : Func := Try.f134
theorem get_ref01_minus : P.funcs[ref01_minus]? = some fn_ref01_minus := Try.func134
abbrev ref01_Of : FuncId := 135
noncomputable abbrev fn_ref01_Of : Func := Try.f135
theorem get_ref01_Of : P.funcs[ref01_Of]? = some fn_ref01_Of := Try.func135
abbrev ref02_Quo : FuncId := 136
noncomputable abbrev fn_ref02_Quo : Func := Try.f136
theorem get_ref02_Quo : P.funcs[ref02_Quo]? = some fn_ref02_Quo := Try.func136
abbrev slices_Backward_api_Rat_api_Rat_1 : FuncId := 137
noncomputable abbrev fn_slices_Backward_api_Rat_api_Rat_1 : Func := Try.f137
theorem get_slices_Backward_api_Rat_api_Rat_1 : P.funcs[slices_Backward_api_Rat_api_Rat_1]? = some fn_slices_Backward_api_Rat_api_Rat_1 := Try.func137
abbrev slices_overlaps_api_Rat : FuncId := 138
noncomputable abbrev fn_slices_overlaps_api_Rat : Func := Try.f138
theorem get_slices_overlaps_api_Rat : P.funcs[slices_overlaps_api_Rat]? = some fn_slices_overlaps_api_Rat := Try.func138
abbrev slices_rotateRight_api_Rat : FuncId := 139
noncomputable abbrev fn_slices_rotateRight_api_Rat : Func := Try.f139
theorem get_slices_rotateRight_api_Rat : P.funcs[slices_rotateRight_api_Rat]? = some fn_slices_rotateRight_api_Rat := Try.func139
abbrev ref01_byLimb : FuncId := 140
noncomputable abbrev fn_ref01_byLimb : Func := Try.f140
theorem get_ref01_byLimb : P.funcs[ref01_byLimb]? = some fn_ref01_byLimb := Try.func140
abbrev natural_Bits : FuncId := 141
noncomputable abbrev fn_natural_Bits : Func := Try.f141
theorem get_natural_Bits : P.funcs[natural_Bits]? = some fn_natural_Bits := Try.func141
abbrev rational_word : FuncId := 142
noncomputable abbrev fn_rational_word : Func := Try.f142
theorem get_rational_word : P.funcs[rational_word]? = some fn_rational_word := Try.func142
abbrev natural_trim : FuncId := 143
noncomputable abbrev fn_natural_trim : Func := Try.f143
theorem get_natural_trim : P.funcs[natural_trim]? = some fn_natural_trim := Try.func143
abbrev math_bits_Add64 : FuncId := 144
noncomputable abbrev fn_math_bits_Add64 : Func := Try.f144
theorem get_math_bits_Add64 : P.funcs[math_bits_Add64]? = some fn_math_bits_Add64 := Try.func144
abbrev natural_Add : FuncId := 145
noncomputable abbrev fn_natural_Add : Func := Try.f145
theorem get_natural_Add : P.funcs[natural_Add]? = some fn_natural_Add := Try.func145
abbrev natural_Sub : FuncId := 146
noncomputable abbrev fn_natural_Sub : Func := Try.f146
theorem get_natural_Sub : P.funcs[natural_Sub]? = some fn_natural_Sub := Try.func146
abbrev rational_divisor : FuncId := 147
noncomputable abbrev fn_rational_divisor : Func := Try.f147
theorem get_rational_divisor : P.funcs[rational_divisor]? = some fn_rational_divisor := Try.func147
abbrev rational_limbs : FuncId := 148
noncomputable abbrev fn_rational_limbs : Func := Try.f148
theorem get_rational_limbs : P.funcs[rational_limbs]? = some fn_rational_limbs := Try.func148
abbrev natural_Gcd : FuncId := 149
noncomputable abbrev fn_natural_Gcd : Func := Try.f149
theorem get_natural_Gcd : P.funcs[natural_Gcd]? = some fn_natural_Gcd := Try.func149
abbrev natural_Div : FuncId := 150
noncomputable abbrev fn_natural_Div : Func := Try.f150
theorem get_natural_Div : P.funcs[natural_Div]? = some fn_natural_Div := Try.func150
abbrev slices_Clone_uint32_uint32 : FuncId := 151
noncomputable abbrev fn_slices_Clone_uint32_uint32 : Func := Try.f151
theorem get_slices_Clone_uint32_uint32 : P.funcs[slices_Clone_uint32_uint32]? = some fn_slices_Clone_uint32_uint32 := Try.func151
abbrev natural_Of : FuncId := 152
noncomputable abbrev fn_natural_Of : Func := Try.f152
theorem get_natural_Of : P.funcs[natural_Of]? = some fn_natural_Of := Try.func152
abbrev ref01_small : FuncId := 153
noncomputable abbrev fn_ref01_small : Func := Try.f153
theorem get_ref01_small : P.funcs[ref01_small]? = some fn_ref01_small := Try.func153
abbrev ref01_Bits : FuncId := 154
noncomputable abbrev fn_ref01_Bits : Func := Try.f154
theorem get_ref01_Bits : P.funcs[ref01_Bits]? = some fn_ref01_Bits := Try.func154
abbrev ref01_up : FuncId := 155
noncomputable abbrev fn_ref01_up : Func := Try.f155
theorem get_ref01_up : P.funcs[ref01_up]? = some fn_ref01_up := Try.func155
abbrev ref01_shifted : FuncId := 156
noncomputable abbrev fn_ref01_shifted : Func := Try.f156
theorem get_ref01_shifted : P.funcs[ref01_shifted]? = some fn_ref01_shifted := Try.func156
abbrev ref01_times : FuncId := 157
noncomputable abbrev fn_ref01_times : Func := Try.f157
theorem get_ref01_times : P.funcs[ref01_times]? = some fn_ref01_times := Try.func157
abbrev ref01_down : FuncId := 158
noncomputable abbrev fn_ref01_down : Func := Try.f158
theorem get_ref01_down : P.funcs[ref01_down]? = some fn_ref01_down := Try.func158
abbrev slices_rotateLeft_api_Rat : FuncId := 159
noncomputable abbrev fn_slices_rotateLeft_api_Rat : Func := Try.f159
theorem get_slices_rotateLeft_api_Rat : P.funcs[slices_rotateLeft_api_Rat]? = some fn_slices_rotateLeft_api_Rat := Try.func159
abbrev math_bits_Len32 : FuncId := 160
noncomputable abbrev fn_math_bits_Len32 : Func := Try.f160
theorem get_math_bits_Len32 : P.funcs[math_bits_Len32]? = some fn_math_bits_Len32 := Try.func160
abbrev natural_word : FuncId := 161
noncomputable abbrev fn_natural_word : Func := Try.f161
theorem get_natural_word : P.funcs[natural_word]? = some fn_natural_word := Try.func161
abbrev natural_small : FuncId := 162
noncomputable abbrev fn_natural_small : Func := Try.f162
theorem get_natural_small : P.funcs[natural_small]? = some fn_natural_small := Try.func162
abbrev math_bits_LeadingZeros32 : FuncId := 163
noncomputable abbrev fn_math_bits_LeadingZeros32 : Func := Try.f163
theorem get_math_bits_LeadingZeros32 : P.funcs[math_bits_LeadingZeros32]? = some fn_math_bits_LeadingZeros32 := Try.func163
abbrev natural_raise : FuncId := 164
noncomputable abbrev fn_natural_raise : Func := Try.f164
theorem get_natural_raise : P.funcs[natural_raise]? = some fn_natural_raise := Try.func164
abbrev slices_Reverse_api_Rat_api_Rat : FuncId := 165
noncomputable abbrev fn_slices_Reverse_api_Rat_api_Rat : Func := Try.f165
theorem get_slices_Reverse_api_Rat_api_Rat : P.funcs[slices_Reverse_api_Rat_api_Rat]? = some fn_slices_Reverse_api_Rat_api_Rat := Try.func165
abbrev runtime_boundsError_Error : FuncId := 166
noncomputable abbrev fn_runtime_boundsError_Error : Func := Try.f166
theorem get_runtime_boundsError_Error : P.funcs[runtime_boundsError_Error]? = some fn_runtime_boundsError_Error := Try.func166
abbrev runtime_boundsError_RuntimeError : FuncId := 167
noncomputable abbrev fn_runtime_boundsError_RuntimeError : Func := Try.f167
theorem get_runtime_boundsError_RuntimeError : P.funcs[runtime_boundsError_RuntimeError]? = some fn_runtime_boundsError_RuntimeError := Try.func167
abbrev runtime_errorString_Error : FuncId := 168
noncomputable abbrev fn_runtime_errorString_Error : Func := Try.f168
theorem get_runtime_errorString_Error : P.funcs[runtime_errorString_Error]? = some fn_runtime_errorString_Error := Try.func168
abbrev runtime_errorString_RuntimeError : FuncId := 169
noncomputable abbrev fn_runtime_errorString_RuntimeError : Func := Try.f169
theorem get_runtime_errorString_RuntimeError : P.funcs[runtime_errorString_RuntimeError]? = some fn_runtime_errorString_RuntimeError := Try.func169
abbrev runtime_plainError_Error : FuncId := 170
noncomputable abbrev fn_runtime_plainError_Error : Func := Try.f170
theorem get_runtime_plainError_Error : P.funcs[runtime_plainError_Error]? = some fn_runtime_plainError_Error := Try.func170
abbrev runtime_plainError_RuntimeError : FuncId := 171
noncomputable abbrev fn_runtime_plainError_RuntimeError : Func := Try.f171
theorem get_runtime_plainError_RuntimeError : P.funcs[runtime_plainError_RuntimeError]? = some fn_runtime_plainError_RuntimeError := Try.func171
abbrev runtime_errorAddressString_Error : FuncId := 172
noncomputable abbrev fn_runtime_errorAddressString_Error : Func := Try.f172
theorem get_runtime_errorAddressString_Error : P.funcs[runtime_errorAddressString_Error]? = some fn_runtime_errorAddressString_Error := Try.func172
abbrev runtime_errorAddressString_RuntimeError : FuncId := 173
noncomputable abbrev fn_runtime_errorAddressString_RuntimeError : Func := Try.f173
theorem get_runtime_errorAddressString_RuntimeError : P.funcs[runtime_errorAddressString_RuntimeError]? = some fn_runtime_errorAddressString_RuntimeError := Try.func173
abbrev runtime_TypeAssertionError_Error : FuncId := 174
noncomputable abbrev fn_runtime_TypeAssertionError_Error : Func := Try.f174
theorem get_runtime_TypeAssertionError_Error : P.funcs[runtime_TypeAssertionError_Error]? = some fn_runtime_TypeAssertionError_Error := Try.func174
abbrev runtime_TypeAssertionError_RuntimeError : FuncId := 175
noncomputable abbrev fn_runtime_TypeAssertionError_RuntimeError : Func := Try.f175
theorem get_runtime_TypeAssertionError_RuntimeError : P.funcs[runtime_TypeAssertionError_RuntimeError]? = some fn_runtime_TypeAssertionError_RuntimeError := Try.func175
abbrev runtime_PanicNilError_Error : FuncId := 176
noncomputable abbrev fn_runtime_PanicNilError_Error : Func := Try.f176
theorem get_runtime_PanicNilError_Error : P.funcs[runtime_PanicNilError_Error]? = some fn_runtime_PanicNilError_Error := Try.func176
abbrev runtime_PanicNilError_RuntimeError : FuncId := 177
noncomputable abbrev fn_runtime_PanicNilError_RuntimeError : Func := Try.f177
theorem get_runtime_PanicNilError_RuntimeError : P.funcs[runtime_PanicNilError_RuntimeError]? = some fn_runtime_PanicNilError_RuntimeError := Try.func177
abbrev internal_abi_Type_Align : FuncId := 178
noncomputable abbrev fn_internal_abi_Type_Align : Func := Try.f178
theorem get_internal_abi_Type_Align : P.funcs[internal_abi_Type_Align]? = some fn_internal_abi_Type_Align := Try.func178
abbrev internal_runtime_maps_unhashableTypeError_Error : FuncId := 179
noncomputable abbrev fn_internal_runtime_maps_unhashableTypeError_Error : Func := Try.f179
theorem get_internal_runtime_maps_unhashableTypeError_Error : P.funcs[internal_runtime_maps_unhashableTypeError_Error]? = some fn_internal_runtime_maps_unhashableTypeError_Error := Try.func179
abbrev internal_runtime_maps_unhashableTypeError_RuntimeError : FuncId := 180
noncomputable abbrev fn_internal_runtime_maps_unhashableTypeError_RuntimeError : Func := Try.f180
theorem get_internal_runtime_maps_unhashableTypeError_RuntimeError : P.funcs[internal_runtime_maps_unhashableTypeError_RuntimeError]? = some fn_internal_runtime_maps_unhashableTypeError_RuntimeError := Try.func180
abbrev made_Dice_Left : FuncId := 181
noncomputable abbrev fn_made_Dice_Left : Func := Try.f181
theorem get_made_Dice_Left : P.funcs[made_Dice_Left]? = some fn_made_Dice_Left := Try.func181
abbrev internal_abi_Kind_String : FuncId := 182
noncomputable abbrev fn_internal_abi_Kind_String : Func := Try.f182
theorem get_internal_abi_Kind_String : P.funcs[internal_abi_Kind_String]? = some fn_internal_abi_Kind_String := Try.func182

/-- int64 -/
abbrev ty2 : TI := ⟨.int .i64, 1, 8, .int .i64 0⟩
theorem ok2 : TyOK P 2 ty2 := tyOK (by kernel_rfl) (by kernel_rfl) (by kernel_rfl)
/-- int -/
abbrev ty3 : TI := ⟨.int .i64, 1, 8, .int .i64 0⟩
theorem ok3 : TyOK P 3 ty3 := tyOK (by kernel_rfl) (by kernel_rfl) (by kernel_rfl)
/-- bool -/
abbrev ty4 : TI := ⟨.bool, 1, 1, .bool false⟩
theorem ok4 : TyOK P 4 ty4 := tyOK (by kernel_rfl) (by kernel_rfl) (by kernel_rfl)
/-- uint8 -/
abbrev ty5 : TI := ⟨.int .u8, 1, 1, .int .u8 0⟩
theorem ok5 : TyOK P 5 ty5 := tyOK (by kernel_rfl) (by kernel_rfl) (by kernel_rfl)
/-- abi.BoundsErrorCode -/
abbrev ty6 : TI := ⟨.int .u8, 1, 1, .int .u8 0⟩
theorem ok6 : TyOK P 6 ty6 := tyOK (by kernel_rfl) (by kernel_rfl) (by kernel_rfl)
/-- struct { x int64; y int; signed bool; code abi.BoundsErrorCode } -/
abbrev ty7 : TI := ⟨.struct #[{ name := "x", type := 2, offset := 0, embedded := false, tag := "", pkgPath := "runtime", byteOffset := 0 }, { name := "y", type := 3, offset := 1, embedded := false, tag := "", pkgPath := "runtime", byteOffset := 8 }, { name := "signed", type := 4, offset := 2, embedded := false, tag := "", pkgPath := "runtime", byteOffset := 16 }, { name := "code", type := 6, offset := 3, embedded := false, tag := "", pkgPath := "runtime", byteOffset := 17 }], 4, 24, .agg [.int .i64 0, .int .i64 0, .bool false, .int .u8 0]⟩
theorem ok7 : TyOK P 7 ty7 := tyOK (by kernel_rfl) (by kernel_rfl) (by kernel_rfl)
/-- runtime.boundsError -/
abbrev ty8 : TI := ⟨.struct #[{ name := "x", type := 2, offset := 0, embedded := false, tag := "", pkgPath := "runtime", byteOffset := 0 }, { name := "y", type := 3, offset := 1, embedded := false, tag := "", pkgPath := "runtime", byteOffset := 8 }, { name := "signed", type := 4, offset := 2, embedded := false, tag := "", pkgPath := "runtime", byteOffset := 16 }, { name := "code", type := 6, offset := 3, embedded := false, tag := "", pkgPath := "runtime", byteOffset := 17 }], 4, 24, .agg [.int .i64 0, .int .i64 0, .bool false, .int .u8 0]⟩
theorem ok8 : TyOK P 8 ty8 := tyOK (by kernel_rfl) (by kernel_rfl) (by kernel_rfl)
/-- string -/
abbrev ty9 : TI := ⟨.string, 1, 16, .tuple []⟩
theorem ok9 : TyOK P 9 ty9 := tyOK' (by kernel_rfl) (by kernel_rfl) rfl
/-- runtime.errorString -/
abbrev ty10 : TI := ⟨.string, 1, 16, .tuple []⟩
theorem ok10 : TyOK P 10 ty10 := tyOK' (by kernel_rfl) (by kernel_rfl) rfl
/-- runtime.plainError -/
abbrev ty11 : TI := ⟨.string, 1, 16, .tuple []⟩
theorem ok11 : TyOK P 11 ty11 := tyOK' (by kernel_rfl) (by kernel_rfl) rfl
/-- uintptr -/
abbrev ty12 : TI := ⟨.int .u64, 1, 8, .int .u64 0⟩
theorem ok12 : TyOK P 12 ty12 := tyOK (by kernel_rfl) (by kernel_rfl) (by kernel_rfl)
/-- struct { msg string; addr uintptr } -/
abbrev ty13 : TI := ⟨.struct #[{ name := "msg", type := 9, offset := 0, embedded := false, tag := "", pkgPath := "runtime", byteOffset := 0 }, { name := "addr", type := 12, offset := 1, embedded := false, tag := "", pkgPath := "runtime", byteOffset := 16 }], 2, 24, .tuple []⟩
theorem ok13 : TyOK P 13 ty13 := tyOK' (by kernel_rfl) (by kernel_rfl) rfl
/-- runtime.errorAddressString -/
abbrev ty14 : TI := ⟨.struct #[{ name := "msg", type := 9, offset := 0, embedded := false, tag := "", pkgPath := "runtime", byteOffset := 0 }, { name := "addr", type := 12, offset := 1, embedded := false, tag := "", pkgPath := "runtime", byteOffset := 16 }], 2, 24, .tuple []⟩
theorem ok14 : TyOK P 14 ty14 := tyOK' (by kernel_rfl) (by kernel_rfl) rfl
/-- *runtime.TypeAssertionError -/
abbrev ty15 : TI := ⟨.pointer 158, 1, 8, .tuple []⟩
theorem ok15 : TyOK P 15 ty15 := tyOK' (by kernel_rfl) (by kernel_rfl) rfl
/-- *runtime.PanicNilError -/
abbrev ty16 : TI := ⟨.pointer 161, 1, 8, .tuple []⟩
theorem ok16 : TyOK P 16 ty16 := tyOK' (by kernel_rfl) (by kernel_rfl) rfl
/-- *abi.Type -/
abbrev ty17 : TI := ⟨.pointer 170, 1, 8, .tuple []⟩
theorem ok17 : TyOK P 17 ty17 := tyOK' (by kernel_rfl) (by kernel_rfl) rfl
/-- struct { typ *abi.Type } -/
abbrev ty18 : TI := ⟨.struct #[{ name := "typ", type := 17, offset := 0, embedded := false, tag := "", pkgPath := "internal/runtime/maps", byteOffset := 0 }], 1, 8, .tuple []⟩
theorem ok18 : TyOK P 18 ty18 := tyOK' (by kernel_rfl) (by kernel_rfl) rfl
/-- maps.unhashableTypeError -/
abbrev ty19 : TI := ⟨.struct #[{ name := "typ", type := 17, offset := 0, embedded := false, tag := "", pkgPath := "internal/runtime/maps", byteOffset := 0 }], 1, 8, .tuple []⟩
theorem ok19 : TyOK P 19 ty19 := tyOK' (by kernel_rfl) (by kernel_rfl) rfl
/-- int32 -/
abbrev ty21 : TI := ⟨.int .i32, 1, 4, .int .i32 0⟩
theorem ok21 : TyOK P 21 ty21 := tyOK (by kernel_rfl) (by kernel_rfl) (by kernel_rfl)
/-- []int -/
abbrev ty22 : TI := ⟨.slice 3, 1, 24, .nil⟩
theorem ok22 : TyOK P 22 ty22 := tyOK (by kernel_rfl) (by kernel_rfl) (by kernel_rfl)
/-- []api.Rat -/
abbrev ty25 : TI := ⟨.slice 30, 1, 24, .nil⟩
theorem ok25 : TyOK P 25 ty25 := tyOK (by kernel_rfl) (by kernel_rfl) (by kernel_rfl)
/-- []uint32 -/
abbrev ty28 : TI := ⟨.slice 127, 1, 24, .nil⟩
theorem ok28 : TyOK P 28 ty28 := tyOK (by kernel_rfl) (by kernel_rfl) (by kernel_rfl)
/-- struct { Neg bool; Num []uint32; Den []uint32 } -/
abbrev ty29 : TI := ⟨.struct #[{ name := "Neg", type := 4, offset := 0, embedded := false, tag := "", pkgPath := "", byteOffset := 0 }, { name := "Num", type := 28, offset := 1, embedded := false, tag := "", pkgPath := "", byteOffset := 8 }, { name := "Den", type := 28, offset := 2, embedded := false, tag := "", pkgPath := "", byteOffset := 32 }], 3, 56, .agg [.bool false, .nil, .nil]⟩
theorem ok29 : TyOK P 29 ty29 := tyOK (by kernel_rfl) (by kernel_rfl) (by kernel_rfl)
/-- api.Rat -/
abbrev ty30 : TI := ⟨.struct #[{ name := "Neg", type := 4, offset := 0, embedded := false, tag := "", pkgPath := "", byteOffset := 0 }, { name := "Num", type := 28, offset := 1, embedded := false, tag := "", pkgPath := "", byteOffset := 8 }, { name := "Den", type := 28, offset := 2, embedded := false, tag := "", pkgPath := "", byteOffset := 32 }], 3, 56, .rat 0 1⟩
theorem ok30 : TyOK P 30 ty30 := tyOK (by kernel_rfl) (by kernel_rfl) (by kernel_rfl)
/-- api.Errno -/
abbrev ty33 : TI := ⟨.int .i64, 1, 8, .int .i64 0⟩
theorem ok33 : TyOK P 33 ty33 := tyOK (by kernel_rfl) (by kernel_rfl) (by kernel_rfl)
/-- *brepkernelmade.Dice -/
abbrev ty38 : TI := ⟨.pointer 103, 1, 8, .tuple []⟩
theorem ok38 : TyOK P 38 ty38 := tyOK' (by kernel_rfl) (by kernel_rfl) rfl
/-- [3]api.Rat -/
abbrev ty40 : TI := ⟨.array 3 30, 9, 168, .agg [.rat 0 1, .rat 0 1, .rat 0 1]⟩
theorem ok40 : TyOK P 40 ty40 := tyOK (by kernel_rfl) (by kernel_rfl) (by kernel_rfl)
/-- api.Point -/
abbrev ty41 : TI := ⟨.array 3 30, 9, 168, .agg [.rat 0 1, .rat 0 1, .rat 0 1]⟩
theorem ok41 : TyOK P 41 ty41 := tyOK (by kernel_rfl) (by kernel_rfl) (by kernel_rfl)
/-- struct { Lo api.Rat; Hi api.Rat } -/
abbrev ty58 : TI := ⟨.struct #[{ name := "Lo", type := 30, offset := 0, embedded := false, tag := "", pkgPath := "", byteOffset := 0 }, { name := "Hi", type := 30, offset := 3, embedded := false, tag := "", pkgPath := "", byteOffset := 56 }], 6, 112, .agg [.rat 0 1, .rat 0 1]⟩
theorem ok58 : TyOK P 58 ty58 := tyOK (by kernel_rfl) (by kernel_rfl) (by kernel_rfl)
/-- api.Span -/
abbrev ty59 : TI := ⟨.struct #[{ name := "Lo", type := 30, offset := 0, embedded := false, tag := "", pkgPath := "", byteOffset := 0 }, { name := "Hi", type := 30, offset := 3, embedded := false, tag := "", pkgPath := "", byteOffset := 56 }], 6, 112, .agg [.rat 0 1, .rat 0 1]⟩
theorem ok59 : TyOK P 59 ty59 := tyOK (by kernel_rfl) (by kernel_rfl) (by kernel_rfl)
/-- [3]api.Point -/
abbrev ty70 : TI := ⟨.array 3 41, 27, 504, .agg [.agg [.rat 0 1, .rat 0 1, .rat 0 1], .agg [.rat 0 1, .rat 0 1, .rat 0 1], .agg [.rat 0 1, .rat 0 1, .rat 0 1]]⟩
theorem ok70 : TyOK P 70 ty70 := tyOK (by kernel_rfl) (by kernel_rfl) (by kernel_rfl)
/-- struct { M [3]api.Point; T api.Point } -/
abbrev ty71 : TI := ⟨.struct #[{ name := "M", type := 70, offset := 0, embedded := false, tag := "", pkgPath := "", byteOffset := 0 }, { name := "T", type := 41, offset := 27, embedded := false, tag := "", pkgPath := "", byteOffset := 504 }], 36, 672, .agg [.agg [.agg [.rat 0 1, .rat 0 1, .rat 0 1], .agg [.rat 0 1, .rat 0 1, .rat 0 1], .agg [.rat 0 1, .rat 0 1, .rat 0 1]], .agg [.rat 0 1, .rat 0 1, .rat 0 1]]⟩
theorem ok71 : TyOK P 71 ty71 := tyOK (by kernel_rfl) (by kernel_rfl) (by kernel_rfl)
/-- api.Map -/
abbrev ty72 : TI := ⟨.struct #[{ name := "M", type := 70, offset := 0, embedded := false, tag := "", pkgPath := "", byteOffset := 0 }, { name := "T", type := 41, offset := 27, embedded := false, tag := "", pkgPath := "", byteOffset := 504 }], 36, 672, .agg [.agg [.agg [.rat 0 1, .rat 0 1, .rat 0 1], .agg [.rat 0 1, .rat 0 1, .rat 0 1], .agg [.rat 0 1, .rat 0 1, .rat 0 1]], .agg [.rat 0 1, .rat 0 1, .rat 0 1]]⟩
theorem ok72 : TyOK P 72 ty72 := tyOK (by kernel_rfl) (by kernel_rfl) (by kernel_rfl)
/-- struct { N api.Point; D api.Rat } -/
abbrev ty96 : TI := ⟨.struct #[{ name := "N", type := 41, offset := 0, embedded := false, tag := "", pkgPath := "", byteOffset := 0 }, { name := "D", type := 30, offset := 9, embedded := false, tag := "", pkgPath := "", byteOffset := 168 }], 12, 224, .agg [.agg [.rat 0 1, .rat 0 1, .rat 0 1], .rat 0 1]⟩
theorem ok96 : TyOK P 96 ty96 := tyOK (by kernel_rfl) (by kernel_rfl) (by kernel_rfl)
/-- api.Plane -/
abbrev ty97 : TI := ⟨.struct #[{ name := "N", type := 41, offset := 0, embedded := false, tag := "", pkgPath := "", byteOffset := 0 }, { name := "D", type := 30, offset := 9, embedded := false, tag := "", pkgPath := "", byteOffset := 168 }], 12, 224, .agg [.agg [.rat 0 1, .rat 0 1, .rat 0 1], .rat 0 1]⟩
theorem ok97 : TyOK P 97 ty97 := tyOK (by kernel_rfl) (by kernel_rfl) (by kernel_rfl)
/-- struct { L []int; At int } -/
abbrev ty102 : TI := ⟨.struct #[{ name := "L", type := 22, offset := 0, embedded := false, tag := "", pkgPath := "", byteOffset := 0 }, { name := "At", type := 3, offset := 1, embedded := false, tag := "", pkgPath := "", byteOffset := 24 }], 2, 32, .agg [.nil, .int .i64 0]⟩
theorem ok102 : TyOK P 102 ty102 := tyOK (by kernel_rfl) (by kernel_rfl) (by kernel_rfl)
/-- brepkernelmade.Dice -/
abbrev ty103 : TI := ⟨.struct #[{ name := "L", type := 22, offset := 0, embedded := false, tag := "", pkgPath := "", byteOffset := 0 }, { name := "At", type := 3, offset := 1, embedded := false, tag := "", pkgPath := "", byteOffset := 24 }], 2, 32, .agg [.nil, .int .i64 0]⟩
theorem ok103 : TyOK P 103 ty103 := tyOK (by kernel_rfl) (by kernel_rfl) (by kernel_rfl)
/-- uint64 -/
abbrev ty123 : TI := ⟨.int .u64, 1, 8, .int .u64 0⟩
theorem ok123 : TyOK P 123 ty123 := tyOK (by kernel_rfl) (by kernel_rfl) (by kernel_rfl)
/-- uint32 -/
abbrev ty127 : TI := ⟨.int .u32, 1, 4, .int .u32 0⟩
theorem ok127 : TyOK P 127 ty127 := tyOK (by kernel_rfl) (by kernel_rfl) (by kernel_rfl)
/-- uint -/
abbrev ty137 : TI := ⟨.int .u64, 1, 8, .int .u64 0⟩
theorem ok137 : TyOK P 137 ty137 := tyOK (by kernel_rfl) (by kernel_rfl) (by kernel_rfl)
/-- []uint8 -/
abbrev ty141 : TI := ⟨.slice 5, 1, 24, .nil⟩
theorem ok141 : TyOK P 141 ty141 := tyOK (by kernel_rfl) (by kernel_rfl) (by kernel_rfl)
/-- struct { _interface *abi.Type; concrete *abi.Type; asserted *abi.Type; missingMethod string } -/
abbrev ty157 : TI := ⟨.struct #[{ name := "_interface", type := 17, offset := 0, embedded := false, tag := "", pkgPath := "runtime", byteOffset := 0 }, { name := "concrete", type := 17, offset := 1, embedded := false, tag := "", pkgPath := "runtime", byteOffset := 8 }, { name := "asserted", type := 17, offset := 2, embedded := false, tag := "", pkgPath := "runtime", byteOffset := 16 }, { name := "missingMethod", type := 9, offset := 3, embedded := false, tag := "", pkgPath := "runtime", byteOffset := 24 }], 4, 40, .tuple []⟩
theorem ok157 : TyOK P 157 ty157 := tyOK' (by kernel_rfl) (by kernel_rfl) rfl
/-- runtime.TypeAssertionError -/
abbrev ty158 : TI := ⟨.struct #[{ name := "_interface", type := 17, offset := 0, embedded := false, tag := "", pkgPath := "runtime", byteOffset := 0 }, { name := "concrete", type := 17, offset := 1, embedded := false, tag := "", pkgPath := "runtime", byteOffset := 8 }, { name := "asserted", type := 17, offset := 2, embedded := false, tag := "", pkgPath := "runtime", byteOffset := 16 }, { name := "missingMethod", type := 9, offset := 3, embedded := false, tag := "", pkgPath := "runtime", byteOffset := 24 }], 4, 40, .tuple []⟩
theorem ok158 : TyOK P 158 ty158 := tyOK' (by kernel_rfl) (by kernel_rfl) rfl
/-- abi.TFlag -/
abbrev ty163 : TI := ⟨.int .u8, 1, 1, .int .u8 0⟩
theorem ok163 : TyOK P 163 ty163 := tyOK (by kernel_rfl) (by kernel_rfl) (by kernel_rfl)
/-- abi.Kind -/
abbrev ty164 : TI := ⟨.int .u8, 1, 1, .int .u8 0⟩
theorem ok164 : TyOK P 164 ty164 := tyOK (by kernel_rfl) (by kernel_rfl) (by kernel_rfl)
/-- *uint8 -/
abbrev ty166 : TI := ⟨.pointer 5, 1, 8, .tuple []⟩
theorem ok166 : TyOK P 166 ty166 := tyOK' (by kernel_rfl) (by kernel_rfl) rfl
/-- abi.NameOff -/
abbrev ty167 : TI := ⟨.int .i32, 1, 4, .int .i32 0⟩
theorem ok167 : TyOK P 167 ty167 := tyOK (by kernel_rfl) (by kernel_rfl) (by kernel_rfl)
/-- abi.TypeOff -/
abbrev ty168 : TI := ⟨.int .i32, 1, 4, .int .i32 0⟩
theorem ok168 : TyOK P 168 ty168 := tyOK (by kernel_rfl) (by kernel_rfl) (by kernel_rfl)
/-- struct { Size_ uintptr; PtrBytes uintptr; Hash uint32; TFlag abi.TFlag; Align_ uint8; FieldAlign_ uint8; Kind_ abi.Kind; Equal func(unsafe.Pointer, unsafe.Pointer) bool; GCData *uint8; Str abi.NameOff; PtrToThis abi.TypeOff } -/
abbrev ty169 : TI := ⟨.struct #[{ name := "Size_", type := 12, offset := 0, embedded := false, tag := "", pkgPath := "", byteOffset := 0 }, { name := "PtrBytes", type := 12, offset := 1, embedded := false, tag := "", pkgPath := "", byteOffset := 8 }, { name := "Hash", type := 127, offset := 2, embedded := false, tag := "", pkgPath := "", byteOffset := 16 }, { name := "TFlag", type := 163, offset := 3, embedded := false, tag := "", pkgPath := "", byteOffset := 20 }, { name := "Align_", type := 5, offset := 4, embedded := false, tag := "", pkgPath := "", byteOffset := 21 }, { name := "FieldAlign_", type := 5, offset := 5, embedded := false, tag := "", pkgPath := "", byteOffset := 22 }, { name := "Kind_", type := 164, offset := 6, embedded := false, tag := "", pkgPath := "", byteOffset := 23 }, { name := "Equal", type := 165, offset := 7, embedded := false, tag := "", pkgPath := "", byteOffset := 24 }, { name := "GCData", type := 166, offset := 8, embedded := false, tag := "", pkgPath := "", byteOffset := 32 }, { name := "Str", type := 167, offset := 9, embedded := false, tag := "", pkgPath := "", byteOffset := 40 }, { name := "PtrToThis", type := 168, offset := 10, embedded := false, tag := "", pkgPath := "", byteOffset := 44 }], 11, 48, .tuple []⟩
theorem ok169 : TyOK P 169 ty169 := tyOK' (by kernel_rfl) (by kernel_rfl) rfl
/-- abi.Type -/
abbrev ty170 : TI := ⟨.struct #[{ name := "Size_", type := 12, offset := 0, embedded := false, tag := "", pkgPath := "", byteOffset := 0 }, { name := "PtrBytes", type := 12, offset := 1, embedded := false, tag := "", pkgPath := "", byteOffset := 8 }, { name := "Hash", type := 127, offset := 2, embedded := false, tag := "", pkgPath := "", byteOffset := 16 }, { name := "TFlag", type := 163, offset := 3, embedded := false, tag := "", pkgPath := "", byteOffset := 20 }, { name := "Align_", type := 5, offset := 4, embedded := false, tag := "", pkgPath := "", byteOffset := 21 }, { name := "FieldAlign_", type := 5, offset := 5, embedded := false, tag := "", pkgPath := "", byteOffset := 22 }, { name := "Kind_", type := 164, offset := 6, embedded := false, tag := "", pkgPath := "", byteOffset := 23 }, { name := "Equal", type := 165, offset := 7, embedded := false, tag := "", pkgPath := "", byteOffset := 24 }, { name := "GCData", type := 166, offset := 8, embedded := false, tag := "", pkgPath := "", byteOffset := 32 }, { name := "Str", type := 167, offset := 9, embedded := false, tag := "", pkgPath := "", byteOffset := 40 }, { name := "PtrToThis", type := 168, offset := 10, embedded := false, tag := "", pkgPath := "", byteOffset := 44 }], 11, 48, .tuple []⟩
theorem ok170 : TyOK P 170 ty170 := tyOK' (by kernel_rfl) (by kernel_rfl) rfl
abbrev T : Types := [(2, ty2), (3, ty3), (4, ty4), (5, ty5), (6, ty6), (7, ty7), (8, ty8), (9, ty9), (10, ty10), (11, ty11), (12, ty12), (13, ty13), (14, ty14), (15, ty15), (16, ty16), (17, ty17), (18, ty18), (19, ty19), (21, ty21), (22, ty22), (25, ty25), (28, ty28), (29, ty29), (30, ty30), (33, ty33), (38, ty38), (40, ty40), (41, ty41), (58, ty58), (59, ty59), (70, ty70), (71, ty71), (72, ty72), (96, ty96), (97, ty97), (102, ty102), (103, ty103), (123, ty123), (127, ty127), (137, ty137), (141, ty141), (157, ty157), (158, ty158), (163, ty163), (164, ty164), (166, ty166), (167, ty167), (168, ty168), (169, ty169), (170, ty170)]
theorem hT : TOK P T := tok_cons ok2 (tok_cons ok3 (tok_cons ok4 (tok_cons ok5 (tok_cons ok6 (tok_cons ok7 (tok_cons ok8 (tok_cons ok9 (tok_cons ok10 (tok_cons ok11 (tok_cons ok12 (tok_cons ok13 (tok_cons ok14 (tok_cons ok15 (tok_cons ok16 (tok_cons ok17 (tok_cons ok18 (tok_cons ok19 (tok_cons ok21 (tok_cons ok22 (tok_cons ok25 (tok_cons ok28 (tok_cons ok29 (tok_cons ok30 (tok_cons ok33 (tok_cons ok38 (tok_cons ok40 (tok_cons ok41 (tok_cons ok58 (tok_cons ok59 (tok_cons ok70 (tok_cons ok71 (tok_cons ok72 (tok_cons ok96 (tok_cons ok97 (tok_cons ok102 (tok_cons ok103 (tok_cons ok123 (tok_cons ok127 (tok_cons ok137 (tok_cons ok141 (tok_cons ok157 (tok_cons ok158 (tok_cons ok163 (tok_cons ok164 (tok_cons ok166 (tok_cons ok167 (tok_cons ok168 (tok_cons ok169 (tok_cons ok170 (tok_nil))))))))))))))))))))))))))))))))))))))))))))))))))
end Go.Am.N
