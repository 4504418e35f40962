/- The seat's names: the numbers of functions, the types. Written by a program. -/
import Derived.Test.YtjhhblmbiaghfaaZ1
import Derived.Test.YtjhhblmbiaghfaaProg
import Derived.KernelRfl
set_option linter.unusedVariables false
namespace Go.Am.N
open Go.Proofs
noncomputable abbrev P : Program := Try.prog
theorem hm : P.follows .mixedOrders = true := by kernel_rfl
abbrev yc : FuncId := 4
noncomputable abbrev nv : Func := Try.f4
theorem OJ : P.funcs[yc]? = some nv := Try.func4
abbrev wP : FuncId := 7
noncomputable abbrev sk : Func := Try.f7
theorem HW : P.funcs[wP]? = some sk := Try.func7
abbrev pS : FuncId := 18
noncomputable abbrev rE : Func := Try.f18
theorem NG : P.funcs[pS]? = some rE := Try.func18
abbrev qy : FuncId := 19
noncomputable abbrev qO : Func := Try.f19
theorem J0 : P.funcs[qy]? = some qO := Try.func19
abbrev tZ : FuncId := 20
noncomputable abbrev u9 : Func := Try.f20
theorem TY : P.funcs[tZ]? = some u9 := Try.func20
abbrev nY : FuncId := 21
noncomputable abbrev tF : Func := Try.f21
theorem Ob : P.funcs[nY]? = some tF := Try.func21
abbrev nA : FuncId := 22
noncomputable abbrev mM : Func := Try.f22
theorem Kr : P.funcs[nA]? = some mM := Try.func22
abbrev wj : FuncId := 23
noncomputable abbrev pF : Func := Try.f23
theorem QG : P.funcs[wj]? = some pF := Try.func23
abbrev l9 : FuncId := 24
noncomputable abbrev q6 : Func := Try.f24
theorem RW : P.funcs[l9]? = some q6 := Try.func24
abbrev qd : FuncId := 25
noncomputable abbrev rX : Func := Try.f25
theorem LO : P.funcs[qd]? = some rX := Try.func25
abbrev mW : FuncId := 34
noncomputable abbrev qN : Func := Try.f34
theorem KF : P.funcs[mW]? = some qN := Try.func34
abbrev vB : FuncId := 36
noncomputable abbrev sP : Func := Try.f36
theorem Gz : P.funcs[vB]? = some sP := Try.func36
abbrev uK : FuncId := 38
noncomputable abbrev tK : Func := Try.f38
theorem J1 : P.funcs[uK]? = some tK := Try.func38
abbrev nI : FuncId := 41
noncomputable abbrev rK : Func := Try.f41
theorem RE : P.funcs[nI]? = some rK := Try.func41
abbrev oV : FuncId := 43
noncomputable abbrev sI : Func := Try.f43
theorem UW : P.funcs[oV]? = some sI := Try.func43
abbrev vW : FuncId := 44
noncomputable abbrev tw : Func := Try.f44
theorem MM : P.funcs[vW]? = some tw := Try.func44
abbrev vC : FuncId := 45
noncomputable abbrev qJ : Func := Try.f45
theorem LY : P.funcs[vC]? = some qJ := Try.func45
abbrev tO : FuncId := 46
noncomputable abbrev qQ : Func := Try.f46
theorem Lh : P.funcs[tO]? = some qQ := Try.func46
abbrev wB : FuncId := 47
noncomputable abbrev sx : Func := Try.f47
theorem Ti : P.funcs[wB]? = some sx := Try.func47
abbrev tv : FuncId := 48
noncomputable abbrev qw : Func := Try.f48
theorem KZ : P.funcs[tv]? = some qw := Try.func48
abbrev wV : FuncId := 50
noncomputable abbrev tq : Func := Try.f50
theorem UB : P.funcs[wV]? = some tq := Try.func50
abbrev nu : FuncId := 51
noncomputable abbrev ta : Func := Try.f51
theorem PD : P.funcs[nu]? = some ta := Try.func51
abbrev uX : FuncId := 52
noncomputable abbrev qX : Func := Try.f52
theorem O9 : P.funcs[uX]? = some qX := Try.func52
abbrev vT : FuncId := 56
noncomputable abbrev qn : Func := Try.f56
theorem Kh : P.funcs[vT]? = some qn := Try.func56
abbrev vG : FuncId := 57
noncomputable abbrev tr : Func := Try.f57
theorem UC : P.funcs[vG]? = some tr := Try.func57
abbrev uZ : FuncId := 58
noncomputable abbrev wJ : Func := Try.f58
theorem JH : P.funcs[uZ]? = some wJ := Try.func58
abbrev wz : FuncId := 59
noncomputable abbrev pU : Func := Try.f59
theorem Kj : P.funcs[wz]? = some pU := Try.func59
abbrev rB : FuncId := 60
noncomputable abbrev rC : Func := Try.f60
theorem Qu : P.funcs[rB]? = some rC := Try.func60
abbrev x4 : FuncId := 61
noncomputable abbrev vK : Func := Try.f61
theorem UP : P.funcs[x4]? = some vK := Try.func61
abbrev yz : FuncId := 62
noncomputable abbrev vw : Func := Try.f62
theorem Gy : P.funcs[yz]? = some vw := Try.func62
abbrev wR : FuncId := 63
noncomputable abbrev qY : Func := Try.f63
theorem OK : P.funcs[wR]? = some qY := Try.func63
abbrev tc : FuncId := 64
noncomputable abbrev pL : Func := Try.f64
theorem Qn : P.funcs[tc]? = some pL := Try.func64
abbrev z7 : FuncId := 65
noncomputable abbrev vP : Func := Try.f65
theorem I3 : P.funcs[z7]? = some vP := Try.func65
abbrev uY : FuncId := 66
noncomputable abbrev r9 : Func := Try.f66
theorem SE : P.funcs[uY]? = some r9 := Try.func66
abbrev rQ : FuncId := 70
noncomputable abbrev qT : Func := Try.f70
theorem RC : P.funcs[rQ]? = some qT := Try.func70
abbrev oK : FuncId := 72
noncomputable abbrev sO : Func := Try.f72
theorem JO : P.funcs[oK]? = some sO := Try.func72
abbrev kV : FuncId := 73
noncomputable abbrev kP : Func := Try.f73
theorem J7 : P.funcs[kV]? = some kP := Try.func73
abbrev oA : FuncId := 74
noncomputable abbrev hJ : Func := Try.f74
theorem QL : P.funcs[oA]? = some hJ := Try.func74
abbrev p8 : FuncId := 75
noncomputable abbrev sD : Func := Try.f75
theorem JS : P.funcs[p8]? = some sD := Try.func75
abbrev nk : FuncId := 78
noncomputable abbrev rI : Func := Try.f78
theorem On : P.funcs[nk]? = some rI := Try.func78
abbrev p9 : FuncId := 79
noncomputable abbrev sU : Func := Try.f79
theorem Mg : P.funcs[p9]? = some sU := Try.func79
abbrev nW : FuncId := 80
noncomputable abbrev kB : Func := Try.f80
theorem S0 : P.funcs[nW]? = some kB := Try.func80
abbrev me : FuncId := 81
noncomputable abbrev kz : Func := Try.f81
theorem Q3 : P.funcs[me]? = some kz := Try.func81
abbrev pz : FuncId := 82
noncomputable abbrev fR : Func := Try.f82
theorem Hu : P.funcs[pz]? = some fR := Try.func82
abbrev rj : FuncId := 83
noncomputable abbrev pA : Func := Try.f83
theorem PW : P.funcs[rj]? = some pA := Try.func83
abbrev o9 : FuncId := 84
noncomputable abbrev qK : Func := Try.f84
theorem TH : P.funcs[o9]? = some qK := Try.func84
abbrev oP : FuncId := 85
noncomputable abbrev cC : Func := Try.f85
theorem Gx : P.funcs[oP]? = some cC := Try.func85
abbrev qv : FuncId := 86
noncomputable abbrev dr : Func := Try.f86
theorem JW : P.funcs[qv]? = some dr := Try.func86
abbrev s7 : FuncId := 87
noncomputable abbrev sL : Func := Try.f87
theorem U1 : P.funcs[s7]? = some sL := Try.func87
abbrev oW : FuncId := 89
noncomputable abbrev tE : Func := Try.f89
theorem KV : P.funcs[oW]? = some tE := Try.func89
abbrev su : FuncId := 90
noncomputable abbrev qi : Func := Try.f90
theorem MH : P.funcs[su]? = some qi := Try.func90
abbrev rZ : FuncId := 91
noncomputable abbrev eM : Func := Try.f91
theorem Pt : P.funcs[rZ]? = some eM := Try.func91
abbrev rm : FuncId := 92
noncomputable abbrev rq : Func := Try.f92
theorem PE : P.funcs[rm]? = some rq := Try.func92
abbrev pI : FuncId := 93
noncomputable abbrev pB : Func := Try.f93
theorem JZ : P.funcs[pI]? = some pB := Try.func93
abbrev tA : FuncId := 95
noncomputable abbrev qx : Func := Try.f95
theorem Ub : P.funcs[tA]? = some qx := Try.func95
abbrev wE : FuncId := 96
noncomputable abbrev th : Func := Try.f96
theorem TQ : P.funcs[wE]? = some th := Try.func96
abbrev wK : FuncId := 97
noncomputable abbrev qo : Func := Try.f97
theorem FL : P.funcs[wK]? = some qo := Try.func97
abbrev v8 : FuncId := 98
noncomputable abbrev vR : Func := Try.f98
theorem IA : P.funcs[v8]? = some vR := Try.func98
abbrev tV : FuncId := 99
noncomputable abbrev sN : Func := Try.f99
theorem MU : P.funcs[tV]? = some sN := Try.func99
abbrev xm : FuncId := 100
noncomputable abbrev lS : Func := Try.f100
theorem Q9 : P.funcs[xm]? = some lS := Try.func100
abbrev jR : FuncId := 101
noncomputable abbrev pP : Func := Try.f101
theorem NI : P.funcs[jR]? = some pP := Try.func101
abbrev jN : FuncId := 102
noncomputable abbrev pX : Func := Try.f102
theorem Oz : P.funcs[jN]? = some pX := Try.func102
abbrev Eb : FuncId := 103
noncomputable abbrev BA : Func := Try.f103
theorem HZ : P.funcs[Eb]? = some BA := Try.func103
abbrev s9 : FuncId := 104
noncomputable abbrev qu : Func := Try.f104
theorem Rp : P.funcs[s9]? = some qu := Try.func104
abbrev ri : FuncId := 105
noncomputable abbrev sE : Func := Try.f105
theorem GF : P.funcs[ri]? = some sE := Try.func105
abbrev kA : FuncId := 108
noncomputable abbrev rF : Func := Try.f108
theorem H6 : P.funcs[kA]? = some rF := Try.func108
abbrev jU : FuncId := 109
noncomputable abbrev iN : Func := Try.f109
theorem G6 : P.funcs[jU]? = some iN := Try.func109
abbrev pH : FuncId := 110
noncomputable abbrev mU : Func := Try.f110
theorem Ov : P.funcs[pH]? = some mU := Try.func110
abbrev q7 : FuncId := 111
noncomputable abbrev qU : Func := Try.f111
theorem Hx : P.funcs[q7]? = some qU := Try.func111
abbrev rT : FuncId := 112
noncomputable abbrev kZ : Func := Try.f112
theorem UI : P.funcs[rT]? = some kZ := Try.func112
abbrev nc : FuncId := 113
noncomputable abbrev fc : Func := Try.f113
theorem JR : P.funcs[nc]? = some fc := Try.func113
abbrev pg : FuncId := 114
noncomputable abbrev rR : Func := Try.f114
theorem US : P.funcs[pg]? = some rR := Try.func114
abbrev tn : FuncId := 115
noncomputable abbrev kX : Func := Try.f115
theorem SW : P.funcs[tn]? = some kX := Try.func115
abbrev sr : FuncId := 116
noncomputable abbrev mI : Func := Try.f116
theorem Ri : P.funcs[sr]? = some mI := Try.func116
abbrev sX : FuncId := 117
noncomputable abbrev fz : Func := Try.f117
theorem LZ : P.funcs[sX]? = some fz := Try.func117
abbrev ou : FuncId := 118
noncomputable abbrev cG : Func := Try.f118
theorem F1 : P.funcs[ou]? = some cG := Try.func118
abbrev oa : FuncId := 119
noncomputable abbrev fI : Func := Try.f119
theorem KJ : P.funcs[oa]? = some fI := Try.func119
abbrev zh : FuncId := 120
noncomputable abbrev Gl : Func := Try.f120
theorem UH : P.funcs[zh]? = some Gl := Try.func120
abbrev pW : FuncId := 121
noncomputable abbrev iW : Func := Try.f121
theorem RS : P.funcs[pW]? = some iW := Try.func121
abbrev p4 : FuncId := 122
noncomputable abbrev gD : Func := Try.f122
theorem Uj : P.funcs[p4]? = some gD := Try.func122
abbrev oJ : FuncId := 123
noncomputable abbrev ef : Func := Try.f123
theorem KI : P.funcs[oJ]? = some ef := Try.func123
abbrev qP : FuncId := 124
noncomputable abbrev l8 : Func := Try.f124
theorem KU : P.funcs[qP]? = some l8 := Try.func124
abbrev oI : FuncId := 125
noncomputable abbrev rD : Func := Try.f125
theorem Gh : P.funcs[oI]? = some rD := Try.func125
abbrev uD : FuncId := 126
noncomputable abbrev oS : Func := Try.f126
theorem G3 : P.funcs[uD]? = some oS := Try.func126
abbrev wA : FuncId := 132
noncomputable abbrev sC : Func := Try.f132
theorem Nh : P.funcs[wA]? = some sC := Try.func132
abbrev o3 : FuncId := 135
noncomputable abbrev qV : Func := Try.f135
theorem Ho : P.funcs[o3]? = some qV := Try.func135
abbrev sK : FuncId := 136
noncomputable abbrev sS : Func := Try.f136
theorem SG : P.funcs[sK]? = some sS := Try.func136
abbrev z3 : FuncId := 137
noncomputable abbrev oo : Func := Try.f137
theorem P5 : P.funcs[z3]? = some oo := Try.func137
abbrev AZ : FuncId := 138
noncomputable abbrev Dh : Func := Try.f138
theorem Og : P.funcs[AZ]? = some Dh := Try.func138
abbrev tJ : FuncId := 139
noncomputable abbrev qZ : Func := Try.f139
theorem L8 : P.funcs[tJ]? = some qZ := Try.func139
abbrev mq : FuncId := 141
noncomputable abbrev pC : Func := Try.f141
theorem KL : P.funcs[mq]? = some pC := Try.func141
abbrev sB : FuncId := 142
noncomputable abbrev k7 : Func := Try.f142
theorem Gu : P.funcs[sB]? = some k7 := Try.func142
abbrev q9 : FuncId := 143
noncomputable abbrev kD : Func := Try.f143
theorem T7 : P.funcs[q9]? = some kD := Try.func143
abbrev qD : FuncId := 144
noncomputable abbrev rL : Func := Try.f144
theorem J4 : P.funcs[qD]? = some rL := Try.func144
abbrev rV : FuncId := 145
noncomputable abbrev iI : Func := Try.f145
theorem RF : P.funcs[rV]? = some iI := Try.func145
abbrev oM : FuncId := 146
noncomputable abbrev pV : Func := Try.f146
theorem ML : P.funcs[oM]? = some pV := Try.func146
abbrev pY : FuncId := 147
noncomputable abbrev lg : Func := Try.f147
theorem Sw : P.funcs[pY]? = some lg := Try.func147
abbrev qL : FuncId := 148
noncomputable abbrev jE : Func := Try.f148
theorem TV : P.funcs[qL]? = some jE := Try.func148
abbrev sZ : FuncId := 149
noncomputable abbrev qe : Func := Try.f149
theorem RG : P.funcs[sZ]? = some qe := Try.func149
abbrev qW : FuncId := 150
noncomputable abbrev pq : Func := Try.f150
theorem Mn : P.funcs[qW]? = some pq := Try.func150
abbrev qC : FuncId := 151
noncomputable abbrev jG : Func := Try.f151
theorem Oq : P.funcs[qC]? = some jG := Try.func151
abbrev xo : FuncId := 157
noncomputable abbrev uW : Func := Try.f157
theorem Ka : P.funcs[xo]? = some uW := Try.func157
abbrev DZ : TI := ⟨.int .i64, 1, 8, .int .i64 0⟩
theorem Jc : bG P 2 DZ := cN (by kernel_rfl) (by kernel_rfl) (by kernel_rfl)
abbrev B3 : TI := ⟨.int .i64, 1, 8, .int .i64 0⟩
theorem NJ : bG P 3 B3 := cN (by kernel_rfl) (by kernel_rfl) (by kernel_rfl)
abbrev BT : TI := ⟨.bool, 1, 1, .bool false⟩
theorem Oo : bG P 4 BT := cN (by kernel_rfl) (by kernel_rfl) (by kernel_rfl)
abbrev D4 : TI := ⟨.int .u8, 1, 1, .int .u8 0⟩
theorem Tc : bG P 5 D4 := cN (by kernel_rfl) (by kernel_rfl) (by kernel_rfl)
abbrev Cj : TI := ⟨.int .u8, 1, 1, .int .u8 0⟩
theorem TN : bG P 6 Cj := cN (by kernel_rfl) (by kernel_rfl) (by kernel_rfl)
abbrev FF : TI := ⟨.struct #[{ name := "x", type := 2, offset := 0, embedded := false, tag := "", pkgPath := "runtime", byteOffset := 0 }, { name := "y", type := 3, offset := 1, embedded := false, tag := "", pkgPath := "runtime", byteOffset := 8 }, { name := "signed", type := 4, offset := 2, embedded := false, tag := "", pkgPath := "runtime", byteOffset := 16 }, { name := "code", type := 6, offset := 3, embedded := false, tag := "", pkgPath := "runtime", byteOffset := 17 }], 4, 24, .agg [.int .i64 0, .int .i64 0, .bool false, .int .u8 0]⟩
theorem Hy : bG P 7 FF := cN (by kernel_rfl) (by kernel_rfl) (by kernel_rfl)
abbrev Eh : TI := ⟨.struct #[{ name := "x", type := 2, offset := 0, embedded := false, tag := "", pkgPath := "runtime", byteOffset := 0 }, { name := "y", type := 3, offset := 1, embedded := false, tag := "", pkgPath := "runtime", byteOffset := 8 }, { name := "signed", type := 4, offset := 2, embedded := false, tag := "", pkgPath := "runtime", byteOffset := 16 }, { name := "code", type := 6, offset := 3, embedded := false, tag := "", pkgPath := "runtime", byteOffset := 17 }], 4, 24, .agg [.int .i64 0, .int .i64 0, .bool false, .int .u8 0]⟩
theorem Jh : bG P 8 Eh := cN (by kernel_rfl) (by kernel_rfl) (by kernel_rfl)
abbrev Fo : TI := ⟨.string, 1, 16, .tuple []⟩
theorem Qr : bG P 9 Fo := fB (by kernel_rfl) (by kernel_rfl) rfl
abbrev BW : TI := ⟨.string, 1, 16, .tuple []⟩
theorem Iq : bG P 10 BW := fB (by kernel_rfl) (by kernel_rfl) rfl
abbrev DR : TI := ⟨.string, 1, 16, .tuple []⟩
theorem Sh : bG P 11 DR := fB (by kernel_rfl) (by kernel_rfl) rfl
abbrev E1 : TI := ⟨.int .u64, 1, 8, .int .u64 0⟩
theorem O5 : bG P 12 E1 := cN (by kernel_rfl) (by kernel_rfl) (by kernel_rfl)
abbrev CA : TI := ⟨.struct #[{ name := "msg", type := 9, offset := 0, embedded := false, tag := "", pkgPath := "runtime", byteOffset := 0 }, { name := "addr", type := 12, offset := 1, embedded := false, tag := "", pkgPath := "runtime", byteOffset := 16 }], 2, 24, .tuple []⟩
theorem Lv : bG P 13 CA := fB (by kernel_rfl) (by kernel_rfl) rfl
abbrev A4 : TI := ⟨.struct #[{ name := "msg", type := 9, offset := 0, embedded := false, tag := "", pkgPath := "runtime", byteOffset := 0 }, { name := "addr", type := 12, offset := 1, embedded := false, tag := "", pkgPath := "runtime", byteOffset := 16 }], 2, 24, .tuple []⟩
theorem Lq : bG P 14 A4 := fB (by kernel_rfl) (by kernel_rfl) rfl
abbrev D3 : TI := ⟨.pointer 165, 1, 8, .tuple []⟩
theorem NV : bG P 15 D3 := fB (by kernel_rfl) (by kernel_rfl) rfl
abbrev Br : TI := ⟨.pointer 168, 1, 8, .tuple []⟩
theorem Rz : bG P 16 Br := fB (by kernel_rfl) (by kernel_rfl) rfl
abbrev Ea : TI := ⟨.pointer 177, 1, 8, .tuple []⟩
theorem NT : bG P 17 Ea := fB (by kernel_rfl) (by kernel_rfl) rfl
abbrev DC : TI := ⟨.struct #[{ name := "typ", type := 17, offset := 0, embedded := false, tag := "", pkgPath := "internal/runtime/maps", byteOffset := 0 }], 1, 8, .tuple []⟩
theorem Ul : bG P 18 DC := fB (by kernel_rfl) (by kernel_rfl) rfl
abbrev Ff : TI := ⟨.struct #[{ name := "typ", type := 17, offset := 0, embedded := false, tag := "", pkgPath := "internal/runtime/maps", byteOffset := 0 }], 1, 8, .tuple []⟩
theorem Kp : bG P 19 Ff := fB (by kernel_rfl) (by kernel_rfl) rfl
abbrev Fq : TI := ⟨.int .i32, 1, 4, .int .i32 0⟩
theorem Ht : bG P 21 Fq := cN (by kernel_rfl) (by kernel_rfl) (by kernel_rfl)
abbrev Em : TI := ⟨.slice 3, 1, 24, .nil⟩
theorem Q0 : bG P 22 Em := cN (by kernel_rfl) (by kernel_rfl) (by kernel_rfl)
abbrev AQ : TI := ⟨.slice 33, 1, 24, .nil⟩
theorem Lf : bG P 25 AQ := cN (by kernel_rfl) (by kernel_rfl) (by kernel_rfl)
abbrev Ej : TI := ⟨.int .i64, 1, 8, .int .i64 0⟩
theorem MY : bG P 28 Ej := cN (by kernel_rfl) (by kernel_rfl) (by kernel_rfl)
abbrev DH : TI := ⟨.slice 105, 1, 24, .nil⟩
theorem OO : bG P 31 DH := cN (by kernel_rfl) (by kernel_rfl) (by kernel_rfl)
abbrev Dv : TI := ⟨.struct #[{ name := "Neg", type := 4, offset := 0, embedded := false, tag := "", pkgPath := "", byteOffset := 0 }, { name := "Num", type := 31, offset := 1, embedded := false, tag := "", pkgPath := "", byteOffset := 8 }, { name := "Den", type := 31, offset := 2, embedded := false, tag := "", pkgPath := "", byteOffset := 32 }], 3, 56, .agg [.bool false, .nil, .nil]⟩
theorem SA : bG P 32 Dv := cN (by kernel_rfl) (by kernel_rfl) (by kernel_rfl)
abbrev By : TI := ⟨.struct #[{ name := "Neg", type := 4, offset := 0, embedded := false, tag := "", pkgPath := "", byteOffset := 0 }, { name := "Num", type := 31, offset := 1, embedded := false, tag := "", pkgPath := "", byteOffset := 8 }, { name := "Den", type := 31, offset := 2, embedded := false, tag := "", pkgPath := "", byteOffset := 32 }], 3, 56, .rat 0 1⟩
theorem P3 : bG P 33 By := cN (by kernel_rfl) (by kernel_rfl) (by kernel_rfl)
abbrev DA : TI := ⟨.slice 47, 1, 24, .nil⟩
theorem Sq : bG P 39 DA := cN (by kernel_rfl) (by kernel_rfl) (by kernel_rfl)
abbrev D6 : TI := ⟨.pointer 80, 1, 8, .tuple []⟩
theorem PJ : bG P 41 D6 := fB (by kernel_rfl) (by kernel_rfl) rfl
abbrev DD : TI := ⟨.slice 22, 1, 24, .nil⟩
theorem Mh : bG P 43 DD := cN (by kernel_rfl) (by kernel_rfl) (by kernel_rfl)
abbrev Ct : TI := ⟨.slice 52, 1, 24, .nil⟩
theorem Jp : bG P 45 Ct := cN (by kernel_rfl) (by kernel_rfl) (by kernel_rfl)
abbrev Et : TI := ⟨.struct #[{ name := "A", type := 45, offset := 0, embedded := false, tag := "", pkgPath := "", byteOffset := 0 }, { name := "B", type := 45, offset := 1, embedded := false, tag := "", pkgPath := "", byteOffset := 24 }, { name := "Kind", type := 3, offset := 2, embedded := false, tag := "", pkgPath := "", byteOffset := 48 }, { name := "K", type := 3, offset := 3, embedded := false, tag := "", pkgPath := "", byteOffset := 56 }], 4, 64, .agg [.nil, .nil, .int .i64 0, .int .i64 0]⟩
theorem Oa : bG P 46 Et := cN (by kernel_rfl) (by kernel_rfl) (by kernel_rfl)
abbrev BL : TI := ⟨.struct #[{ name := "A", type := 45, offset := 0, embedded := false, tag := "", pkgPath := "", byteOffset := 0 }, { name := "B", type := 45, offset := 1, embedded := false, tag := "", pkgPath := "", byteOffset := 24 }, { name := "Kind", type := 3, offset := 2, embedded := false, tag := "", pkgPath := "", byteOffset := 48 }, { name := "K", type := 3, offset := 3, embedded := false, tag := "", pkgPath := "", byteOffset := 56 }], 4, 64, .agg [.nil, .nil, .int .i64 0, .int .i64 0]⟩
theorem Jj : bG P 47 BL := cN (by kernel_rfl) (by kernel_rfl) (by kernel_rfl)
abbrev EP : TI := ⟨.struct #[{ name := "Lo", type := 33, offset := 0, embedded := false, tag := "", pkgPath := "", byteOffset := 0 }, { name := "Hi", type := 33, offset := 3, embedded := false, tag := "", pkgPath := "", byteOffset := 56 }], 6, 112, .agg [.rat 0 1, .rat 0 1]⟩
theorem SD : bG P 51 EP := cN (by kernel_rfl) (by kernel_rfl) (by kernel_rfl)
abbrev Fk : TI := ⟨.struct #[{ name := "Lo", type := 33, offset := 0, embedded := false, tag := "", pkgPath := "", byteOffset := 0 }, { name := "Hi", type := 33, offset := 3, embedded := false, tag := "", pkgPath := "", byteOffset := 56 }], 6, 112, .agg [.rat 0 1, .rat 0 1]⟩
theorem So : bG P 52 Fk := cN (by kernel_rfl) (by kernel_rfl) (by kernel_rfl)
abbrev Aw : TI := ⟨.struct #[{ name := "L", type := 22, offset := 0, embedded := false, tag := "", pkgPath := "", byteOffset := 0 }, { name := "At", type := 3, offset := 1, embedded := false, tag := "", pkgPath := "", byteOffset := 24 }], 2, 32, .agg [.nil, .int .i64 0]⟩
theorem LG : bG P 79 Aw := cN (by kernel_rfl) (by kernel_rfl) (by kernel_rfl)
abbrev D5 : TI := ⟨.struct #[{ name := "L", type := 22, offset := 0, embedded := false, tag := "", pkgPath := "", byteOffset := 0 }, { name := "At", type := 3, offset := 1, embedded := false, tag := "", pkgPath := "", byteOffset := 24 }], 2, 32, .agg [.nil, .int .i64 0]⟩
theorem Gs : bG P 80 D5 := cN (by kernel_rfl) (by kernel_rfl) (by kernel_rfl)
abbrev Ec : TI := ⟨.slice 4, 1, 24, .nil⟩
theorem RX : bG P 81 Ec := cN (by kernel_rfl) (by kernel_rfl) (by kernel_rfl)
abbrev Af : TI := ⟨.int .u64, 1, 8, .int .u64 0⟩
theorem F5 : bG P 101 Af := cN (by kernel_rfl) (by kernel_rfl) (by kernel_rfl)
abbrev A8 : TI := ⟨.int .u32, 1, 4, .int .u32 0⟩
theorem Qq : bG P 105 A8 := cN (by kernel_rfl) (by kernel_rfl) (by kernel_rfl)
abbrev FC : TI := ⟨.int .u64, 1, 8, .int .u64 0⟩
theorem UM : bG P 117 FC := cN (by kernel_rfl) (by kernel_rfl) (by kernel_rfl)
abbrev A9 : TI := ⟨.slice 5, 1, 24, .nil⟩
theorem Uk : bG P 124 A9 := cN (by kernel_rfl) (by kernel_rfl) (by kernel_rfl)
abbrev Bq : TI := ⟨.int .i64, 1, 8, .int .i64 0⟩
theorem RD : bG P 137 Bq := cN (by kernel_rfl) (by kernel_rfl) (by kernel_rfl)
abbrev Da : TI := ⟨.slice 45, 1, 24, .nil⟩
theorem UN : bG P 147 Da := cN (by kernel_rfl) (by kernel_rfl) (by kernel_rfl)
abbrev Fg : TI := ⟨.int .u64, 1, 8, .int .u64 0⟩
theorem PA : bG P 153 Fg := cN (by kernel_rfl) (by kernel_rfl) (by kernel_rfl)
abbrev AY : TI := ⟨.pointer 3, 1, 8, .tuple []⟩
theorem N5 : bG P 157 AY := fB (by kernel_rfl) (by kernel_rfl) rfl
abbrev An : TI := ⟨.pointer 153, 1, 8, .tuple []⟩
theorem Tu : bG P 160 An := fB (by kernel_rfl) (by kernel_rfl) rfl
abbrev C1 : TI := ⟨.struct #[{ name := "_interface", type := 17, offset := 0, embedded := false, tag := "", pkgPath := "runtime", byteOffset := 0 }, { name := "concrete", type := 17, offset := 1, embedded := false, tag := "", pkgPath := "runtime", byteOffset := 8 }, { name := "asserted", type := 17, offset := 2, embedded := false, tag := "", pkgPath := "runtime", byteOffset := 16 }, { name := "missingMethod", type := 9, offset := 3, embedded := false, tag := "", pkgPath := "runtime", byteOffset := 24 }], 4, 40, .tuple []⟩
theorem Tr : bG P 164 C1 := fB (by kernel_rfl) (by kernel_rfl) rfl
abbrev Fv : TI := ⟨.struct #[{ name := "_interface", type := 17, offset := 0, embedded := false, tag := "", pkgPath := "runtime", byteOffset := 0 }, { name := "concrete", type := 17, offset := 1, embedded := false, tag := "", pkgPath := "runtime", byteOffset := 8 }, { name := "asserted", type := 17, offset := 2, embedded := false, tag := "", pkgPath := "runtime", byteOffset := 16 }, { name := "missingMethod", type := 9, offset := 3, embedded := false, tag := "", pkgPath := "runtime", byteOffset := 24 }], 4, 40, .tuple []⟩
theorem IK : bG P 165 Fv := fB (by kernel_rfl) (by kernel_rfl) rfl
abbrev BD : TI := ⟨.int .u8, 1, 1, .int .u8 0⟩
theorem Rb : bG P 170 BD := cN (by kernel_rfl) (by kernel_rfl) (by kernel_rfl)
abbrev Dk : TI := ⟨.int .u8, 1, 1, .int .u8 0⟩
theorem Kl : bG P 171 Dk := cN (by kernel_rfl) (by kernel_rfl) (by kernel_rfl)
abbrev Ap : TI := ⟨.pointer 5, 1, 8, .tuple []⟩
theorem RV : bG P 173 Ap := fB (by kernel_rfl) (by kernel_rfl) rfl
abbrev BF : TI := ⟨.int .i32, 1, 4, .int .i32 0⟩
theorem L4 : bG P 174 BF := cN (by kernel_rfl) (by kernel_rfl) (by kernel_rfl)
abbrev AB : TI := ⟨.int .i32, 1, 4, .int .i32 0⟩
theorem PU : bG P 175 AB := cN (by kernel_rfl) (by kernel_rfl) (by kernel_rfl)
abbrev Bg : TI := ⟨.struct #[{ name := "Size_", type := 12, offset := 0, embedded := false, tag := "", pkgPath := "", byteOffset := 0 }, { name := "PtrBytes", type := 12, offset := 1, embedded := false, tag := "", pkgPath := "", byteOffset := 8 }, { name := "Hash", type := 105, offset := 2, embedded := false, tag := "", pkgPath := "", byteOffset := 16 }, { name := "TFlag", type := 170, offset := 3, embedded := false, tag := "", pkgPath := "", byteOffset := 20 }, { name := "Align_", type := 5, offset := 4, embedded := false, tag := "", pkgPath := "", byteOffset := 21 }, { name := "FieldAlign_", type := 5, offset := 5, embedded := false, tag := "", pkgPath := "", byteOffset := 22 }, { name := "Kind_", type := 171, offset := 6, embedded := false, tag := "", pkgPath := "", byteOffset := 23 }, { name := "Equal", type := 172, offset := 7, embedded := false, tag := "", pkgPath := "", byteOffset := 24 }, { name := "GCData", type := 173, offset := 8, embedded := false, tag := "", pkgPath := "", byteOffset := 32 }, { name := "Str", type := 174, offset := 9, embedded := false, tag := "", pkgPath := "", byteOffset := 40 }, { name := "PtrToThis", type := 175, offset := 10, embedded := false, tag := "", pkgPath := "", byteOffset := 44 }], 11, 48, .tuple []⟩
theorem Oi : bG P 176 Bg := fB (by kernel_rfl) (by kernel_rfl) rfl
abbrev Fb : TI := ⟨.struct #[{ name := "Size_", type := 12, offset := 0, embedded := false, tag := "", pkgPath := "", byteOffset := 0 }, { name := "PtrBytes", type := 12, offset := 1, embedded := false, tag := "", pkgPath := "", byteOffset := 8 }, { name := "Hash", type := 105, offset := 2, embedded := false, tag := "", pkgPath := "", byteOffset := 16 }, { name := "TFlag", type := 170, offset := 3, embedded := false, tag := "", pkgPath := "", byteOffset := 20 }, { name := "Align_", type := 5, offset := 4, embedded := false, tag := "", pkgPath := "", byteOffset := 21 }, { name := "FieldAlign_", type := 5, offset := 5, embedded := false, tag := "", pkgPath := "", byteOffset := 22 }, { name := "Kind_", type := 171, offset := 6, embedded := false, tag := "", pkgPath := "", byteOffset := 23 }, { name := "Equal", type := 172, offset := 7, embedded := false, tag := "", pkgPath := "", byteOffset := 24 }, { name := "GCData", type := 173, offset := 8, embedded := false, tag := "", pkgPath := "", byteOffset := 32 }, { name := "Str", type := 174, offset := 9, embedded := false, tag := "", pkgPath := "", byteOffset := 40 }, { name := "PtrToThis", type := 175, offset := 10, embedded := false, tag := "", pkgPath := "", byteOffset := 44 }], 11, 48, .tuple []⟩
theorem Qz : bG P 177 Fb := fB (by kernel_rfl) (by kernel_rfl) rfl
abbrev T : Types := [(2, DZ), (3, B3), (4, BT), (5, D4), (6, Cj), (7, FF), (8, Eh), (9, Fo), (10, BW), (11, DR), (12, E1), (13, CA), (14, A4), (15, D3), (16, Br), (17, Ea), (18, DC), (19, Ff), (21, Fq), (22, Em), (25, AQ), (28, Ej), (31, DH), (32, Dv), (33, By), (39, DA), (41, D6), (43, DD), (45, Ct), (46, Et), (47, BL), (51, EP), (52, Fk), (79, Aw), (80, D5), (81, Ec), (101, Af), (105, A8), (117, FC), (124, A9), (137, Bq), (147, Da), (153, Fg), (157, AY), (160, An), (164, C1), (165, Fv), (170, BD), (171, Dk), (173, Ap), (174, BF), (175, AB), (176, Bg), (177, Fb)]
theorem hT : cZ P T := bM Jc (bM NJ (bM Oo (bM Tc (bM TN (bM Hy (bM Jh (bM Qr (bM Iq (bM Sh (bM O5 (bM Lv (bM Lq (bM NV (bM Rz (bM NT (bM Ul (bM Kp (bM Ht (bM Q0 (bM Lf (bM MY (bM OO (bM SA (bM P3 (bM Sq (bM PJ (bM Mh (bM Jp (bM Oa (bM Jj (bM SD (bM So (bM LG (bM Gs (bM RX (bM F5 (bM Qq (bM UM (bM Uk (bM RD (bM UN (bM PA (bM N5 (bM Tu (bM Tr (bM IK (bM Rb (bM Kl (bM RV (bM L4 (bM PU (bM Oi (bM Qz (LU))))))))))))))))))))))))))))))))))))))))))))))))))))))
end Go.Am.N
