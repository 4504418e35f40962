/- The seat's names: the numbers of functions, the types. Written by a program. -/
import Derived.Test.YtnocdkaonpdmjaaGreatZ2
import Derived.Test.YtnocdkaonpdmjaaGreatProg
import Derived.KernelRfl
set_option linter.unusedVariables false
namespace Go.Am.N
open Go.Proofs
noncomputable abbrev P : Program := Tryz.prog
theorem hm : P.follows .mixedOrders = true := by kernel_rfl
abbrev Bu : FuncId := 5
noncomputable abbrev nA : Func := Tryz.f5
theorem aa6 : P.funcs[Bu]? = some nA := Tryz.func5
abbrev Bk : FuncId := 6
noncomputable abbrev wq : Func := Tryz.f6
theorem acK : P.funcs[Bk]? = some wq := Tryz.func6
abbrev D7 : FuncId := 10
noncomputable abbrev Ar : Func := Tryz.f10
theorem adj : P.funcs[D7]? = some Ar := Tryz.func10
abbrev ot : FuncId := 11
noncomputable abbrev wG : Func := Tryz.f11
theorem PB : P.funcs[ot]? = some wG := Tryz.func11
abbrev yY : FuncId := 12
noncomputable abbrev tX : Func := Tryz.f12
theorem aev : P.funcs[yY]? = some tX := Tryz.func12
abbrev Lz : FuncId := 20
noncomputable abbrev Jc : Func := Tryz.f20
theorem acy : P.funcs[Lz]? = some Jc := Tryz.func20
abbrev IK : FuncId := 22
noncomputable abbrev KR : Func := Tryz.f22
theorem WD : P.funcs[IK]? = some KR := Tryz.func22
abbrev ux : FuncId := 23
noncomputable abbrev vJ : Func := Tryz.f23
theorem abD : P.funcs[ux]? = some vJ := Tryz.func23
abbrev yO : FuncId := 24
noncomputable abbrev zn : Func := Tryz.f24
theorem X6 : P.funcs[yO]? = some zn := Tryz.func24
abbrev yK : FuncId := 25
noncomputable abbrev wL : Func := Tryz.f25
theorem acp : P.funcs[yK]? = some wL := Tryz.func25
abbrev xX : FuncId := 27
noncomputable abbrev xA : Func := Tryz.f27
theorem SW : P.funcs[xX]? = some xA := Tryz.func27
abbrev s9 : FuncId := 28
noncomputable abbrev xj : Func := Tryz.f28
theorem aec : P.funcs[s9]? = some xj := Tryz.func28
abbrev Lc : FuncId := 29
noncomputable abbrev Gm : Func := Tryz.f29
theorem XM : P.funcs[Lc]? = some Gm := Tryz.func29
abbrev J2 : FuncId := 31
noncomputable abbrev Ij : Func := Tryz.f31
theorem OS : P.funcs[J2]? = some Ij := Tryz.func31
abbrev I1 : FuncId := 32
noncomputable abbrev KP : Func := Tryz.f32
theorem Pp : P.funcs[I1]? = some KP := Tryz.func32
abbrev yV : FuncId := 33
noncomputable abbrev uI : Func := Tryz.f33
theorem O3 : P.funcs[yV]? = some uI := Tryz.func33
abbrev K6 : FuncId := 34
noncomputable abbrev Hr : Func := Tryz.f34
theorem X7 : P.funcs[K6]? = some Hr := Tryz.func34
abbrev JZ : FuncId := 35
noncomputable abbrev H8 : Func := Tryz.f35
theorem W6 : P.funcs[JZ]? = some H8 := Tryz.func35
abbrev nj : FuncId := 36
noncomputable abbrev wE : Func := Tryz.f36
theorem ZA : P.funcs[nj]? = some wE := Tryz.func36
abbrev sY : FuncId := 39
noncomputable abbrev jU : Func := Tryz.f39
theorem YV : P.funcs[sY]? = some jU := Tryz.func39
abbrev o3 : FuncId := 41
noncomputable abbrev wv : Func := Tryz.f41
theorem X2 : P.funcs[o3]? = some wv := Tryz.func41
abbrev sx : FuncId := 42
noncomputable abbrev xl : Func := Tryz.f42
theorem X0 : P.funcs[sx]? = some xl := Tryz.func42
abbrev AW : FuncId := 43
noncomputable abbrev vQ : Func := Tryz.f43
theorem OK : P.funcs[AW]? = some vQ := Tryz.func43
abbrev vH : FuncId := 44
noncomputable abbrev wj : Func := Tryz.f44
theorem aah : P.funcs[vH]? = some wj := Tryz.func44
abbrev xL : FuncId := 46
noncomputable abbrev nS : Func := Tryz.f46
theorem Wk : P.funcs[xL]? = some nS := Tryz.func46
abbrev oD : FuncId := 47
noncomputable abbrev rZ : Func := Tryz.f47
theorem ael : P.funcs[oD]? = some rZ := Tryz.func47
abbrev vI : FuncId := 48
noncomputable abbrev sn : Func := Tryz.f48
theorem ad6 : P.funcs[vI]? = some sn := Tryz.func48
abbrev qC : FuncId := 51
noncomputable abbrev ve : Func := Tryz.f51
theorem Ul : P.funcs[qC]? = some ve := Tryz.func51
abbrev xk : FuncId := 52
noncomputable abbrev vC : Func := Tryz.f52
theorem PU : P.funcs[xk]? = some vC := Tryz.func52
abbrev xS : FuncId := 53
noncomputable abbrev vT : Func := Tryz.f53
theorem ad4 : P.funcs[xS]? = some vT := Tryz.func53
abbrev tE : FuncId := 56
noncomputable abbrev vj : Func := Tryz.f56
theorem Nh : P.funcs[tE]? = some vj := Tryz.func56
abbrev LS : FuncId := 59
noncomputable abbrev J4 : Func := Tryz.f59
theorem XX : P.funcs[LS]? = some J4 := Tryz.func59
abbrev AT : FuncId := 60
noncomputable abbrev vR : Func := Tryz.f60
theorem QJ : P.funcs[AT]? = some vR := Tryz.func60
abbrev yz : FuncId := 61
noncomputable abbrev xg : Func := Tryz.f61
theorem ac2 : P.funcs[yz]? = some xg := Tryz.func61
abbrev sD : FuncId := 62
noncomputable abbrev td : Func := Tryz.f62
theorem WA : P.funcs[sD]? = some td := Tryz.func62
abbrev mu : FuncId := 63
noncomputable abbrev wI : Func := Tryz.f63
theorem aaD : P.funcs[mu]? = some wI := Tryz.func63
abbrev vO : FuncId := 64
noncomputable abbrev wg : Func := Tryz.f64
theorem OD : P.funcs[vO]? = some wg := Tryz.func64
abbrev Aq : FuncId := 65
noncomputable abbrev uk : Func := Tryz.f65
theorem adL : P.funcs[Aq]? = some uk := Tryz.func65
abbrev vv : FuncId := 66
noncomputable abbrev s5 : Func := Tryz.f66
theorem Rr : P.funcs[vv]? = some s5 := Tryz.func66
abbrev oz : FuncId := 67
noncomputable abbrev uT : Func := Tryz.f67
theorem WN : P.funcs[oz]? = some uT := Tryz.func67
abbrev F8 : FuncId := 68
noncomputable abbrev LA : Func := Tryz.f68
theorem aee : P.funcs[F8]? = some LA := Tryz.func68
abbrev pK : FuncId := 69
noncomputable abbrev xY : Func := Tryz.f69
theorem NJ : P.funcs[pK]? = some xY := Tryz.func69
abbrev Iv : FuncId := 71
noncomputable abbrev IN : Func := Tryz.f71
theorem MP : P.funcs[Iv]? = some IN := Tryz.func71
abbrev uW : FuncId := 72
noncomputable abbrev xG : Func := Tryz.f72
theorem Ux : P.funcs[uW]? = some xG := Tryz.func72
abbrev jv : FuncId := 73
noncomputable abbrev xE : Func := Tryz.f73
theorem aaN : P.funcs[jv]? = some xE := Tryz.func73
abbrev AN : FuncId := 75
noncomputable abbrev sX : Func := Tryz.f75
theorem YY : P.funcs[AN]? = some sX := Tryz.func75
abbrev xP : FuncId := 77
noncomputable abbrev sw : Func := Tryz.f77
theorem QM : P.funcs[xP]? = some sw := Tryz.func77
abbrev qG : FuncId := 78
noncomputable abbrev o7 : Func := Tryz.f78
theorem aaH : P.funcs[qG]? = some o7 := Tryz.func78
abbrev yx : FuncId := 80
noncomputable abbrev xd : Func := Tryz.f80
theorem Vx : P.funcs[yx]? = some xd := Tryz.func80
abbrev oK : FuncId := 82
noncomputable abbrev xJ : Func := Tryz.f82
theorem Ov : P.funcs[oK]? = some xJ := Tryz.func82
abbrev xU : FuncId := 84
noncomputable abbrev tn : Func := Tryz.f84
theorem Tr : P.funcs[xU]? = some tn := Tryz.func84
abbrev vX : FuncId := 85
noncomputable abbrev iW : Func := Tryz.f85
theorem YH : P.funcs[vX]? = some iW := Tryz.func85
abbrev pW : FuncId := 86
noncomputable abbrev jx : Func := Tryz.f86
theorem RM : P.funcs[pW]? = some jx := Tryz.func86
abbrev vu : FuncId := 87
noncomputable abbrev vl : Func := Tryz.f87
theorem VF : P.funcs[vu]? = some vl := Tryz.func87
abbrev uE : FuncId := 88
noncomputable abbrev xW : Func := Tryz.f88
theorem Vv : P.funcs[uE]? = some xW := Tryz.func88
abbrev xC : FuncId := 89
noncomputable abbrev fB : Func := Tryz.f89
theorem TK : P.funcs[xC]? = some fB := Tryz.func89
abbrev mW : FuncId := 90
noncomputable abbrev mV : Func := Tryz.f90
theorem aaQ : P.funcs[mW]? = some mV := Tryz.func90
abbrev xM : FuncId := 91
noncomputable abbrev s4 : Func := Tryz.f91
theorem NP : P.funcs[xM]? = some s4 := Tryz.func91
abbrev rM : FuncId := 92
noncomputable abbrev v8 : Func := Tryz.f92
theorem UU : P.funcs[rM]? = some v8 := Tryz.func92
abbrev tg : FuncId := 95
noncomputable abbrev rL : Func := Tryz.f95
theorem abM : P.funcs[tg]? = some rL := Tryz.func95
abbrev tH : FuncId := 96
noncomputable abbrev xQ : Func := Tryz.f96
theorem aak : P.funcs[tH]? = some xQ := Tryz.func96
abbrev uw : FuncId := 97
noncomputable abbrev uN : Func := Tryz.f97
theorem Sk : P.funcs[uw]? = some uN := Tryz.func97
abbrev rV : FuncId := 98
noncomputable abbrev tA : Func := Tryz.f98
theorem Mh : P.funcs[rV]? = some tA := Tryz.func98
abbrev sS : FuncId := 104
noncomputable abbrev xR : Func := Tryz.f104
theorem aeq : P.funcs[sS]? = some xR := Tryz.func104
abbrev Ak : FuncId := 105
noncomputable abbrev wZ : Func := Tryz.f105
theorem aa0 : P.funcs[Ak]? = some wZ := Tryz.func105
abbrev Ai : FuncId := 106
noncomputable abbrev tQ : Func := Tryz.f106
theorem R8 : P.funcs[Ai]? = some tQ := Tryz.func106
abbrev x7 : FuncId := 107
noncomputable abbrev wA : Func := Tryz.f107
theorem Xl : P.funcs[x7]? = some wA := Tryz.func107
abbrev Dr : FuncId := 108
noncomputable abbrev Ah : Func := Tryz.f108
theorem Yl : P.funcs[Dr]? = some Ah := Tryz.func108
abbrev AQ : FuncId := 109
noncomputable abbrev r6 : Func := Tryz.f109
theorem ZH : P.funcs[AQ]? = some r6 := Tryz.func109
abbrev rq : FuncId := 110
noncomputable abbrev tB : Func := Tryz.f110
theorem OL : P.funcs[rq]? = some tB := Tryz.func110
abbrev wV : FuncId := 111
noncomputable abbrev uc : Func := Tryz.f111
theorem XC : P.funcs[wV]? = some uc := Tryz.func111
abbrev zy : FuncId := 112
noncomputable abbrev uX : Func := Tryz.f112
theorem OP : P.funcs[zy]? = some uX := Tryz.func112
abbrev wD : FuncId := 113
noncomputable abbrev uR : Func := Tryz.f113
theorem aax : P.funcs[wD]? = some uR := Tryz.func113
abbrev iA : FuncId := 114
noncomputable abbrev vP : Func := Tryz.f114
theorem Sx : P.funcs[iA]? = some vP := Tryz.func114
abbrev oE : FuncId := 115
noncomputable abbrev wK : Func := Tryz.f115
theorem Uc : P.funcs[oE]? = some wK := Tryz.func115
abbrev fm : FuncId := 116
noncomputable abbrev tu : Func := Tryz.f116
theorem UG : P.funcs[fm]? = some tu := Tryz.func116
abbrev g9 : FuncId := 117
noncomputable abbrev vM : Func := Tryz.f117
theorem XZ : P.funcs[g9]? = some vM := Tryz.func117
abbrev Dt : FuncId := 118
noncomputable abbrev zx : Func := Tryz.f118
theorem QZ : P.funcs[Dt]? = some zx := Tryz.func118
abbrev AK : FuncId := 119
noncomputable abbrev r7 : Func := Tryz.f119
theorem Po : P.funcs[AK]? = some r7 := Tryz.func119
abbrev y7 : FuncId := 120
noncomputable abbrev uH : Func := Tryz.f120
theorem Q2 : P.funcs[y7]? = some uH := Tryz.func120
abbrev FN : FuncId := 121
noncomputable abbrev Jr : Func := Tryz.f121
theorem abF : P.funcs[FN]? = some Jr := Tryz.func121
abbrev u9 : FuncId := 122
noncomputable abbrev tf : Func := Tryz.f122
theorem Z7 : P.funcs[u9]? = some tf := Tryz.func122
abbrev wO : FuncId := 124
noncomputable abbrev uM : Func := Tryz.f124
theorem adB : P.funcs[wO]? = some uM := Tryz.func124
abbrev ya : FuncId := 125
noncomputable abbrev wC : Func := Tryz.f125
theorem Vq : P.funcs[ya]? = some wC := Tryz.func125
abbrev rI : FuncId := 126
noncomputable abbrev u5 : Func := Tryz.f126
theorem MG : P.funcs[rI]? = some u5 := Tryz.func126
abbrev rG : FuncId := 127
noncomputable abbrev fX : Func := Tryz.f127
theorem SD : P.funcs[rG]? = some fX := Tryz.func127
abbrev wz : FuncId := 128
noncomputable abbrev xB : Func := Tryz.f128
theorem Qz : P.funcs[wz]? = some xB := Tryz.func128
abbrev iF : FuncId := 129
noncomputable abbrev xq : Func := Tryz.f129
theorem TP : P.funcs[iF]? = some xq := Tryz.func129
abbrev fk : FuncId := 130
noncomputable abbrev vW : Func := Tryz.f130
theorem Y6 : P.funcs[fk]? = some vW := Tryz.func130
abbrev z8 : FuncId := 131
noncomputable abbrev tM : Func := Tryz.f131
theorem VB : P.funcs[z8]? = some tM := Tryz.func131
abbrev u7 : FuncId := 133
noncomputable abbrev vi : Func := Tryz.f133
theorem VD : P.funcs[u7]? = some vi := Tryz.func133
abbrev pU : FuncId := 134
noncomputable abbrev tY : Func := Tryz.f134
theorem Yf : P.funcs[pU]? = some tY := Tryz.func134
abbrev qB : FuncId := 135
noncomputable abbrev pF : Func := Tryz.f135
theorem acU : P.funcs[qB]? = some pF := Tryz.func135
abbrev lp : FuncId := 136
noncomputable abbrev jJ : Func := Tryz.f136
theorem Rh : P.funcs[lp]? = some jJ := Tryz.func136
abbrev x8 : FuncId := 137
noncomputable abbrev ij : Func := Tryz.f137
theorem XW : P.funcs[x8]? = some ij := Tryz.func137
abbrev rB : FuncId := 138
noncomputable abbrev eC : Func := Tryz.f138
theorem WR : P.funcs[rB]? = some eC := Tryz.func138
abbrev x5 : FuncId := 139
noncomputable abbrev pI : Func := Tryz.f139
theorem aer : P.funcs[x5]? = some pI := Tryz.func139
abbrev rz : FuncId := 140
noncomputable abbrev vY : Func := Tryz.f140
theorem adz : P.funcs[rz]? = some vY := Tryz.func140
abbrev oP : FuncId := 141
noncomputable abbrev tT : Func := Tryz.f141
theorem XJ : P.funcs[oP]? = some tT := Tryz.func141
abbrev vU : FuncId := 142
noncomputable abbrev yb : Func := Tryz.f142
theorem Vo : P.funcs[vU]? = some yb := Tryz.func142
abbrev uF : FuncId := 143
noncomputable abbrev xN : Func := Tryz.f143
theorem Zv : P.funcs[uF]? = some xN := Tryz.func143
abbrev w8 : FuncId := 144
noncomputable abbrev dZ : Func := Tryz.f144
theorem T5 : P.funcs[w8]? = some dZ := Tryz.func144
abbrev xF : FuncId := 145
noncomputable abbrev vS : Func := Tryz.f145
theorem TG : P.funcs[xF]? = some vS := Tryz.func145
abbrev qT : FuncId := 146
noncomputable abbrev tL : Func := Tryz.f146
theorem Ve : P.funcs[qT]? = some tL := Tryz.func146
abbrev qJ : FuncId := 147
noncomputable abbrev cT : Func := Tryz.f147
theorem WU : P.funcs[qJ]? = some cT := Tryz.func147
abbrev s8 : FuncId := 148
noncomputable abbrev gD : Func := Tryz.f148
theorem abk : P.funcs[s8]? = some gD := Tryz.func148
abbrev wF : FuncId := 150
noncomputable abbrev uU : Func := Tryz.f150
theorem WJ : P.funcs[wF]? = some uU := Tryz.func150
abbrev xe : FuncId := 151
noncomputable abbrev nT : Func := Tryz.f151
theorem Ug : P.funcs[xe]? = some nT := Tryz.func151
abbrev wk : FuncId := 152
noncomputable abbrev x9 : Func := Tryz.f152
theorem Uj : P.funcs[wk]? = some x9 := Tryz.func152
abbrev x6 : FuncId := 153
noncomputable abbrev xH : Func := Tryz.f153
theorem Rm : P.funcs[x6]? = some xH := Tryz.func153
abbrev rF : FuncId := 154
noncomputable abbrev y6 : Func := Tryz.f154
theorem acY : P.funcs[rF]? = some y6 := Tryz.func154
abbrev tN : FuncId := 155
noncomputable abbrev ud : Func := Tryz.f155
theorem Y8 : P.funcs[tN]? = some ud := Tryz.func155
abbrev ED : FuncId := 156
noncomputable abbrev LP : Func := Tryz.f156
theorem ada : P.funcs[ED]? = some LP := Tryz.func156
abbrev nr : FuncId := 157
noncomputable abbrev vt : Func := Tryz.f157
theorem aeg : P.funcs[nr]? = some vt := Tryz.func157
abbrev pq : FuncId := 159
noncomputable abbrev fF : Func := Tryz.f159
theorem adU : P.funcs[pq]? = some fF := Tryz.func159
abbrev qR : FuncId := 160
noncomputable abbrev sP : Func := Tryz.f160
theorem YI : P.funcs[qR]? = some sP := Tryz.func160
abbrev od : FuncId := 161
noncomputable abbrev r9 : Func := Tryz.f161
theorem W1 : P.funcs[od]? = some r9 := Tryz.func161
abbrev rJ : FuncId := 162
noncomputable abbrev cZ : Func := Tryz.f162
theorem YD : P.funcs[rJ]? = some cZ := Tryz.func162
abbrev uV : FuncId := 163
noncomputable abbrev mH : Func := Tryz.f163
theorem O0 : P.funcs[uV]? = some mH := Tryz.func163
abbrev qm : FuncId := 164
noncomputable abbrev tG : Func := Tryz.f164
theorem TB : P.funcs[qm]? = some tG := Tryz.func164
abbrev qQ : FuncId := 165
noncomputable abbrev mq : Func := Tryz.f165
theorem aaC : P.funcs[qQ]? = some mq := Tryz.func165
abbrev oe : FuncId := 166
noncomputable abbrev mG : Func := Tryz.f166
theorem Rb : P.funcs[oe]? = some mG := Tryz.func166
abbrev yU : FuncId := 167
noncomputable abbrev AI : Func := Tryz.f167
theorem ZM : P.funcs[yU]? = some AI := Tryz.func167
abbrev ni : FuncId := 168
noncomputable abbrev wh : Func := Tryz.f168
theorem aaF : P.funcs[ni]? = some wh := Tryz.func168
abbrev ql : FuncId := 169
noncomputable abbrev uG : Func := Tryz.f169
theorem Qb : P.funcs[ql]? = some uG := Tryz.func169
abbrev qa : FuncId := 170
noncomputable abbrev vq : Func := Tryz.f170
theorem Mq : P.funcs[qa]? = some vq := Tryz.func170
abbrev uy : FuncId := 171
noncomputable abbrev mL : Func := Tryz.f171
theorem aai : P.funcs[uy]? = some mL := Tryz.func171
abbrev xV : FuncId := 172
noncomputable abbrev k8 : Func := Tryz.f172
theorem PO : P.funcs[xV]? = some k8 := Tryz.func172
abbrev uq : FuncId := 173
noncomputable abbrev uJ : Func := Tryz.f173
theorem Rk : P.funcs[uq]? = some uJ := Tryz.func173
abbrev xw : FuncId := 174
noncomputable abbrev tR : Func := Tryz.f174
theorem Xz : P.funcs[xw]? = some tR := Tryz.func174
abbrev wN : FuncId := 175
noncomputable abbrev lF : Func := Tryz.f175
theorem NC : P.funcs[wN]? = some lF := Tryz.func175
abbrev yc : FuncId := 176
noncomputable abbrev vc : Func := Tryz.f176
theorem Vf : P.funcs[yc]? = some vc := Tryz.func176
abbrev B8 : FuncId := 177
noncomputable abbrev OY : Func := Tryz.f177
theorem M5 : P.funcs[B8]? = some OY := Tryz.func177
abbrev qp : FuncId := 178
noncomputable abbrev gi : Func := Tryz.f178
theorem Oc : P.funcs[qp]? = some gi := Tryz.func178
abbrev wS : FuncId := 179
noncomputable abbrev jH : Func := Tryz.f179
theorem Yx : P.funcs[wS]? = some jH := Tryz.func179
abbrev xI : FuncId := 180
noncomputable abbrev nc : Func := Tryz.f180
theorem Xq : P.funcs[xI]? = some nc := Tryz.func180
abbrev xb : FuncId := 181
noncomputable abbrev mO : Func := Tryz.f181
theorem Xv : P.funcs[xb]? = some mO := Tryz.func181
abbrev yd : FuncId := 182
noncomputable abbrev nZ : Func := Tryz.f182
theorem Zg : P.funcs[yd]? = some nZ := Tryz.func182
abbrev zK : FuncId := 183
noncomputable abbrev xK : Func := Tryz.f183
theorem PV : P.funcs[zK]? = some xK := Tryz.func183
abbrev ue : FuncId := 184
noncomputable abbrev uD : Func := Tryz.f184
theorem T6 : P.funcs[ue]? = some uD := Tryz.func184
abbrev su : FuncId := 185
noncomputable abbrev lO : Func := Tryz.f185
theorem NO : P.funcs[su]? = some lO := Tryz.func185
abbrev HF : FuncId := 186
noncomputable abbrev JV : Func := Tryz.f186
theorem S3 : P.funcs[HF]? = some JV := Tryz.func186
abbrev v5 : FuncId := 187
noncomputable abbrev mw : Func := Tryz.f187
theorem ZE : P.funcs[v5]? = some mw := Tryz.func187
abbrev tJ : FuncId := 188
noncomputable abbrev r8 : Func := Tryz.f188
theorem PJ : P.funcs[tJ]? = some r8 := Tryz.func188
abbrev uO : FuncId := 189
noncomputable abbrev jF : Func := Tryz.f189
theorem Tx : P.funcs[uO]? = some jF := Tryz.func189
abbrev Ag : FuncId := 190
noncomputable abbrev ju : Func := Tryz.f190
theorem P9 : P.funcs[Ag]? = some ju := Tryz.func190
abbrev Iu : TI := ⟨.int .i64, 1, 8, .int .i64 0⟩
theorem MM : bF P 2 Iu := cu (by kernel_rfl) (by kernel_rfl) (by kernel_rfl)
abbrev Kq : TI := ⟨.int .i64, 1, 8, .int .i64 0⟩
theorem ZC : bF P 3 Kq := cu (by kernel_rfl) (by kernel_rfl) (by kernel_rfl)
abbrev Kz : TI := ⟨.bool, 1, 1, .bool false⟩
theorem ZO : bF P 4 Kz := cu (by kernel_rfl) (by kernel_rfl) (by kernel_rfl)
abbrev HZ : TI := ⟨.int .u8, 1, 1, .int .u8 0⟩
theorem VC : bF P 5 HZ := cu (by kernel_rfl) (by kernel_rfl) (by kernel_rfl)
abbrev FH : TI := ⟨.int .u8, 1, 1, .int .u8 0⟩
theorem Tu : bF P 6 FH := cu (by kernel_rfl) (by kernel_rfl) (by kernel_rfl)
abbrev Hl : TI := ⟨.struct #[{ name := "x", type := 2, offset := 0, embedded := false, tag := "", pkgPath := "runtime", byteOffset := 0 }, { name := "y", type := 3, offset := 1, embedded := false, tag := "", pkgPath := "runtime", byteOffset := 8 }, { name := "signed", type := 4, offset := 2, embedded := false, tag := "", pkgPath := "runtime", byteOffset := 16 }, { name := "code", type := 6, offset := 3, embedded := false, tag := "", pkgPath := "runtime", byteOffset := 17 }], 4, 24, .agg [.int .i64 0, .int .i64 0, .bool false, .int .u8 0]⟩
theorem NZ : bF P 7 Hl := cu (by kernel_rfl) (by kernel_rfl) (by kernel_rfl)
abbrev It : TI := ⟨.struct #[{ name := "x", type := 2, offset := 0, embedded := false, tag := "", pkgPath := "runtime", byteOffset := 0 }, { name := "y", type := 3, offset := 1, embedded := false, tag := "", pkgPath := "runtime", byteOffset := 8 }, { name := "signed", type := 4, offset := 2, embedded := false, tag := "", pkgPath := "runtime", byteOffset := 16 }, { name := "code", type := 6, offset := 3, embedded := false, tag := "", pkgPath := "runtime", byteOffset := 17 }], 4, 24, .agg [.int .i64 0, .int .i64 0, .bool false, .int .u8 0]⟩
theorem ok8 : bF P 8 It := cu (by kernel_rfl) (by kernel_rfl) (by kernel_rfl)
abbrev JW : TI := ⟨.string, 1, 16, .tuple []⟩
theorem TQ : bF P 9 JW := gI (by kernel_rfl) (by kernel_rfl) rfl
abbrev JH : TI := ⟨.string, 1, 16, .tuple []⟩
theorem L4 : bF P 10 JH := gI (by kernel_rfl) (by kernel_rfl) rfl
abbrev JF : TI := ⟨.string, 1, 16, .tuple []⟩
theorem YB : bF P 11 JF := gI (by kernel_rfl) (by kernel_rfl) rfl
abbrev Kv : TI := ⟨.int .u64, 1, 8, .int .u64 0⟩
theorem YR : bF P 12 Kv := cu (by kernel_rfl) (by kernel_rfl) (by kernel_rfl)
abbrev Iw : TI := ⟨.struct #[{ name := "msg", type := 9, offset := 0, embedded := false, tag := "", pkgPath := "runtime", byteOffset := 0 }, { name := "addr", type := 12, offset := 1, embedded := false, tag := "", pkgPath := "runtime", byteOffset := 16 }], 2, 24, .tuple []⟩
theorem R1 : bF P 13 Iw := gI (by kernel_rfl) (by kernel_rfl) rfl
abbrev Hx : TI := ⟨.struct #[{ name := "msg", type := 9, offset := 0, embedded := false, tag := "", pkgPath := "runtime", byteOffset := 0 }, { name := "addr", type := 12, offset := 1, embedded := false, tag := "", pkgPath := "runtime", byteOffset := 16 }], 2, 24, .tuple []⟩
theorem Vd : bF P 14 Hx := gI (by kernel_rfl) (by kernel_rfl) rfl
abbrev KM : TI := ⟨.pointer 202, 1, 8, .tuple []⟩
theorem ab8 : bF P 15 KM := gI (by kernel_rfl) (by kernel_rfl) rfl
abbrev JE : TI := ⟨.pointer 205, 1, 8, .tuple []⟩
theorem TD : bF P 16 JE := gI (by kernel_rfl) (by kernel_rfl) rfl
abbrev GI : TI := ⟨.pointer 214, 1, 8, .tuple []⟩
theorem O6 : bF P 17 GI := gI (by kernel_rfl) (by kernel_rfl) rfl
abbrev JQ : TI := ⟨.struct #[{ name := "typ", type := 17, offset := 0, embedded := false, tag := "", pkgPath := "internal/runtime/maps", byteOffset := 0 }], 1, 8, .tuple []⟩
theorem Pt : bF P 18 JQ := gI (by kernel_rfl) (by kernel_rfl) rfl
abbrev I3 : TI := ⟨.struct #[{ name := "typ", type := 17, offset := 0, embedded := false, tag := "", pkgPath := "internal/runtime/maps", byteOffset := 0 }], 1, 8, .tuple []⟩
theorem MH : bF P 19 I3 := gI (by kernel_rfl) (by kernel_rfl) rfl
abbrev Kk : TI := ⟨.int .i32, 1, 4, .int .i32 0⟩
theorem abC : bF P 21 Kk := cu (by kernel_rfl) (by kernel_rfl) (by kernel_rfl)
abbrev H7 : TI := ⟨.slice 3, 1, 24, .nil⟩
theorem aan : bF P 22 H7 := cu (by kernel_rfl) (by kernel_rfl) (by kernel_rfl)
abbrev IG : TI := ⟨.slice 32, 1, 24, .nil⟩
theorem MV : bF P 25 IG := cu (by kernel_rfl) (by kernel_rfl) (by kernel_rfl)
abbrev KY : TI := ⟨.slice 45, 1, 24, .nil⟩
theorem QC : bF P 26 KY := cu (by kernel_rfl) (by kernel_rfl) (by kernel_rfl)
abbrev IS : TI := ⟨.struct #[{ name := "U", type := 3, offset := 0, embedded := false, tag := "", pkgPath := "", byteOffset := 0 }, { name := "V", type := 3, offset := 1, embedded := false, tag := "", pkgPath := "", byteOffset := 8 }, { name := "KnotsU", type := 25, offset := 2, embedded := false, tag := "", pkgPath := "", byteOffset := 16 }, { name := "KnotsV", type := 25, offset := 3, embedded := false, tag := "", pkgPath := "", byteOffset := 40 }, { name := "Poles", type := 26, offset := 4, embedded := false, tag := "", pkgPath := "", byteOffset := 64 }], 5, 88, .agg [.int .i64 0, .int .i64 0, .nil, .nil, .nil]⟩
theorem P2 : bF P 27 IS := cu (by kernel_rfl) (by kernel_rfl) (by kernel_rfl)
abbrev HU : TI := ⟨.struct #[{ name := "U", type := 3, offset := 0, embedded := false, tag := "", pkgPath := "", byteOffset := 0 }, { name := "V", type := 3, offset := 1, embedded := false, tag := "", pkgPath := "", byteOffset := 8 }, { name := "KnotsU", type := 25, offset := 2, embedded := false, tag := "", pkgPath := "", byteOffset := 16 }, { name := "KnotsV", type := 25, offset := 3, embedded := false, tag := "", pkgPath := "", byteOffset := 40 }, { name := "Poles", type := 26, offset := 4, embedded := false, tag := "", pkgPath := "", byteOffset := 64 }], 5, 88, .agg [.int .i64 0, .int .i64 0, .nil, .nil, .nil]⟩
theorem V1 : bF P 28 HU := cu (by kernel_rfl) (by kernel_rfl) (by kernel_rfl)
abbrev Fv : TI := ⟨.slice 156, 1, 24, .nil⟩
theorem Xw : bF P 30 Fv := cu (by kernel_rfl) (by kernel_rfl) (by kernel_rfl)
abbrev Km : TI := ⟨.struct #[{ name := "Neg", type := 4, offset := 0, embedded := false, tag := "", pkgPath := "", byteOffset := 0 }, { name := "Num", type := 30, offset := 1, embedded := false, tag := "", pkgPath := "", byteOffset := 8 }, { name := "Den", type := 30, offset := 2, embedded := false, tag := "", pkgPath := "", byteOffset := 32 }], 3, 56, .agg [.bool false, .nil, .nil]⟩
theorem NG : bF P 31 Km := cu (by kernel_rfl) (by kernel_rfl) (by kernel_rfl)
abbrev HG : TI := ⟨.struct #[{ name := "Neg", type := 4, offset := 0, embedded := false, tag := "", pkgPath := "", byteOffset := 0 }, { name := "Num", type := 30, offset := 1, embedded := false, tag := "", pkgPath := "", byteOffset := 8 }, { name := "Den", type := 30, offset := 2, embedded := false, tag := "", pkgPath := "", byteOffset := 32 }], 3, 56, .rat 0 1⟩
theorem YK : bF P 32 HG := cu (by kernel_rfl) (by kernel_rfl) (by kernel_rfl)
abbrev F3 : TI := ⟨.struct #[{ name := "Lo", type := 32, offset := 0, embedded := false, tag := "", pkgPath := "", byteOffset := 0 }, { name := "Hi", type := 32, offset := 3, embedded := false, tag := "", pkgPath := "", byteOffset := 56 }], 6, 112, .agg [.rat 0 1, .rat 0 1]⟩
theorem M6 : bF P 33 F3 := cu (by kernel_rfl) (by kernel_rfl) (by kernel_rfl)
abbrev Fk : TI := ⟨.struct #[{ name := "Lo", type := 32, offset := 0, embedded := false, tag := "", pkgPath := "", byteOffset := 0 }, { name := "Hi", type := 32, offset := 3, embedded := false, tag := "", pkgPath := "", byteOffset := 56 }], 6, 112, .agg [.rat 0 1, .rat 0 1]⟩
theorem Sq : bF P 34 Fk := cu (by kernel_rfl) (by kernel_rfl) (by kernel_rfl)
abbrev Gi : TI := ⟨.array 3 32, 9, 168, .agg [.rat 0 1, .rat 0 1, .rat 0 1]⟩
theorem PE : bF P 40 Gi := cu (by kernel_rfl) (by kernel_rfl) (by kernel_rfl)
abbrev FW : TI := ⟨.array 3 32, 9, 168, .agg [.rat 0 1, .rat 0 1, .rat 0 1]⟩
theorem Ph : bF P 41 FW := cu (by kernel_rfl) (by kernel_rfl) (by kernel_rfl)
abbrev F5 : TI := ⟨.int .i64, 1, 8, .int .i64 0⟩
theorem ac6 : bF P 42 F5 := cu (by kernel_rfl) (by kernel_rfl) (by kernel_rfl)
abbrev I9 : TI := ⟨.slice 65, 1, 24, .nil⟩
theorem Zw : bF P 45 I9 := cu (by kernel_rfl) (by kernel_rfl) (by kernel_rfl)
abbrev KV : TI := ⟨.struct #[{ name := "Degree", type := 3, offset := 0, embedded := false, tag := "", pkgPath := "", byteOffset := 0 }, { name := "Knots", type := 25, offset := 1, embedded := false, tag := "", pkgPath := "", byteOffset := 8 }, { name := "Poles", type := 45, offset := 2, embedded := false, tag := "", pkgPath := "", byteOffset := 32 }], 3, 56, .agg [.int .i64 0, .nil, .nil]⟩
theorem Nn : bF P 46 KV := cu (by kernel_rfl) (by kernel_rfl) (by kernel_rfl)
abbrev F1 : TI := ⟨.struct #[{ name := "Degree", type := 3, offset := 0, embedded := false, tag := "", pkgPath := "", byteOffset := 0 }, { name := "Knots", type := 25, offset := 1, embedded := false, tag := "", pkgPath := "", byteOffset := 8 }, { name := "Poles", type := 45, offset := 2, embedded := false, tag := "", pkgPath := "", byteOffset := 32 }], 3, 56, .agg [.int .i64 0, .nil, .nil]⟩
theorem acX : bF P 47 F1 := cu (by kernel_rfl) (by kernel_rfl) (by kernel_rfl)
abbrev E5 : TI := ⟨.pointer 103, 1, 8, .tuple []⟩
theorem aba : bF P 54 E5 := gI (by kernel_rfl) (by kernel_rfl) rfl
abbrev EP : TI := ⟨.struct #[{ name := "N", type := 41, offset := 0, embedded := false, tag := "", pkgPath := "", byteOffset := 0 }, { name := "D", type := 32, offset := 9, embedded := false, tag := "", pkgPath := "", byteOffset := 168 }], 12, 224, .agg [.agg [.rat 0 1, .rat 0 1, .rat 0 1], .rat 0 1]⟩
theorem NN : bF P 58 EP := cu (by kernel_rfl) (by kernel_rfl) (by kernel_rfl)
abbrev Ls : TI := ⟨.struct #[{ name := "N", type := 41, offset := 0, embedded := false, tag := "", pkgPath := "", byteOffset := 0 }, { name := "D", type := 32, offset := 9, embedded := false, tag := "", pkgPath := "", byteOffset := 168 }], 12, 224, .agg [.agg [.rat 0 1, .rat 0 1, .rat 0 1], .rat 0 1]⟩
theorem X4 : bF P 59 Ls := cu (by kernel_rfl) (by kernel_rfl) (by kernel_rfl)
abbrev Ge : TI := ⟨.struct #[{ name := "P", type := 41, offset := 0, embedded := false, tag := "", pkgPath := "", byteOffset := 0 }, { name := "W", type := 32, offset := 9, embedded := false, tag := "", pkgPath := "", byteOffset := 168 }], 12, 224, .agg [.agg [.rat 0 1, .rat 0 1, .rat 0 1], .rat 0 1]⟩
theorem ZY : bF P 64 Ge := cu (by kernel_rfl) (by kernel_rfl) (by kernel_rfl)
abbrev Kt : TI := ⟨.struct #[{ name := "P", type := 41, offset := 0, embedded := false, tag := "", pkgPath := "", byteOffset := 0 }, { name := "W", type := 32, offset := 9, embedded := false, tag := "", pkgPath := "", byteOffset := 168 }], 12, 224, .agg [.agg [.rat 0 1, .rat 0 1, .rat 0 1], .rat 0 1]⟩
theorem XH : bF P 65 Kt := cu (by kernel_rfl) (by kernel_rfl) (by kernel_rfl)
abbrev Jy : TI := ⟨.slice 84, 1, 24, .nil⟩
theorem ac7 : bF P 78 Jy := cu (by kernel_rfl) (by kernel_rfl) (by kernel_rfl)
abbrev J1 : TI := ⟨.struct #[{ name := "Degree", type := 3, offset := 0, embedded := false, tag := "", pkgPath := "", byteOffset := 0 }, { name := "Knots", type := 25, offset := 1, embedded := false, tag := "", pkgPath := "", byteOffset := 8 }, { name := "C", type := 78, offset := 2, embedded := false, tag := "", pkgPath := "", byteOffset := 32 }], 3, 56, .agg [.int .i64 0, .nil, .nil]⟩
theorem ND : bF P 79 J1 := cu (by kernel_rfl) (by kernel_rfl) (by kernel_rfl)
abbrev Jn : TI := ⟨.struct #[{ name := "Degree", type := 3, offset := 0, embedded := false, tag := "", pkgPath := "", byteOffset := 0 }, { name := "Knots", type := 25, offset := 1, embedded := false, tag := "", pkgPath := "", byteOffset := 8 }, { name := "C", type := 78, offset := 2, embedded := false, tag := "", pkgPath := "", byteOffset := 32 }], 3, 56, .agg [.int .i64 0, .nil, .nil]⟩
theorem Q4 : bF P 80 Jn := cu (by kernel_rfl) (by kernel_rfl) (by kernel_rfl)
abbrev Gr : TI := ⟨.array 4 32, 12, 224, .agg [.rat 0 1, .rat 0 1, .rat 0 1, .rat 0 1]⟩
theorem Tz : bF P 83 Gr := cu (by kernel_rfl) (by kernel_rfl) (by kernel_rfl)
abbrev F2 : TI := ⟨.array 4 32, 12, 224, .agg [.rat 0 1, .rat 0 1, .rat 0 1, .rat 0 1]⟩
theorem Qy : bF P 84 F2 := cu (by kernel_rfl) (by kernel_rfl) (by kernel_rfl)
abbrev Jh : TI := ⟨.struct #[{ name := "L", type := 22, offset := 0, embedded := false, tag := "", pkgPath := "", byteOffset := 0 }, { name := "At", type := 3, offset := 1, embedded := false, tag := "", pkgPath := "", byteOffset := 24 }], 2, 32, .agg [.nil, .int .i64 0]⟩
theorem Oz : bF P 102 Jh := cu (by kernel_rfl) (by kernel_rfl) (by kernel_rfl)
abbrev EJ : TI := ⟨.struct #[{ name := "L", type := 22, offset := 0, embedded := false, tag := "", pkgPath := "", byteOffset := 0 }, { name := "At", type := 3, offset := 1, embedded := false, tag := "", pkgPath := "", byteOffset := 24 }], 2, 32, .agg [.nil, .int .i64 0]⟩
theorem PS : bF P 103 EJ := cu (by kernel_rfl) (by kernel_rfl) (by kernel_rfl)
abbrev Kx : TI := ⟨.slice 80, 1, 24, .nil⟩
theorem NW : bF P 131 Kx := cu (by kernel_rfl) (by kernel_rfl) (by kernel_rfl)
abbrev FP : TI := ⟨.int .u32, 1, 4, .int .u32 0⟩
theorem SY : bF P 156 FP := cu (by kernel_rfl) (by kernel_rfl) (by kernel_rfl)
abbrev Lj : TI := ⟨.slice 5, 1, 24, .nil⟩
theorem Zd : bF P 160 Lj := cu (by kernel_rfl) (by kernel_rfl) (by kernel_rfl)
abbrev Ig : TI := ⟨.int .u64, 1, 8, .int .u64 0⟩
theorem Uk : bF P 163 Ig := cu (by kernel_rfl) (by kernel_rfl) (by kernel_rfl)
abbrev FY : TI := ⟨.int .u64, 1, 8, .int .u64 0⟩
theorem TS : bF P 164 FY := cu (by kernel_rfl) (by kernel_rfl) (by kernel_rfl)
abbrev GZ : TI := ⟨.slice 25, 1, 24, .nil⟩
theorem abU : bF P 179 GZ := cu (by kernel_rfl) (by kernel_rfl) (by kernel_rfl)
abbrev Gz : TI := ⟨.struct #[{ name := "_interface", type := 17, offset := 0, embedded := false, tag := "", pkgPath := "runtime", byteOffset := 0 }, { name := "concrete", type := 17, offset := 1, embedded := false, tag := "", pkgPath := "runtime", byteOffset := 8 }, { name := "asserted", type := 17, offset := 2, embedded := false, tag := "", pkgPath := "runtime", byteOffset := 16 }, { name := "missingMethod", type := 9, offset := 3, embedded := false, tag := "", pkgPath := "runtime", byteOffset := 24 }], 4, 40, .tuple []⟩
theorem OM : bF P 201 Gz := gI (by kernel_rfl) (by kernel_rfl) rfl
abbrev Fb : TI := ⟨.struct #[{ name := "_interface", type := 17, offset := 0, embedded := false, tag := "", pkgPath := "runtime", byteOffset := 0 }, { name := "concrete", type := 17, offset := 1, embedded := false, tag := "", pkgPath := "runtime", byteOffset := 8 }, { name := "asserted", type := 17, offset := 2, embedded := false, tag := "", pkgPath := "runtime", byteOffset := 16 }, { name := "missingMethod", type := 9, offset := 3, embedded := false, tag := "", pkgPath := "runtime", byteOffset := 24 }], 4, 40, .tuple []⟩
theorem MK : bF P 202 Fb := gI (by kernel_rfl) (by kernel_rfl) rfl
abbrev Gn : TI := ⟨.int .u8, 1, 1, .int .u8 0⟩
theorem L8 : bF P 207 Gn := cu (by kernel_rfl) (by kernel_rfl) (by kernel_rfl)
abbrev EV : TI := ⟨.int .u8, 1, 1, .int .u8 0⟩
theorem Xx : bF P 208 EV := cu (by kernel_rfl) (by kernel_rfl) (by kernel_rfl)
abbrev FJ : TI := ⟨.pointer 5, 1, 8, .tuple []⟩
theorem TZ : bF P 210 FJ := gI (by kernel_rfl) (by kernel_rfl) rfl
abbrev Jd : TI := ⟨.int .i32, 1, 4, .int .i32 0⟩
theorem abW : bF P 211 Jd := cu (by kernel_rfl) (by kernel_rfl) (by kernel_rfl)
abbrev Gd : TI := ⟨.int .i32, 1, 4, .int .i32 0⟩
theorem R2 : bF P 212 Gd := cu (by kernel_rfl) (by kernel_rfl) (by kernel_rfl)
abbrev FF : TI := ⟨.struct #[{ name := "Size_", type := 12, offset := 0, embedded := false, tag := "", pkgPath := "", byteOffset := 0 }, { name := "PtrBytes", type := 12, offset := 1, embedded := false, tag := "", pkgPath := "", byteOffset := 8 }, { name := "Hash", type := 156, offset := 2, embedded := false, tag := "", pkgPath := "", byteOffset := 16 }, { name := "TFlag", type := 207, offset := 3, embedded := false, tag := "", pkgPath := "", byteOffset := 20 }, { name := "Align_", type := 5, offset := 4, embedded := false, tag := "", pkgPath := "", byteOffset := 21 }, { name := "FieldAlign_", type := 5, offset := 5, embedded := false, tag := "", pkgPath := "", byteOffset := 22 }, { name := "Kind_", type := 208, offset := 6, embedded := false, tag := "", pkgPath := "", byteOffset := 23 }, { name := "Equal", type := 209, offset := 7, embedded := false, tag := "", pkgPath := "", byteOffset := 24 }, { name := "GCData", type := 210, offset := 8, embedded := false, tag := "", pkgPath := "", byteOffset := 32 }, { name := "Str", type := 211, offset := 9, embedded := false, tag := "", pkgPath := "", byteOffset := 40 }, { name := "PtrToThis", type := 212, offset := 10, embedded := false, tag := "", pkgPath := "", byteOffset := 44 }], 11, 48, .tuple []⟩
theorem RL : bF P 213 FF := gI (by kernel_rfl) (by kernel_rfl) rfl
abbrev Lx : TI := ⟨.struct #[{ name := "Size_", type := 12, offset := 0, embedded := false, tag := "", pkgPath := "", byteOffset := 0 }, { name := "PtrBytes", type := 12, offset := 1, embedded := false, tag := "", pkgPath := "", byteOffset := 8 }, { name := "Hash", type := 156, offset := 2, embedded := false, tag := "", pkgPath := "", byteOffset := 16 }, { name := "TFlag", type := 207, offset := 3, embedded := false, tag := "", pkgPath := "", byteOffset := 20 }, { name := "Align_", type := 5, offset := 4, embedded := false, tag := "", pkgPath := "", byteOffset := 21 }, { name := "FieldAlign_", type := 5, offset := 5, embedded := false, tag := "", pkgPath := "", byteOffset := 22 }, { name := "Kind_", type := 208, offset := 6, embedded := false, tag := "", pkgPath := "", byteOffset := 23 }, { name := "Equal", type := 209, offset := 7, embedded := false, tag := "", pkgPath := "", byteOffset := 24 }, { name := "GCData", type := 210, offset := 8, embedded := false, tag := "", pkgPath := "", byteOffset := 32 }, { name := "Str", type := 211, offset := 9, embedded := false, tag := "", pkgPath := "", byteOffset := 40 }, { name := "PtrToThis", type := 212, offset := 10, embedded := false, tag := "", pkgPath := "", byteOffset := 44 }], 11, 48, .tuple []⟩
theorem adE : bF P 214 Lx := gI (by kernel_rfl) (by kernel_rfl) rfl
abbrev T : Types := [(2, Iu), (3, Kq), (4, Kz), (5, HZ), (6, FH), (7, Hl), (8, It), (9, JW), (10, JH), (11, JF), (12, Kv), (13, Iw), (14, Hx), (15, KM), (16, JE), (17, GI), (18, JQ), (19, I3), (21, Kk), (22, H7), (25, IG), (26, KY), (27, IS), (28, HU), (30, Fv), (31, Km), (32, HG), (33, F3), (34, Fk), (40, Gi), (41, FW), (42, F5), (45, I9), (46, KV), (47, F1), (54, E5), (58, EP), (59, Ls), (64, Ge), (65, Kt), (78, Jy), (79, J1), (80, Jn), (83, Gr), (84, F2), (102, Jh), (103, EJ), (131, Kx), (156, FP), (160, Lj), (163, Ig), (164, FY), (179, GZ), (201, Gz), (202, Fb), (207, Gn), (208, EV), (210, FJ), (211, Jd), (212, Gd), (213, FF), (214, Lx)]
theorem hT : dw P T := bL MM (bL ZC (bL ZO (bL VC (bL Tu (bL NZ (bL ok8 (bL TQ (bL L4 (bL YB (bL YR (bL R1 (bL Vd (bL ab8 (bL TD (bL O6 (bL Pt (bL MH (bL abC (bL aan (bL MV (bL QC (bL P2 (bL V1 (bL Xw (bL NG (bL YK (bL M6 (bL Sq (bL PE (bL Ph (bL ac6 (bL Zw (bL Nn (bL acX (bL aba (bL NN (bL X4 (bL ZY (bL XH (bL ac7 (bL ND (bL Q4 (bL Tz (bL Qy (bL Oz (bL PS (bL NW (bL SY (bL Zd (bL Uk (bL TS (bL abU (bL OM (bL MK (bL L8 (bL Xx (bL TZ (bL abW (bL R2 (bL RL (bL adE (Nm))))))))))))))))))))))))))))))))))))))))))))))))))))))))))))))
end Go.Am.N
