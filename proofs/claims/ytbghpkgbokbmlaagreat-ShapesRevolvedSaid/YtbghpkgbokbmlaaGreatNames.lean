/- The seat's names: the numbers of functions, the types. Written by a program. -/
import Derived.Test.YtbghpkgbokbmlaaGreatZ1
import Derived.Test.YtbghpkgbokbmlaaGreatProg
import Derived.KernelRfl
set_option linter.unusedVariables false
namespace Go.Am.N
open Go.Proofs
noncomputable abbrev P : Program := Tryz.prog
theorem hm : P.follows .mixedOrders = true := by kernel_rfl
abbrev BF : FuncId := 3
noncomputable abbrev mK : Func := Tryz.f3
theorem Vx : P.funcs[BF]? = some mK := Tryz.func3
abbrev xu : FuncId := 10
noncomputable abbrev tL : Func := Tryz.f10
theorem MI : P.funcs[xu]? = some tL := Tryz.func10
abbrev xU : FuncId := 11
noncomputable abbrev Bx : Func := Tryz.f11
theorem K1 : P.funcs[xU]? = some Bx := Tryz.func11
abbrev yQ : FuncId := 12
noncomputable abbrev yl : Func := Tryz.f12
theorem abo : P.funcs[yQ]? = some yl := Tryz.func12
abbrev tM : FuncId := 13
noncomputable abbrev su : Func := Tryz.f13
theorem YY : P.funcs[tM]? = some su := Tryz.func13
abbrev ni : FuncId := 14
noncomputable abbrev vG : Func := Tryz.f14
theorem Xh : P.funcs[ni]? = some vG := Tryz.func14
abbrev qy : FuncId := 15
noncomputable abbrev o3 : Func := Tryz.f15
theorem Jb : P.funcs[qy]? = some o3 := Tryz.func15
abbrev uL : FuncId := 16
noncomputable abbrev vY : Func := Tryz.f16
theorem W8 : P.funcs[uL]? = some vY := Tryz.func16
abbrev JC : FuncId := 17
noncomputable abbrev HA : Func := Tryz.f17
theorem VD : P.funcs[JC]? = some HA := Tryz.func17
abbrev Ac : FuncId := 18
noncomputable abbrev zd : Func := Tryz.f18
theorem Pp : P.funcs[Ac]? = some zd := Tryz.func18
abbrev y5 : FuncId := 19
noncomputable abbrev qZ : Func := Tryz.f19
theorem O5 : P.funcs[y5]? = some qZ := Tryz.func19
abbrev mS : FuncId := 20
noncomputable abbrev nW : Func := Tryz.f20
theorem Xu : P.funcs[mS]? = some nW := Tryz.func20
abbrev nh : FuncId := 21
noncomputable abbrev vj : Func := Tryz.f21
theorem Mz : P.funcs[nh]? = some vj := Tryz.func21
abbrev ry : FuncId := 22
noncomputable abbrev rM : Func := Tryz.f22
theorem N7 : P.funcs[ry]? = some rM := Tryz.func22
abbrev HP : FuncId := 23
noncomputable abbrev Hg : Func := Tryz.f23
theorem QG : P.funcs[HP]? = some Hg := Tryz.func23
abbrev G3 : FuncId := 24
noncomputable abbrev Ic : Func := Tryz.f24
theorem XP : P.funcs[G3]? = some Ic := Tryz.func24
abbrev Iz : FuncId := 25
noncomputable abbrev Gf : Func := Tryz.f25
theorem X5 : P.funcs[Iz]? = some Gf := Tryz.func25
abbrev w9 : FuncId := 27
noncomputable abbrev uG : Func := Tryz.f27
theorem Vf : P.funcs[w9]? = some uG := Tryz.func27
abbrev EG : FuncId := 28
noncomputable abbrev Ee : Func := Tryz.f28
theorem ZE : P.funcs[EG]? = some Ee := Tryz.func28
abbrev DQ : FuncId := 29
noncomputable abbrev F4 : Func := Tryz.f29
theorem Ya : P.funcs[DQ]? = some F4 := Tryz.func29
abbrev Ho : FuncId := 31
noncomputable abbrev Gq : Func := Tryz.f31
theorem LC : P.funcs[Ho]? = some Gq := Tryz.func31
abbrev iy : FuncId := 33
noncomputable abbrev uE : Func := Tryz.f33
theorem TD : P.funcs[iy]? = some uE := Tryz.func33
abbrev nY : FuncId := 38
noncomputable abbrev tf : Func := Tryz.f38
theorem Xf : P.funcs[nY]? = some tf := Tryz.func38
abbrev tN : FuncId := 42
noncomputable abbrev sw : Func := Tryz.f42
theorem ZX : P.funcs[tN]? = some sw := Tryz.func42
abbrev IY : FuncId := 46
noncomputable abbrev FA : Func := Tryz.f46
theorem VH : P.funcs[IY]? = some FA := Tryz.func46
abbrev Jd : FuncId := 47
noncomputable abbrev IT : Func := Tryz.f47
theorem KE : P.funcs[Jd]? = some IT := Tryz.func47
abbrev ye : FuncId := 59
noncomputable abbrev qL : Func := Tryz.f59
theorem UP : P.funcs[ye]? = some qL := Tryz.func59
abbrev Ga : FuncId := 60
noncomputable abbrev J4 : Func := Tryz.f60
theorem N8 : P.funcs[Ga]? = some J4 := Tryz.func60
abbrev yM : FuncId := 61
noncomputable abbrev qY : Func := Tryz.f61
theorem QJ : P.funcs[yM]? = some qY := Tryz.func61
abbrev mE : FuncId := 67
noncomputable abbrev vm : Func := Tryz.f67
theorem X9 : P.funcs[mE]? = some vm := Tryz.func67
abbrev DO : FuncId := 79
noncomputable abbrev Fu : Func := Tryz.f79
theorem Ku : P.funcs[DO]? = some Fu := Tryz.func79
abbrev lC : FuncId := 80
noncomputable abbrev rK : Func := Tryz.f80
theorem KJ : P.funcs[lC]? = some rK := Tryz.func80
abbrev Gj : FuncId := 81
noncomputable abbrev EC : Func := Tryz.f81
theorem YB : P.funcs[Gj]? = some EC := Tryz.func81
abbrev yH : FuncId := 82
noncomputable abbrev s7 : Func := Tryz.f82
theorem LO : P.funcs[yH]? = some s7 := Tryz.func82
abbrev IU : FuncId := 83
noncomputable abbrev FN : Func := Tryz.f83
theorem UR : P.funcs[IU]? = some FN := Tryz.func83
abbrev qN : FuncId := 84
noncomputable abbrev vZ : Func := Tryz.f84
theorem SU : P.funcs[qN]? = some vZ := Tryz.func84
abbrev xG : FuncId := 85
noncomputable abbrev v8 : Func := Tryz.f85
theorem KX : P.funcs[xG]? = some v8 := Tryz.func85
abbrev qx : FuncId := 86
noncomputable abbrev iH : Func := Tryz.f86
theorem Kf : P.funcs[qx]? = some iH := Tryz.func86
abbrev pT : FuncId := 87
noncomputable abbrev p5 : Func := Tryz.f87
theorem HL : P.funcs[pT]? = some p5 := Tryz.func87
abbrev xg : FuncId := 88
noncomputable abbrev ve : Func := Tryz.f88
theorem Dy : P.funcs[xg]? = some ve := Tryz.func88
abbrev mZ : FuncId := 89
noncomputable abbrev sr : Func := Tryz.f89
theorem MM : P.funcs[mZ]? = some sr := Tryz.func89
abbrev rY : FuncId := 90
noncomputable abbrev vh : Func := Tryz.f90
theorem Ob : P.funcs[rY]? = some vh := Tryz.func90
abbrev rR : FuncId := 91
noncomputable abbrev uQ : Func := Tryz.f91
theorem MK : P.funcs[rR]? = some uQ := Tryz.func91
abbrev v5 : FuncId := 92
noncomputable abbrev rG : Func := Tryz.f92
theorem MS : P.funcs[v5]? = some rG := Tryz.func92
abbrev s8 : FuncId := 93
noncomputable abbrev rT : Func := Tryz.f93
theorem WO : P.funcs[s8]? = some rT := Tryz.func93
abbrev BY : FuncId := 94
noncomputable abbrev xS : Func := Tryz.f94
theorem MY : P.funcs[BY]? = some xS := Tryz.func94
abbrev nc : FuncId := 95
noncomputable abbrev uD : Func := Tryz.f95
theorem Md : P.funcs[nc]? = some uD := Tryz.func95
abbrev qM : FuncId := 96
noncomputable abbrev jZ : Func := Tryz.f96
theorem PY : P.funcs[qM]? = some jZ := Tryz.func96
abbrev wh : FuncId := 97
noncomputable abbrev vw : Func := Tryz.f97
theorem YJ : P.funcs[wh]? = some vw := Tryz.func97
abbrev pe : FuncId := 98
noncomputable abbrev qP : Func := Tryz.f98
theorem Ys : P.funcs[pe]? = some qP := Tryz.func98
abbrev nw : FuncId := 99
noncomputable abbrev vE : Func := Tryz.f99
theorem OL : P.funcs[nw]? = some vE := Tryz.func99
abbrev tn : FuncId := 100
noncomputable abbrev s6 : Func := Tryz.f100
theorem QU : P.funcs[tn]? = some s6 := Tryz.func100
abbrev rB : FuncId := 101
noncomputable abbrev rC : Func := Tryz.f101
theorem Vu : P.funcs[rB]? = some rC := Tryz.func101
abbrev lQ : FuncId := 102
noncomputable abbrev vk : Func := Tryz.f102
theorem ML : P.funcs[lQ]? = some vk := Tryz.func102
abbrev lp : FuncId := 103
noncomputable abbrev vg : Func := Tryz.f103
theorem UQ : P.funcs[lp]? = some vg := Tryz.func103
abbrev lI : FuncId := 104
noncomputable abbrev q6 : Func := Tryz.f104
theorem Lx : P.funcs[lI]? = some q6 := Tryz.func104
abbrev mh : FuncId := 105
noncomputable abbrev mD : Func := Tryz.f105
theorem VV : P.funcs[mh]? = some mD := Tryz.func105
abbrev F9 : FuncId := 106
noncomputable abbrev Ib : Func := Tryz.f106
theorem PB : P.funcs[F9]? = some Ib := Tryz.func106
abbrev xz : FuncId := 107
noncomputable abbrev rN : Func := Tryz.f107
theorem KR : P.funcs[xz]? = some rN := Tryz.func107
abbrev zk : FuncId := 108
noncomputable abbrev uh : Func := Tryz.f108
theorem Oy : P.funcs[zk]? = some uh := Tryz.func108
abbrev sk : FuncId := 109
noncomputable abbrev wg : Func := Tryz.f109
theorem Qj : P.funcs[sk]? = some wg := Tryz.func109
abbrev IJ : FuncId := 110
noncomputable abbrev H7 : Func := Tryz.f110
theorem O9 : P.funcs[IJ]? = some H7 := Tryz.func110
abbrev IW : FuncId := 111
noncomputable abbrev Er : Func := Tryz.f111
theorem SY : P.funcs[IW]? = some Er := Tryz.func111
abbrev sn : FuncId := 114
noncomputable abbrev qW : Func := Tryz.f114
theorem Ra : P.funcs[sn]? = some qW := Tryz.func114
abbrev tR : FuncId := 115
noncomputable abbrev vQ : Func := Tryz.f115
theorem W5 : P.funcs[tR]? = some vQ := Tryz.func115
abbrev Jz : FuncId := 116
noncomputable abbrev G7 : Func := Tryz.f116
theorem WX : P.funcs[Jz]? = some G7 := Tryz.func116
abbrev z9 : FuncId := 117
noncomputable abbrev wE : Func := Tryz.f117
theorem Wf : P.funcs[z9]? = some wE := Tryz.func117
abbrev nF : FuncId := 119
noncomputable abbrev vq : Func := Tryz.f119
theorem MF : P.funcs[nF]? = some vq := Tryz.func119
abbrev EU : FuncId := 120
noncomputable abbrev Hh : Func := Tryz.f120
theorem Lq : P.funcs[EU]? = some Hh := Tryz.func120
abbrev EY : FuncId := 121
noncomputable abbrev E6 : Func := Tryz.f121
theorem Vb : P.funcs[EY]? = some E6 := Tryz.func121
abbrev pF : FuncId := 122
noncomputable abbrev n8 : Func := Tryz.f122
theorem aaX : P.funcs[pF]? = some n8 := Tryz.func122
abbrev vH : FuncId := 123
noncomputable abbrev ud : Func := Tryz.f123
theorem OK : P.funcs[vH]? = some ud := Tryz.func123
abbrev r7 : FuncId := 124
noncomputable abbrev vD : Func := Tryz.f124
theorem Wj : P.funcs[r7]? = some vD := Tryz.func124
abbrev qA : FuncId := 125
noncomputable abbrev iV : Func := Tryz.f125
theorem aaf : P.funcs[qA]? = some iV := Tryz.func125
abbrev mW : FuncId := 126
noncomputable abbrev wj : Func := Tryz.f126
theorem NL : P.funcs[mW]? = some wj := Tryz.func126
abbrev yt : FuncId := 127
noncomputable abbrev pL : Func := Tryz.f127
theorem LF : P.funcs[yt]? = some pL := Tryz.func127
abbrev CK : FuncId := 128
noncomputable abbrev Gr : Func := Tryz.f128
theorem Tz : P.funcs[CK]? = some Gr := Tryz.func128
abbrev FZ : FuncId := 131
noncomputable abbrev JH : Func := Tryz.f131
theorem Lh : P.funcs[FZ]? = some JH := Tryz.func131
abbrev yg : FuncId := 133
noncomputable abbrev uw : Func := Tryz.f133
theorem Nd : P.funcs[yg]? = some uw := Tryz.func133
abbrev rj : FuncId := 135
noncomputable abbrev uN : Func := Tryz.f135
theorem OC : P.funcs[rj]? = some uN := Tryz.func135
abbrev mX : FuncId := 153
noncomputable abbrev uj : Func := Tryz.f153
theorem SR : P.funcs[mX]? = some uj := Tryz.func153
abbrev td : FuncId := 154
noncomputable abbrev rz : Func := Tryz.f154
theorem LG : P.funcs[td]? = some rz := Tryz.func154
abbrev vR : FuncId := 157
noncomputable abbrev sM : Func := Tryz.f157
theorem Mi : P.funcs[vR]? = some sM := Tryz.func157
abbrev s5 : FuncId := 158
noncomputable abbrev kr : Func := Tryz.f158
theorem Lf : P.funcs[s5]? = some kr := Tryz.func158
abbrev pJ : FuncId := 159
noncomputable abbrev cK : Func := Tryz.f159
theorem UI : P.funcs[pJ]? = some cK := Tryz.func159
abbrev tr : FuncId := 160
noncomputable abbrev tU : Func := Tryz.f160
theorem Zc : P.funcs[tr]? = some tU := Tryz.func160
abbrev pG : FuncId := 161
noncomputable abbrev uk : Func := Tryz.f161
theorem Ow : P.funcs[pG]? = some uk := Tryz.func161
abbrev vc : FuncId := 162
noncomputable abbrev dN : Func := Tryz.f162
theorem Mv : P.funcs[vc]? = some dN := Tryz.func162
abbrev vJ : FuncId := 163
noncomputable abbrev uz : Func := Tryz.f163
theorem V6 : P.funcs[vJ]? = some uz := Tryz.func163
abbrev qa : FuncId := 164
noncomputable abbrev uU : Func := Tryz.f164
theorem Ky : P.funcs[qa]? = some uU := Tryz.func164
abbrev tZ : FuncId := 165
noncomputable abbrev gx : Func := Tryz.f165
theorem ZS : P.funcs[tZ]? = some gx := Tryz.func165
abbrev tQ : FuncId := 166
noncomputable abbrev qO : Func := Tryz.f166
theorem Oj : P.funcs[tQ]? = some qO := Tryz.func166
abbrev wX : FuncId := 167
noncomputable abbrev sR : Func := Tryz.f167
theorem aaC : P.funcs[wX]? = some sR := Tryz.func167
abbrev oX : FuncId := 168
noncomputable abbrev gJ : Func := Tryz.f168
theorem U3 : P.funcs[oX]? = some gJ := Tryz.func168
abbrev wN : FuncId := 169
noncomputable abbrev ql : Func := Tryz.f169
theorem Sj : P.funcs[wN]? = some ql := Tryz.func169
abbrev rQ : FuncId := 170
noncomputable abbrev tg : Func := Tryz.f170
theorem Xq : P.funcs[rQ]? = some tg := Tryz.func170
abbrev x8 : FuncId := 171
noncomputable abbrev vU : Func := Tryz.f171
theorem Rb : P.funcs[x8]? = some vU := Tryz.func171
abbrev vL : FuncId := 172
noncomputable abbrev fz : Func := Tryz.f172
theorem WY : P.funcs[vL]? = some fz := Tryz.func172
abbrev v7 : FuncId := 173
noncomputable abbrev sO : Func := Tryz.f173
theorem Z3 : P.funcs[v7]? = some sO := Tryz.func173
abbrev sj : FuncId := 174
noncomputable abbrev tV : Func := Tryz.f174
theorem Ly : P.funcs[sj]? = some tV := Tryz.func174
abbrev vt : FuncId := 175
noncomputable abbrev rW : Func := Tryz.f175
theorem Xp : P.funcs[vt]? = some rW := Tryz.func175
abbrev rX : FuncId := 176
noncomputable abbrev vv : Func := Tryz.f176
theorem YE : P.funcs[rX]? = some vv := Tryz.func176
abbrev zB : FuncId := 177
noncomputable abbrev wO : Func := Tryz.f177
theorem Lc : P.funcs[zB]? = some wO := Tryz.func177
abbrev sy : FuncId := 178
noncomputable abbrev sC : Func := Tryz.f178
theorem ZL : P.funcs[sy]? = some sC := Tryz.func178
abbrev DI : FuncId := 179
noncomputable abbrev CY : Func := Tryz.f179
theorem XT : P.funcs[DI]? = some CY := Tryz.func179
abbrev E4 : FuncId := 180
noncomputable abbrev DP : Func := Tryz.f180
theorem aaF : P.funcs[E4]? = some DP := Tryz.func180
abbrev lF : FuncId := 183
noncomputable abbrev q7 : Func := Tryz.f183
theorem aar : P.funcs[lF]? = some q7 := Tryz.func183
abbrev vl : FuncId := 184
noncomputable abbrev qV : Func := Tryz.f184
theorem Pv : P.funcs[vl]? = some qV := Tryz.func184
abbrev j9 : FuncId := 185
noncomputable abbrev jf : Func := Tryz.f185
theorem YX : P.funcs[j9]? = some jf := Tryz.func185
abbrev pO : FuncId := 186
noncomputable abbrev eL : Func := Tryz.f186
theorem aaD : P.funcs[pO]? = some eL := Tryz.func186
abbrev qR : FuncId := 187
noncomputable abbrev uY : Func := Tryz.f187
theorem Np : P.funcs[qR]? = some uY := Tryz.func187
abbrev pX : FuncId := 188
noncomputable abbrev mA : Func := Tryz.f188
theorem PM : P.funcs[pX]? = some mA := Tryz.func188
abbrev xH : FuncId := 190
noncomputable abbrev r6 : Func := Tryz.f190
theorem Q8 : P.funcs[xH]? = some r6 := Tryz.func190
abbrev y9 : FuncId := 191
noncomputable abbrev tS : Func := Tryz.f191
theorem Ux : P.funcs[y9]? = some tS := Tryz.func191
abbrev ny : FuncId := 196
noncomputable abbrev l7 : Func := Tryz.f196
theorem NC : P.funcs[ny]? = some l7 := Tryz.func196
abbrev qe : FuncId := 199
noncomputable abbrev nM : Func := Tryz.f199
theorem MP : P.funcs[qe]? = some nM := Tryz.func199
abbrev qK : FuncId := 200
noncomputable abbrev mc : Func := Tryz.f200
theorem QK : P.funcs[qK]? = some mc := Tryz.func200
abbrev um : FuncId := 201
noncomputable abbrev fT : Func := Tryz.f201
theorem aaG : P.funcs[um]? = some fT := Tryz.func201
abbrev pD : FuncId := 202
noncomputable abbrev cN : Func := Tryz.f202
theorem XD : P.funcs[pD]? = some cN := Tryz.func202
abbrev qo : FuncId := 203
noncomputable abbrev gh : Func := Tryz.f203
theorem M9 : P.funcs[qo]? = some gh := Tryz.func203
abbrev pQ : FuncId := 204
noncomputable abbrev sx : Func := Tryz.f204
theorem L4 : P.funcs[pQ]? = some sx := Tryz.func204
abbrev BZ : FuncId := 205
noncomputable abbrev ON : Func := Tryz.f205
theorem aaY : P.funcs[BZ]? = some ON := Tryz.func205
abbrev q9 : FuncId := 206
noncomputable abbrev jo : Func := Tryz.f206
theorem PL : P.funcs[q9]? = some jo := Tryz.func206
abbrev s9 : FuncId := 207
noncomputable abbrev lM : Func := Tryz.f207
theorem U6 : P.funcs[s9]? = some lM := Tryz.func207
abbrev sP : FuncId := 208
noncomputable abbrev nI : Func := Tryz.f208
theorem LD : P.funcs[sP]? = some nI := Tryz.func208
abbrev ow : FuncId := 209
noncomputable abbrev fJ : Func := Tryz.f209
theorem U9 : P.funcs[ow]? = some fJ := Tryz.func209
abbrev oM : FuncId := 210
noncomputable abbrev vX : Func := Tryz.f210
theorem aa8 : P.funcs[oM]? = some vX := Tryz.func210
abbrev pU : FuncId := 211
noncomputable abbrev mI : Func := Tryz.f211
theorem St : P.funcs[pU]? = some mI := Tryz.func211
abbrev u9 : FuncId := 212
noncomputable abbrev mT : Func := Tryz.f212
theorem Xe : P.funcs[u9]? = some mT := Tryz.func212
abbrev rE : FuncId := 213
noncomputable abbrev mQ : Func := Tryz.f213
theorem MD : P.funcs[rE]? = some mQ := Tryz.func213
abbrev nq : FuncId := 214
noncomputable abbrev tH : Func := Tryz.f214
theorem Vp : P.funcs[nq]? = some tH := Tryz.func214
abbrev qh : FuncId := 216
noncomputable abbrev rH : Func := Tryz.f216
theorem Qg : P.funcs[qh]? = some rH := Tryz.func216
abbrev uK : FuncId := 217
noncomputable abbrev kQ : Func := Tryz.f217
theorem Yj : P.funcs[uK]? = some kQ := Tryz.func217
abbrev rm : FuncId := 218
noncomputable abbrev qJ : Func := Tryz.f218
theorem NK : P.funcs[rm]? = some qJ := Tryz.func218
abbrev ri : FuncId := 219
noncomputable abbrev uo : Func := Tryz.f219
theorem aab : P.funcs[ri]? = some uo := Tryz.func219
abbrev sL : FuncId := 220
noncomputable abbrev kH : Func := Tryz.f220
theorem U2 : P.funcs[sL]? = some kH := Tryz.func220
abbrev we : FuncId := 233
noncomputable abbrev me : Func := Tryz.f233
theorem aaH : P.funcs[we]? = some me := Tryz.func233
abbrev tW : FuncId := 234
noncomputable abbrev mu : Func := Tryz.f234
theorem Tl : P.funcs[tW]? = some mu := Tryz.func234
abbrev ue : FuncId := 235
noncomputable abbrev rO : Func := Tryz.f235
theorem Vy : P.funcs[ue]? = some rO := Tryz.func235
abbrev tI : FuncId := 236
noncomputable abbrev ji : Func := Tryz.f236
theorem Zq : P.funcs[tI]? = some ji := Tryz.func236
abbrev wW : FuncId := 237
noncomputable abbrev vS : Func := Tryz.f237
theorem Pt : P.funcs[wW]? = some vS := Tryz.func237
abbrev EV : TI := ⟨.int .i64, 1, 8, .int .i64 0⟩
theorem WJ : bw P 2 EV := bP (by kernel_rfl) (by kernel_rfl) (by kernel_rfl)
abbrev CO : TI := ⟨.int .i64, 1, 8, .int .i64 0⟩
theorem Uy : bw P 3 CO := bP (by kernel_rfl) (by kernel_rfl) (by kernel_rfl)
abbrev Im : TI := ⟨.bool, 1, 1, .bool false⟩
theorem Yw : bw P 4 Im := bP (by kernel_rfl) (by kernel_rfl) (by kernel_rfl)
abbrev FY : TI := ⟨.int .u8, 1, 1, .int .u8 0⟩
theorem O3 : bw P 5 FY := bP (by kernel_rfl) (by kernel_rfl) (by kernel_rfl)
abbrev EW : TI := ⟨.int .u8, 1, 1, .int .u8 0⟩
theorem Vr : bw P 6 EW := bP (by kernel_rfl) (by kernel_rfl) (by kernel_rfl)
abbrev GB : TI := ⟨.struct #[{ name := "x", type := 2, offset := 0, embedded := false, tag := "", pkgPath := "runtime", byteOffset := 0 }, { name := "y", type := 3, offset := 1, embedded := false, tag := "", pkgPath := "runtime", byteOffset := 8 }, { name := "signed", type := 4, offset := 2, embedded := false, tag := "", pkgPath := "runtime", byteOffset := 16 }, { name := "code", type := 6, offset := 3, embedded := false, tag := "", pkgPath := "runtime", byteOffset := 17 }], 4, 24, .agg [.int .i64 0, .int .i64 0, .bool false, .int .u8 0]⟩
theorem Nh : bw P 7 GB := bP (by kernel_rfl) (by kernel_rfl) (by kernel_rfl)
abbrev ET : TI := ⟨.struct #[{ name := "x", type := 2, offset := 0, embedded := false, tag := "", pkgPath := "runtime", byteOffset := 0 }, { name := "y", type := 3, offset := 1, embedded := false, tag := "", pkgPath := "runtime", byteOffset := 8 }, { name := "signed", type := 4, offset := 2, embedded := false, tag := "", pkgPath := "runtime", byteOffset := 16 }, { name := "code", type := 6, offset := 3, embedded := false, tag := "", pkgPath := "runtime", byteOffset := 17 }], 4, 24, .agg [.int .i64 0, .int .i64 0, .bool false, .int .u8 0]⟩
theorem U5 : bw P 8 ET := bP (by kernel_rfl) (by kernel_rfl) (by kernel_rfl)
abbrev Il : TI := ⟨.string, 1, 16, .tuple []⟩
theorem TX : bw P 9 Il := fM (by kernel_rfl) (by kernel_rfl) rfl
abbrev Iw : TI := ⟨.string, 1, 16, .tuple []⟩
theorem RE : bw P 10 Iw := fM (by kernel_rfl) (by kernel_rfl) rfl
abbrev HY : TI := ⟨.string, 1, 16, .tuple []⟩
theorem XS : bw P 11 HY := fM (by kernel_rfl) (by kernel_rfl) rfl
abbrev JY : TI := ⟨.int .u64, 1, 8, .int .u64 0⟩
theorem aak : bw P 12 JY := bP (by kernel_rfl) (by kernel_rfl) (by kernel_rfl)
abbrev Ko : TI := ⟨.struct #[{ name := "msg", type := 9, offset := 0, embedded := false, tag := "", pkgPath := "runtime", byteOffset := 0 }, { name := "addr", type := 12, offset := 1, embedded := false, tag := "", pkgPath := "runtime", byteOffset := 16 }], 2, 24, .tuple []⟩
theorem abm : bw P 13 Ko := fM (by kernel_rfl) (by kernel_rfl) rfl
abbrev Fp : TI := ⟨.struct #[{ name := "msg", type := 9, offset := 0, embedded := false, tag := "", pkgPath := "runtime", byteOffset := 0 }, { name := "addr", type := 12, offset := 1, embedded := false, tag := "", pkgPath := "runtime", byteOffset := 16 }], 2, 24, .tuple []⟩
theorem aaW : bw P 14 Fp := fM (by kernel_rfl) (by kernel_rfl) rfl
abbrev HW : TI := ⟨.pointer 246, 1, 8, .tuple []⟩
theorem S7 : bw P 15 HW := fM (by kernel_rfl) (by kernel_rfl) rfl
abbrev I9 : TI := ⟨.pointer 249, 1, 8, .tuple []⟩
theorem LH : bw P 16 I9 := fM (by kernel_rfl) (by kernel_rfl) rfl
abbrev CQ : TI := ⟨.pointer 258, 1, 8, .tuple []⟩
theorem Qb : bw P 17 CQ := fM (by kernel_rfl) (by kernel_rfl) rfl
abbrev E0 : TI := ⟨.struct #[{ name := "typ", type := 17, offset := 0, embedded := false, tag := "", pkgPath := "internal/runtime/maps", byteOffset := 0 }], 1, 8, .tuple []⟩
theorem Nv : bw P 18 E0 := fM (by kernel_rfl) (by kernel_rfl) rfl
abbrev I8 : TI := ⟨.struct #[{ name := "typ", type := 17, offset := 0, embedded := false, tag := "", pkgPath := "internal/runtime/maps", byteOffset := 0 }], 1, 8, .tuple []⟩
theorem QT : bw P 19 I8 := fM (by kernel_rfl) (by kernel_rfl) rfl
abbrev H6 : TI := ⟨.int .i32, 1, 4, .int .i32 0⟩
theorem RC : bw P 21 H6 := bP (by kernel_rfl) (by kernel_rfl) (by kernel_rfl)
abbrev HZ : TI := ⟨.slice 3, 1, 24, .nil⟩
theorem aa4 : bw P 22 HZ := bP (by kernel_rfl) (by kernel_rfl) (by kernel_rfl)
abbrev FT : TI := ⟨.slice 42, 1, 24, .nil⟩
theorem NB : bw P 25 FT := bP (by kernel_rfl) (by kernel_rfl) (by kernel_rfl)
abbrev EJ : TI := ⟨.slice 123, 1, 24, .nil⟩
theorem OY : bw P 26 EJ := bP (by kernel_rfl) (by kernel_rfl) (by kernel_rfl)
abbrev Gz : TI := ⟨.struct #[{ name := "Degree", type := 3, offset := 0, embedded := false, tag := "", pkgPath := "", byteOffset := 0 }, { name := "Knots", type := 25, offset := 1, embedded := false, tag := "", pkgPath := "", byteOffset := 8 }, { name := "Poles", type := 26, offset := 2, embedded := false, tag := "", pkgPath := "", byteOffset := 32 }], 3, 56, .agg [.int .i64 0, .nil, .nil]⟩
theorem RW : bw P 27 Gz := bP (by kernel_rfl) (by kernel_rfl) (by kernel_rfl)
abbrev Dz : TI := ⟨.struct #[{ name := "Degree", type := 3, offset := 0, embedded := false, tag := "", pkgPath := "", byteOffset := 0 }, { name := "Knots", type := 25, offset := 1, embedded := false, tag := "", pkgPath := "", byteOffset := 8 }, { name := "Poles", type := 26, offset := 2, embedded := false, tag := "", pkgPath := "", byteOffset := 32 }], 3, 56, .agg [.int .i64 0, .nil, .nil]⟩
theorem Yh : bw P 28 Dz := bP (by kernel_rfl) (by kernel_rfl) (by kernel_rfl)
abbrev JD : TI := ⟨.pointer 120, 1, 8, .tuple []⟩
theorem Nu : bw P 29 JD := fM (by kernel_rfl) (by kernel_rfl) rfl
abbrev Jw : TI := ⟨.slice 26, 1, 24, .nil⟩
theorem OT : bw P 33 Jw := bP (by kernel_rfl) (by kernel_rfl) (by kernel_rfl)
abbrev FP : TI := ⟨.struct #[{ name := "U", type := 3, offset := 0, embedded := false, tag := "", pkgPath := "", byteOffset := 0 }, { name := "V", type := 3, offset := 1, embedded := false, tag := "", pkgPath := "", byteOffset := 8 }, { name := "KnotsU", type := 25, offset := 2, embedded := false, tag := "", pkgPath := "", byteOffset := 16 }, { name := "KnotsV", type := 25, offset := 3, embedded := false, tag := "", pkgPath := "", byteOffset := 40 }, { name := "Poles", type := 33, offset := 4, embedded := false, tag := "", pkgPath := "", byteOffset := 64 }], 5, 88, .agg [.int .i64 0, .int .i64 0, .nil, .nil, .nil]⟩
theorem Xs : bw P 34 FP := bP (by kernel_rfl) (by kernel_rfl) (by kernel_rfl)
abbrev Ep : TI := ⟨.struct #[{ name := "U", type := 3, offset := 0, embedded := false, tag := "", pkgPath := "", byteOffset := 0 }, { name := "V", type := 3, offset := 1, embedded := false, tag := "", pkgPath := "", byteOffset := 8 }, { name := "KnotsU", type := 25, offset := 2, embedded := false, tag := "", pkgPath := "", byteOffset := 16 }, { name := "KnotsV", type := 25, offset := 3, embedded := false, tag := "", pkgPath := "", byteOffset := 40 }, { name := "Poles", type := 33, offset := 4, embedded := false, tag := "", pkgPath := "", byteOffset := 64 }], 5, 88, .agg [.int .i64 0, .int .i64 0, .nil, .nil, .nil]⟩
theorem Ny : bw P 35 Ep := bP (by kernel_rfl) (by kernel_rfl) (by kernel_rfl)
abbrev Dr : TI := ⟨.int .i64, 1, 8, .int .i64 0⟩
theorem aad : bw P 36 Dr := bP (by kernel_rfl) (by kernel_rfl) (by kernel_rfl)
abbrev I5 : TI := ⟨.slice 188, 1, 24, .nil⟩
theorem Rw : bw P 40 I5 := bP (by kernel_rfl) (by kernel_rfl) (by kernel_rfl)
abbrev Fs : TI := ⟨.struct #[{ name := "Neg", type := 4, offset := 0, embedded := false, tag := "", pkgPath := "", byteOffset := 0 }, { name := "Num", type := 40, offset := 1, embedded := false, tag := "", pkgPath := "", byteOffset := 8 }, { name := "Den", type := 40, offset := 2, embedded := false, tag := "", pkgPath := "", byteOffset := 32 }], 3, 56, .agg [.bool false, .nil, .nil]⟩
theorem Up : bw P 41 Fs := bP (by kernel_rfl) (by kernel_rfl) (by kernel_rfl)
abbrev JG : TI := ⟨.struct #[{ name := "Neg", type := 4, offset := 0, embedded := false, tag := "", pkgPath := "", byteOffset := 0 }, { name := "Num", type := 40, offset := 1, embedded := false, tag := "", pkgPath := "", byteOffset := 8 }, { name := "Den", type := 40, offset := 2, embedded := false, tag := "", pkgPath := "", byteOffset := 32 }], 3, 56, .rat 0 1⟩
theorem Nb : bw P 42 JG := bP (by kernel_rfl) (by kernel_rfl) (by kernel_rfl)
abbrev CJ : TI := ⟨.struct #[{ name := "Lo", type := 42, offset := 0, embedded := false, tag := "", pkgPath := "", byteOffset := 0 }, { name := "Hi", type := 42, offset := 3, embedded := false, tag := "", pkgPath := "", byteOffset := 56 }], 6, 112, .agg [.rat 0 1, .rat 0 1]⟩
theorem M7 : bw P 43 CJ := bP (by kernel_rfl) (by kernel_rfl) (by kernel_rfl)
abbrev Fx : TI := ⟨.struct #[{ name := "Lo", type := 42, offset := 0, embedded := false, tag := "", pkgPath := "", byteOffset := 0 }, { name := "Hi", type := 42, offset := 3, embedded := false, tag := "", pkgPath := "", byteOffset := 56 }], 6, 112, .agg [.rat 0 1, .rat 0 1]⟩
theorem Lj : bw P 44 Fx := bP (by kernel_rfl) (by kernel_rfl) (by kernel_rfl)
abbrev DX : TI := ⟨.array 3 42, 9, 168, .agg [.rat 0 1, .rat 0 1, .rat 0 1]⟩
theorem MT : bw P 48 DX := bP (by kernel_rfl) (by kernel_rfl) (by kernel_rfl)
abbrev F6 : TI := ⟨.array 3 42, 9, 168, .agg [.rat 0 1, .rat 0 1, .rat 0 1]⟩
theorem Te : bw P 49 F6 := bP (by kernel_rfl) (by kernel_rfl) (by kernel_rfl)
abbrev FM : TI := ⟨.array 3 49, 27, 504, .agg [.agg [.rat 0 1, .rat 0 1, .rat 0 1], .agg [.rat 0 1, .rat 0 1, .rat 0 1], .agg [.rat 0 1, .rat 0 1, .rat 0 1]]⟩
theorem P6 : bw P 58 FM := bP (by kernel_rfl) (by kernel_rfl) (by kernel_rfl)
abbrev Kc : TI := ⟨.struct #[{ name := "M", type := 58, offset := 0, embedded := false, tag := "", pkgPath := "", byteOffset := 0 }, { name := "T", type := 49, offset := 27, embedded := false, tag := "", pkgPath := "", byteOffset := 504 }], 36, 672, .agg [.agg [.agg [.rat 0 1, .rat 0 1, .rat 0 1], .agg [.rat 0 1, .rat 0 1, .rat 0 1], .agg [.rat 0 1, .rat 0 1, .rat 0 1]], .agg [.rat 0 1, .rat 0 1, .rat 0 1]]⟩
theorem LJ : bw P 59 Kc := bP (by kernel_rfl) (by kernel_rfl) (by kernel_rfl)
abbrev DV : TI := ⟨.struct #[{ name := "M", type := 58, offset := 0, embedded := false, tag := "", pkgPath := "", byteOffset := 0 }, { name := "T", type := 49, offset := 27, embedded := false, tag := "", pkgPath := "", byteOffset := 504 }], 36, 672, .agg [.agg [.agg [.rat 0 1, .rat 0 1, .rat 0 1], .agg [.rat 0 1, .rat 0 1, .rat 0 1], .agg [.rat 0 1, .rat 0 1, .rat 0 1]], .agg [.rat 0 1, .rat 0 1, .rat 0 1]]⟩
theorem WI : bw P 60 DV := bP (by kernel_rfl) (by kernel_rfl) (by kernel_rfl)
abbrev DL : TI := ⟨.slice 49, 1, 24, .nil⟩
theorem KF : bw P 82 DL := bP (by kernel_rfl) (by kernel_rfl) (by kernel_rfl)
abbrev Ek : TI := ⟨.slice 103, 1, 24, .nil⟩
theorem Ye : bw P 98 Ek := bP (by kernel_rfl) (by kernel_rfl) (by kernel_rfl)
abbrev FH : TI := ⟨.slice 44, 1, 24, .nil⟩
theorem Zp : bw P 101 FH := bP (by kernel_rfl) (by kernel_rfl) (by kernel_rfl)
abbrev CW : TI := ⟨.struct #[{ name := "A", type := 101, offset := 0, embedded := false, tag := "", pkgPath := "", byteOffset := 0 }, { name := "B", type := 101, offset := 1, embedded := false, tag := "", pkgPath := "", byteOffset := 24 }, { name := "Kind", type := 3, offset := 2, embedded := false, tag := "", pkgPath := "", byteOffset := 48 }, { name := "K", type := 3, offset := 3, embedded := false, tag := "", pkgPath := "", byteOffset := 56 }], 4, 64, .agg [.nil, .nil, .int .i64 0, .int .i64 0]⟩
theorem Wi : bw P 102 CW := bP (by kernel_rfl) (by kernel_rfl) (by kernel_rfl)
abbrev GH : TI := ⟨.struct #[{ name := "A", type := 101, offset := 0, embedded := false, tag := "", pkgPath := "", byteOffset := 0 }, { name := "B", type := 101, offset := 1, embedded := false, tag := "", pkgPath := "", byteOffset := 24 }, { name := "Kind", type := 3, offset := 2, embedded := false, tag := "", pkgPath := "", byteOffset := 48 }, { name := "K", type := 3, offset := 3, embedded := false, tag := "", pkgPath := "", byteOffset := 56 }], 4, 64, .agg [.nil, .nil, .int .i64 0, .int .i64 0]⟩
theorem OF : bw P 103 GH := bP (by kernel_rfl) (by kernel_rfl) (by kernel_rfl)
abbrev Ed : TI := ⟨.slice 22, 1, 24, .nil⟩
theorem Mk : bw P 111 Ed := bP (by kernel_rfl) (by kernel_rfl) (by kernel_rfl)
abbrev Et : TI := ⟨.struct #[{ name := "L", type := 22, offset := 0, embedded := false, tag := "", pkgPath := "", byteOffset := 0 }, { name := "At", type := 3, offset := 1, embedded := false, tag := "", pkgPath := "", byteOffset := 24 }], 2, 32, .agg [.nil, .int .i64 0]⟩
theorem KW : bw P 119 Et := bP (by kernel_rfl) (by kernel_rfl) (by kernel_rfl)
abbrev Ix : TI := ⟨.struct #[{ name := "L", type := 22, offset := 0, embedded := false, tag := "", pkgPath := "", byteOffset := 0 }, { name := "At", type := 3, offset := 1, embedded := false, tag := "", pkgPath := "", byteOffset := 24 }], 2, 32, .agg [.nil, .int .i64 0]⟩
theorem PO : bw P 120 Ix := bP (by kernel_rfl) (by kernel_rfl) (by kernel_rfl)
abbrev Hj : TI := ⟨.struct #[{ name := "P", type := 49, offset := 0, embedded := false, tag := "", pkgPath := "", byteOffset := 0 }, { name := "W", type := 42, offset := 9, embedded := false, tag := "", pkgPath := "", byteOffset := 168 }], 12, 224, .agg [.agg [.rat 0 1, .rat 0 1, .rat 0 1], .rat 0 1]⟩
theorem Xw : bw P 122 Hj := bP (by kernel_rfl) (by kernel_rfl) (by kernel_rfl)
abbrev Gy : TI := ⟨.struct #[{ name := "P", type := 49, offset := 0, embedded := false, tag := "", pkgPath := "", byteOffset := 0 }, { name := "W", type := 42, offset := 9, embedded := false, tag := "", pkgPath := "", byteOffset := 168 }], 12, 224, .agg [.agg [.rat 0 1, .rat 0 1, .rat 0 1], .rat 0 1]⟩
theorem KI : bw P 123 Gy := bP (by kernel_rfl) (by kernel_rfl) (by kernel_rfl)
abbrev Fb : TI := ⟨.array 3 2, 3, 24, .agg [.int .i64 0, .int .i64 0, .int .i64 0]⟩
theorem Li : bw P 127 Fb := bP (by kernel_rfl) (by kernel_rfl) (by kernel_rfl)
abbrev HK : TI := ⟨.array 9 127, 27, 216, .agg [.agg [.int .i64 0, .int .i64 0, .int .i64 0], .agg [.int .i64 0, .int .i64 0, .int .i64 0], .agg [.int .i64 0, .int .i64 0, .int .i64 0], .agg [.int .i64 0, .int .i64 0, .int .i64 0], .agg [.int .i64 0, .int .i64 0, .int .i64 0], .agg [.int .i64 0, .int .i64 0, .int .i64 0], .agg [.int .i64 0, .int .i64 0, .int .i64 0], .agg [.int .i64 0, .int .i64 0, .int .i64 0], .agg [.int .i64 0, .int .i64 0, .int .i64 0]]⟩
theorem Ud : bw P 128 HK := bP (by kernel_rfl) (by kernel_rfl) (by kernel_rfl)
abbrev Io : TI := ⟨.slice 127, 1, 24, .nil⟩
theorem Zl : bw P 130 Io := bP (by kernel_rfl) (by kernel_rfl) (by kernel_rfl)
abbrev JM : TI := ⟨.array 4 42, 12, 224, .agg [.rat 0 1, .rat 0 1, .rat 0 1, .rat 0 1]⟩
theorem Zo : bw P 140 JM := bP (by kernel_rfl) (by kernel_rfl) (by kernel_rfl)
abbrev Dh : TI := ⟨.slice 28, 1, 24, .nil⟩
theorem RP : bw P 151 Dh := bP (by kernel_rfl) (by kernel_rfl) (by kernel_rfl)
abbrev Dk : TI := ⟨.slice 2, 1, 24, .nil⟩
theorem abx : bw P 161 Dk := bP (by kernel_rfl) (by kernel_rfl) (by kernel_rfl)
abbrev I0 : TI := ⟨.slice 4, 1, 24, .nil⟩
theorem aa9 : bw P 175 I0 := bP (by kernel_rfl) (by kernel_rfl) (by kernel_rfl)
abbrev Jl : TI := ⟨.int .u64, 1, 8, .int .u64 0⟩
theorem US : bw P 183 Jl := bP (by kernel_rfl) (by kernel_rfl) (by kernel_rfl)
abbrev Ki : TI := ⟨.int .u32, 1, 4, .int .u32 0⟩
theorem Wq : bw P 188 Ki := bP (by kernel_rfl) (by kernel_rfl) (by kernel_rfl)
abbrev I3 : TI := ⟨.int .u64, 1, 8, .int .u64 0⟩
theorem Rx : bw P 202 I3 := bP (by kernel_rfl) (by kernel_rfl) (by kernel_rfl)
abbrev Jo : TI := ⟨.slice 5, 1, 24, .nil⟩
theorem Kp : bw P 209 Jo := bP (by kernel_rfl) (by kernel_rfl) (by kernel_rfl)
abbrev EN : TI := ⟨.slice 101, 1, 24, .nil⟩
theorem XX : bw P 223 EN := bP (by kernel_rfl) (by kernel_rfl) (by kernel_rfl)
abbrev F3 : TI := ⟨.int .i64, 1, 8, .int .i64 0⟩
theorem MO : bw P 227 F3 := bP (by kernel_rfl) (by kernel_rfl) (by kernel_rfl)
abbrev DG : TI := ⟨.int .u64, 1, 8, .int .u64 0⟩
theorem Sp : bw P 235 DG := bP (by kernel_rfl) (by kernel_rfl) (by kernel_rfl)
abbrev Dj : TI := ⟨.pointer 3, 1, 8, .tuple []⟩
theorem KQ : bw P 239 Dj := fM (by kernel_rfl) (by kernel_rfl) rfl
abbrev CP : TI := ⟨.pointer 235, 1, 8, .tuple []⟩
theorem RI : bw P 241 CP := fM (by kernel_rfl) (by kernel_rfl) rfl
abbrev HR : TI := ⟨.struct #[{ name := "_interface", type := 17, offset := 0, embedded := false, tag := "", pkgPath := "runtime", byteOffset := 0 }, { name := "concrete", type := 17, offset := 1, embedded := false, tag := "", pkgPath := "runtime", byteOffset := 8 }, { name := "asserted", type := 17, offset := 2, embedded := false, tag := "", pkgPath := "runtime", byteOffset := 16 }, { name := "missingMethod", type := 9, offset := 3, embedded := false, tag := "", pkgPath := "runtime", byteOffset := 24 }], 4, 40, .tuple []⟩
theorem aa0 : bw P 245 HR := fM (by kernel_rfl) (by kernel_rfl) rfl
abbrev JL : TI := ⟨.struct #[{ name := "_interface", type := 17, offset := 0, embedded := false, tag := "", pkgPath := "runtime", byteOffset := 0 }, { name := "concrete", type := 17, offset := 1, embedded := false, tag := "", pkgPath := "runtime", byteOffset := 8 }, { name := "asserted", type := 17, offset := 2, embedded := false, tag := "", pkgPath := "runtime", byteOffset := 16 }, { name := "missingMethod", type := 9, offset := 3, embedded := false, tag := "", pkgPath := "runtime", byteOffset := 24 }], 4, 40, .tuple []⟩
theorem Q7 : bw P 246 JL := fM (by kernel_rfl) (by kernel_rfl) rfl
abbrev HX : TI := ⟨.int .u8, 1, 1, .int .u8 0⟩
theorem Qo : bw P 251 HX := bP (by kernel_rfl) (by kernel_rfl) (by kernel_rfl)
abbrev EM : TI := ⟨.int .u8, 1, 1, .int .u8 0⟩
theorem Yn : bw P 252 EM := bP (by kernel_rfl) (by kernel_rfl) (by kernel_rfl)
abbrev IX : TI := ⟨.pointer 5, 1, 8, .tuple []⟩
theorem Oc : bw P 254 IX := fM (by kernel_rfl) (by kernel_rfl) rfl
abbrev IN : TI := ⟨.int .i32, 1, 4, .int .i32 0⟩
theorem T9 : bw P 255 IN := bP (by kernel_rfl) (by kernel_rfl) (by kernel_rfl)
abbrev J8 : TI := ⟨.int .i32, 1, 4, .int .i32 0⟩
theorem Rg : bw P 256 J8 := bP (by kernel_rfl) (by kernel_rfl) (by kernel_rfl)
abbrev Ja : TI := ⟨.struct #[{ name := "Size_", type := 12, offset := 0, embedded := false, tag := "", pkgPath := "", byteOffset := 0 }, { name := "PtrBytes", type := 12, offset := 1, embedded := false, tag := "", pkgPath := "", byteOffset := 8 }, { name := "Hash", type := 188, offset := 2, embedded := false, tag := "", pkgPath := "", byteOffset := 16 }, { name := "TFlag", type := 251, offset := 3, embedded := false, tag := "", pkgPath := "", byteOffset := 20 }, { name := "Align_", type := 5, offset := 4, embedded := false, tag := "", pkgPath := "", byteOffset := 21 }, { name := "FieldAlign_", type := 5, offset := 5, embedded := false, tag := "", pkgPath := "", byteOffset := 22 }, { name := "Kind_", type := 252, offset := 6, embedded := false, tag := "", pkgPath := "", byteOffset := 23 }, { name := "Equal", type := 253, offset := 7, embedded := false, tag := "", pkgPath := "", byteOffset := 24 }, { name := "GCData", type := 254, offset := 8, embedded := false, tag := "", pkgPath := "", byteOffset := 32 }, { name := "Str", type := 255, offset := 9, embedded := false, tag := "", pkgPath := "", byteOffset := 40 }, { name := "PtrToThis", type := 256, offset := 10, embedded := false, tag := "", pkgPath := "", byteOffset := 44 }], 11, 48, .tuple []⟩
theorem QZ : bw P 257 Ja := fM (by kernel_rfl) (by kernel_rfl) rfl
abbrev Dl : TI := ⟨.struct #[{ name := "Size_", type := 12, offset := 0, embedded := false, tag := "", pkgPath := "", byteOffset := 0 }, { name := "PtrBytes", type := 12, offset := 1, embedded := false, tag := "", pkgPath := "", byteOffset := 8 }, { name := "Hash", type := 188, offset := 2, embedded := false, tag := "", pkgPath := "", byteOffset := 16 }, { name := "TFlag", type := 251, offset := 3, embedded := false, tag := "", pkgPath := "", byteOffset := 20 }, { name := "Align_", type := 5, offset := 4, embedded := false, tag := "", pkgPath := "", byteOffset := 21 }, { name := "FieldAlign_", type := 5, offset := 5, embedded := false, tag := "", pkgPath := "", byteOffset := 22 }, { name := "Kind_", type := 252, offset := 6, embedded := false, tag := "", pkgPath := "", byteOffset := 23 }, { name := "Equal", type := 253, offset := 7, embedded := false, tag := "", pkgPath := "", byteOffset := 24 }, { name := "GCData", type := 254, offset := 8, embedded := false, tag := "", pkgPath := "", byteOffset := 32 }, { name := "Str", type := 255, offset := 9, embedded := false, tag := "", pkgPath := "", byteOffset := 40 }, { name := "PtrToThis", type := 256, offset := 10, embedded := false, tag := "", pkgPath := "", byteOffset := 44 }], 11, 48, .tuple []⟩
theorem Zr : bw P 258 Dl := fM (by kernel_rfl) (by kernel_rfl) rfl
abbrev T : Types := [(2, EV), (3, CO), (4, Im), (5, FY), (6, EW), (7, GB), (8, ET), (9, Il), (10, Iw), (11, HY), (12, JY), (13, Ko), (14, Fp), (15, HW), (16, I9), (17, CQ), (18, E0), (19, I8), (21, H6), (22, HZ), (25, FT), (26, EJ), (27, Gz), (28, Dz), (29, JD), (33, Jw), (34, FP), (35, Ep), (36, Dr), (40, I5), (41, Fs), (42, JG), (43, CJ), (44, Fx), (48, DX), (49, F6), (58, FM), (59, Kc), (60, DV), (82, DL), (98, Ek), (101, FH), (102, CW), (103, GH), (111, Ed), (119, Et), (120, Ix), (122, Hj), (123, Gy), (127, Fb), (128, HK), (130, Io), (140, JM), (151, Dh), (161, Dk), (175, I0), (183, Jl), (188, Ki), (202, I3), (209, Jo), (223, EN), (227, F3), (235, DG), (239, Dj), (241, CP), (245, HR), (246, JL), (251, HX), (252, EM), (254, IX), (255, IN), (256, J8), (257, Ja), (258, Dl)]
theorem hT : dK P T := bz WJ (bz Uy (bz Yw (bz O3 (bz Vr (bz Nh (bz U5 (bz TX (bz RE (bz XS (bz aak (bz abm (bz aaW (bz S7 (bz LH (bz Qb (bz Nv (bz QT (bz RC (bz aa4 (bz NB (bz OY (bz RW (bz Yh (bz Nu (bz OT (bz Xs (bz Ny (bz aad (bz Rw (bz Up (bz Nb (bz M7 (bz Lj (bz MT (bz Te (bz P6 (bz LJ (bz WI (bz KF (bz Ye (bz Zp (bz Wi (bz OF (bz Mk (bz KW (bz PO (bz Xw (bz KI (bz Li (bz Ud (bz Zl (bz Zo (bz RP (bz abx (bz aa9 (bz US (bz Wq (bz Rx (bz Kp (bz XX (bz MO (bz Sp (bz KQ (bz RI (bz aa0 (bz Q7 (bz Qo (bz Yn (bz Oc (bz T9 (bz Rg (bz QZ (bz Zr (Th))))))))))))))))))))))))))))))))))))))))))))))))))))))))))))))))))))))))))
end Go.Am.N
