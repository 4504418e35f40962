/- The seat's names: the numbers of functions, the types. Written by a program. -/
import Derived.Test.YtbghpkgbokbmlaaGreatZ1
import Derived.Test.YtbghpkgbokbmlaaGreatProg
import Derived.KernelRfl
set_option linter.unusedVariables false
namespace Go.Am.N
open Go.Proofs
noncomputable abbrev P : Program := Tryz.prog
theorem hm : P.follows .mixedOrders = true := by kernel_rfl
abbrev CF : FuncId := 8
noncomputable abbrev jh : Func := Tryz.f8
theorem WZ : P.funcs[CF]? = some jh := Tryz.func8
abbrev yb : FuncId := 10
noncomputable abbrev sS : Func := Tryz.f10
theorem Pp : P.funcs[yb]? = some sS := Tryz.func10
abbrev yt : FuncId := 11
noncomputable abbrev AG : Func := Tryz.f11
theorem abD : P.funcs[yt]? = some AG := Tryz.func11
abbrev yA : FuncId := 12
noncomputable abbrev zm : Func := Tryz.f12
theorem acs : P.funcs[yA]? = some zm := Tryz.func12
abbrev wB : FuncId := 13
noncomputable abbrev uC : Func := Tryz.f13
theorem Xi : P.funcs[wB]? = some uC := Tryz.func13
abbrev qP : FuncId := 14
noncomputable abbrev rS : Func := Tryz.f14
theorem MI : P.funcs[qP]? = some rS := Tryz.func14
abbrev E8 : FuncId := 15
noncomputable abbrev Fh : Func := Tryz.f15
theorem NU : P.funcs[E8]? = some Fh := Tryz.func15
abbrev uH : FuncId := 16
noncomputable abbrev r9 : Func := Tryz.f16
theorem acy : P.funcs[uH]? = some r9 := Tryz.func16
abbrev K0 : FuncId := 17
noncomputable abbrev Hj : Func := Tryz.f17
theorem YV : P.funcs[K0]? = some Hj := Tryz.func17
abbrev CN : FuncId := 18
noncomputable abbrev zw : Func := Tryz.f18
theorem Y6 : P.funcs[CN]? = some zw := Tryz.func18
abbrev zI : FuncId := 19
noncomputable abbrev rj : Func := Tryz.f19
theorem OA : P.funcs[zI]? = some rj := Tryz.func19
abbrev nY : FuncId := 20
noncomputable abbrev nK : Func := Tryz.f20
theorem WO : P.funcs[nY]? = some nK := Tryz.func20
abbrev qn : FuncId := 21
noncomputable abbrev tA : Func := Tryz.f21
theorem acQ : P.funcs[qn]? = some tA := Tryz.func21
abbrev tE : FuncId := 22
noncomputable abbrev uU : Func := Tryz.f22
theorem Rp : P.funcs[tE]? = some uU := Tryz.func22
abbrev EM : FuncId := 24
noncomputable abbrev Ex : Func := Tryz.f24
theorem abJ : P.funcs[EM]? = some Ex := Tryz.func24
abbrev KK : FuncId := 25
noncomputable abbrev Eo : Func := Tryz.f25
theorem S4 : P.funcs[KK]? = some Eo := Tryz.func25
abbrev ua : FuncId := 27
noncomputable abbrev tT : Func := Tryz.f27
theorem XJ : P.funcs[ua]? = some tT := Tryz.func27
abbrev HO : FuncId := 28
noncomputable abbrev HP : Func := Tryz.f28
theorem ac3 : P.funcs[HO]? = some HP := Tryz.func28
abbrev BU : FuncId := 29
noncomputable abbrev Ap : Func := Tryz.f29
theorem LK : P.funcs[BU]? = some Ap := Tryz.func29
abbrev DP : FuncId := 31
noncomputable abbrev D3 : Func := Tryz.f31
theorem Wr : P.funcs[DP]? = some D3 := Tryz.func31
abbrev iI : FuncId := 33
noncomputable abbrev tq : Func := Tryz.f33
theorem adi : P.funcs[iI]? = some tq := Tryz.func33
abbrev oq : FuncId := 38
noncomputable abbrev u5 : Func := Tryz.f38
theorem SE : P.funcs[oq]? = some u5 := Tryz.func38
abbrev rH : FuncId := 39
noncomputable abbrev wE : Func := Tryz.f39
theorem WN : P.funcs[rH]? = some wE := Tryz.func39
abbrev Gp : FuncId := 40
noncomputable abbrev HK : Func := Tryz.f40
theorem VR : P.funcs[Gp]? = some HK := Tryz.func40
abbrev vG : FuncId := 42
noncomputable abbrev uM : Func := Tryz.f42
theorem Od : P.funcs[vG]? = some uM := Tryz.func42
abbrev tW : FuncId := 43
noncomputable abbrev oC : Func := Tryz.f43
theorem abN : P.funcs[tW]? = some oC := Tryz.func43
abbrev FP : FuncId := 46
noncomputable abbrev Lt : Func := Tryz.f46
theorem ZQ : P.funcs[FP]? = some Lt := Tryz.func46
abbrev IC : FuncId := 47
noncomputable abbrev FI : Func := Tryz.f47
theorem acT : P.funcs[IC]? = some FI := Tryz.func47
abbrev rP : FuncId := 52
noncomputable abbrev uY : Func := Tryz.f52
theorem aaB : P.funcs[rP]? = some uY := Tryz.func52
abbrev v5 : FuncId := 55
noncomputable abbrev rL : Func := Tryz.f55
theorem UX : P.funcs[v5]? = some rL := Tryz.func55
abbrev tM : FuncId := 57
noncomputable abbrev tn : Func := Tryz.f57
theorem Ta : P.funcs[tM]? = some tn := Tryz.func57
abbrev rX : FuncId := 59
noncomputable abbrev sI : Func := Tryz.f59
theorem Mi : P.funcs[rX]? = some sI := Tryz.func59
abbrev DV : FuncId := 60
noncomputable abbrev G8 : Func := Tryz.f60
theorem acA : P.funcs[DV]? = some G8 := Tryz.func60
abbrev wV : FuncId := 61
noncomputable abbrev qj : Func := Tryz.f61
theorem Ti : P.funcs[wV]? = some qj := Tryz.func61
abbrev DH : FuncId := 62
noncomputable abbrev Ls : Func := Tryz.f62
theorem QO : P.funcs[DH]? = some Ls := Tryz.func62
abbrev Ea : FuncId := 63
noncomputable abbrev HH : Func := Tryz.f63
theorem Xy : P.funcs[Ea]? = some HH := Tryz.func63
abbrev mG : FuncId := 67
noncomputable abbrev uZ : Func := Tryz.f67
theorem abS : P.funcs[mG]? = some uZ := Tryz.func67
abbrev JV : FuncId := 79
noncomputable abbrev Ki : Func := Tryz.f79
theorem TB : P.funcs[JV]? = some Ki := Tryz.func79
abbrev l5 : FuncId := 80
noncomputable abbrev tH : Func := Tryz.f80
theorem Oy : P.funcs[l5]? = some tH := Tryz.func80
abbrev HE : FuncId := 81
noncomputable abbrev HN : Func := Tryz.f81
theorem QT : P.funcs[HE]? = some HN := Tryz.func81
abbrev ye : FuncId := 82
noncomputable abbrev vJ : Func := Tryz.f82
theorem Tg : P.funcs[ye]? = some vJ := Tryz.func82
abbrev Lj : FuncId := 83
noncomputable abbrev He : Func := Tryz.f83
theorem Rz : P.funcs[Lj]? = some He := Tryz.func83
abbrev uf : FuncId := 84
noncomputable abbrev vq : Func := Tryz.f84
theorem Ub : P.funcs[uf]? = some vq := Tryz.func84
abbrev zc : FuncId := 85
noncomputable abbrev vW : Func := Tryz.f85
theorem Ri : P.funcs[zc]? = some vW := Tryz.func85
abbrev Kq : FuncId := 86
noncomputable abbrev Hg : Func := Tryz.f86
theorem adn : P.funcs[Kq]? = some Hg := Tryz.func86
abbrev nJ : FuncId := 87
noncomputable abbrev qm : Func := Tryz.f87
theorem FX : P.funcs[nJ]? = some qm := Tryz.func87
abbrev FT : FuncId := 88
noncomputable abbrev Kt : Func := Tryz.f88
theorem L9 : P.funcs[FT]? = some Kt := Tryz.func88
abbrev oI : FuncId := 89
noncomputable abbrev tX : Func := Tryz.f89
theorem aat : P.funcs[oI]? = some tX := Tryz.func89
abbrev td : FuncId := 90
noncomputable abbrev sn : Func := Tryz.f90
theorem ac8 : P.funcs[td]? = some sn := Tryz.func90
abbrev uO : FuncId := 91
noncomputable abbrev tc : Func := Tryz.f91
theorem XO : P.funcs[uO]? = some tc := Tryz.func91
abbrev wM : FuncId := 92
noncomputable abbrev wH : Func := Tryz.f92
theorem WT : P.funcs[wM]? = some wH := Tryz.func92
abbrev uN : FuncId := 93
noncomputable abbrev vk : Func := Tryz.f93
theorem VF : P.funcs[uN]? = some vk := Tryz.func93
abbrev Cs : FuncId := 94
noncomputable abbrev yY : Func := Tryz.f94
theorem Q2 : P.funcs[Cs]? = some yY := Tryz.func94
abbrev nP : FuncId := 95
noncomputable abbrev wJ : Func := Tryz.f95
theorem Rr : P.funcs[nP]? = some wJ := Tryz.func95
abbrev sR : FuncId := 96
noncomputable abbrev lE : Func := Tryz.f96
theorem Pc : P.funcs[sR]? = some lE := Tryz.func96
abbrev wu : FuncId := 97
noncomputable abbrev ru : Func := Tryz.f97
theorem Qq : P.funcs[wu]? = some ru := Tryz.func97
abbrev pC : FuncId := 98
noncomputable abbrev wU : Func := Tryz.f98
theorem ada : P.funcs[pC]? = some wU := Tryz.func98
abbrev ni : FuncId := 99
noncomputable abbrev r7 : Func := Tryz.f99
theorem T4 : P.funcs[ni]? = some r7 := Tryz.func99
abbrev vl : FuncId := 100
noncomputable abbrev tS : Func := Tryz.f100
theorem TP : P.funcs[vl]? = some tS := Tryz.func100
abbrev r6 : FuncId := 101
noncomputable abbrev ry : Func := Tryz.f101
theorem XQ : P.funcs[r6]? = some ry := Tryz.func101
abbrev mA : FuncId := 102
noncomputable abbrev wK : Func := Tryz.f102
theorem Y2 : P.funcs[mA]? = some wK := Tryz.func102
abbrev l7 : FuncId := 103
noncomputable abbrev uJ : Func := Tryz.f103
theorem Wq : P.funcs[l7]? = some uJ := Tryz.func103
abbrev mQ : FuncId := 104
noncomputable abbrev uL : Func := Tryz.f104
theorem TC : P.funcs[mQ]? = some uL := Tryz.func104
abbrev lW : FuncId := 105
noncomputable abbrev mO : Func := Tryz.f105
theorem abf : P.funcs[lW]? = some mO := Tryz.func105
abbrev Eb : FuncId := 106
noncomputable abbrev EW : Func := Tryz.f106
theorem acC : P.funcs[Eb]? = some EW := Tryz.func106
abbrev zD : FuncId := 107
noncomputable abbrev um : Func := Tryz.f107
theorem Sw : P.funcs[zD]? = some um := Tryz.func107
abbrev zo : FuncId := 108
noncomputable abbrev tF : Func := Tryz.f108
theorem M4 : P.funcs[zo]? = some tF := Tryz.func108
abbrev wz : FuncId := 109
noncomputable abbrev wo : Func := Tryz.f109
theorem U0 : P.funcs[wz]? = some wo := Tryz.func109
abbrev B3 : FuncId := 110
noncomputable abbrev B8 : Func := Tryz.f110
theorem Lp : P.funcs[B3]? = some B8 := Tryz.func110
abbrev Dh : FuncId := 111
noncomputable abbrev C0 : Func := Tryz.f111
theorem GH : P.funcs[Dh]? = some C0 := Tryz.func111
abbrev tY : FuncId := 114
noncomputable abbrev q9 : Func := Tryz.f114
theorem Oz : P.funcs[tY]? = some q9 := Tryz.func114
abbrev tD : FuncId := 115
noncomputable abbrev uw : Func := Tryz.f115
theorem Na : P.funcs[tD]? = some uw := Tryz.func115
abbrev I5 : FuncId := 116
noncomputable abbrev EB : Func := Tryz.f116
theorem ab9 : P.funcs[I5]? = some EB := Tryz.func116
abbrev AN : FuncId := 117
noncomputable abbrev xW : Func := Tryz.f117
theorem Qh : P.funcs[AN]? = some xW := Tryz.func117
abbrev oM : FuncId := 119
noncomputable abbrev tu : Func := Tryz.f119
theorem SS : P.funcs[oM]? = some tu := Tryz.func119
abbrev EE : FuncId := 120
noncomputable abbrev Lf : Func := Tryz.f120
theorem Yz : P.funcs[EE]? = some Lf := Tryz.func120
abbrev ET : FuncId := 121
noncomputable abbrev LC : Func := Tryz.f121
theorem SD : P.funcs[ET]? = some LC := Tryz.func121
abbrev tJ : FuncId := 122
noncomputable abbrev n8 : Func := Tryz.f122
theorem abz : P.funcs[tJ]? = some n8 := Tryz.func122
abbrev vg : FuncId := 123
noncomputable abbrev rY : Func := Tryz.f123
theorem abY : P.funcs[vg]? = some rY := Tryz.func123
abbrev ug : FuncId := 124
noncomputable abbrev vi : Func := Tryz.f124
theorem V9 : P.funcs[ug]? = some vi := Tryz.func124
abbrev pB : FuncId := 125
noncomputable abbrev je : Func := Tryz.f125
theorem aci : P.funcs[pB]? = some je := Tryz.func125
abbrev ow : FuncId := 126
noncomputable abbrev tf : Func := Tryz.f126
theorem XM : P.funcs[ow]? = some tf := Tryz.func126
abbrev yW : FuncId := 127
noncomputable abbrev pY : Func := Tryz.f127
theorem Mz : P.funcs[yW]? = some pY := Tryz.func127
abbrev Kx : FuncId := 128
noncomputable abbrev Gd : Func := Tryz.f128
theorem OR : P.funcs[Kx]? = some Gd := Tryz.func128
abbrev I9 : FuncId := 131
noncomputable abbrev LM : Func := Tryz.f131
theorem aaQ : P.funcs[I9]? = some LM := Tryz.func131
abbrev zV : FuncId := 133
noncomputable abbrev vU : Func := Tryz.f133
theorem acr : P.funcs[zV]? = some vU := Tryz.func133
abbrev Li : FuncId := 134
noncomputable abbrev JL : Func := Tryz.f134
theorem S9 : P.funcs[Li]? = some JL := Tryz.func134
abbrev kf : FuncId := 135
noncomputable abbrev vj : Func := Tryz.f135
theorem LY : P.funcs[kf]? = some vj := Tryz.func135
abbrev qI : FuncId := 136
noncomputable abbrev rQ : Func := Tryz.f136
theorem TO : P.funcs[qI]? = some rQ := Tryz.func136
abbrev ya : FuncId := 138
noncomputable abbrev ta : Func := Tryz.f138
theorem aac : P.funcs[ya]? = some ta := Tryz.func138
abbrev x7 : FuncId := 139
noncomputable abbrev ri : Func := Tryz.f139
theorem ack : P.funcs[x7]? = some ri := Tryz.func139
abbrev nU : FuncId := 153
noncomputable abbrev sx : Func := Tryz.f153
theorem TX : P.funcs[nU]? = some sx := Tryz.func153
abbrev vD : FuncId := 154
noncomputable abbrev rU : Func := Tryz.f154
theorem Om : P.funcs[vD]? = some rU := Tryz.func154
abbrev uT : FuncId := 157
noncomputable abbrev sC : Func := Tryz.f157
theorem Ms : P.funcs[uT]? = some sC := Tryz.func157
abbrev tB : FuncId := 158
noncomputable abbrev kr : Func := Tryz.f158
theorem Ws : P.funcs[tB]? = some kr := Tryz.func158
abbrev o8 : FuncId := 159
noncomputable abbrev cS : Func := Tryz.f159
theorem YN : P.funcs[o8]? = some cS := Tryz.func159
abbrev s6 : FuncId := 160
noncomputable abbrev r8 : Func := Tryz.f160
theorem Ou : P.funcs[s6]? = some r8 := Tryz.func160
abbrev pV : FuncId := 161
noncomputable abbrev tg : Func := Tryz.f161
theorem Sq : P.funcs[pV]? = some tg := Tryz.func161
abbrev rM : FuncId := 162
noncomputable abbrev en : Func := Tryz.f162
theorem ac0 : P.funcs[rM]? = some en := Tryz.func162
abbrev sk : FuncId := 163
noncomputable abbrev rm : Func := Tryz.f163
theorem ZU : P.funcs[sk]? = some rm := Tryz.func163
abbrev qv : FuncId := 164
noncomputable abbrev uP : Func := Tryz.f164
theorem O7 : P.funcs[qv]? = some uP := Tryz.func164
abbrev vP : FuncId := 165
noncomputable abbrev gO : Func := Tryz.f165
theorem VT : P.funcs[vP]? = some gO := Tryz.func165
abbrev uv : FuncId := 166
noncomputable abbrev rF : Func := Tryz.f166
theorem Rc : P.funcs[uv]? = some rF := Tryz.func166
abbrev xJ : FuncId := 167
noncomputable abbrev ue : Func := Tryz.f167
theorem WC : P.funcs[xJ]? = some ue := Tryz.func167
abbrev pI : FuncId := 168
noncomputable abbrev hH : Func := Tryz.f168
theorem R6 : P.funcs[pI]? = some hH := Tryz.func168
abbrev y5 : FuncId := 169
noncomputable abbrev qW : Func := Tryz.f169
theorem P5 : P.funcs[y5]? = some qW := Tryz.func169
abbrev v7 : FuncId := 170
noncomputable abbrev rC : Func := Tryz.f170
theorem Nm : P.funcs[v7]? = some rC := Tryz.func170
abbrev xO : FuncId := 171
noncomputable abbrev vE : Func := Tryz.f171
theorem WK : P.funcs[xO]? = some vE := Tryz.func171
abbrev tK : FuncId := 172
noncomputable abbrev fH : Func := Tryz.f172
theorem M7 : P.funcs[tK]? = some fH := Tryz.func172
abbrev uQ : FuncId := 173
noncomputable abbrev tG : Func := Tryz.f173
theorem Um : P.funcs[uQ]? = some tG := Tryz.func173
abbrev v8 : FuncId := 174
noncomputable abbrev vM : Func := Tryz.f174
theorem Rd : P.funcs[v8]? = some vM := Tryz.func174
abbrev vr : FuncId := 175
noncomputable abbrev sj : Func := Tryz.f175
theorem Yv : P.funcs[vr]? = some sj := Tryz.func175
abbrev rE : FuncId := 176
noncomputable abbrev vf : Func := Tryz.f176
theorem NJ : P.funcs[rE]? = some vf := Tryz.func176
abbrev BZ : FuncId := 177
noncomputable abbrev xP : Func := Tryz.f177
theorem OS : P.funcs[BZ]? = some xP := Tryz.func177
abbrev uX : FuncId := 178
noncomputable abbrev vw : Func := Tryz.f178
theorem ach : P.funcs[uX]? = some vw := Tryz.func178
abbrev BL : FuncId := 179
noncomputable abbrev Cr : Func := Tryz.f179
theorem JJ : P.funcs[BL]? = some Cr := Tryz.func179
abbrev AH : FuncId := 180
noncomputable abbrev CC : Func := Tryz.f180
theorem HQ : P.funcs[AH]? = some CC := Tryz.func180
abbrev mh : FuncId := 183
noncomputable abbrev wk : Func := Tryz.f183
theorem Sh : P.funcs[mh]? = some wk := Tryz.func183
abbrev we : FuncId := 184
noncomputable abbrev rW : Func := Tryz.f184
theorem ac5 : P.funcs[we]? = some rW := Tryz.func184
abbrev lF : FuncId := 185
noncomputable abbrev js : Func := Tryz.f185
theorem MT : P.funcs[lF]? = some js := Tryz.func185
abbrev qE : FuncId := 186
noncomputable abbrev eZ : Func := Tryz.f186
theorem QC : P.funcs[qE]? = some eZ := Tryz.func186
abbrev wO : FuncId := 187
noncomputable abbrev rG : Func := Tryz.f187
theorem Py : P.funcs[wO]? = some rG := Tryz.func187
abbrev ql : FuncId := 188
noncomputable abbrev l9 : Func := Tryz.f188
theorem Zx : P.funcs[ql]? = some l9 := Tryz.func188
abbrev xm : FuncId := 190
noncomputable abbrev sw : Func := Tryz.f190
theorem LP : P.funcs[xm]? = some sw := Tryz.func190
abbrev za : FuncId := 191
noncomputable abbrev wQ : Func := Tryz.f191
theorem MN : P.funcs[za]? = some wQ := Tryz.func191
abbrev n6 : FuncId := 196
noncomputable abbrev mC : Func := Tryz.f196
theorem VS : P.funcs[n6]? = some mC := Tryz.func196
abbrev qk : FuncId := 199
noncomputable abbrev nq : Func := Tryz.f199
theorem Z6 : P.funcs[qk]? = some nq := Tryz.func199
abbrev rN : FuncId := 200
noncomputable abbrev ng : Func := Tryz.f200
theorem abU : P.funcs[rN]? = some ng := Tryz.func200
abbrev th : FuncId := 201
noncomputable abbrev fT : Func := Tryz.f201
theorem UI : P.funcs[th]? = some fT := Tryz.func201
abbrev qg : FuncId := 202
noncomputable abbrev cT : Func := Tryz.f202
theorem ME : P.funcs[qg]? = some cT := Tryz.func202
abbrev pK : FuncId := 203
noncomputable abbrev gq : Func := Tryz.f203
theorem LQ : P.funcs[pK]? = some gq := Tryz.func203
abbrev qQ : FuncId := 204
noncomputable abbrev s9 : Func := Tryz.f204
theorem Rv : P.funcs[qQ]? = some s9 := Tryz.func204
abbrev AP : FuncId := 205
noncomputable abbrev YZ : Func := Tryz.f205
theorem ab1 : P.funcs[AP]? = some YZ := Tryz.func205
abbrev tv : FuncId := 206
noncomputable abbrev jm : Func := Tryz.f206
theorem Ml : P.funcs[tv]? = some jm := Tryz.func206
abbrev uR : FuncId := 207
noncomputable abbrev mU : Func := Tryz.f207
theorem VZ : P.funcs[uR]? = some mU := Tryz.func207
abbrev vL : FuncId := 208
noncomputable abbrev nM : Func := Tryz.f208
theorem adr : P.funcs[vL]? = some nM := Tryz.func208
abbrev nS : FuncId := 209
noncomputable abbrev fI : Func := Tryz.f209
theorem L7 : P.funcs[nS]? = some fI := Tryz.func209
abbrev qD : FuncId := 210
noncomputable abbrev wA : Func := Tryz.f210
theorem VH : P.funcs[qD]? = some wA := Tryz.func210
abbrev qb : FuncId := 211
noncomputable abbrev lP : Func := Tryz.f211
theorem adH : P.funcs[qb]? = some lP := Tryz.func211
abbrev rD : FuncId := 212
noncomputable abbrev nw : Func := Tryz.f212
theorem SF : P.funcs[rD]? = some nw := Tryz.func212
abbrev sr : FuncId := 213
noncomputable abbrev nD : Func := Tryz.f213
theorem WA : P.funcs[sr]? = some nD := Tryz.func213
abbrev oL : FuncId := 214
noncomputable abbrev rz : Func := Tryz.f214
theorem Xg : P.funcs[oL]? = some rz := Tryz.func214
abbrev pO : FuncId := 216
noncomputable abbrev uj : Func := Tryz.f216
theorem Tn : P.funcs[pO]? = some uj := Tryz.func216
abbrev sZ : FuncId := 217
noncomputable abbrev lC : Func := Tryz.f217
theorem abr : P.funcs[sZ]? = some lC := Tryz.func217
abbrev vh : FuncId := 218
noncomputable abbrev wW : Func := Tryz.f218
theorem adN : P.funcs[vh]? = some wW := Tryz.func218
abbrev wh : FuncId := 219
noncomputable abbrev rB : Func := Tryz.f219
theorem Z3 : P.funcs[wh]? = some rB := Tryz.func219
abbrev uI : FuncId := 220
noncomputable abbrev kJ : Func := Tryz.f220
theorem aa1 : P.funcs[uI]? = some kJ := Tryz.func220
abbrev uS : FuncId := 233
noncomputable abbrev mL : Func := Tryz.f233
theorem MF : P.funcs[uS]? = some mL := Tryz.func233
abbrev vt : FuncId := 234
noncomputable abbrev mT : Func := Tryz.f234
theorem acu : P.funcs[vt]? = some mT := Tryz.func234
abbrev vK : FuncId := 235
noncomputable abbrev uD : Func := Tryz.f235
theorem acq : P.funcs[vK]? = some uD := Tryz.func235
abbrev wX : FuncId := 236
noncomputable abbrev jt : Func := Tryz.f236
theorem OX : P.funcs[wX]? = some jt := Tryz.func236
abbrev xU : FuncId := 237
noncomputable abbrev tC : Func := Tryz.f237
theorem XA : P.funcs[xU]? = some tC := Tryz.func237
abbrev Jx : TI := ⟨.int .i64, 1, 8, .int .i64 0⟩
theorem Sy : br P 2 Jx := bQ (by kernel_rfl) (by kernel_rfl) (by kernel_rfl)
abbrev DT : TI := ⟨.int .i64, 1, 8, .int .i64 0⟩
theorem ok3 : br P 3 DT := bQ (by kernel_rfl) (by kernel_rfl) (by kernel_rfl)
abbrev DL : TI := ⟨.bool, 1, 1, .bool false⟩
theorem SG : br P 4 DL := bQ (by kernel_rfl) (by kernel_rfl) (by kernel_rfl)
abbrev J5 : TI := ⟨.int .u8, 1, 1, .int .u8 0⟩
theorem TD : br P 5 J5 := bQ (by kernel_rfl) (by kernel_rfl) (by kernel_rfl)
abbrev Ky : TI := ⟨.int .u8, 1, 1, .int .u8 0⟩
theorem RY : br P 6 Ky := bQ (by kernel_rfl) (by kernel_rfl) (by kernel_rfl)
abbrev JC : TI := ⟨.struct #[{ name := "x", type := 2, offset := 0, embedded := false, tag := "", pkgPath := "runtime", byteOffset := 0 }, { name := "y", type := 3, offset := 1, embedded := false, tag := "", pkgPath := "runtime", byteOffset := 8 }, { name := "signed", type := 4, offset := 2, embedded := false, tag := "", pkgPath := "runtime", byteOffset := 16 }, { name := "code", type := 6, offset := 3, embedded := false, tag := "", pkgPath := "runtime", byteOffset := 17 }], 4, 24, .agg [.int .i64 0, .int .i64 0, .bool false, .int .u8 0]⟩
theorem Q3 : br P 7 JC := bQ (by kernel_rfl) (by kernel_rfl) (by kernel_rfl)
abbrev Eu : TI := ⟨.struct #[{ name := "x", type := 2, offset := 0, embedded := false, tag := "", pkgPath := "runtime", byteOffset := 0 }, { name := "y", type := 3, offset := 1, embedded := false, tag := "", pkgPath := "runtime", byteOffset := 8 }, { name := "signed", type := 4, offset := 2, embedded := false, tag := "", pkgPath := "runtime", byteOffset := 16 }, { name := "code", type := 6, offset := 3, embedded := false, tag := "", pkgPath := "runtime", byteOffset := 17 }], 4, 24, .agg [.int .i64 0, .int .i64 0, .bool false, .int .u8 0]⟩
theorem Wc : br P 8 Eu := bQ (by kernel_rfl) (by kernel_rfl) (by kernel_rfl)
abbrev Gq : TI := ⟨.string, 1, 16, .tuple []⟩
theorem TJ : br P 9 Gq := fU (by kernel_rfl) (by kernel_rfl) rfl
abbrev IV : TI := ⟨.string, 1, 16, .tuple []⟩
theorem XZ : br P 10 IV := fU (by kernel_rfl) (by kernel_rfl) rfl
abbrev Fv : TI := ⟨.string, 1, 16, .tuple []⟩
theorem Zr : br P 11 Fv := fU (by kernel_rfl) (by kernel_rfl) rfl
abbrev Ij : TI := ⟨.int .u64, 1, 8, .int .u64 0⟩
theorem SL : br P 12 Ij := bQ (by kernel_rfl) (by kernel_rfl) (by kernel_rfl)
abbrev EF : TI := ⟨.struct #[{ name := "msg", type := 9, offset := 0, embedded := false, tag := "", pkgPath := "runtime", byteOffset := 0 }, { name := "addr", type := 12, offset := 1, embedded := false, tag := "", pkgPath := "runtime", byteOffset := 16 }], 2, 24, .tuple []⟩
theorem Oh : br P 13 EF := fU (by kernel_rfl) (by kernel_rfl) rfl
abbrev En : TI := ⟨.struct #[{ name := "msg", type := 9, offset := 0, embedded := false, tag := "", pkgPath := "runtime", byteOffset := 0 }, { name := "addr", type := 12, offset := 1, embedded := false, tag := "", pkgPath := "runtime", byteOffset := 16 }], 2, 24, .tuple []⟩
theorem YT : br P 14 En := fU (by kernel_rfl) (by kernel_rfl) rfl
abbrev Jw : TI := ⟨.pointer 246, 1, 8, .tuple []⟩
theorem ZA : br P 15 Jw := fU (by kernel_rfl) (by kernel_rfl) rfl
abbrev Ke : TI := ⟨.pointer 249, 1, 8, .tuple []⟩
theorem R7 : br P 16 Ke := fU (by kernel_rfl) (by kernel_rfl) rfl
abbrev IP : TI := ⟨.pointer 258, 1, 8, .tuple []⟩
theorem RC : br P 17 IP := fU (by kernel_rfl) (by kernel_rfl) rfl
abbrev FW : TI := ⟨.struct #[{ name := "typ", type := 17, offset := 0, embedded := false, tag := "", pkgPath := "internal/runtime/maps", byteOffset := 0 }], 1, 8, .tuple []⟩
theorem QD : br P 18 FW := fU (by kernel_rfl) (by kernel_rfl) rfl
abbrev Ia : TI := ⟨.struct #[{ name := "typ", type := 17, offset := 0, embedded := false, tag := "", pkgPath := "internal/runtime/maps", byteOffset := 0 }], 1, 8, .tuple []⟩
theorem aaJ : br P 19 Ia := fU (by kernel_rfl) (by kernel_rfl) rfl
abbrev EG : TI := ⟨.int .i32, 1, 4, .int .i32 0⟩
theorem Xt : br P 21 EG := bQ (by kernel_rfl) (by kernel_rfl) (by kernel_rfl)
abbrev Ef : TI := ⟨.slice 3, 1, 24, .nil⟩
theorem Nc : br P 22 Ef := bQ (by kernel_rfl) (by kernel_rfl) (by kernel_rfl)
abbrev Gt : TI := ⟨.slice 42, 1, 24, .nil⟩
theorem T2 : br P 25 Gt := bQ (by kernel_rfl) (by kernel_rfl) (by kernel_rfl)
abbrev FN : TI := ⟨.slice 123, 1, 24, .nil⟩
theorem QG : br P 26 FN := bQ (by kernel_rfl) (by kernel_rfl) (by kernel_rfl)
abbrev E1 : TI := ⟨.struct #[{ name := "Degree", type := 3, offset := 0, embedded := false, tag := "", pkgPath := "", byteOffset := 0 }, { name := "Knots", type := 25, offset := 1, embedded := false, tag := "", pkgPath := "", byteOffset := 8 }, { name := "Poles", type := 26, offset := 2, embedded := false, tag := "", pkgPath := "", byteOffset := 32 }], 3, 56, .agg [.int .i64 0, .nil, .nil]⟩
theorem Wi : br P 27 E1 := bQ (by kernel_rfl) (by kernel_rfl) (by kernel_rfl)
abbrev Ib : TI := ⟨.struct #[{ name := "Degree", type := 3, offset := 0, embedded := false, tag := "", pkgPath := "", byteOffset := 0 }, { name := "Knots", type := 25, offset := 1, embedded := false, tag := "", pkgPath := "", byteOffset := 8 }, { name := "Poles", type := 26, offset := 2, embedded := false, tag := "", pkgPath := "", byteOffset := 32 }], 3, 56, .agg [.int .i64 0, .nil, .nil]⟩
theorem OK : br P 28 Ib := bQ (by kernel_rfl) (by kernel_rfl) (by kernel_rfl)
abbrev Hf : TI := ⟨.pointer 120, 1, 8, .tuple []⟩
theorem abA : br P 29 Hf := fU (by kernel_rfl) (by kernel_rfl) rfl
abbrev IJ : TI := ⟨.slice 26, 1, 24, .nil⟩
theorem PU : br P 33 IJ := bQ (by kernel_rfl) (by kernel_rfl) (by kernel_rfl)
abbrev Ip : TI := ⟨.struct #[{ name := "U", type := 3, offset := 0, embedded := false, tag := "", pkgPath := "", byteOffset := 0 }, { name := "V", type := 3, offset := 1, embedded := false, tag := "", pkgPath := "", byteOffset := 8 }, { name := "KnotsU", type := 25, offset := 2, embedded := false, tag := "", pkgPath := "", byteOffset := 16 }, { name := "KnotsV", type := 25, offset := 3, embedded := false, tag := "", pkgPath := "", byteOffset := 40 }, { name := "Poles", type := 33, offset := 4, embedded := false, tag := "", pkgPath := "", byteOffset := 64 }], 5, 88, .agg [.int .i64 0, .int .i64 0, .nil, .nil, .nil]⟩
theorem Zy : br P 34 Ip := bQ (by kernel_rfl) (by kernel_rfl) (by kernel_rfl)
abbrev JO : TI := ⟨.struct #[{ name := "U", type := 3, offset := 0, embedded := false, tag := "", pkgPath := "", byteOffset := 0 }, { name := "V", type := 3, offset := 1, embedded := false, tag := "", pkgPath := "", byteOffset := 8 }, { name := "KnotsU", type := 25, offset := 2, embedded := false, tag := "", pkgPath := "", byteOffset := 16 }, { name := "KnotsV", type := 25, offset := 3, embedded := false, tag := "", pkgPath := "", byteOffset := 40 }, { name := "Poles", type := 33, offset := 4, embedded := false, tag := "", pkgPath := "", byteOffset := 64 }], 5, 88, .agg [.int .i64 0, .int .i64 0, .nil, .nil, .nil]⟩
theorem Y7 : br P 35 JO := bQ (by kernel_rfl) (by kernel_rfl) (by kernel_rfl)
abbrev JW : TI := ⟨.int .i64, 1, 8, .int .i64 0⟩
theorem O6 : br P 36 JW := bQ (by kernel_rfl) (by kernel_rfl) (by kernel_rfl)
abbrev JH : TI := ⟨.slice 188, 1, 24, .nil⟩
theorem NI : br P 40 JH := bQ (by kernel_rfl) (by kernel_rfl) (by kernel_rfl)
abbrev EI : TI := ⟨.struct #[{ name := "Neg", type := 4, offset := 0, embedded := false, tag := "", pkgPath := "", byteOffset := 0 }, { name := "Num", type := 40, offset := 1, embedded := false, tag := "", pkgPath := "", byteOffset := 8 }, { name := "Den", type := 40, offset := 2, embedded := false, tag := "", pkgPath := "", byteOffset := 32 }], 3, 56, .agg [.bool false, .nil, .nil]⟩
theorem Td : br P 41 EI := bQ (by kernel_rfl) (by kernel_rfl) (by kernel_rfl)
abbrev GJ : TI := ⟨.struct #[{ name := "Neg", type := 4, offset := 0, embedded := false, tag := "", pkgPath := "", byteOffset := 0 }, { name := "Num", type := 40, offset := 1, embedded := false, tag := "", pkgPath := "", byteOffset := 8 }, { name := "Den", type := 40, offset := 2, embedded := false, tag := "", pkgPath := "", byteOffset := 32 }], 3, 56, .rat 0 1⟩
theorem Nt : br P 42 GJ := bQ (by kernel_rfl) (by kernel_rfl) (by kernel_rfl)
abbrev Hq : TI := ⟨.struct #[{ name := "Lo", type := 42, offset := 0, embedded := false, tag := "", pkgPath := "", byteOffset := 0 }, { name := "Hi", type := 42, offset := 3, embedded := false, tag := "", pkgPath := "", byteOffset := 56 }], 6, 112, .agg [.rat 0 1, .rat 0 1]⟩
theorem aba : br P 43 Hq := bQ (by kernel_rfl) (by kernel_rfl) (by kernel_rfl)
abbrev I3 : TI := ⟨.struct #[{ name := "Lo", type := 42, offset := 0, embedded := false, tag := "", pkgPath := "", byteOffset := 0 }, { name := "Hi", type := 42, offset := 3, embedded := false, tag := "", pkgPath := "", byteOffset := 56 }], 6, 112, .agg [.rat 0 1, .rat 0 1]⟩
theorem adE : br P 44 I3 := bQ (by kernel_rfl) (by kernel_rfl) (by kernel_rfl)
abbrev Gb : TI := ⟨.array 3 42, 9, 168, .agg [.rat 0 1, .rat 0 1, .rat 0 1]⟩
theorem OB : br P 48 Gb := bQ (by kernel_rfl) (by kernel_rfl) (by kernel_rfl)
abbrev Ic : TI := ⟨.array 3 42, 9, 168, .agg [.rat 0 1, .rat 0 1, .rat 0 1]⟩
theorem acL : br P 49 Ic := bQ (by kernel_rfl) (by kernel_rfl) (by kernel_rfl)
abbrev K7 : TI := ⟨.array 3 49, 27, 504, .agg [.agg [.rat 0 1, .rat 0 1, .rat 0 1], .agg [.rat 0 1, .rat 0 1, .rat 0 1], .agg [.rat 0 1, .rat 0 1, .rat 0 1]]⟩
theorem RW : br P 58 K7 := bQ (by kernel_rfl) (by kernel_rfl) (by kernel_rfl)
abbrev K3 : TI := ⟨.struct #[{ name := "M", type := 58, offset := 0, embedded := false, tag := "", pkgPath := "", byteOffset := 0 }, { name := "T", type := 49, offset := 27, embedded := false, tag := "", pkgPath := "", byteOffset := 504 }], 36, 672, .agg [.agg [.agg [.rat 0 1, .rat 0 1, .rat 0 1], .agg [.rat 0 1, .rat 0 1, .rat 0 1], .agg [.rat 0 1, .rat 0 1, .rat 0 1]], .agg [.rat 0 1, .rat 0 1, .rat 0 1]]⟩
theorem TW : br P 59 K3 := bQ (by kernel_rfl) (by kernel_rfl) (by kernel_rfl)
abbrev HI : TI := ⟨.struct #[{ name := "M", type := 58, offset := 0, embedded := false, tag := "", pkgPath := "", byteOffset := 0 }, { name := "T", type := 49, offset := 27, embedded := false, tag := "", pkgPath := "", byteOffset := 504 }], 36, 672, .agg [.agg [.agg [.rat 0 1, .rat 0 1, .rat 0 1], .agg [.rat 0 1, .rat 0 1, .rat 0 1], .agg [.rat 0 1, .rat 0 1, .rat 0 1]], .agg [.rat 0 1, .rat 0 1, .rat 0 1]]⟩
theorem ZT : br P 60 HI := bQ (by kernel_rfl) (by kernel_rfl) (by kernel_rfl)
abbrev DI : TI := ⟨.slice 49, 1, 24, .nil⟩
theorem adj : br P 82 DI := bQ (by kernel_rfl) (by kernel_rfl) (by kernel_rfl)
abbrev JP : TI := ⟨.slice 103, 1, 24, .nil⟩
theorem Zb : br P 98 JP := bQ (by kernel_rfl) (by kernel_rfl) (by kernel_rfl)
abbrev DK : TI := ⟨.slice 44, 1, 24, .nil⟩
theorem Mt : br P 101 DK := bQ (by kernel_rfl) (by kernel_rfl) (by kernel_rfl)
abbrev KA : TI := ⟨.struct #[{ name := "A", type := 101, offset := 0, embedded := false, tag := "", pkgPath := "", byteOffset := 0 }, { name := "B", type := 101, offset := 1, embedded := false, tag := "", pkgPath := "", byteOffset := 24 }, { name := "Kind", type := 3, offset := 2, embedded := false, tag := "", pkgPath := "", byteOffset := 48 }, { name := "K", type := 3, offset := 3, embedded := false, tag := "", pkgPath := "", byteOffset := 56 }], 4, 64, .agg [.nil, .nil, .int .i64 0, .int .i64 0]⟩
theorem Ni : br P 102 KA := bQ (by kernel_rfl) (by kernel_rfl) (by kernel_rfl)
abbrev Lb : TI := ⟨.struct #[{ name := "A", type := 101, offset := 0, embedded := false, tag := "", pkgPath := "", byteOffset := 0 }, { name := "B", type := 101, offset := 1, embedded := false, tag := "", pkgPath := "", byteOffset := 24 }, { name := "Kind", type := 3, offset := 2, embedded := false, tag := "", pkgPath := "", byteOffset := 48 }, { name := "K", type := 3, offset := 3, embedded := false, tag := "", pkgPath := "", byteOffset := 56 }], 4, 64, .agg [.nil, .nil, .int .i64 0, .int .i64 0]⟩
theorem Xv : br P 103 Lb := bQ (by kernel_rfl) (by kernel_rfl) (by kernel_rfl)
abbrev DW : TI := ⟨.slice 22, 1, 24, .nil⟩
theorem Qt : br P 111 DW := bQ (by kernel_rfl) (by kernel_rfl) (by kernel_rfl)
abbrev E6 : TI := ⟨.struct #[{ name := "L", type := 22, offset := 0, embedded := false, tag := "", pkgPath := "", byteOffset := 0 }, { name := "At", type := 3, offset := 1, embedded := false, tag := "", pkgPath := "", byteOffset := 24 }], 2, 32, .agg [.nil, .int .i64 0]⟩
theorem Uz : br P 119 E6 := bQ (by kernel_rfl) (by kernel_rfl) (by kernel_rfl)
abbrev El : TI := ⟨.struct #[{ name := "L", type := 22, offset := 0, embedded := false, tag := "", pkgPath := "", byteOffset := 0 }, { name := "At", type := 3, offset := 1, embedded := false, tag := "", pkgPath := "", byteOffset := 24 }], 2, 32, .agg [.nil, .int .i64 0]⟩
theorem YL : br P 120 El := bQ (by kernel_rfl) (by kernel_rfl) (by kernel_rfl)
abbrev DN : TI := ⟨.struct #[{ name := "P", type := 49, offset := 0, embedded := false, tag := "", pkgPath := "", byteOffset := 0 }, { name := "W", type := 42, offset := 9, embedded := false, tag := "", pkgPath := "", byteOffset := 168 }], 12, 224, .agg [.agg [.rat 0 1, .rat 0 1, .rat 0 1], .rat 0 1]⟩
theorem Yp : br P 122 DN := bQ (by kernel_rfl) (by kernel_rfl) (by kernel_rfl)
abbrev DM : TI := ⟨.struct #[{ name := "P", type := 49, offset := 0, embedded := false, tag := "", pkgPath := "", byteOffset := 0 }, { name := "W", type := 42, offset := 9, embedded := false, tag := "", pkgPath := "", byteOffset := 168 }], 12, 224, .agg [.agg [.rat 0 1, .rat 0 1, .rat 0 1], .rat 0 1]⟩
theorem Tm : br P 123 DM := bQ (by kernel_rfl) (by kernel_rfl) (by kernel_rfl)
abbrev E5 : TI := ⟨.array 3 2, 3, 24, .agg [.int .i64 0, .int .i64 0, .int .i64 0]⟩
theorem MV : br P 127 E5 := bQ (by kernel_rfl) (by kernel_rfl) (by kernel_rfl)
abbrev J2 : TI := ⟨.array 9 127, 27, 216, .agg [.agg [.int .i64 0, .int .i64 0, .int .i64 0], .agg [.int .i64 0, .int .i64 0, .int .i64 0], .agg [.int .i64 0, .int .i64 0, .int .i64 0], .agg [.int .i64 0, .int .i64 0, .int .i64 0], .agg [.int .i64 0, .int .i64 0, .int .i64 0], .agg [.int .i64 0, .int .i64 0, .int .i64 0], .agg [.int .i64 0, .int .i64 0, .int .i64 0], .agg [.int .i64 0, .int .i64 0, .int .i64 0], .agg [.int .i64 0, .int .i64 0, .int .i64 0]]⟩
theorem aaz : br P 128 J2 := bQ (by kernel_rfl) (by kernel_rfl) (by kernel_rfl)
abbrev Ek : TI := ⟨.slice 127, 1, 24, .nil⟩
theorem abq : br P 130 Ek := bQ (by kernel_rfl) (by kernel_rfl) (by kernel_rfl)
abbrev J7 : TI := ⟨.array 4 42, 12, 224, .agg [.rat 0 1, .rat 0 1, .rat 0 1, .rat 0 1]⟩
theorem Vz : br P 140 J7 := bQ (by kernel_rfl) (by kernel_rfl) (by kernel_rfl)
abbrev LB : TI := ⟨.slice 28, 1, 24, .nil⟩
theorem TS : br P 151 LB := bQ (by kernel_rfl) (by kernel_rfl) (by kernel_rfl)
abbrev EH : TI := ⟨.slice 2, 1, 24, .nil⟩
theorem VU : br P 161 EH := bQ (by kernel_rfl) (by kernel_rfl) (by kernel_rfl)
abbrev Gh : TI := ⟨.slice 4, 1, 24, .nil⟩
theorem SO : br P 175 Gh := bQ (by kernel_rfl) (by kernel_rfl) (by kernel_rfl)
abbrev HF : TI := ⟨.int .u64, 1, 8, .int .u64 0⟩
theorem T6 : br P 183 HF := bQ (by kernel_rfl) (by kernel_rfl) (by kernel_rfl)
abbrev Jv : TI := ⟨.int .u32, 1, 4, .int .u32 0⟩
theorem aa5 : br P 188 Jv := bQ (by kernel_rfl) (by kernel_rfl) (by kernel_rfl)
abbrev KV : TI := ⟨.int .u64, 1, 8, .int .u64 0⟩
theorem Zz : br P 202 KV := bQ (by kernel_rfl) (by kernel_rfl) (by kernel_rfl)
abbrev KB : TI := ⟨.slice 5, 1, 24, .nil⟩
theorem TG : br P 209 KB := bQ (by kernel_rfl) (by kernel_rfl) (by kernel_rfl)
abbrev Jl : TI := ⟨.slice 101, 1, 24, .nil⟩
theorem Qo : br P 223 Jl := bQ (by kernel_rfl) (by kernel_rfl) (by kernel_rfl)
abbrev Er : TI := ⟨.int .i64, 1, 8, .int .i64 0⟩
theorem Pn : br P 227 Er := bQ (by kernel_rfl) (by kernel_rfl) (by kernel_rfl)
abbrev FL : TI := ⟨.int .u64, 1, 8, .int .u64 0⟩
theorem OP : br P 235 FL := bQ (by kernel_rfl) (by kernel_rfl) (by kernel_rfl)
abbrev F8 : TI := ⟨.pointer 3, 1, 8, .tuple []⟩
theorem MU : br P 239 F8 := fU (by kernel_rfl) (by kernel_rfl) rfl
abbrev Hx : TI := ⟨.pointer 235, 1, 8, .tuple []⟩
theorem XE : br P 241 Hx := fU (by kernel_rfl) (by kernel_rfl) rfl
abbrev IK : TI := ⟨.struct #[{ name := "_interface", type := 17, offset := 0, embedded := false, tag := "", pkgPath := "runtime", byteOffset := 0 }, { name := "concrete", type := 17, offset := 1, embedded := false, tag := "", pkgPath := "runtime", byteOffset := 8 }, { name := "asserted", type := 17, offset := 2, embedded := false, tag := "", pkgPath := "runtime", byteOffset := 16 }, { name := "missingMethod", type := 9, offset := 3, embedded := false, tag := "", pkgPath := "runtime", byteOffset := 24 }], 4, 40, .tuple []⟩
theorem YK : br P 245 IK := fU (by kernel_rfl) (by kernel_rfl) rfl
abbrev J9 : TI := ⟨.struct #[{ name := "_interface", type := 17, offset := 0, embedded := false, tag := "", pkgPath := "runtime", byteOffset := 0 }, { name := "concrete", type := 17, offset := 1, embedded := false, tag := "", pkgPath := "runtime", byteOffset := 8 }, { name := "asserted", type := 17, offset := 2, embedded := false, tag := "", pkgPath := "runtime", byteOffset := 16 }, { name := "missingMethod", type := 9, offset := 3, embedded := false, tag := "", pkgPath := "runtime", byteOffset := 24 }], 4, 40, .tuple []⟩
theorem P0 : br P 246 J9 := fU (by kernel_rfl) (by kernel_rfl) rfl
abbrev E4 : TI := ⟨.int .u8, 1, 1, .int .u8 0⟩
theorem UU : br P 251 E4 := bQ (by kernel_rfl) (by kernel_rfl) (by kernel_rfl)
abbrev KD : TI := ⟨.int .u8, 1, 1, .int .u8 0⟩
theorem aaL : br P 252 KD := bQ (by kernel_rfl) (by kernel_rfl) (by kernel_rfl)
abbrev Km : TI := ⟨.pointer 5, 1, 8, .tuple []⟩
theorem Qw : br P 254 Km := fU (by kernel_rfl) (by kernel_rfl) rfl
abbrev Jc : TI := ⟨.int .i32, 1, 4, .int .i32 0⟩
theorem Ys : br P 255 Jc := bQ (by kernel_rfl) (by kernel_rfl) (by kernel_rfl)
abbrev J1 : TI := ⟨.int .i32, 1, 4, .int .i32 0⟩
theorem ZV : br P 256 J1 := bQ (by kernel_rfl) (by kernel_rfl) (by kernel_rfl)
abbrev Fg : TI := ⟨.struct #[{ name := "Size_", type := 12, offset := 0, embedded := false, tag := "", pkgPath := "", byteOffset := 0 }, { name := "PtrBytes", type := 12, offset := 1, embedded := false, tag := "", pkgPath := "", byteOffset := 8 }, { name := "Hash", type := 188, offset := 2, embedded := false, tag := "", pkgPath := "", byteOffset := 16 }, { name := "TFlag", type := 251, offset := 3, embedded := false, tag := "", pkgPath := "", byteOffset := 20 }, { name := "Align_", type := 5, offset := 4, embedded := false, tag := "", pkgPath := "", byteOffset := 21 }, { name := "FieldAlign_", type := 5, offset := 5, embedded := false, tag := "", pkgPath := "", byteOffset := 22 }, { name := "Kind_", type := 252, offset := 6, embedded := false, tag := "", pkgPath := "", byteOffset := 23 }, { name := "Equal", type := 253, offset := 7, embedded := false, tag := "", pkgPath := "", byteOffset := 24 }, { name := "GCData", type := 254, offset := 8, embedded := false, tag := "", pkgPath := "", byteOffset := 32 }, { name := "Str", type := 255, offset := 9, embedded := false, tag := "", pkgPath := "", byteOffset := 40 }, { name := "PtrToThis", type := 256, offset := 10, embedded := false, tag := "", pkgPath := "", byteOffset := 44 }], 11, 48, .tuple []⟩
theorem OM : br P 257 Fg := fU (by kernel_rfl) (by kernel_rfl) rfl
abbrev KI : TI := ⟨.struct #[{ name := "Size_", type := 12, offset := 0, embedded := false, tag := "", pkgPath := "", byteOffset := 0 }, { name := "PtrBytes", type := 12, offset := 1, embedded := false, tag := "", pkgPath := "", byteOffset := 8 }, { name := "Hash", type := 188, offset := 2, embedded := false, tag := "", pkgPath := "", byteOffset := 16 }, { name := "TFlag", type := 251, offset := 3, embedded := false, tag := "", pkgPath := "", byteOffset := 20 }, { name := "Align_", type := 5, offset := 4, embedded := false, tag := "", pkgPath := "", byteOffset := 21 }, { name := "FieldAlign_", type := 5, offset := 5, embedded := false, tag := "", pkgPath := "", byteOffset := 22 }, { name := "Kind_", type := 252, offset := 6, embedded := false, tag := "", pkgPath := "", byteOffset := 23 }, { name := "Equal", type := 253, offset := 7, embedded := false, tag := "", pkgPath := "", byteOffset := 24 }, { name := "GCData", type := 254, offset := 8, embedded := false, tag := "", pkgPath := "", byteOffset := 32 }, { name := "Str", type := 255, offset := 9, embedded := false, tag := "", pkgPath := "", byteOffset := 40 }, { name := "PtrToThis", type := 256, offset := 10, embedded := false, tag := "", pkgPath := "", byteOffset := 44 }], 11, 48, .tuple []⟩
theorem abR : br P 258 KI := fU (by kernel_rfl) (by kernel_rfl) rfl
abbrev T : Types := [(2, Jx), (3, DT), (4, DL), (5, J5), (6, Ky), (7, JC), (8, Eu), (9, Gq), (10, IV), (11, Fv), (12, Ij), (13, EF), (14, En), (15, Jw), (16, Ke), (17, IP), (18, FW), (19, Ia), (21, EG), (22, Ef), (25, Gt), (26, FN), (27, E1), (28, Ib), (29, Hf), (33, IJ), (34, Ip), (35, JO), (36, JW), (40, JH), (41, EI), (42, GJ), (43, Hq), (44, I3), (48, Gb), (49, Ic), (58, K7), (59, K3), (60, HI), (82, DI), (98, JP), (101, DK), (102, KA), (103, Lb), (111, DW), (119, E6), (120, El), (122, DN), (123, DM), (127, E5), (128, J2), (130, Ek), (140, J7), (151, LB), (161, EH), (175, Gh), (183, HF), (188, Jv), (202, KV), (209, KB), (223, Jl), (227, Er), (235, FL), (239, F8), (241, Hx), (245, IK), (246, J9), (251, E4), (252, KD), (254, Km), (255, Jc), (256, J1), (257, Fg), (258, KI)]
theorem hT : dX P T := bu Sy (bu ok3 (bu SG (bu TD (bu RY (bu Q3 (bu Wc (bu TJ (bu XZ (bu Zr (bu SL (bu Oh (bu YT (bu ZA (bu R7 (bu RC (bu QD (bu aaJ (bu Xt (bu Nc (bu T2 (bu QG (bu Wi (bu OK (bu abA (bu PU (bu Zy (bu Y7 (bu O6 (bu NI (bu Td (bu Nt (bu aba (bu adE (bu OB (bu acL (bu RW (bu TW (bu ZT (bu adj (bu Zb (bu Mt (bu Ni (bu Xv (bu Qt (bu Uz (bu YL (bu Yp (bu Tm (bu MV (bu aaz (bu abq (bu Vz (bu TS (bu VU (bu SO (bu T6 (bu aa5 (bu Zz (bu TG (bu Qo (bu Pn (bu OP (bu MU (bu XE (bu YK (bu P0 (bu UU (bu aaL (bu Qw (bu Ys (bu ZV (bu OM (bu abR (YG))))))))))))))))))))))))))))))))))))))))))))))))))))))))))))))))))))))))))
end Go.Am.N
