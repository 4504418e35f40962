/- The seat's names: the numbers of functions, the types. Written by a program. -/
import Derived.Test.YtbghpkgbokbmlaaGreatZ1
import Derived.Test.YtbghpkgbokbmlaaGreatProg
import Derived.KernelRfl
set_option linter.unusedVariables false
namespace Go.Am.N
open Go.Proofs
noncomputable abbrev P : Program := Tryz.prog
theorem hm : P.follows .mixedOrders = true := by kernel_rfl
abbrev zP : FuncId := 4
noncomputable abbrev lQ : Func := Tryz.f4
theorem Re : P.funcs[zP]? = some lQ := Tryz.func4
abbrev yC : FuncId := 10
noncomputable abbrev uK : Func := Tryz.f10
theorem TL : P.funcs[yC]? = some uK := Tryz.func10
abbrev wk : FuncId := 11
noncomputable abbrev BK : Func := Tryz.f11
theorem NR : P.funcs[wk]? = some BK := Tryz.func11
abbrev wO : FuncId := 12
noncomputable abbrev x9 : Func := Tryz.f12
theorem Ns : P.funcs[wO]? = some x9 := Tryz.func12
abbrev uV : FuncId := 13
noncomputable abbrev qP : Func := Tryz.f13
theorem XE : P.funcs[uV]? = some qP := Tryz.func13
abbrev n8 : FuncId := 14
noncomputable abbrev ta : Func := Tryz.f14
theorem W1 : P.funcs[n8]? = some ta := Tryz.func14
abbrev ny : FuncId := 15
noncomputable abbrev p6 : Func := Tryz.f15
theorem JT : P.funcs[ny]? = some p6 := Tryz.func15
abbrev tD : FuncId := 16
noncomputable abbrev tG : Func := Tryz.f16
theorem O6 : P.funcs[tD]? = some tG := Tryz.func16
abbrev yq : FuncId := 20
noncomputable abbrev uJ : Func := Tryz.f20
theorem ZV : P.funcs[yq]? = some uJ := Tryz.func20
abbrev pq : FuncId := 21
noncomputable abbrev qS : Func := Tryz.f21
theorem Td : P.funcs[pq]? = some qS := Tryz.func21
abbrev ux : FuncId := 22
noncomputable abbrev rM : Func := Tryz.f22
theorem Sp : P.funcs[ux]? = some rM := Tryz.func22
abbrev HU : FuncId := 24
noncomputable abbrev CO : Func := Tryz.f24
theorem SP : P.funcs[HU]? = some CO := Tryz.func24
abbrev CF : FuncId := 25
noncomputable abbrev DD : Func := Tryz.f25
theorem Xe : P.funcs[CF]? = some DD := Tryz.func25
abbrev xS : FuncId := 26
noncomputable abbrev ur : Func := Tryz.f26
theorem Ye : P.funcs[xS]? = some ur := Tryz.func26
abbrev tL : FuncId := 27
noncomputable abbrev rQ : Func := Tryz.f27
theorem SX : P.funcs[tL]? = some rQ := Tryz.func27
abbrev DM : FuncId := 28
noncomputable abbrev C0 : Func := Tryz.f28
theorem KT : P.funcs[DM]? = some C0 := Tryz.func28
abbrev Ik : FuncId := 29
noncomputable abbrev DT : Func := Tryz.f29
theorem aaD : P.funcs[Ik]? = some DT := Tryz.func29
abbrev pJ : FuncId := 30
noncomputable abbrev uP : Func := Tryz.f30
theorem Tu : P.funcs[pJ]? = some uP := Tryz.func30
abbrev C4 : FuncId := 31
noncomputable abbrev F6 : Func := Tryz.f31
theorem YZ : P.funcs[C4]? = some F6 := Tryz.func31
abbrev DS : FuncId := 32
noncomputable abbrev Gz : Func := Tryz.f32
theorem Uy : P.funcs[DS]? = some Gz := Tryz.func32
abbrev ir : FuncId := 33
noncomputable abbrev ri : Func := Tryz.f33
theorem Rh : P.funcs[ir]? = some ri := Tryz.func33
abbrev sS : FuncId := 34
noncomputable abbrev qx : Func := Tryz.f34
theorem QB : P.funcs[sS]? = some qx := Tryz.func34
abbrev uq : FuncId := 35
noncomputable abbrev tc : Func := Tryz.f35
theorem Wn : P.funcs[uq]? = some tc := Tryz.func35
abbrev ni : FuncId := 38
noncomputable abbrev qA : Func := Tryz.f38
theorem Tz : P.funcs[ni]? = some qA := Tryz.func38
abbrev rJ : FuncId := 42
noncomputable abbrev vE : Func := Tryz.f42
theorem S3 : P.funcs[rJ]? = some vE := Tryz.func42
abbrev Eb : FuncId := 46
noncomputable abbrev FA : Func := Tryz.f46
theorem SC : P.funcs[Eb]? = some FA := Tryz.func46
abbrev CX : FuncId := 47
noncomputable abbrev Fg : Func := Tryz.f47
theorem Ow : P.funcs[CX]? = some Fg := Tryz.func47
abbrev E2 : FuncId := 60
noncomputable abbrev E1 : Func := Tryz.f60
theorem QL : P.funcs[E2]? = some E1 := Tryz.func60
abbrev x8 : FuncId := 61
noncomputable abbrev rS : Func := Tryz.f61
theorem OX : P.funcs[x8]? = some rS := Tryz.func61
abbrev lV : FuncId := 67
noncomputable abbrev rX : Func := Tryz.f67
theorem Rx : P.funcs[lV]? = some rX := Tryz.func67
abbrev Fo : FuncId := 79
noncomputable abbrev FU : Func := Tryz.f79
theorem Zl : P.funcs[Fo]? = some FU := Tryz.func79
abbrev lF : FuncId := 80
noncomputable abbrev tY : Func := Tryz.f80
theorem NX : P.funcs[lF]? = some tY := Tryz.func80
abbrev Is : FuncId := 81
noncomputable abbrev H8 : Func := Tryz.f81
theorem Lh : P.funcs[Is]? = some H8 := Tryz.func81
abbrev y9 : FuncId := 82
noncomputable abbrev tw : Func := Tryz.f82
theorem K9 : P.funcs[y9]? = some tw := Tryz.func82
abbrev HG : FuncId := 83
noncomputable abbrev CE : Func := Tryz.f83
theorem UL : P.funcs[HG]? = some CE := Tryz.func83
abbrev tv : FuncId := 84
noncomputable abbrev uo : Func := Tryz.f84
theorem abF : P.funcs[tv]? = some uo := Tryz.func84
abbrev yJ : FuncId := 85
noncomputable abbrev qQ : Func := Tryz.f85
theorem Mk : P.funcs[yJ]? = some qQ := Tryz.func85
abbrev pP : FuncId := 86
noncomputable abbrev iL : Func := Tryz.f86
theorem Gs : P.funcs[pP]? = some iL := Tryz.func86
abbrev pU : FuncId := 87
noncomputable abbrev pW : Func := Tryz.f87
theorem CB : P.funcs[pU]? = some pW := Tryz.func87
abbrev wg : FuncId := 88
noncomputable abbrev sB : Func := Tryz.f88
theorem Iq : P.funcs[wg]? = some sB := Tryz.func88
abbrev nY : FuncId := 89
noncomputable abbrev rF : Func := Tryz.f89
theorem aa4 : P.funcs[nY]? = some rF := Tryz.func89
abbrev vj : FuncId := 90
noncomputable abbrev qV : Func := Tryz.f90
theorem K0 : P.funcs[vj]? = some qV := Tryz.func90
abbrev uT : FuncId := 91
noncomputable abbrev u7 : Func := Tryz.f91
theorem Kw : P.funcs[uT]? = some u7 := Tryz.func91
abbrev r6 : FuncId := 92
noncomputable abbrev tU : Func := Tryz.f92
theorem Po : P.funcs[r6]? = some tU := Tryz.func92
abbrev sj : FuncId := 93
noncomputable abbrev qG : Func := Tryz.f93
theorem UT : P.funcs[sj]? = some qG := Tryz.func93
abbrev Bk : FuncId := 94
noncomputable abbrev xB : Func := Tryz.f94
theorem Ue : P.funcs[Bk]? = some xB := Tryz.func94
abbrev mR : FuncId := 95
noncomputable abbrev sn : Func := Tryz.f95
theorem XS : P.funcs[mR]? = some sn := Tryz.func95
abbrev vI : FuncId := 96
noncomputable abbrev kj : Func := Tryz.f96
theorem So : P.funcs[vI]? = some kj := Tryz.func96
abbrev sZ : FuncId := 97
noncomputable abbrev uc : Func := Tryz.f97
theorem abH : P.funcs[sZ]? = some uc := Tryz.func97
abbrev oq : FuncId := 98
noncomputable abbrev rW : Func := Tryz.f98
theorem YR : P.funcs[oq]? = some rW := Tryz.func98
abbrev nr : FuncId := 99
noncomputable abbrev uu : Func := Tryz.f99
theorem NN : P.funcs[nr]? = some uu := Tryz.func99
abbrev vk : FuncId := 100
noncomputable abbrev vt : Func := Tryz.f100
theorem Vy : P.funcs[vk]? = some vt := Tryz.func100
abbrev oJ : FuncId := 102
noncomputable abbrev qp : Func := Tryz.f102
theorem Wz : P.funcs[oJ]? = some qp := Tryz.func102
abbrev tR : FuncId := 103
noncomputable abbrev vr : Func := Tryz.f103
theorem Xc : P.funcs[tR]? = some vr := Tryz.func103
abbrev qW : FuncId := 104
noncomputable abbrev sI : Func := Tryz.f104
theorem MR : P.funcs[qW]? = some sI := Tryz.func104
abbrev lS : FuncId := 105
noncomputable abbrev lM : Func := Tryz.f105
theorem Ll : P.funcs[lS]? = some lM := Tryz.func105
abbrev EP : FuncId := 106
noncomputable abbrev Ji : Func := Tryz.f106
theorem Sr : P.funcs[EP]? = some Ji := Tryz.func106
abbrev xU : FuncId := 107
noncomputable abbrev vq : Func := Tryz.f107
theorem WS : P.funcs[xU]? = some vq := Tryz.func107
abbrev wI : FuncId := 108
noncomputable abbrev qy : Func := Tryz.f108
theorem SD : P.funcs[wI]? = some qy := Tryz.func108
abbrev vm : FuncId := 109
noncomputable abbrev rH : Func := Tryz.f109
theorem Ok : P.funcs[vm]? = some rH := Tryz.func109
abbrev IJ : FuncId := 110
noncomputable abbrev I9 : Func := Tryz.f110
theorem Pe : P.funcs[IJ]? = some I9 := Tryz.func110
abbrev CA : FuncId := 111
noncomputable abbrev GH : Func := Tryz.f111
theorem Sw : P.funcs[CA]? = some GH := Tryz.func111
abbrev qv : FuncId := 112
noncomputable abbrev uY : Func := Tryz.f112
theorem Yw : P.funcs[qv]? = some uY := Tryz.func112
abbrev FM : FuncId := 113
noncomputable abbrev Fj : Func := Tryz.f113
theorem Yc : P.funcs[FM]? = some Fj := Tryz.func113
abbrev uk : FuncId := 114
noncomputable abbrev sk : Func := Tryz.f114
theorem UQ : P.funcs[uk]? = some sk := Tryz.func114
abbrev qh : FuncId := 115
noncomputable abbrev uC : Func := Tryz.f115
theorem Zy : P.funcs[qh]? = some uC := Tryz.func115
abbrev pH : FuncId := 116
noncomputable abbrev oE : Func := Tryz.f116
theorem F5 : P.funcs[pH]? = some oE := Tryz.func116
abbrev zj : FuncId := 117
noncomputable abbrev wH : Func := Tryz.f117
theorem P5 : P.funcs[zj]? = some wH := Tryz.func117
abbrev rE : FuncId := 118
noncomputable abbrev sy : Func := Tryz.f118
theorem W4 : P.funcs[rE]? = some sy := Tryz.func118
abbrev nE : FuncId := 119
noncomputable abbrev q7 : Func := Tryz.f119
theorem Lv : P.funcs[nE]? = some q7 := Tryz.func119
abbrev Dm : FuncId := 120
noncomputable abbrev Hv : Func := Tryz.f120
theorem Ut : P.funcs[Dm]? = some Hv := Tryz.func120
abbrev C2 : FuncId := 121
noncomputable abbrev FJ : Func := Tryz.f121
theorem Yf : P.funcs[C2]? = some FJ := Tryz.func121
abbrev oD : FuncId := 122
noncomputable abbrev nZ : Func := Tryz.f122
theorem aaS : P.funcs[oD]? = some nZ := Tryz.func122
abbrev rz : FuncId := 123
noncomputable abbrev tI : Func := Tryz.f123
theorem aaA : P.funcs[rz]? = some tI := Tryz.func123
abbrev uO : FuncId := 124
noncomputable abbrev vJ : Func := Tryz.f124
theorem Tq : P.funcs[uO]? = some vJ := Tryz.func124
abbrev oz : FuncId := 125
noncomputable abbrev iP : Func := Tryz.f125
theorem OM : P.funcs[oz]? = some iP := Tryz.func125
abbrev mC : FuncId := 126
noncomputable abbrev u5 : Func := Tryz.f126
theorem RL : P.funcs[mC]? = some u5 := Tryz.func126
abbrev xF : FuncId := 127
noncomputable abbrev oS : Func := Tryz.f127
theorem abD : P.funcs[xF]? = some oS := Tryz.func127
abbrev GV : FuncId := 128
noncomputable abbrev Gb : Func := Tryz.f128
theorem OY : P.funcs[GV]? = some Gb := Tryz.func128
abbrev G0 : FuncId := 131
noncomputable abbrev JL : Func := Tryz.f131
theorem S0 : P.funcs[G0]? = some JL := Tryz.func131
abbrev yZ : FuncId := 133
noncomputable abbrev sL : Func := Tryz.f133
theorem Te : P.funcs[yZ]? = some sL := Tryz.func133
abbrev uG : FuncId := 135
noncomputable abbrev uQ : Func := Tryz.f135
theorem N5 : P.funcs[uG]? = some uQ := Tryz.func135
abbrev nT : FuncId := 153
noncomputable abbrev qF : Func := Tryz.f153
theorem U9 : P.funcs[nT]? = some qF := Tryz.func153
abbrev rU : FuncId := 154
noncomputable abbrev vP : Func := Tryz.f154
theorem ZD : P.funcs[rU]? = some vP := Tryz.func154
abbrev su : FuncId := 157
noncomputable abbrev tS : Func := Tryz.f157
theorem Xn : P.funcs[su]? = some tS := Tryz.func157
abbrev qL : FuncId := 158
noncomputable abbrev jV : Func := Tryz.f158
theorem RM : P.funcs[qL]? = some jV := Tryz.func158
abbrev ot : FuncId := 159
noncomputable abbrev cJ : Func := Tryz.f159
theorem Xm : P.funcs[ot]? = some cJ := Tryz.func159
abbrev rZ : FuncId := 160
noncomputable abbrev tV : Func := Tryz.f160
theorem UK : P.funcs[rZ]? = some tV := Tryz.func160
abbrev qa : FuncId := 161
noncomputable abbrev vc : Func := Tryz.f161
theorem SO : P.funcs[qa]? = some vc := Tryz.func161
abbrev sO : FuncId := 162
noncomputable abbrev dM : Func := Tryz.f162
theorem T7 : P.funcs[sO]? = some dM := Tryz.func162
abbrev uf : FuncId := 163
noncomputable abbrev tq : Func := Tryz.f163
theorem RK : P.funcs[uf]? = some tq := Tryz.func163
abbrev o6 : FuncId := 164
noncomputable abbrev qO : Func := Tryz.f164
theorem Oz : P.funcs[o6]? = some qO := Tryz.func164
abbrev sw : FuncId := 165
noncomputable abbrev gl : Func := Tryz.f165
theorem LD : P.funcs[sw]? = some gl := Tryz.func165
abbrev td : FuncId := 166
noncomputable abbrev qD : Func := Tryz.f166
theorem Mo : P.funcs[td]? = some qD := Tryz.func166
abbrev yd : FuncId := 167
noncomputable abbrev r7 : Func := Tryz.f167
theorem SM : P.funcs[yd]? = some r7 := Tryz.func167
abbrev pM : FuncId := 168
noncomputable abbrev gI : Func := Tryz.f168
theorem KW : P.funcs[pM]? = some gI := Tryz.func168
abbrev wM : FuncId := 169
noncomputable abbrev qf : Func := Tryz.f169
theorem Oe : P.funcs[wM]? = some qf := Tryz.func169
abbrev qZ : FuncId := 170
noncomputable abbrev vG : Func := Tryz.f170
theorem Q3 : P.funcs[qZ]? = some vG := Tryz.func170
abbrev xw : FuncId := 171
noncomputable abbrev qK : Func := Tryz.f171
theorem Y6 : P.funcs[xw]? = some qK := Tryz.func171
abbrev r4 : FuncId := 172
noncomputable abbrev fz : Func := Tryz.f172
theorem SY : P.funcs[r4]? = some fz := Tryz.func172
abbrev s6 : FuncId := 173
noncomputable abbrev uU : Func := Tryz.f173
theorem Qo : P.funcs[s6]? = some uU := Tryz.func173
abbrev uS : FuncId := 176
noncomputable abbrev rm : Func := Tryz.f176
theorem Ol : P.funcs[uS]? = some rm := Tryz.func176
abbrev Cy : FuncId := 177
noncomputable abbrev xj : Func := Tryz.f177
theorem Ln : P.funcs[Cy]? = some xj := Tryz.func177
abbrev qH : FuncId := 178
noncomputable abbrev tH : Func := Tryz.f178
theorem Y3 : P.funcs[qH]? = some tH := Tryz.func178
abbrev Eo : FuncId := 179
noncomputable abbrev Dc : Func := Tryz.f179
theorem VF : P.funcs[Eo]? = some Dc := Tryz.func179
abbrev DN : FuncId := 180
noncomputable abbrev EC : Func := Tryz.f180
theorem S2 : P.funcs[DN]? = some EC := Tryz.func180
abbrev Ft : FuncId := 181
noncomputable abbrev DO : Func := Tryz.f181
theorem KX : P.funcs[Ft]? = some DO := Tryz.func181
abbrev Ds : FuncId := 182
noncomputable abbrev IG : Func := Tryz.f182
theorem KF : P.funcs[Ds]? = some IG := Tryz.func182
abbrev lH : FuncId := 183
noncomputable abbrev ry : Func := Tryz.f183
theorem Rb : P.funcs[lH]? = some ry := Tryz.func183
abbrev tQ : FuncId := 184
noncomputable abbrev qX : Func := Tryz.f184
theorem Uv : P.funcs[tQ]? = some qX := Tryz.func184
abbrev j9 : FuncId := 185
noncomputable abbrev ja : Func := Tryz.f185
theorem VJ : P.funcs[j9]? = some ja := Tryz.func185
abbrev od : FuncId := 186
noncomputable abbrev eL : Func := Tryz.f186
theorem KJ : P.funcs[od]? = some eL := Tryz.func186
abbrev s9 : FuncId := 187
noncomputable abbrev vg : Func := Tryz.f187
theorem Tj : P.funcs[s9]? = some vg := Tryz.func187
abbrev oo : FuncId := 188
noncomputable abbrev lP : Func := Tryz.f188
theorem Wr : P.funcs[oo]? = some lP := Tryz.func188
abbrev wS : FuncId := 190
noncomputable abbrev uy : Func := Tryz.f190
theorem LU : P.funcs[wS]? = some uy := Tryz.func190
abbrev yl : FuncId := 191
noncomputable abbrev ua : Func := Tryz.f191
theorem YA : P.funcs[yl]? = some ua := Tryz.func191
abbrev nK : FuncId := 196
noncomputable abbrev kX : Func := Tryz.f196
theorem TH : P.funcs[nK]? = some kX := Tryz.func196
abbrev ov : FuncId := 199
noncomputable abbrev nw : Func := Tryz.f199
theorem RB : P.funcs[ov]? = some nw := Tryz.func199
abbrev rK : FuncId := 200
noncomputable abbrev lX : Func := Tryz.f200
theorem Zk : P.funcs[rK]? = some lX := Tryz.func200
abbrev uN : FuncId := 201
noncomputable abbrev fI : Func := Tryz.f201
theorem Zx : P.funcs[uN]? = some fI := Tryz.func201
abbrev pK : FuncId := 202
noncomputable abbrev cM : Func := Tryz.f202
theorem Qm : P.funcs[pK]? = some cM := Tryz.func202
abbrev p9 : FuncId := 203
noncomputable abbrev fX : Func := Tryz.f203
theorem Nm : P.funcs[p9]? = some fX := Tryz.func203
abbrev pg : FuncId := 204
noncomputable abbrev s5 : Func := Tryz.f204
theorem Z3 : P.funcs[pg]? = some s5 := Tryz.func204
abbrev AY : FuncId := 205
noncomputable abbrev Rc : Func := Tryz.f205
theorem WB : P.funcs[AY]? = some Rc := Tryz.func205
abbrev vf : FuncId := 206
noncomputable abbrev jc : Func := Tryz.f206
theorem Pv : P.funcs[vf]? = some jc := Tryz.func206
abbrev uI : FuncId := 207
noncomputable abbrev mc : Func := Tryz.f207
theorem Ko : P.funcs[uI]? = some mc := Tryz.func207
abbrev qY : FuncId := 208
noncomputable abbrev nJ : Func := Tryz.f208
theorem Qd : P.funcs[qY]? = some nJ := Tryz.func208
abbrev nj : FuncId := 209
noncomputable abbrev fE : Func := Tryz.f209
theorem Y5 : P.funcs[nj]? = some fE := Tryz.func209
abbrev pD : FuncId := 210
noncomputable abbrev sC : Func := Tryz.f210
theorem LL : P.funcs[pD]? = some sC := Tryz.func210
abbrev oO : FuncId := 211
noncomputable abbrev mA : Func := Tryz.f211
theorem SH : P.funcs[oO]? = some mA := Tryz.func211
abbrev qu : FuncId := 212
noncomputable abbrev mQ : Func := Tryz.f212
theorem YL : P.funcs[qu]? = some mQ := Tryz.func212
abbrev vL : FuncId := 213
noncomputable abbrev mF : Func := Tryz.f213
theorem Sg : P.funcs[vL]? = some mF := Tryz.func213
abbrev nh : FuncId := 214
noncomputable abbrev rj : Func := Tryz.f214
theorem Vx : P.funcs[nh]? = some rj := Tryz.func214
abbrev DZ : FuncId := 215
noncomputable abbrev Gi : Func := Tryz.f215
theorem WR : P.funcs[DZ]? = some Gi := Tryz.func215
abbrev oH : FuncId := 216
noncomputable abbrev rY : Func := Tryz.f216
theorem O0 : P.funcs[oH]? = some rY := Tryz.func216
abbrev tu : FuncId := 217
noncomputable abbrev kJ : Func := Tryz.f217
theorem Tm : P.funcs[tu]? = some kJ := Tryz.func217
abbrev r5 : FuncId := 218
noncomputable abbrev uD : Func := Tryz.f218
theorem PU : P.funcs[r5]? = some uD := Tryz.func218
abbrev uz : FuncId := 219
noncomputable abbrev rG : Func := Tryz.f219
theorem VK : P.funcs[uz]? = some rG := Tryz.func219
abbrev qR : FuncId := 220
noncomputable abbrev kz : Func := Tryz.f220
theorem Qw : P.funcs[qR]? = some kz := Tryz.func220
abbrev ve : FuncId := 233
noncomputable abbrev kP : Func := Tryz.f233
theorem Ru : P.funcs[ve]? = some kP := Tryz.func233
abbrev sP : FuncId := 234
noncomputable abbrev k9 : Func := Tryz.f234
theorem NC : P.funcs[sP]? = some k9 := Tryz.func234
abbrev tT : FuncId := 235
noncomputable abbrev tK : Func := Tryz.f235
theorem Pb : P.funcs[tT]? = some tK := Tryz.func235
abbrev rP : FuncId := 236
noncomputable abbrev jg : Func := Tryz.f236
theorem RE : P.funcs[rP]? = some jg := Tryz.func236
abbrev wB : FuncId := 237
noncomputable abbrev vH : Func := Tryz.f237
theorem LO : P.funcs[wB]? = some vH := Tryz.func237
abbrev EL : TI := ⟨.int .i64, 1, 8, .int .i64 0⟩
theorem ok2 : bq P 2 EL := bL (by kernel_rfl) (by kernel_rfl) (by kernel_rfl)
abbrev Ig : TI := ⟨.int .i64, 1, 8, .int .i64 0⟩
theorem Y2 : bq P 3 Ig := bL (by kernel_rfl) (by kernel_rfl) (by kernel_rfl)
abbrev Hx : TI := ⟨.bool, 1, 1, .bool false⟩
theorem Xp : bq P 4 Hx := bL (by kernel_rfl) (by kernel_rfl) (by kernel_rfl)
abbrev JX : TI := ⟨.int .u8, 1, 1, .int .u8 0⟩
theorem Q4 : bq P 5 JX := bL (by kernel_rfl) (by kernel_rfl) (by kernel_rfl)
abbrev IT : TI := ⟨.int .u8, 1, 1, .int .u8 0⟩
theorem MU : bq P 6 IT := bL (by kernel_rfl) (by kernel_rfl) (by kernel_rfl)
abbrev Im : TI := ⟨.struct #[{ name := "x", type := 2, offset := 0, embedded := false, tag := "", pkgPath := "runtime", byteOffset := 0 }, { name := "y", type := 3, offset := 1, embedded := false, tag := "", pkgPath := "runtime", byteOffset := 8 }, { name := "signed", type := 4, offset := 2, embedded := false, tag := "", pkgPath := "runtime", byteOffset := 16 }, { name := "code", type := 6, offset := 3, embedded := false, tag := "", pkgPath := "runtime", byteOffset := 17 }], 4, 24, .agg [.int .i64 0, .int .i64 0, .bool false, .int .u8 0]⟩
theorem Xy : bq P 7 Im := bL (by kernel_rfl) (by kernel_rfl) (by kernel_rfl)
abbrev Eu : TI := ⟨.struct #[{ name := "x", type := 2, offset := 0, embedded := false, tag := "", pkgPath := "runtime", byteOffset := 0 }, { name := "y", type := 3, offset := 1, embedded := false, tag := "", pkgPath := "runtime", byteOffset := 8 }, { name := "signed", type := 4, offset := 2, embedded := false, tag := "", pkgPath := "runtime", byteOffset := 16 }, { name := "code", type := 6, offset := 3, embedded := false, tag := "", pkgPath := "runtime", byteOffset := 17 }], 4, 24, .agg [.int .i64 0, .int .i64 0, .bool false, .int .u8 0]⟩
theorem Yo : bq P 8 Eu := bL (by kernel_rfl) (by kernel_rfl) (by kernel_rfl)
abbrev HM : TI := ⟨.string, 1, 16, .tuple []⟩
theorem MX : bq P 9 HM := fS (by kernel_rfl) (by kernel_rfl) rfl
abbrev Ip : TI := ⟨.string, 1, 16, .tuple []⟩
theorem KY : bq P 10 Ip := fS (by kernel_rfl) (by kernel_rfl) rfl
abbrev Dk : TI := ⟨.string, 1, 16, .tuple []⟩
theorem Tn : bq P 11 Dk := fS (by kernel_rfl) (by kernel_rfl) rfl
abbrev CQ : TI := ⟨.int .u64, 1, 8, .int .u64 0⟩
theorem Rz : bq P 12 CQ := bL (by kernel_rfl) (by kernel_rfl) (by kernel_rfl)
abbrev Jy : TI := ⟨.struct #[{ name := "msg", type := 9, offset := 0, embedded := false, tag := "", pkgPath := "runtime", byteOffset := 0 }, { name := "addr", type := 12, offset := 1, embedded := false, tag := "", pkgPath := "runtime", byteOffset := 16 }], 2, 24, .tuple []⟩
theorem MD : bq P 13 Jy := fS (by kernel_rfl) (by kernel_rfl) rfl
abbrev JU : TI := ⟨.struct #[{ name := "msg", type := 9, offset := 0, embedded := false, tag := "", pkgPath := "runtime", byteOffset := 0 }, { name := "addr", type := 12, offset := 1, embedded := false, tag := "", pkgPath := "runtime", byteOffset := 16 }], 2, 24, .tuple []⟩
theorem NQ : bq P 14 JU := fS (by kernel_rfl) (by kernel_rfl) rfl
abbrev DQ : TI := ⟨.pointer 246, 1, 8, .tuple []⟩
theorem RP : bq P 15 DQ := fS (by kernel_rfl) (by kernel_rfl) rfl
abbrev FK : TI := ⟨.pointer 249, 1, 8, .tuple []⟩
theorem W6 : bq P 16 FK := fS (by kernel_rfl) (by kernel_rfl) rfl
abbrev G5 : TI := ⟨.pointer 258, 1, 8, .tuple []⟩
theorem XA : bq P 17 G5 := fS (by kernel_rfl) (by kernel_rfl) rfl
abbrev Jv : TI := ⟨.struct #[{ name := "typ", type := 17, offset := 0, embedded := false, tag := "", pkgPath := "internal/runtime/maps", byteOffset := 0 }], 1, 8, .tuple []⟩
theorem Vh : bq P 18 Jv := fS (by kernel_rfl) (by kernel_rfl) rfl
abbrev JD : TI := ⟨.struct #[{ name := "typ", type := 17, offset := 0, embedded := false, tag := "", pkgPath := "internal/runtime/maps", byteOffset := 0 }], 1, 8, .tuple []⟩
theorem Pg : bq P 19 JD := fS (by kernel_rfl) (by kernel_rfl) rfl
abbrev Gw : TI := ⟨.int .i32, 1, 4, .int .i32 0⟩
theorem PJ : bq P 21 Gw := bL (by kernel_rfl) (by kernel_rfl) (by kernel_rfl)
abbrev FI : TI := ⟨.slice 3, 1, 24, .nil⟩
theorem UE : bq P 22 FI := bL (by kernel_rfl) (by kernel_rfl) (by kernel_rfl)
abbrev Hy : TI := ⟨.slice 42, 1, 24, .nil⟩
theorem Tg : bq P 25 Hy := bL (by kernel_rfl) (by kernel_rfl) (by kernel_rfl)
abbrev CI : TI := ⟨.slice 123, 1, 24, .nil⟩
theorem Pc : bq P 26 CI := bL (by kernel_rfl) (by kernel_rfl) (by kernel_rfl)
abbrev Kb : TI := ⟨.struct #[{ name := "Degree", type := 3, offset := 0, embedded := false, tag := "", pkgPath := "", byteOffset := 0 }, { name := "Knots", type := 25, offset := 1, embedded := false, tag := "", pkgPath := "", byteOffset := 8 }, { name := "Poles", type := 26, offset := 2, embedded := false, tag := "", pkgPath := "", byteOffset := 32 }], 3, 56, .agg [.int .i64 0, .nil, .nil]⟩
theorem ZI : bq P 27 Kb := bL (by kernel_rfl) (by kernel_rfl) (by kernel_rfl)
abbrev FZ : TI := ⟨.struct #[{ name := "Degree", type := 3, offset := 0, embedded := false, tag := "", pkgPath := "", byteOffset := 0 }, { name := "Knots", type := 25, offset := 1, embedded := false, tag := "", pkgPath := "", byteOffset := 8 }, { name := "Poles", type := 26, offset := 2, embedded := false, tag := "", pkgPath := "", byteOffset := 32 }], 3, 56, .agg [.int .i64 0, .nil, .nil]⟩
theorem WW : bq P 28 FZ := bL (by kernel_rfl) (by kernel_rfl) (by kernel_rfl)
abbrev FY : TI := ⟨.pointer 120, 1, 8, .tuple []⟩
theorem aab : bq P 29 FY := fS (by kernel_rfl) (by kernel_rfl) rfl
abbrev DU : TI := ⟨.slice 26, 1, 24, .nil⟩
theorem Oq : bq P 33 DU := bL (by kernel_rfl) (by kernel_rfl) (by kernel_rfl)
abbrev Jw : TI := ⟨.struct #[{ name := "U", type := 3, offset := 0, embedded := false, tag := "", pkgPath := "", byteOffset := 0 }, { name := "V", type := 3, offset := 1, embedded := false, tag := "", pkgPath := "", byteOffset := 8 }, { name := "KnotsU", type := 25, offset := 2, embedded := false, tag := "", pkgPath := "", byteOffset := 16 }, { name := "KnotsV", type := 25, offset := 3, embedded := false, tag := "", pkgPath := "", byteOffset := 40 }, { name := "Poles", type := 33, offset := 4, embedded := false, tag := "", pkgPath := "", byteOffset := 64 }], 5, 88, .agg [.int .i64 0, .int .i64 0, .nil, .nil, .nil]⟩
theorem On : bq P 34 Jw := bL (by kernel_rfl) (by kernel_rfl) (by kernel_rfl)
abbrev IN : TI := ⟨.struct #[{ name := "U", type := 3, offset := 0, embedded := false, tag := "", pkgPath := "", byteOffset := 0 }, { name := "V", type := 3, offset := 1, embedded := false, tag := "", pkgPath := "", byteOffset := 8 }, { name := "KnotsU", type := 25, offset := 2, embedded := false, tag := "", pkgPath := "", byteOffset := 16 }, { name := "KnotsV", type := 25, offset := 3, embedded := false, tag := "", pkgPath := "", byteOffset := 40 }, { name := "Poles", type := 33, offset := 4, embedded := false, tag := "", pkgPath := "", byteOffset := 64 }], 5, 88, .agg [.int .i64 0, .int .i64 0, .nil, .nil, .nil]⟩
theorem Sb : bq P 35 IN := bL (by kernel_rfl) (by kernel_rfl) (by kernel_rfl)
abbrev GY : TI := ⟨.int .i64, 1, 8, .int .i64 0⟩
theorem RY : bq P 36 GY := bL (by kernel_rfl) (by kernel_rfl) (by kernel_rfl)
abbrev EM : TI := ⟨.slice 188, 1, 24, .nil⟩
theorem ZF : bq P 40 EM := bL (by kernel_rfl) (by kernel_rfl) (by kernel_rfl)
abbrev C6 : TI := ⟨.struct #[{ name := "Neg", type := 4, offset := 0, embedded := false, tag := "", pkgPath := "", byteOffset := 0 }, { name := "Num", type := 40, offset := 1, embedded := false, tag := "", pkgPath := "", byteOffset := 8 }, { name := "Den", type := 40, offset := 2, embedded := false, tag := "", pkgPath := "", byteOffset := 32 }], 3, 56, .agg [.bool false, .nil, .nil]⟩
theorem Zs : bq P 41 C6 := bL (by kernel_rfl) (by kernel_rfl) (by kernel_rfl)
abbrev II : TI := ⟨.struct #[{ name := "Neg", type := 4, offset := 0, embedded := false, tag := "", pkgPath := "", byteOffset := 0 }, { name := "Num", type := 40, offset := 1, embedded := false, tag := "", pkgPath := "", byteOffset := 8 }, { name := "Den", type := 40, offset := 2, embedded := false, tag := "", pkgPath := "", byteOffset := 32 }], 3, 56, .rat 0 1⟩
theorem Yi : bq P 42 II := bL (by kernel_rfl) (by kernel_rfl) (by kernel_rfl)
abbrev GB : TI := ⟨.struct #[{ name := "Lo", type := 42, offset := 0, embedded := false, tag := "", pkgPath := "", byteOffset := 0 }, { name := "Hi", type := 42, offset := 3, embedded := false, tag := "", pkgPath := "", byteOffset := 56 }], 6, 112, .agg [.rat 0 1, .rat 0 1]⟩
theorem K7 : bq P 43 GB := bL (by kernel_rfl) (by kernel_rfl) (by kernel_rfl)
abbrev Kc : TI := ⟨.struct #[{ name := "Lo", type := 42, offset := 0, embedded := false, tag := "", pkgPath := "", byteOffset := 0 }, { name := "Hi", type := 42, offset := 3, embedded := false, tag := "", pkgPath := "", byteOffset := 56 }], 6, 112, .agg [.rat 0 1, .rat 0 1]⟩
theorem S7 : bq P 44 Kc := bL (by kernel_rfl) (by kernel_rfl) (by kernel_rfl)
abbrev EZ : TI := ⟨.array 3 42, 9, 168, .agg [.rat 0 1, .rat 0 1, .rat 0 1]⟩
theorem L4 : bq P 48 EZ := bL (by kernel_rfl) (by kernel_rfl) (by kernel_rfl)
abbrev Hj : TI := ⟨.array 3 42, 9, 168, .agg [.rat 0 1, .rat 0 1, .rat 0 1]⟩
theorem VV : bq P 49 Hj := bL (by kernel_rfl) (by kernel_rfl) (by kernel_rfl)
abbrev Hf : TI := ⟨.array 3 49, 27, 504, .agg [.agg [.rat 0 1, .rat 0 1, .rat 0 1], .agg [.rat 0 1, .rat 0 1, .rat 0 1], .agg [.rat 0 1, .rat 0 1, .rat 0 1]]⟩
theorem Mv : bq P 58 Hf := bL (by kernel_rfl) (by kernel_rfl) (by kernel_rfl)
abbrev CK : TI := ⟨.struct #[{ name := "M", type := 58, offset := 0, embedded := false, tag := "", pkgPath := "", byteOffset := 0 }, { name := "T", type := 49, offset := 27, embedded := false, tag := "", pkgPath := "", byteOffset := 504 }], 36, 672, .agg [.agg [.agg [.rat 0 1, .rat 0 1, .rat 0 1], .agg [.rat 0 1, .rat 0 1, .rat 0 1], .agg [.rat 0 1, .rat 0 1, .rat 0 1]], .agg [.rat 0 1, .rat 0 1, .rat 0 1]]⟩
theorem WX : bq P 59 CK := bL (by kernel_rfl) (by kernel_rfl) (by kernel_rfl)
abbrev Kg : TI := ⟨.struct #[{ name := "M", type := 58, offset := 0, embedded := false, tag := "", pkgPath := "", byteOffset := 0 }, { name := "T", type := 49, offset := 27, embedded := false, tag := "", pkgPath := "", byteOffset := 504 }], 36, 672, .agg [.agg [.agg [.rat 0 1, .rat 0 1, .rat 0 1], .agg [.rat 0 1, .rat 0 1, .rat 0 1], .agg [.rat 0 1, .rat 0 1, .rat 0 1]], .agg [.rat 0 1, .rat 0 1, .rat 0 1]]⟩
theorem MH : bq P 60 Kg := bL (by kernel_rfl) (by kernel_rfl) (by kernel_rfl)
abbrev HJ : TI := ⟨.slice 49, 1, 24, .nil⟩
theorem aaR : bq P 82 HJ := bL (by kernel_rfl) (by kernel_rfl) (by kernel_rfl)
abbrev HY : TI := ⟨.slice 103, 1, 24, .nil⟩
theorem Ww : bq P 98 HY := bL (by kernel_rfl) (by kernel_rfl) (by kernel_rfl)
abbrev I0 : TI := ⟨.slice 44, 1, 24, .nil⟩
theorem M0 : bq P 101 I0 := bL (by kernel_rfl) (by kernel_rfl) (by kernel_rfl)
abbrev F1 : TI := ⟨.struct #[{ name := "A", type := 101, offset := 0, embedded := false, tag := "", pkgPath := "", byteOffset := 0 }, { name := "B", type := 101, offset := 1, embedded := false, tag := "", pkgPath := "", byteOffset := 24 }, { name := "Kind", type := 3, offset := 2, embedded := false, tag := "", pkgPath := "", byteOffset := 48 }, { name := "K", type := 3, offset := 3, embedded := false, tag := "", pkgPath := "", byteOffset := 56 }], 4, 64, .agg [.nil, .nil, .int .i64 0, .int .i64 0]⟩
theorem UX : bq P 102 F1 := bL (by kernel_rfl) (by kernel_rfl) (by kernel_rfl)
abbrev EO : TI := ⟨.struct #[{ name := "A", type := 101, offset := 0, embedded := false, tag := "", pkgPath := "", byteOffset := 0 }, { name := "B", type := 101, offset := 1, embedded := false, tag := "", pkgPath := "", byteOffset := 24 }, { name := "Kind", type := 3, offset := 2, embedded := false, tag := "", pkgPath := "", byteOffset := 48 }, { name := "K", type := 3, offset := 3, embedded := false, tag := "", pkgPath := "", byteOffset := 56 }], 4, 64, .agg [.nil, .nil, .int .i64 0, .int .i64 0]⟩
theorem KL : bq P 103 EO := bL (by kernel_rfl) (by kernel_rfl) (by kernel_rfl)
abbrev Kf : TI := ⟨.slice 22, 1, 24, .nil⟩
theorem aa7 : bq P 111 Kf := bL (by kernel_rfl) (by kernel_rfl) (by kernel_rfl)
abbrev IC : TI := ⟨.struct #[{ name := "L", type := 22, offset := 0, embedded := false, tag := "", pkgPath := "", byteOffset := 0 }, { name := "At", type := 3, offset := 1, embedded := false, tag := "", pkgPath := "", byteOffset := 24 }], 2, 32, .agg [.nil, .int .i64 0]⟩
theorem NT : bq P 119 IC := bL (by kernel_rfl) (by kernel_rfl) (by kernel_rfl)
abbrev El : TI := ⟨.struct #[{ name := "L", type := 22, offset := 0, embedded := false, tag := "", pkgPath := "", byteOffset := 0 }, { name := "At", type := 3, offset := 1, embedded := false, tag := "", pkgPath := "", byteOffset := 24 }], 2, 32, .agg [.nil, .int .i64 0]⟩
theorem Lw : bq P 120 El := bL (by kernel_rfl) (by kernel_rfl) (by kernel_rfl)
abbrev DF : TI := ⟨.struct #[{ name := "P", type := 49, offset := 0, embedded := false, tag := "", pkgPath := "", byteOffset := 0 }, { name := "W", type := 42, offset := 9, embedded := false, tag := "", pkgPath := "", byteOffset := 168 }], 12, 224, .agg [.agg [.rat 0 1, .rat 0 1, .rat 0 1], .rat 0 1]⟩
theorem LQ : bq P 122 DF := bL (by kernel_rfl) (by kernel_rfl) (by kernel_rfl)
abbrev Jo : TI := ⟨.struct #[{ name := "P", type := 49, offset := 0, embedded := false, tag := "", pkgPath := "", byteOffset := 0 }, { name := "W", type := 42, offset := 9, embedded := false, tag := "", pkgPath := "", byteOffset := 168 }], 12, 224, .agg [.agg [.rat 0 1, .rat 0 1, .rat 0 1], .rat 0 1]⟩
theorem UY : bq P 123 Jo := bL (by kernel_rfl) (by kernel_rfl) (by kernel_rfl)
abbrev JB : TI := ⟨.array 3 2, 3, 24, .agg [.int .i64 0, .int .i64 0, .int .i64 0]⟩
theorem MA : bq P 127 JB := bL (by kernel_rfl) (by kernel_rfl) (by kernel_rfl)
abbrev Hp : TI := ⟨.array 9 127, 27, 216, .agg [.agg [.int .i64 0, .int .i64 0, .int .i64 0], .agg [.int .i64 0, .int .i64 0, .int .i64 0], .agg [.int .i64 0, .int .i64 0, .int .i64 0], .agg [.int .i64 0, .int .i64 0, .int .i64 0], .agg [.int .i64 0, .int .i64 0, .int .i64 0], .agg [.int .i64 0, .int .i64 0, .int .i64 0], .agg [.int .i64 0, .int .i64 0, .int .i64 0], .agg [.int .i64 0, .int .i64 0, .int .i64 0], .agg [.int .i64 0, .int .i64 0, .int .i64 0]]⟩
theorem Kq : bq P 128 Hp := bL (by kernel_rfl) (by kernel_rfl) (by kernel_rfl)
abbrev D5 : TI := ⟨.slice 127, 1, 24, .nil⟩
theorem VX : bq P 130 D5 := bL (by kernel_rfl) (by kernel_rfl) (by kernel_rfl)
abbrev Dz : TI := ⟨.array 4 42, 12, 224, .agg [.rat 0 1, .rat 0 1, .rat 0 1, .rat 0 1]⟩
theorem RI : bq P 140 Dz := bL (by kernel_rfl) (by kernel_rfl) (by kernel_rfl)
abbrev IK : TI := ⟨.slice 28, 1, 24, .nil⟩
theorem aaE : bq P 151 IK := bL (by kernel_rfl) (by kernel_rfl) (by kernel_rfl)
abbrev DJ : TI := ⟨.slice 2, 1, 24, .nil⟩
theorem Sk : bq P 161 DJ := bL (by kernel_rfl) (by kernel_rfl) (by kernel_rfl)
abbrev HD : TI := ⟨.slice 4, 1, 24, .nil⟩
theorem Qu : bq P 175 HD := bL (by kernel_rfl) (by kernel_rfl) (by kernel_rfl)
abbrev EF : TI := ⟨.int .u64, 1, 8, .int .u64 0⟩
theorem YT : bq P 183 EF := bL (by kernel_rfl) (by kernel_rfl) (by kernel_rfl)
abbrev IB : TI := ⟨.int .u32, 1, 4, .int .u32 0⟩
theorem ZJ : bq P 188 IB := bL (by kernel_rfl) (by kernel_rfl) (by kernel_rfl)
abbrev EB : TI := ⟨.int .u64, 1, 8, .int .u64 0⟩
theorem Z0 : bq P 202 EB := bL (by kernel_rfl) (by kernel_rfl) (by kernel_rfl)
abbrev Fe : TI := ⟨.slice 5, 1, 24, .nil⟩
theorem Ss : bq P 209 Fe := bL (by kernel_rfl) (by kernel_rfl) (by kernel_rfl)
abbrev Gm : TI := ⟨.slice 101, 1, 24, .nil⟩
theorem Xi : bq P 223 Gm := bL (by kernel_rfl) (by kernel_rfl) (by kernel_rfl)
abbrev F7 : TI := ⟨.int .i64, 1, 8, .int .i64 0⟩
theorem Z2 : bq P 227 F7 := bL (by kernel_rfl) (by kernel_rfl) (by kernel_rfl)
abbrev GL : TI := ⟨.int .u64, 1, 8, .int .u64 0⟩
theorem Nk : bq P 235 GL := bL (by kernel_rfl) (by kernel_rfl) (by kernel_rfl)
abbrev JK : TI := ⟨.pointer 3, 1, 8, .tuple []⟩
theorem RH : bq P 239 JK := fS (by kernel_rfl) (by kernel_rfl) rfl
abbrev Fs : TI := ⟨.pointer 235, 1, 8, .tuple []⟩
theorem YN : bq P 241 Fs := fS (by kernel_rfl) (by kernel_rfl) rfl
abbrev Df : TI := ⟨.struct #[{ name := "_interface", type := 17, offset := 0, embedded := false, tag := "", pkgPath := "runtime", byteOffset := 0 }, { name := "concrete", type := 17, offset := 1, embedded := false, tag := "", pkgPath := "runtime", byteOffset := 8 }, { name := "asserted", type := 17, offset := 2, embedded := false, tag := "", pkgPath := "runtime", byteOffset := 16 }, { name := "missingMethod", type := 9, offset := 3, embedded := false, tag := "", pkgPath := "runtime", byteOffset := 24 }], 4, 40, .tuple []⟩
theorem R5 : bq P 245 Df := fS (by kernel_rfl) (by kernel_rfl) rfl
abbrev Gj : TI := ⟨.struct #[{ name := "_interface", type := 17, offset := 0, embedded := false, tag := "", pkgPath := "runtime", byteOffset := 0 }, { name := "concrete", type := 17, offset := 1, embedded := false, tag := "", pkgPath := "runtime", byteOffset := 8 }, { name := "asserted", type := 17, offset := 2, embedded := false, tag := "", pkgPath := "runtime", byteOffset := 16 }, { name := "missingMethod", type := 9, offset := 3, embedded := false, tag := "", pkgPath := "runtime", byteOffset := 24 }], 4, 40, .tuple []⟩
theorem Pj : bq P 246 Gj := fS (by kernel_rfl) (by kernel_rfl) rfl
abbrev I5 : TI := ⟨.int .u8, 1, 1, .int .u8 0⟩
theorem TO : bq P 251 I5 := bL (by kernel_rfl) (by kernel_rfl) (by kernel_rfl)
abbrev Jn : TI := ⟨.int .u8, 1, 1, .int .u8 0⟩
theorem PS : bq P 252 Jn := bL (by kernel_rfl) (by kernel_rfl) (by kernel_rfl)
abbrev Gl : TI := ⟨.pointer 5, 1, 8, .tuple []⟩
theorem VP : bq P 254 Gl := fS (by kernel_rfl) (by kernel_rfl) rfl
abbrev Ix : TI := ⟨.int .i32, 1, 4, .int .i32 0⟩
theorem Tw : bq P 255 Ix := bL (by kernel_rfl) (by kernel_rfl) (by kernel_rfl)
abbrev H6 : TI := ⟨.int .i32, 1, 4, .int .i32 0⟩
theorem T6 : bq P 256 H6 := bL (by kernel_rfl) (by kernel_rfl) (by kernel_rfl)
abbrev D6 : TI := ⟨.struct #[{ name := "Size_", type := 12, offset := 0, embedded := false, tag := "", pkgPath := "", byteOffset := 0 }, { name := "PtrBytes", type := 12, offset := 1, embedded := false, tag := "", pkgPath := "", byteOffset := 8 }, { name := "Hash", type := 188, offset := 2, embedded := false, tag := "", pkgPath := "", byteOffset := 16 }, { name := "TFlag", type := 251, offset := 3, embedded := false, tag := "", pkgPath := "", byteOffset := 20 }, { name := "Align_", type := 5, offset := 4, embedded := false, tag := "", pkgPath := "", byteOffset := 21 }, { name := "FieldAlign_", type := 5, offset := 5, embedded := false, tag := "", pkgPath := "", byteOffset := 22 }, { name := "Kind_", type := 252, offset := 6, embedded := false, tag := "", pkgPath := "", byteOffset := 23 }, { name := "Equal", type := 253, offset := 7, embedded := false, tag := "", pkgPath := "", byteOffset := 24 }, { name := "GCData", type := 254, offset := 8, embedded := false, tag := "", pkgPath := "", byteOffset := 32 }, { name := "Str", type := 255, offset := 9, embedded := false, tag := "", pkgPath := "", byteOffset := 40 }, { name := "PtrToThis", type := 256, offset := 10, embedded := false, tag := "", pkgPath := "", byteOffset := 44 }], 11, 48, .tuple []⟩
theorem OG : bq P 257 D6 := fS (by kernel_rfl) (by kernel_rfl) rfl
abbrev DY : TI := ⟨.struct #[{ name := "Size_", type := 12, offset := 0, embedded := false, tag := "", pkgPath := "", byteOffset := 0 }, { name := "PtrBytes", type := 12, offset := 1, embedded := false, tag := "", pkgPath := "", byteOffset := 8 }, { name := "Hash", type := 188, offset := 2, embedded := false, tag := "", pkgPath := "", byteOffset := 16 }, { name := "TFlag", type := 251, offset := 3, embedded := false, tag := "", pkgPath := "", byteOffset := 20 }, { name := "Align_", type := 5, offset := 4, embedded := false, tag := "", pkgPath := "", byteOffset := 21 }, { name := "FieldAlign_", type := 5, offset := 5, embedded := false, tag := "", pkgPath := "", byteOffset := 22 }, { name := "Kind_", type := 252, offset := 6, embedded := false, tag := "", pkgPath := "", byteOffset := 23 }, { name := "Equal", type := 253, offset := 7, embedded := false, tag := "", pkgPath := "", byteOffset := 24 }, { name := "GCData", type := 254, offset := 8, embedded := false, tag := "", pkgPath := "", byteOffset := 32 }, { name := "Str", type := 255, offset := 9, embedded := false, tag := "", pkgPath := "", byteOffset := 40 }, { name := "PtrToThis", type := 256, offset := 10, embedded := false, tag := "", pkgPath := "", byteOffset := 44 }], 11, 48, .tuple []⟩
theorem Nb : bq P 258 DY := fS (by kernel_rfl) (by kernel_rfl) rfl
abbrev T : Types := [(2, EL), (3, Ig), (4, Hx), (5, JX), (6, IT), (7, Im), (8, Eu), (9, HM), (10, Ip), (11, Dk), (12, CQ), (13, Jy), (14, JU), (15, DQ), (16, FK), (17, G5), (18, Jv), (19, JD), (21, Gw), (22, FI), (25, Hy), (26, CI), (27, Kb), (28, FZ), (29, FY), (33, DU), (34, Jw), (35, IN), (36, GY), (40, EM), (41, C6), (42, II), (43, GB), (44, Kc), (48, EZ), (49, Hj), (58, Hf), (59, CK), (60, Kg), (82, HJ), (98, HY), (101, I0), (102, F1), (103, EO), (111, Kf), (119, IC), (120, El), (122, DF), (123, Jo), (127, JB), (128, Hp), (130, D5), (140, Dz), (151, IK), (161, DJ), (175, HD), (183, EF), (188, IB), (202, EB), (209, Fe), (223, Gm), (227, F7), (235, GL), (239, JK), (241, Fs), (245, Df), (246, Gj), (251, I5), (252, Jn), (254, Gl), (255, Ix), (256, H6), (257, D6), (258, DY)]
theorem hT : dH P T := bt ok2 (bt Y2 (bt Xp (bt Q4 (bt MU (bt Xy (bt Yo (bt MX (bt KY (bt Tn (bt Rz (bt MD (bt NQ (bt RP (bt W6 (bt XA (bt Vh (bt Pg (bt PJ (bt UE (bt Tg (bt Pc (bt ZI (bt WW (bt aab (bt Oq (bt On (bt Sb (bt RY (bt ZF (bt Zs (bt Yi (bt K7 (bt S7 (bt L4 (bt VV (bt Mv (bt WX (bt MH (bt aaR (bt Ww (bt M0 (bt UX (bt KL (bt aa7 (bt NT (bt Lw (bt LQ (bt UY (bt MA (bt Kq (bt VX (bt RI (bt aaE (bt Sk (bt Qu (bt YT (bt ZJ (bt Z0 (bt Ss (bt Xi (bt Z2 (bt Nk (bt RH (bt YN (bt R5 (bt Pj (bt TO (bt PS (bt VP (bt Tw (bt T6 (bt OG (bt Nb (Ph))))))))))))))))))))))))))))))))))))))))))))))))))))))))))))))))))))))))))
end Go.Am.N
