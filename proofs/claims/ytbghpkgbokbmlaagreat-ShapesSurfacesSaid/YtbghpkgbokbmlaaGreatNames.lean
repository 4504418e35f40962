/- The seat's names: the numbers of functions, the types. Written by a program. -/
import Derived.Test.YtbghpkgbokbmlaaGreatZ1
import Derived.Test.YtbghpkgbokbmlaaGreatProg
import Derived.KernelRfl
set_option linter.unusedVariables false
namespace Go.Am.N
open Go.Proofs
noncomputable abbrev P : Program := Tryz.prog
theorem hm : P.follows .mixedOrders = true := by kernel_rfl
abbrev BO : FuncId := 7
noncomputable abbrev kH : Func := Tryz.f7
theorem Y4 : P.funcs[BO]? = some kH := Tryz.func7
abbrev xW : FuncId := 10
noncomputable abbrev rO : Func := Tryz.f10
theorem XB : P.funcs[xW]? = some rO := Tryz.func10
abbrev wG : FuncId := 11
noncomputable abbrev AE : Func := Tryz.f11
theorem WM : P.funcs[wG]? = some AE := Tryz.func11
abbrev yd : FuncId := 12
noncomputable abbrev yz : Func := Tryz.f12
theorem Vd : P.funcs[yd]? = some yz := Tryz.func12
abbrev vM : FuncId := 13
noncomputable abbrev tZ : Func := Tryz.f13
theorem R6 : P.funcs[vM]? = some tZ := Tryz.func13
abbrev oH : FuncId := 14
noncomputable abbrev q9 : Func := Tryz.f14
theorem aaL : P.funcs[oH]? = some q9 := Tryz.func14
abbrev mC : FuncId := 15
noncomputable abbrev lW : Func := Tryz.f15
theorem Ja : P.funcs[mC]? = some lW := Tryz.func15
abbrev wz : FuncId := 20
noncomputable abbrev sJ : Func := Tryz.f20
theorem Nr : P.funcs[wz]? = some sJ := Tryz.func20
abbrev mQ : FuncId := 21
noncomputable abbrev vJ : Func := Tryz.f21
theorem Vs : P.funcs[mQ]? = some vJ := Tryz.func21
abbrev qU : FuncId := 22
noncomputable abbrev uN : Func := Tryz.f22
theorem Qk : P.funcs[qU]? = some uN := Tryz.func22
abbrev Gj : FuncId := 24
noncomputable abbrev EJ : Func := Tryz.f24
theorem Ye : P.funcs[Gj]? = some EJ := Tryz.func24
abbrev D3 : FuncId := 25
noncomputable abbrev C8 : Func := Tryz.f25
theorem Pe : P.funcs[D3]? = some C8 := Tryz.func25
abbrev pJ : FuncId := 27
noncomputable abbrev vm : Func := Tryz.f27
theorem Pc : P.funcs[pJ]? = some vm := Tryz.func27
abbrev CT : FuncId := 28
noncomputable abbrev IE : Func := Tryz.f28
theorem XY : P.funcs[CT]? = some IE := Tryz.func28
abbrev BY : FuncId := 29
noncomputable abbrev BZ : Func := Tryz.f29
theorem CO : P.funcs[BY]? = some BZ := Tryz.func29
abbrev pg : FuncId := 30
noncomputable abbrev u5 : Func := Tryz.f30
theorem J2 : P.funcs[pg]? = some u5 := Tryz.func30
abbrev JO : FuncId := 31
noncomputable abbrev G6 : Func := Tryz.f31
theorem T2 : P.funcs[JO]? = some G6 := Tryz.func31
abbrev ir : FuncId := 33
noncomputable abbrev ri : Func := Tryz.f33
theorem Pb : P.funcs[ir]? = some ri := Tryz.func33
abbrev sO : FuncId := 34
noncomputable abbrev uU : Func := Tryz.f34
theorem OK : P.funcs[sO]? = some uU := Tryz.func34
abbrev ot : FuncId := 38
noncomputable abbrev su : Func := Tryz.f38
theorem WB : P.funcs[ot]? = some su := Tryz.func38
abbrev rK : FuncId := 42
noncomputable abbrev tv : Func := Tryz.f42
theorem Sn : P.funcs[rK]? = some tv := Tryz.func42
abbrev Iw : FuncId := 46
noncomputable abbrev Fh : Func := Tryz.f46
theorem YC : P.funcs[Iw]? = some Fh := Tryz.func46
abbrev Fq : FuncId := 47
noncomputable abbrev Hl : Func := Tryz.f47
theorem Rd : P.funcs[Fq]? = some Hl := Tryz.func47
abbrev xQ : FuncId := 51
noncomputable abbrev vj : Func := Tryz.f51
theorem Wy : P.funcs[xQ]? = some vj := Tryz.func51
abbrev oP : FuncId := 52
noncomputable abbrev tI : Func := Tryz.f52
theorem Wi : P.funcs[oP]? = some tI := Tryz.func52
abbrev oM : FuncId := 53
noncomputable abbrev uz : Func := Tryz.f53
theorem Tn : P.funcs[oM]? = some uz := Tryz.func53
abbrev nZ : FuncId := 54
noncomputable abbrev mS : Func := Tryz.f54
theorem Mq : P.funcs[nZ]? = some mS := Tryz.func54
abbrev tR : FuncId := 55
noncomputable abbrev uV : Func := Tryz.f55
theorem Su : P.funcs[tR]? = some uV := Tryz.func55
abbrev vK : FuncId := 56
noncomputable abbrev rS : Func := Tryz.f56
theorem aan : P.funcs[vK]? = some rS := Tryz.func56
abbrev th : FuncId := 57
noncomputable abbrev vv : Func := Tryz.f57
theorem Yv : P.funcs[th]? = some vv := Tryz.func57
abbrev rG : FuncId := 58
noncomputable abbrev ue : Func := Tryz.f58
theorem Xn : P.funcs[rG]? = some ue := Tryz.func58
abbrev CV : FuncId := 60
noncomputable abbrev HA : Func := Tryz.f60
theorem XP : P.funcs[CV]? = some HA := Tryz.func60
abbrev wD : FuncId := 61
noncomputable abbrev qX : Func := Tryz.f61
theorem Sh : P.funcs[wD]? = some qX := Tryz.func61
abbrev lE : FuncId := 67
noncomputable abbrev sq : Func := Tryz.f67
theorem SK : P.funcs[lE]? = some sq := Tryz.func67
abbrev C0 : FuncId := 79
noncomputable abbrev HE : Func := Tryz.f79
theorem M4 : P.funcs[C0]? = some HE := Tryz.func79
abbrev oE : FuncId := 80
noncomputable abbrev r9 : Func := Tryz.f80
theorem SW : P.funcs[oE]? = some r9 := Tryz.func80
abbrev Im : FuncId := 81
noncomputable abbrev JG : Func := Tryz.f81
theorem P7 : P.funcs[Im]? = some JG := Tryz.func81
abbrev yg : FuncId := 82
noncomputable abbrev vH : Func := Tryz.f82
theorem RH : P.funcs[yg]? = some vH := Tryz.func82
abbrev Fw : FuncId := 83
noncomputable abbrev Gv : Func := Tryz.f83
theorem Qa : P.funcs[Fw]? = some Gv := Tryz.func83
abbrev vZ : FuncId := 84
noncomputable abbrev sB : Func := Tryz.f84
theorem QO : P.funcs[vZ]? = some sB := Tryz.func84
abbrev xq : FuncId := 85
noncomputable abbrev sI : Func := Tryz.f85
theorem U6 : P.funcs[xq]? = some sI := Tryz.func85
abbrev qy : FuncId := 86
noncomputable abbrev iP : Func := Tryz.f86
theorem IQ : P.funcs[qy]? = some iP := Tryz.func86
abbrev l7 : FuncId := 87
noncomputable abbrev pS : Func := Tryz.f87
theorem IN : P.funcs[l7]? = some pS := Tryz.func87
abbrev yR : FuncId := 88
noncomputable abbrev uw : Func := Tryz.f88
theorem FE : P.funcs[yR]? = some uw := Tryz.func88
abbrev mU : FuncId := 89
noncomputable abbrev vU : Func := Tryz.f89
theorem Qv : P.funcs[mU]? = some vU := Tryz.func89
abbrev rE : FuncId := 90
noncomputable abbrev tE : Func := Tryz.f90
theorem Xm : P.funcs[rE]? = some tE := Tryz.func90
abbrev sP : FuncId := 91
noncomputable abbrev uS : Func := Tryz.f91
theorem Uf : P.funcs[sP]? = some uS := Tryz.func91
abbrev vt : FuncId := 92
noncomputable abbrev vW : Func := Tryz.f92
theorem KN : P.funcs[vt]? = some vW := Tryz.func92
abbrev wN : FuncId := 97
noncomputable abbrev uu : Func := Tryz.f97
theorem RR : P.funcs[wN]? = some uu := Tryz.func97
abbrev nI : FuncId := 99
noncomputable abbrev tK : Func := Tryz.f99
theorem Ua : P.funcs[nI]? = some tK := Tryz.func99
abbrev rY : FuncId := 100
noncomputable abbrev vI : Func := Tryz.f100
theorem Nn : P.funcs[rY]? = some vI := Tryz.func100
abbrev qd : FuncId := 102
noncomputable abbrev uQ : Func := Tryz.f102
theorem YF : P.funcs[qd]? = some uQ := Tryz.func102
abbrev ru : FuncId := 103
noncomputable abbrev uO : Func := Tryz.f103
theorem OY : P.funcs[ru]? = some uO := Tryz.func103
abbrev vg : FuncId := 104
noncomputable abbrev sj : Func := Tryz.f104
theorem aaD : P.funcs[vg]? = some sj := Tryz.func104
abbrev lK : FuncId := 105
noncomputable abbrev mc : Func := Tryz.f105
theorem KJ : P.funcs[lK]? = some mc := Tryz.func105
abbrev Dx : FuncId := 106
noncomputable abbrev Ii : Func := Tryz.f106
theorem Oq : P.funcs[Dx]? = some Ii := Tryz.func106
abbrev xJ : FuncId := 107
noncomputable abbrev uF : Func := Tryz.f107
theorem Ow : P.funcs[xJ]? = some uF := Tryz.func107
abbrev wK : FuncId := 108
noncomputable abbrev r5 : Func := Tryz.f108
theorem RG : P.funcs[wK]? = some r5 := Tryz.func108
abbrev uD : FuncId := 109
noncomputable abbrev sw : Func := Tryz.f109
theorem Yi : P.funcs[uD]? = some sw := Tryz.func109
abbrev AR : FuncId := 110
noncomputable abbrev Bp : Func := Tryz.f110
theorem Hs : P.funcs[AR]? = some Bp := Tryz.func110
abbrev A8 : FuncId := 111
noncomputable abbrev Ai : Func := Tryz.f111
theorem Ji : P.funcs[A8]? = some Ai := Tryz.func111
abbrev q7 : FuncId := 112
noncomputable abbrev sD : Func := Tryz.f112
theorem Pd : P.funcs[q7]? = some sD := Tryz.func112
abbrev uP : FuncId := 114
noncomputable abbrev uf : Func := Tryz.f114
theorem V8 : P.funcs[uP]? = some uf := Tryz.func114
abbrev og : FuncId := 115
noncomputable abbrev uR : Func := Tryz.f115
theorem VR : P.funcs[og]? = some uR := Tryz.func115
abbrev oY : FuncId := 116
noncomputable abbrev o7 : Func := Tryz.f116
theorem Jy : P.funcs[oY]? = some o7 := Tryz.func116
abbrev nr : FuncId := 119
noncomputable abbrev qP : Func := Tryz.f119
theorem YG : P.funcs[nr]? = some qP := Tryz.func119
abbrev Dl : FuncId := 120
noncomputable abbrev Ct : Func := Tryz.f120
theorem NZ : P.funcs[Dl]? = some Ct := Tryz.func120
abbrev JX : FuncId := 121
noncomputable abbrev FL : Func := Tryz.f121
theorem KZ : P.funcs[JX]? = some FL := Tryz.func121
abbrev qk : FuncId := 122
noncomputable abbrev n8 : Func := Tryz.f122
theorem YI : P.funcs[qk]? = some n8 := Tryz.func122
abbrev uY : FuncId := 124
noncomputable abbrev r4 : Func := Tryz.f124
theorem WE : P.funcs[uY]? = some r4 := Tryz.func124
abbrev oJ : FuncId := 125
noncomputable abbrev iL : Func := Tryz.f125
theorem Rz : P.funcs[oJ]? = some iL := Tryz.func125
abbrev vY : FuncId := 126
noncomputable abbrev uk : Func := Tryz.f126
theorem ZN : P.funcs[vY]? = some uk := Tryz.func126
abbrev wU : FuncId := 127
noncomputable abbrev qf : Func := Tryz.f127
theorem SQ : P.funcs[wU]? = some qf := Tryz.func127
abbrev Dg : FuncId := 128
noncomputable abbrev I6 : Func := Tryz.f128
theorem OM : P.funcs[Dg]? = some I6 := Tryz.func128
abbrev s6 : FuncId := 129
noncomputable abbrev jj : Func := Tryz.f129
theorem Zf : P.funcs[s6]? = some jj := Tryz.func129
abbrev r6 : FuncId := 130
noncomputable abbrev fh : Func := Tryz.f130
theorem Kq : P.funcs[r6]? = some fh := Tryz.func130
abbrev Jh : FuncId := 131
noncomputable abbrev Ex : Func := Tryz.f131
theorem UJ : P.funcs[Jh]? = some Ex := Tryz.func131
abbrev wh : FuncId := 132
noncomputable abbrev rU : Func := Tryz.f132
theorem OT : P.funcs[wh]? = some rU := Tryz.func132
abbrev yx : FuncId := 133
noncomputable abbrev tA : Func := Tryz.f133
theorem XH : P.funcs[yx]? = some tA := Tryz.func133
abbrev HT : FuncId := 134
noncomputable abbrev Gr : Func := Tryz.f134
theorem VP : P.funcs[HT]? = some Gr := Tryz.func134
abbrev kf : FuncId := 135
noncomputable abbrev tc : Func := Tryz.f135
theorem Og : P.funcs[kf]? = some tc := Tryz.func135
abbrev qu : FuncId := 136
noncomputable abbrev tX : Func := Tryz.f136
theorem Rc : P.funcs[qu]? = some tX := Tryz.func136
abbrev JF : FuncId := 137
noncomputable abbrev Dn : Func := Tryz.f137
theorem Pu : P.funcs[JF]? = some Dn := Tryz.func137
abbrev nN : FuncId := 153
noncomputable abbrev qH : Func := Tryz.f153
theorem YD : P.funcs[nN]? = some qH := Tryz.func153
abbrev qW : FuncId := 154
noncomputable abbrev uE : Func := Tryz.f154
theorem X2 : P.funcs[qW]? = some uE := Tryz.func154
abbrev vC : FuncId := 157
noncomputable abbrev uB : Func := Tryz.f157
theorem Zp : P.funcs[vC]? = some uB := Tryz.func157
abbrev tF : FuncId := 158
noncomputable abbrev kA : Func := Tryz.f158
theorem Rr : P.funcs[tF]? = some kA := Tryz.func158
abbrev pe : FuncId := 159
noncomputable abbrev cS : Func := Tryz.f159
theorem Tz : P.funcs[pe]? = some cS := Tryz.func159
abbrev tT : FuncId := 160
noncomputable abbrev tD : Func := Tryz.f160
theorem aaN : P.funcs[tT]? = some tD := Tryz.func160
abbrev o5 : FuncId := 161
noncomputable abbrev uM : Func := Tryz.f161
theorem KE : P.funcs[o5]? = some uM := Tryz.func161
abbrev tS : FuncId := 162
noncomputable abbrev dY : Func := Tryz.f162
theorem WD : P.funcs[tS]? = some dY := Tryz.func162
abbrev uy : FuncId := 163
noncomputable abbrev tG : Func := Tryz.f163
theorem K0 : P.funcs[uy]? = some tG := Tryz.func163
abbrev pY : FuncId := 164
noncomputable abbrev tq : Func := Tryz.f164
theorem YV : P.funcs[pY]? = some tq := Tryz.func164
abbrev r7 : FuncId := 165
noncomputable abbrev gy : Func := Tryz.f165
theorem LS : P.funcs[r7]? = some gy := Tryz.func165
abbrev sk : FuncId := 166
noncomputable abbrev rX : Func := Tryz.f166
theorem Uq : P.funcs[sk]? = some rX := Tryz.func166
abbrev qC : FuncId := 168
noncomputable abbrev ia : Func := Tryz.f168
theorem YP : P.funcs[qC]? = some ia := Tryz.func168
abbrev s9 : FuncId := 172
noncomputable abbrev fy : Func := Tryz.f172
theorem Q1 : P.funcs[s9]? = some fy := Tryz.func172
abbrev qV : FuncId := 173
noncomputable abbrev sY : Func := Tryz.f173
theorem aai : P.funcs[qV]? = some sY := Tryz.func173
abbrev vq : FuncId := 176
noncomputable abbrev ry : Func := Tryz.f176
theorem WV : P.funcs[vq]? = some ry := Tryz.func176
abbrev B6 : FuncId := 177
noncomputable abbrev wB : Func := Tryz.f177
theorem Ks : P.funcs[B6]? = some wB := Tryz.func177
abbrev rH : FuncId := 178
noncomputable abbrev rB : Func := Tryz.f178
theorem Pf : P.funcs[rH]? = some rB := Tryz.func178
abbrev Bl : FuncId := 179
noncomputable abbrev zw : Func := Tryz.f179
theorem HI : P.funcs[Bl]? = some zw := Tryz.func179
abbrev zV : FuncId := 180
noncomputable abbrev Bx : Func := Tryz.f180
theorem DP : P.funcs[zV]? = some Bx := Tryz.func180
abbrev Ej : FuncId := 181
noncomputable abbrev DS : Func := Tryz.f181
theorem RM : P.funcs[Ej]? = some DS := Tryz.func181
abbrev lN : FuncId := 183
noncomputable abbrev tV : Func := Tryz.f183
theorem KQ : P.funcs[lN]? = some tV := Tryz.func183
abbrev rP : FuncId := 184
noncomputable abbrev rR : Func := Tryz.f184
theorem Vc : P.funcs[rP]? = some rR := Tryz.func184
abbrev k8 : FuncId := 185
noncomputable abbrev jo : Func := Tryz.f185
theorem ZX : P.funcs[k8]? = some jo := Tryz.func185
abbrev oV : FuncId := 186
noncomputable abbrev eU : Func := Tryz.f186
theorem Ny : P.funcs[oV]? = some eU := Tryz.func186
abbrev rz : FuncId := 187
noncomputable abbrev qK : Func := Tryz.f187
theorem MM : P.funcs[rz]? = some qK := Tryz.func187
abbrev qb : FuncId := 188
noncomputable abbrev mw : Func := Tryz.f188
theorem Uj : P.funcs[qb]? = some mw := Tryz.func188
abbrev xF : FuncId := 190
noncomputable abbrev vT : Func := Tryz.f190
theorem Pm : P.funcs[xF]? = some vT := Tryz.func190
abbrev xG : FuncId := 191
noncomputable abbrev sR : Func := Tryz.f191
theorem Q6 : P.funcs[xG]? = some sR := Tryz.func191
abbrev nu : FuncId := 196
noncomputable abbrev lC : Func := Tryz.f196
theorem MH : P.funcs[nu]? = some lC := Tryz.func196
abbrev pQ : FuncId := 199
noncomputable abbrev oa : Func := Tryz.f199
theorem TG : P.funcs[pQ]? = some oa := Tryz.func199
abbrev tU : FuncId := 200
noncomputable abbrev lT : Func := Tryz.f200
theorem Rx : P.funcs[tU]? = some lT := Tryz.func200
abbrev ve : FuncId := 201
noncomputable abbrev fP : Func := Tryz.f201
theorem Vf : P.funcs[ve]? = some fP := Tryz.func201
abbrev p6 : FuncId := 202
noncomputable abbrev cY : Func := Tryz.f202
theorem L7 : P.funcs[p6]? = some cY := Tryz.func202
abbrev pL : FuncId := 203
noncomputable abbrev ga : Func := Tryz.f203
theorem PO : P.funcs[pL]? = some ga := Tryz.func203
abbrev oK : FuncId := 204
noncomputable abbrev qM : Func := Tryz.f204
theorem Z0 : P.funcs[oK]? = some qM := Tryz.func204
abbrev zY : FuncId := 205
noncomputable abbrev Tr : Func := Tryz.f205
theorem Pz : P.funcs[zY]? = some Tr := Tryz.func205
abbrev uK : FuncId := 206
noncomputable abbrev jm : Func := Tryz.f206
theorem OZ : P.funcs[uK]? = some jm := Tryz.func206
abbrev tN : FuncId := 207
noncomputable abbrev lZ : Func := Tryz.f207
theorem P0 : P.funcs[tN]? = some lZ := Tryz.func207
abbrev qD : FuncId := 208
noncomputable abbrev nH : Func := Tryz.f208
theorem Xa : P.funcs[qD]? = some nH := Tryz.func208
abbrev nv : FuncId := 209
noncomputable abbrev fL : Func := Tryz.f209
theorem aaB : P.funcs[nv]? = some fL := Tryz.func209
abbrev qq : FuncId := 210
noncomputable abbrev uG : Func := Tryz.f210
theorem Rf : P.funcs[qq]? = some uG := Tryz.func210
abbrev tr : FuncId := 211
noncomputable abbrev mu : Func := Tryz.f211
theorem NA : P.funcs[tr]? = some mu := Tryz.func211
abbrev uh : FuncId := 212
noncomputable abbrev m0 : Func := Tryz.f212
theorem SD : P.funcs[uh]? = some m0 := Tryz.func212
abbrev tL : FuncId := 213
noncomputable abbrev oy : Func := Tryz.f213
theorem Qc : P.funcs[tL]? = some oy := Tryz.func213
abbrev nQ : FuncId := 214
noncomputable abbrev q6 : Func := Tryz.f214
theorem Yd : P.funcs[nQ]? = some q6 := Tryz.func214
abbrev Iq : FuncId := 215
noncomputable abbrev FX : Func := Tryz.f215
theorem aae : P.funcs[Iq]? = some FX := Tryz.func215
abbrev qh : FuncId := 216
noncomputable abbrev ur : Func := Tryz.f216
theorem SZ : P.funcs[qh]? = some ur := Tryz.func216
abbrev u7 : FuncId := 217
noncomputable abbrev k9 : Func := Tryz.f217
theorem ZY : P.funcs[u7]? = some k9 := Tryz.func217
abbrev vR : FuncId := 218
noncomputable abbrev ug : Func := Tryz.f218
theorem L5 : P.funcs[vR]? = some ug := Tryz.func218
abbrev um : FuncId := 219
noncomputable abbrev vp : Func := Tryz.f219
theorem Oi : P.funcs[um]? = some vp := Tryz.func219
abbrev qR : FuncId := 220
noncomputable abbrev lf : Func := Tryz.f220
theorem XX : P.funcs[qR]? = some lf := Tryz.func220
abbrev rI : FuncId := 233
noncomputable abbrev mD : Func := Tryz.f233
theorem Lz : P.funcs[rI]? = some mD := Tryz.func233
abbrev sy : FuncId := 234
noncomputable abbrev lz : Func := Tryz.f234
theorem Y9 : P.funcs[sy]? = some lz := Tryz.func234
abbrev v7 : FuncId := 235
noncomputable abbrev tW : Func := Tryz.f235
theorem Nu : P.funcs[v7]? = some tW := Tryz.func235
abbrev vO : FuncId := 236
noncomputable abbrev jd : Func := Tryz.f236
theorem X4 : P.funcs[vO]? = some jd := Tryz.func236
abbrev wm : FuncId := 237
noncomputable abbrev qE : Func := Tryz.f237
theorem ZB : P.funcs[wm]? = some qE := Tryz.func237
abbrev Gg : TI := ⟨.int .i64, 1, 8, .int .i64 0⟩
theorem LX : bz P 2 Gg := bU (by kernel_rfl) (by kernel_rfl) (by kernel_rfl)
abbrev E0 : TI := ⟨.int .i64, 1, 8, .int .i64 0⟩
theorem VE : bz P 3 E0 := bU (by kernel_rfl) (by kernel_rfl) (by kernel_rfl)
abbrev Cy : TI := ⟨.bool, 1, 1, .bool false⟩
theorem Tg : bz P 4 Cy := bU (by kernel_rfl) (by kernel_rfl) (by kernel_rfl)
abbrev Ec : TI := ⟨.int .u8, 1, 1, .int .u8 0⟩
theorem TE : bz P 5 Ec := bU (by kernel_rfl) (by kernel_rfl) (by kernel_rfl)
abbrev Hr : TI := ⟨.int .u8, 1, 1, .int .u8 0⟩
theorem VW : bz P 6 Hr := bU (by kernel_rfl) (by kernel_rfl) (by kernel_rfl)
abbrev IB : TI := ⟨.struct #[{ name := "x", type := 2, offset := 0, embedded := false, tag := "", pkgPath := "runtime", byteOffset := 0 }, { name := "y", type := 3, offset := 1, embedded := false, tag := "", pkgPath := "runtime", byteOffset := 8 }, { name := "signed", type := 4, offset := 2, embedded := false, tag := "", pkgPath := "runtime", byteOffset := 16 }, { name := "code", type := 6, offset := 3, embedded := false, tag := "", pkgPath := "runtime", byteOffset := 17 }], 4, 24, .agg [.int .i64 0, .int .i64 0, .bool false, .int .u8 0]⟩
theorem Vo : bz P 7 IB := bU (by kernel_rfl) (by kernel_rfl) (by kernel_rfl)
abbrev F3 : TI := ⟨.struct #[{ name := "x", type := 2, offset := 0, embedded := false, tag := "", pkgPath := "runtime", byteOffset := 0 }, { name := "y", type := 3, offset := 1, embedded := false, tag := "", pkgPath := "runtime", byteOffset := 8 }, { name := "signed", type := 4, offset := 2, embedded := false, tag := "", pkgPath := "runtime", byteOffset := 16 }, { name := "code", type := 6, offset := 3, embedded := false, tag := "", pkgPath := "runtime", byteOffset := 17 }], 4, 24, .agg [.int .i64 0, .int .i64 0, .bool false, .int .u8 0]⟩
theorem TC : bz P 8 F3 := bU (by kernel_rfl) (by kernel_rfl) (by kernel_rfl)
abbrev Ek : TI := ⟨.string, 1, 16, .tuple []⟩
theorem KW : bz P 9 Ek := fT (by kernel_rfl) (by kernel_rfl) rfl
abbrev ES : TI := ⟨.string, 1, 16, .tuple []⟩
theorem ZT : bz P 10 ES := fT (by kernel_rfl) (by kernel_rfl) rfl
abbrev Ei : TI := ⟨.string, 1, 16, .tuple []⟩
theorem Y6 : bz P 11 Ei := fT (by kernel_rfl) (by kernel_rfl) rfl
abbrev Ih : TI := ⟨.int .u64, 1, 8, .int .u64 0⟩
theorem UQ : bz P 12 Ih := bU (by kernel_rfl) (by kernel_rfl) (by kernel_rfl)
abbrev Ds : TI := ⟨.struct #[{ name := "msg", type := 9, offset := 0, embedded := false, tag := "", pkgPath := "runtime", byteOffset := 0 }, { name := "addr", type := 12, offset := 1, embedded := false, tag := "", pkgPath := "runtime", byteOffset := 16 }], 2, 24, .tuple []⟩
theorem U4 : bz P 13 Ds := fT (by kernel_rfl) (by kernel_rfl) rfl
abbrev DW : TI := ⟨.struct #[{ name := "msg", type := 9, offset := 0, embedded := false, tag := "", pkgPath := "runtime", byteOffset := 0 }, { name := "addr", type := 12, offset := 1, embedded := false, tag := "", pkgPath := "runtime", byteOffset := 16 }], 2, 24, .tuple []⟩
theorem Y0 : bz P 14 DW := fT (by kernel_rfl) (by kernel_rfl) rfl
abbrev FP : TI := ⟨.pointer 246, 1, 8, .tuple []⟩
theorem W4 : bz P 15 FP := fT (by kernel_rfl) (by kernel_rfl) rfl
abbrev Ir : TI := ⟨.pointer 249, 1, 8, .tuple []⟩
theorem aap : bz P 16 Ir := fT (by kernel_rfl) (by kernel_rfl) rfl
abbrev Gb : TI := ⟨.pointer 258, 1, 8, .tuple []⟩
theorem PA : bz P 17 Gb := fT (by kernel_rfl) (by kernel_rfl) rfl
abbrev JR : TI := ⟨.struct #[{ name := "typ", type := 17, offset := 0, embedded := false, tag := "", pkgPath := "internal/runtime/maps", byteOffset := 0 }], 1, 8, .tuple []⟩
theorem O7 : bz P 18 JR := fT (by kernel_rfl) (by kernel_rfl) rfl
abbrev FA : TI := ⟨.struct #[{ name := "typ", type := 17, offset := 0, embedded := false, tag := "", pkgPath := "internal/runtime/maps", byteOffset := 0 }], 1, 8, .tuple []⟩
theorem Tq : bz P 19 FA := fT (by kernel_rfl) (by kernel_rfl) rfl
abbrev I9 : TI := ⟨.int .i32, 1, 4, .int .i32 0⟩
theorem LF : bz P 21 I9 := bU (by kernel_rfl) (by kernel_rfl) (by kernel_rfl)
abbrev JN : TI := ⟨.slice 3, 1, 24, .nil⟩
theorem SI : bz P 22 JN := bU (by kernel_rfl) (by kernel_rfl) (by kernel_rfl)
abbrev H7 : TI := ⟨.slice 42, 1, 24, .nil⟩
theorem Md : bz P 25 H7 := bU (by kernel_rfl) (by kernel_rfl) (by kernel_rfl)
abbrev Fx : TI := ⟨.slice 123, 1, 24, .nil⟩
theorem W1 : bz P 26 Fx := bU (by kernel_rfl) (by kernel_rfl) (by kernel_rfl)
abbrev DR : TI := ⟨.struct #[{ name := "Degree", type := 3, offset := 0, embedded := false, tag := "", pkgPath := "", byteOffset := 0 }, { name := "Knots", type := 25, offset := 1, embedded := false, tag := "", pkgPath := "", byteOffset := 8 }, { name := "Poles", type := 26, offset := 2, embedded := false, tag := "", pkgPath := "", byteOffset := 32 }], 3, 56, .agg [.int .i64 0, .nil, .nil]⟩
theorem Qj : bz P 27 DR := bU (by kernel_rfl) (by kernel_rfl) (by kernel_rfl)
abbrev Gi : TI := ⟨.struct #[{ name := "Degree", type := 3, offset := 0, embedded := false, tag := "", pkgPath := "", byteOffset := 0 }, { name := "Knots", type := 25, offset := 1, embedded := false, tag := "", pkgPath := "", byteOffset := 8 }, { name := "Poles", type := 26, offset := 2, embedded := false, tag := "", pkgPath := "", byteOffset := 32 }], 3, 56, .agg [.int .i64 0, .nil, .nil]⟩
theorem TU : bz P 28 Gi := bU (by kernel_rfl) (by kernel_rfl) (by kernel_rfl)
abbrev C2 : TI := ⟨.pointer 120, 1, 8, .tuple []⟩
theorem S7 : bz P 29 C2 := fT (by kernel_rfl) (by kernel_rfl) rfl
abbrev FU : TI := ⟨.slice 26, 1, 24, .nil⟩
theorem aak : bz P 33 FU := bU (by kernel_rfl) (by kernel_rfl) (by kernel_rfl)
abbrev He : TI := ⟨.struct #[{ name := "U", type := 3, offset := 0, embedded := false, tag := "", pkgPath := "", byteOffset := 0 }, { name := "V", type := 3, offset := 1, embedded := false, tag := "", pkgPath := "", byteOffset := 8 }, { name := "KnotsU", type := 25, offset := 2, embedded := false, tag := "", pkgPath := "", byteOffset := 16 }, { name := "KnotsV", type := 25, offset := 3, embedded := false, tag := "", pkgPath := "", byteOffset := 40 }, { name := "Poles", type := 33, offset := 4, embedded := false, tag := "", pkgPath := "", byteOffset := 64 }], 5, 88, .agg [.int .i64 0, .int .i64 0, .nil, .nil, .nil]⟩
theorem OF : bz P 34 He := bU (by kernel_rfl) (by kernel_rfl) (by kernel_rfl)
abbrev I7 : TI := ⟨.struct #[{ name := "U", type := 3, offset := 0, embedded := false, tag := "", pkgPath := "", byteOffset := 0 }, { name := "V", type := 3, offset := 1, embedded := false, tag := "", pkgPath := "", byteOffset := 8 }, { name := "KnotsU", type := 25, offset := 2, embedded := false, tag := "", pkgPath := "", byteOffset := 16 }, { name := "KnotsV", type := 25, offset := 3, embedded := false, tag := "", pkgPath := "", byteOffset := 40 }, { name := "Poles", type := 33, offset := 4, embedded := false, tag := "", pkgPath := "", byteOffset := 64 }], 5, 88, .agg [.int .i64 0, .int .i64 0, .nil, .nil, .nil]⟩
theorem Xh : bz P 35 I7 := bU (by kernel_rfl) (by kernel_rfl) (by kernel_rfl)
abbrev JP : TI := ⟨.int .i64, 1, 8, .int .i64 0⟩
theorem M5 : bz P 36 JP := bU (by kernel_rfl) (by kernel_rfl) (by kernel_rfl)
abbrev Gz : TI := ⟨.slice 188, 1, 24, .nil⟩
theorem SJ : bz P 40 Gz := bU (by kernel_rfl) (by kernel_rfl) (by kernel_rfl)
abbrev JU : TI := ⟨.struct #[{ name := "Neg", type := 4, offset := 0, embedded := false, tag := "", pkgPath := "", byteOffset := 0 }, { name := "Num", type := 40, offset := 1, embedded := false, tag := "", pkgPath := "", byteOffset := 8 }, { name := "Den", type := 40, offset := 2, embedded := false, tag := "", pkgPath := "", byteOffset := 32 }], 3, 56, .agg [.bool false, .nil, .nil]⟩
theorem Xi : bz P 41 JU := bU (by kernel_rfl) (by kernel_rfl) (by kernel_rfl)
abbrev II : TI := ⟨.struct #[{ name := "Neg", type := 4, offset := 0, embedded := false, tag := "", pkgPath := "", byteOffset := 0 }, { name := "Num", type := 40, offset := 1, embedded := false, tag := "", pkgPath := "", byteOffset := 8 }, { name := "Den", type := 40, offset := 2, embedded := false, tag := "", pkgPath := "", byteOffset := 32 }], 3, 56, .rat 0 1⟩
theorem ZU : bz P 42 II := bU (by kernel_rfl) (by kernel_rfl) (by kernel_rfl)
abbrev DU : TI := ⟨.struct #[{ name := "Lo", type := 42, offset := 0, embedded := false, tag := "", pkgPath := "", byteOffset := 0 }, { name := "Hi", type := 42, offset := 3, embedded := false, tag := "", pkgPath := "", byteOffset := 56 }], 6, 112, .agg [.rat 0 1, .rat 0 1]⟩
theorem Sp : bz P 43 DU := bU (by kernel_rfl) (by kernel_rfl) (by kernel_rfl)
abbrev JI : TI := ⟨.struct #[{ name := "Lo", type := 42, offset := 0, embedded := false, tag := "", pkgPath := "", byteOffset := 0 }, { name := "Hi", type := 42, offset := 3, embedded := false, tag := "", pkgPath := "", byteOffset := 56 }], 6, 112, .agg [.rat 0 1, .rat 0 1]⟩
theorem V0 : bz P 44 JI := bU (by kernel_rfl) (by kernel_rfl) (by kernel_rfl)
abbrev Dd : TI := ⟨.array 3 42, 9, 168, .agg [.rat 0 1, .rat 0 1, .rat 0 1]⟩
theorem Zq : bz P 48 Dd := bU (by kernel_rfl) (by kernel_rfl) (by kernel_rfl)
abbrev HQ : TI := ⟨.array 3 42, 9, 168, .agg [.rat 0 1, .rat 0 1, .rat 0 1]⟩
theorem W6 : bz P 49 HQ := bU (by kernel_rfl) (by kernel_rfl) (by kernel_rfl)
abbrev Is : TI := ⟨.array 3 49, 27, 504, .agg [.agg [.rat 0 1, .rat 0 1, .rat 0 1], .agg [.rat 0 1, .rat 0 1, .rat 0 1], .agg [.rat 0 1, .rat 0 1, .rat 0 1]]⟩
theorem Vy : bz P 58 Is := bU (by kernel_rfl) (by kernel_rfl) (by kernel_rfl)
abbrev Ez : TI := ⟨.struct #[{ name := "M", type := 58, offset := 0, embedded := false, tag := "", pkgPath := "", byteOffset := 0 }, { name := "T", type := 49, offset := 27, embedded := false, tag := "", pkgPath := "", byteOffset := 504 }], 36, 672, .agg [.agg [.agg [.rat 0 1, .rat 0 1, .rat 0 1], .agg [.rat 0 1, .rat 0 1, .rat 0 1], .agg [.rat 0 1, .rat 0 1, .rat 0 1]], .agg [.rat 0 1, .rat 0 1, .rat 0 1]]⟩
theorem Vp : bz P 59 Ez := bU (by kernel_rfl) (by kernel_rfl) (by kernel_rfl)
abbrev CC : TI := ⟨.struct #[{ name := "M", type := 58, offset := 0, embedded := false, tag := "", pkgPath := "", byteOffset := 0 }, { name := "T", type := 49, offset := 27, embedded := false, tag := "", pkgPath := "", byteOffset := 504 }], 36, 672, .agg [.agg [.agg [.rat 0 1, .rat 0 1, .rat 0 1], .agg [.rat 0 1, .rat 0 1, .rat 0 1], .agg [.rat 0 1, .rat 0 1, .rat 0 1]], .agg [.rat 0 1, .rat 0 1, .rat 0 1]]⟩
theorem Qq : bz P 60 CC := bU (by kernel_rfl) (by kernel_rfl) (by kernel_rfl)
abbrev Gy : TI := ⟨.slice 49, 1, 24, .nil⟩
theorem MY : bz P 82 Gy := bU (by kernel_rfl) (by kernel_rfl) (by kernel_rfl)
abbrev Dy : TI := ⟨.slice 103, 1, 24, .nil⟩
theorem So : bz P 98 Dy := bU (by kernel_rfl) (by kernel_rfl) (by kernel_rfl)
abbrev Et : TI := ⟨.slice 44, 1, 24, .nil⟩
theorem KD : bz P 101 Et := bU (by kernel_rfl) (by kernel_rfl) (by kernel_rfl)
abbrev Fe : TI := ⟨.struct #[{ name := "A", type := 101, offset := 0, embedded := false, tag := "", pkgPath := "", byteOffset := 0 }, { name := "B", type := 101, offset := 1, embedded := false, tag := "", pkgPath := "", byteOffset := 24 }, { name := "Kind", type := 3, offset := 2, embedded := false, tag := "", pkgPath := "", byteOffset := 48 }, { name := "K", type := 3, offset := 3, embedded := false, tag := "", pkgPath := "", byteOffset := 56 }], 4, 64, .agg [.nil, .nil, .int .i64 0, .int .i64 0]⟩
theorem VO : bz P 102 Fe := bU (by kernel_rfl) (by kernel_rfl) (by kernel_rfl)
abbrev FQ : TI := ⟨.struct #[{ name := "A", type := 101, offset := 0, embedded := false, tag := "", pkgPath := "", byteOffset := 0 }, { name := "B", type := 101, offset := 1, embedded := false, tag := "", pkgPath := "", byteOffset := 24 }, { name := "Kind", type := 3, offset := 2, embedded := false, tag := "", pkgPath := "", byteOffset := 48 }, { name := "K", type := 3, offset := 3, embedded := false, tag := "", pkgPath := "", byteOffset := 56 }], 4, 64, .agg [.nil, .nil, .int .i64 0, .int .i64 0]⟩
theorem UD : bz P 103 FQ := bU (by kernel_rfl) (by kernel_rfl) (by kernel_rfl)
abbrev GI : TI := ⟨.slice 22, 1, 24, .nil⟩
theorem LH : bz P 111 GI := bU (by kernel_rfl) (by kernel_rfl) (by kernel_rfl)
abbrev Dq : TI := ⟨.struct #[{ name := "L", type := 22, offset := 0, embedded := false, tag := "", pkgPath := "", byteOffset := 0 }, { name := "At", type := 3, offset := 1, embedded := false, tag := "", pkgPath := "", byteOffset := 24 }], 2, 32, .agg [.nil, .int .i64 0]⟩
theorem Mx : bz P 119 Dq := bU (by kernel_rfl) (by kernel_rfl) (by kernel_rfl)
abbrev Ic : TI := ⟨.struct #[{ name := "L", type := 22, offset := 0, embedded := false, tag := "", pkgPath := "", byteOffset := 0 }, { name := "At", type := 3, offset := 1, embedded := false, tag := "", pkgPath := "", byteOffset := 24 }], 2, 32, .agg [.nil, .int .i64 0]⟩
theorem Qw : bz P 120 Ic := bU (by kernel_rfl) (by kernel_rfl) (by kernel_rfl)
abbrev Hf : TI := ⟨.struct #[{ name := "P", type := 49, offset := 0, embedded := false, tag := "", pkgPath := "", byteOffset := 0 }, { name := "W", type := 42, offset := 9, embedded := false, tag := "", pkgPath := "", byteOffset := 168 }], 12, 224, .agg [.agg [.rat 0 1, .rat 0 1, .rat 0 1], .rat 0 1]⟩
theorem aaP : bz P 122 Hf := bU (by kernel_rfl) (by kernel_rfl) (by kernel_rfl)
abbrev Fl : TI := ⟨.struct #[{ name := "P", type := 49, offset := 0, embedded := false, tag := "", pkgPath := "", byteOffset := 0 }, { name := "W", type := 42, offset := 9, embedded := false, tag := "", pkgPath := "", byteOffset := 168 }], 12, 224, .agg [.agg [.rat 0 1, .rat 0 1, .rat 0 1], .rat 0 1]⟩
theorem SL : bz P 123 Fl := bU (by kernel_rfl) (by kernel_rfl) (by kernel_rfl)
abbrev Fi : TI := ⟨.array 3 2, 3, 24, .agg [.int .i64 0, .int .i64 0, .int .i64 0]⟩
theorem Mm : bz P 127 Fi := bU (by kernel_rfl) (by kernel_rfl) (by kernel_rfl)
abbrev DB : TI := ⟨.array 9 127, 27, 216, .agg [.agg [.int .i64 0, .int .i64 0, .int .i64 0], .agg [.int .i64 0, .int .i64 0, .int .i64 0], .agg [.int .i64 0, .int .i64 0, .int .i64 0], .agg [.int .i64 0, .int .i64 0, .int .i64 0], .agg [.int .i64 0, .int .i64 0, .int .i64 0], .agg [.int .i64 0, .int .i64 0, .int .i64 0], .agg [.int .i64 0, .int .i64 0, .int .i64 0], .agg [.int .i64 0, .int .i64 0, .int .i64 0], .agg [.int .i64 0, .int .i64 0, .int .i64 0]]⟩
theorem VQ : bz P 128 DB := bU (by kernel_rfl) (by kernel_rfl) (by kernel_rfl)
abbrev DT : TI := ⟨.slice 127, 1, 24, .nil⟩
theorem MW : bz P 130 DT := bU (by kernel_rfl) (by kernel_rfl) (by kernel_rfl)
abbrev HH : TI := ⟨.array 4 42, 12, 224, .agg [.rat 0 1, .rat 0 1, .rat 0 1, .rat 0 1]⟩
theorem QE : bz P 140 HH := bU (by kernel_rfl) (by kernel_rfl) (by kernel_rfl)
abbrev E6 : TI := ⟨.slice 28, 1, 24, .nil⟩
theorem MC : bz P 151 E6 := bU (by kernel_rfl) (by kernel_rfl) (by kernel_rfl)
abbrev Dt : TI := ⟨.slice 2, 1, 24, .nil⟩
theorem Uh : bz P 161 Dt := bU (by kernel_rfl) (by kernel_rfl) (by kernel_rfl)
abbrev Cw : TI := ⟨.slice 4, 1, 24, .nil⟩
theorem M8 : bz P 175 Cw := bU (by kernel_rfl) (by kernel_rfl) (by kernel_rfl)
abbrev DI : TI := ⟨.int .u64, 1, 8, .int .u64 0⟩
theorem Ta : bz P 183 DI := bU (by kernel_rfl) (by kernel_rfl) (by kernel_rfl)
abbrev CA : TI := ⟨.int .u32, 1, 4, .int .u32 0⟩
theorem Q2 : bz P 188 CA := bU (by kernel_rfl) (by kernel_rfl) (by kernel_rfl)
abbrev CZ : TI := ⟨.int .u64, 1, 8, .int .u64 0⟩
theorem LK : bz P 202 CZ := bU (by kernel_rfl) (by kernel_rfl) (by kernel_rfl)
abbrev IL : TI := ⟨.slice 5, 1, 24, .nil⟩
theorem Y5 : bz P 209 IL := bU (by kernel_rfl) (by kernel_rfl) (by kernel_rfl)
abbrev JJ : TI := ⟨.slice 101, 1, 24, .nil⟩
theorem Mg : bz P 223 JJ := bU (by kernel_rfl) (by kernel_rfl) (by kernel_rfl)
abbrev EY : TI := ⟨.int .i64, 1, 8, .int .i64 0⟩
theorem UH : bz P 227 EY := bU (by kernel_rfl) (by kernel_rfl) (by kernel_rfl)
abbrev Da : TI := ⟨.int .u64, 1, 8, .int .u64 0⟩
theorem aaa : bz P 235 Da := bU (by kernel_rfl) (by kernel_rfl) (by kernel_rfl)
abbrev JM : TI := ⟨.pointer 3, 1, 8, .tuple []⟩
theorem J5 : bz P 239 JM := fT (by kernel_rfl) (by kernel_rfl) rfl
abbrev ET : TI := ⟨.pointer 235, 1, 8, .tuple []⟩
theorem N3 : bz P 241 ET := fT (by kernel_rfl) (by kernel_rfl) rfl
abbrev G5 : TI := ⟨.struct #[{ name := "_interface", type := 17, offset := 0, embedded := false, tag := "", pkgPath := "runtime", byteOffset := 0 }, { name := "concrete", type := 17, offset := 1, embedded := false, tag := "", pkgPath := "runtime", byteOffset := 8 }, { name := "asserted", type := 17, offset := 2, embedded := false, tag := "", pkgPath := "runtime", byteOffset := 16 }, { name := "missingMethod", type := 9, offset := 3, embedded := false, tag := "", pkgPath := "runtime", byteOffset := 24 }], 4, 40, .tuple []⟩
theorem aag : bz P 245 G5 := fT (by kernel_rfl) (by kernel_rfl) rfl
abbrev Cx : TI := ⟨.struct #[{ name := "_interface", type := 17, offset := 0, embedded := false, tag := "", pkgPath := "runtime", byteOffset := 0 }, { name := "concrete", type := 17, offset := 1, embedded := false, tag := "", pkgPath := "runtime", byteOffset := 8 }, { name := "asserted", type := 17, offset := 2, embedded := false, tag := "", pkgPath := "runtime", byteOffset := 16 }, { name := "missingMethod", type := 9, offset := 3, embedded := false, tag := "", pkgPath := "runtime", byteOffset := 24 }], 4, 40, .tuple []⟩
theorem YT : bz P 246 Cx := fT (by kernel_rfl) (by kernel_rfl) rfl
abbrev DL : TI := ⟨.int .u8, 1, 1, .int .u8 0⟩
theorem S0 : bz P 251 DL := bU (by kernel_rfl) (by kernel_rfl) (by kernel_rfl)
abbrev FF : TI := ⟨.int .u8, 1, 1, .int .u8 0⟩
theorem LN : bz P 252 FF := bU (by kernel_rfl) (by kernel_rfl) (by kernel_rfl)
abbrev Dh : TI := ⟨.pointer 5, 1, 8, .tuple []⟩
theorem T9 : bz P 254 Dh := fT (by kernel_rfl) (by kernel_rfl) rfl
abbrev FR : TI := ⟨.int .i32, 1, 4, .int .i32 0⟩
theorem R4 : bz P 255 FR := bU (by kernel_rfl) (by kernel_rfl) (by kernel_rfl)
abbrev DA : TI := ⟨.int .i32, 1, 4, .int .i32 0⟩
theorem OP : bz P 256 DA := bU (by kernel_rfl) (by kernel_rfl) (by kernel_rfl)
abbrev HD : TI := ⟨.struct #[{ name := "Size_", type := 12, offset := 0, embedded := false, tag := "", pkgPath := "", byteOffset := 0 }, { name := "PtrBytes", type := 12, offset := 1, embedded := false, tag := "", pkgPath := "", byteOffset := 8 }, { name := "Hash", type := 188, offset := 2, embedded := false, tag := "", pkgPath := "", byteOffset := 16 }, { name := "TFlag", type := 251, offset := 3, embedded := false, tag := "", pkgPath := "", byteOffset := 20 }, { name := "Align_", type := 5, offset := 4, embedded := false, tag := "", pkgPath := "", byteOffset := 21 }, { name := "FieldAlign_", type := 5, offset := 5, embedded := false, tag := "", pkgPath := "", byteOffset := 22 }, { name := "Kind_", type := 252, offset := 6, embedded := false, tag := "", pkgPath := "", byteOffset := 23 }, { name := "Equal", type := 253, offset := 7, embedded := false, tag := "", pkgPath := "", byteOffset := 24 }, { name := "GCData", type := 254, offset := 8, embedded := false, tag := "", pkgPath := "", byteOffset := 32 }, { name := "Str", type := 255, offset := 9, embedded := false, tag := "", pkgPath := "", byteOffset := 40 }, { name := "PtrToThis", type := 256, offset := 10, embedded := false, tag := "", pkgPath := "", byteOffset := 44 }], 11, 48, .tuple []⟩
theorem WZ : bz P 257 HD := fT (by kernel_rfl) (by kernel_rfl) rfl
abbrev Du : TI := ⟨.struct #[{ name := "Size_", type := 12, offset := 0, embedded := false, tag := "", pkgPath := "", byteOffset := 0 }, { name := "PtrBytes", type := 12, offset := 1, embedded := false, tag := "", pkgPath := "", byteOffset := 8 }, { name := "Hash", type := 188, offset := 2, embedded := false, tag := "", pkgPath := "", byteOffset := 16 }, { name := "TFlag", type := 251, offset := 3, embedded := false, tag := "", pkgPath := "", byteOffset := 20 }, { name := "Align_", type := 5, offset := 4, embedded := false, tag := "", pkgPath := "", byteOffset := 21 }, { name := "FieldAlign_", type := 5, offset := 5, embedded := false, tag := "", pkgPath := "", byteOffset := 22 }, { name := "Kind_", type := 252, offset := 6, embedded := false, tag := "", pkgPath := "", byteOffset := 23 }, { name := "Equal", type := 253, offset := 7, embedded := false, tag := "", pkgPath := "", byteOffset := 24 }, { name := "GCData", type := 254, offset := 8, embedded := false, tag := "", pkgPath := "", byteOffset := 32 }, { name := "Str", type := 255, offset := 9, embedded := false, tag := "", pkgPath := "", byteOffset := 40 }, { name := "PtrToThis", type := 256, offset := 10, embedded := false, tag := "", pkgPath := "", byteOffset := 44 }], 11, 48, .tuple []⟩
theorem TV : bz P 258 Du := fT (by kernel_rfl) (by kernel_rfl) rfl
abbrev T : Types := [(2, Gg), (3, E0), (4, Cy), (5, Ec), (6, Hr), (7, IB), (8, F3), (9, Ek), (10, ES), (11, Ei), (12, Ih), (13, Ds), (14, DW), (15, FP), (16, Ir), (17, Gb), (18, JR), (19, FA), (21, I9), (22, JN), (25, H7), (26, Fx), (27, DR), (28, Gi), (29, C2), (33, FU), (34, He), (35, I7), (36, JP), (40, Gz), (41, JU), (42, II), (43, DU), (44, JI), (48, Dd), (49, HQ), (58, Is), (59, Ez), (60, CC), (82, Gy), (98, Dy), (101, Et), (102, Fe), (103, FQ), (111, GI), (119, Dq), (120, Ic), (122, Hf), (123, Fl), (127, Fi), (128, DB), (130, DT), (140, HH), (151, E6), (161, Dt), (175, Cw), (183, DI), (188, CA), (202, CZ), (209, IL), (223, JJ), (227, EY), (235, Da), (239, JM), (241, ET), (245, G5), (246, Cx), (251, DL), (252, FF), (254, Dh), (255, FR), (256, DA), (257, HD), (258, Du)]
theorem hT : dM P T := bC LX (bC VE (bC Tg (bC TE (bC VW (bC Vo (bC TC (bC KW (bC ZT (bC Y6 (bC UQ (bC U4 (bC Y0 (bC W4 (bC aap (bC PA (bC O7 (bC Tq (bC LF (bC SI (bC Md (bC W1 (bC Qj (bC TU (bC S7 (bC aak (bC OF (bC Xh (bC M5 (bC SJ (bC Xi (bC ZU (bC Sp (bC V0 (bC Zq (bC W6 (bC Vy (bC Vp (bC Qq (bC MY (bC So (bC KD (bC VO (bC UD (bC LH (bC Mx (bC Qw (bC aaP (bC SL (bC Mm (bC VQ (bC MW (bC QE (bC MC (bC Uh (bC M8 (bC Ta (bC Q2 (bC LK (bC Y5 (bC Mg (bC UH (bC aaa (bC J5 (bC N3 (bC aag (bC YT (bC S0 (bC LN (bC T9 (bC R4 (bC OP (bC WZ (bC TV (PI))))))))))))))))))))))))))))))))))))))))))))))))))))))))))))))))))))))))))
end Go.Am.N
