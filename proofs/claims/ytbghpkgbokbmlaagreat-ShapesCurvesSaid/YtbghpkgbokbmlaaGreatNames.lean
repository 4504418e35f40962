/- The seat's names: the numbers of functions, the types. Written by a program. -/
import Derived.Test.YtbghpkgbokbmlaaGreatZ1
import Derived.Test.YtbghpkgbokbmlaaGreatProg
import Derived.KernelRfl
set_option linter.unusedVariables false
namespace Go.Am.N
open Go.Proofs
noncomputable abbrev P : Program := Tryz.prog
theorem hm : P.follows .mixedOrders = true := by kernel_rfl
abbrev vJ : FuncId := 6
noncomputable abbrev nD : Func := Tryz.f6
theorem Nw : P.funcs[vJ]? = some nD := Tryz.func6
abbrev uP : FuncId := 10
noncomputable abbrev oV : Func := Tryz.f10
theorem Ls : P.funcs[uP]? = some oV := Tryz.func10
abbrev tK : FuncId := 11
noncomputable abbrev yM : Func := Tryz.f11
theorem To : P.funcs[tK]? = some yM := Tryz.func11
abbrev s6 : FuncId := 12
noncomputable abbrev vi : Func := Tryz.f12
theorem QM : P.funcs[s6]? = some vi := Tryz.func12
abbrev rO : FuncId := 14
noncomputable abbrev rP : Func := Tryz.f14
theorem UC : P.funcs[rO]? = some rP := Tryz.func14
abbrev CP : FuncId := 15
noncomputable abbrev Fw : Func := Tryz.f15
theorem K9 : P.funcs[CP]? = some Fw := Tryz.func15
abbrev tQ : FuncId := 20
noncomputable abbrev o5 : Func := Tryz.f20
theorem PF : P.funcs[tQ]? = some o5 := Tryz.func20
abbrev kk : FuncId := 21
noncomputable abbrev rF : Func := Tryz.f21
theorem JX : P.funcs[kk]? = some rF := Tryz.func21
abbrev p9 : FuncId := 22
noncomputable abbrev qv : Func := Tryz.f22
theorem Qt : P.funcs[p9]? = some qv := Tryz.func22
abbrev FR : FuncId := 24
noncomputable abbrev B9 : Func := Tryz.f24
theorem N3 : P.funcs[FR]? = some B9 := Tryz.func24
abbrev CL : FuncId := 25
noncomputable abbrev Bw : Func := Tryz.f25
theorem Ia : P.funcs[CL]? = some Bw := Tryz.func25
abbrev vj : FuncId := 27
noncomputable abbrev qW : Func := Tryz.f27
theorem Oe : P.funcs[vj]? = some qW := Tryz.func27
abbrev Bo : FuncId := 28
noncomputable abbrev zc : Func := Tryz.f28
theorem ME : P.funcs[Bo]? = some zc := Tryz.func28
abbrev zy : FuncId := 29
noncomputable abbrev Ec : Func := Tryz.f29
theorem Tk : P.funcs[zy]? = some Ec := Tryz.func29
abbrev Cg : FuncId := 31
noncomputable abbrev Ds : Func := Tryz.f31
theorem TT : P.funcs[Cg]? = some Ds := Tryz.func31
abbrev gW : FuncId := 33
noncomputable abbrev qS : Func := Tryz.f33
theorem S1 : P.funcs[gW]? = some qS := Tryz.func33
abbrev uE : FuncId := 36
noncomputable abbrev ry : Func := Tryz.f36
theorem Uz : P.funcs[uE]? = some ry := Tryz.func36
abbrev tM : FuncId := 37
noncomputable abbrev pI : Func := Tryz.f37
theorem QV : P.funcs[tM]? = some pI := Tryz.func37
abbrev lH : FuncId := 38
noncomputable abbrev qO : Func := Tryz.f38
theorem MY : P.funcs[lH]? = some qO := Tryz.func38
abbrev sr : FuncId := 42
noncomputable abbrev qN : Func := Tryz.f42
theorem LZ : P.funcs[sr]? = some qN := Tryz.func42
abbrev rG : FuncId := 43
noncomputable abbrev mo : Func := Tryz.f43
theorem G6 : P.funcs[rG]? = some mo := Tryz.func43
abbrev rQ : FuncId := 44
noncomputable abbrev lK : Func := Tryz.f44
theorem TB : P.funcs[rQ]? = some lK := Tryz.func44
abbrev uW : FuncId := 45
noncomputable abbrev r8 : Func := Tryz.f45
theorem Ou : P.funcs[uW]? = some r8 := Tryz.func45
abbrev nX : FuncId := 46
noncomputable abbrev n7 : Func := Tryz.f46
theorem AB : P.funcs[nX]? = some n7 := Tryz.func46
abbrev Eb : FuncId := 47
noncomputable abbrev Fz : Func := Tryz.f47
theorem LB : P.funcs[Eb]? = some Fz := Tryz.func47
abbrev BV : FuncId := 48
noncomputable abbrev Ee : Func := Tryz.f48
theorem Rh : P.funcs[BV]? = some Ee := Tryz.func48
abbrev E8 : FuncId := 49
noncomputable abbrev AF : Func := Tryz.f49
theorem SH : P.funcs[E8]? = some AF := Tryz.func49
abbrev Eh : FuncId := 50
noncomputable abbrev CQ : Func := Tryz.f50
theorem RI : P.funcs[Eh]? = some CQ := Tryz.func50
abbrev BC : FuncId := 60
noncomputable abbrev DH : Func := Tryz.f60
theorem T0 : P.funcs[BC]? = some DH := Tryz.func60
abbrev qj : FuncId := 61
noncomputable abbrev ot : Func := Tryz.f61
theorem Qz : P.funcs[qj]? = some ot := Tryz.func61
abbrev sj : FuncId := 67
noncomputable abbrev rN : Func := Tryz.f67
theorem R9 : P.funcs[sj]? = some rN := Tryz.func67
abbrev AN : FuncId := 79
noncomputable abbrev Dq : Func := Tryz.f79
theorem Ud : P.funcs[AN]? = some Dq := Tryz.func79
abbrev ng : FuncId := 80
noncomputable abbrev r7 : Func := Tryz.f80
theorem U9 : P.funcs[ng]? = some r7 := Tryz.func80
abbrev Bc : FuncId := 81
noncomputable abbrev zU : Func := Tryz.f81
theorem LR : P.funcs[Bc]? = some zU := Tryz.func81
abbrev tT : FuncId := 82
noncomputable abbrev sC : Func := Tryz.f82
theorem Jx : P.funcs[tT]? = some sC := Tryz.func82
abbrev zw : FuncId := 83
noncomputable abbrev z5 : Func := Tryz.f83
theorem Jk : P.funcs[zw]? = some z5 := Tryz.func83
abbrev Df : FuncId := 86
noncomputable abbrev CS : Func := Tryz.f86
theorem TX : P.funcs[Df]? = some CS := Tryz.func86
abbrev D8 : FuncId := 87
noncomputable abbrev DS : Func := Tryz.f87
theorem HS : P.funcs[D8]? = some DS := Tryz.func87
abbrev zP : FuncId := 88
noncomputable abbrev DZ : Func := Tryz.f88
theorem Lh : P.funcs[zP]? = some DZ := Tryz.func88
abbrev lG : FuncId := 89
noncomputable abbrev rD : Func := Tryz.f89
theorem Si : P.funcs[lG]? = some rD := Tryz.func89
abbrev tY : FuncId := 90
noncomputable abbrev pC : Func := Tryz.f90
theorem Ok : P.funcs[tY]? = some pC := Tryz.func90
abbrev uf : FuncId := 91
noncomputable abbrev o6 : Func := Tryz.f91
theorem Qr : P.funcs[uf]? = some o6 := Tryz.func91
abbrev vg : FuncId := 92
noncomputable abbrev qu : Func := Tryz.f92
theorem Gg : P.funcs[vg]? = some qu := Tryz.func92
abbrev mw : FuncId := 99
noncomputable abbrev pq : Func := Tryz.f99
theorem N5 : P.funcs[mw]? = some pq := Tryz.func99
abbrev rY : FuncId := 100
noncomputable abbrev sB : Func := Tryz.f100
theorem TW : P.funcs[rY]? = some sB := Tryz.func100
abbrev n5 : FuncId := 102
noncomputable abbrev pS : Func := Tryz.f102
theorem Lq : P.funcs[n5]? = some pS := Tryz.func102
abbrev rU : FuncId := 103
noncomputable abbrev qA : Func := Tryz.f103
theorem JH : P.funcs[rU]? = some qA := Tryz.func103
abbrev qz : FuncId := 104
noncomputable abbrev p4 : Func := Tryz.f104
theorem Nx : P.funcs[qz]? = some p4 := Tryz.func104
abbrev kg : FuncId := 105
noncomputable abbrev kM : Func := Tryz.f105
theorem NJ : P.funcs[kg]? = some kM := Tryz.func105
abbrev Fm : FuncId := 106
noncomputable abbrev za : Func := Tryz.f106
theorem Gn : P.funcs[Fm]? = some za := Tryz.func106
abbrev tZ : FuncId := 107
noncomputable abbrev qc : Func := Tryz.f107
theorem TJ : P.funcs[tZ]? = some qc := Tryz.func107
abbrev u5 : FuncId := 108
noncomputable abbrev oO : Func := Tryz.f108
theorem J7 : P.funcs[u5]? = some oO := Tryz.func108
abbrev rH : FuncId := 109
noncomputable abbrev pA : Func := Tryz.f109
theorem Rw : P.funcs[rH]? = some pA := Tryz.func109
abbrev CI : FuncId := 110
noncomputable abbrev Ep : Func := Tryz.f110
theorem Pp : P.funcs[CI]? = some Ep := Tryz.func110
abbrev Bt : FuncId := 111
noncomputable abbrev Af : Func := Tryz.f111
theorem TY : P.funcs[Bt]? = some Af := Tryz.func111
abbrev rm : FuncId := 114
noncomputable abbrev qF : Func := Tryz.f114
theorem J2 : P.funcs[rm]? = some qF := Tryz.func114
abbrev mN : FuncId := 115
noncomputable abbrev pY : Func := Tryz.f115
theorem H6 : P.funcs[mN]? = some pY := Tryz.func115
abbrev nY : FuncId := 116
noncomputable abbrev oE : Func := Tryz.f116
theorem Ft : P.funcs[nY]? = some oE := Tryz.func116
abbrev nA : FuncId := 119
noncomputable abbrev pB : Func := Tryz.f119
theorem Qd : P.funcs[nA]? = some pB := Tryz.func119
abbrev BP : FuncId := 120
noncomputable abbrev CJ : Func := Tryz.f120
theorem Rn : P.funcs[BP]? = some CJ := Tryz.func120
abbrev B8 : FuncId := 121
noncomputable abbrev Cr : Func := Tryz.f121
theorem Lg : P.funcs[B8]? = some Cr := Tryz.func121
abbrev p8 : FuncId := 122
noncomputable abbrev l8 : Func := Tryz.f122
theorem Ss : P.funcs[p8]? = some l8 := Tryz.func122
abbrev qe : FuncId := 124
noncomputable abbrev pO : Func := Tryz.f124
theorem RJ : P.funcs[qe]? = some pO := Tryz.func124
abbrev mQ : FuncId := 125
noncomputable abbrev g7 : Func := Tryz.f125
theorem J4 : P.funcs[mQ]? = some g7 := Tryz.func125
abbrev rV : FuncId := 126
noncomputable abbrev qX : Func := Tryz.f126
theorem RR : P.funcs[rV]? = some qX := Tryz.func126
abbrev tc : FuncId := 127
noncomputable abbrev mM : Func := Tryz.f127
theorem Pv : P.funcs[tc]? = some mM := Tryz.func127
abbrev Ew : FuncId := 128
noncomputable abbrev Ak : Func := Tryz.f128
theorem QY : P.funcs[Ew]? = some Ak := Tryz.func128
abbrev Bf : FuncId := 129
noncomputable abbrev y7 : Func := Tryz.f129
theorem Ho : P.funcs[Bf]? = some y7 := Tryz.func129
abbrev zY : FuncId := 130
noncomputable abbrev Ey : Func := Tryz.f130
theorem Tm : P.funcs[zY]? = some Ey := Tryz.func130
abbrev AI : FuncId := 131
noncomputable abbrev BH : Func := Tryz.f131
theorem RS : P.funcs[AI]? = some BH := Tryz.func131
abbrev FE : FuncId := 132
noncomputable abbrev FY : Func := Tryz.f132
theorem Tf : P.funcs[FE]? = some FY := Tryz.func132
abbrev oI : FuncId := 133
noncomputable abbrev p7 : Func := Tryz.f133
theorem Oz : P.funcs[oI]? = some p7 := Tryz.func133
abbrev tE : FuncId := 135
noncomputable abbrev qa : Func := Tryz.f135
theorem NH : P.funcs[tE]? = some qa := Tryz.func135
abbrev oA : FuncId := 153
noncomputable abbrev p0 : Func := Tryz.f153
theorem Rz : P.funcs[oA]? = some p0 := Tryz.func153
abbrev rB : FuncId := 154
noncomputable abbrev pe : Func := Tryz.f154
theorem Qh : P.funcs[rB]? = some pe := Tryz.func154
abbrev p6 : FuncId := 157
noncomputable abbrev qk : Func := Tryz.f157
theorem HL : P.funcs[p6]? = some qk := Tryz.func157
abbrev oR : FuncId := 158
noncomputable abbrev jj : Func := Tryz.f158
theorem Gk : P.funcs[oR]? = some jj := Tryz.func158
abbrev nF : FuncId := 159
noncomputable abbrev cy : Func := Tryz.f159
theorem TD : P.funcs[nF]? = some cy := Tryz.func159
abbrev pg : FuncId := 160
noncomputable abbrev pQ : Func := Tryz.f160
theorem JU : P.funcs[pg]? = some pQ := Tryz.func160
abbrev oF : FuncId := 161
noncomputable abbrev sJ : Func := Tryz.f161
theorem Sw : P.funcs[oF]? = some sJ := Tryz.func161
abbrev sy : FuncId := 162
noncomputable abbrev dy : Func := Tryz.f162
theorem LD : P.funcs[sy]? = some dy := Tryz.func162
abbrev oT : FuncId := 163
noncomputable abbrev qH : Func := Tryz.f163
theorem Gb : P.funcs[oT]? = some qH := Tryz.func163
abbrev n9 : FuncId := 164
noncomputable abbrev oW : Func := Tryz.f164
theorem IN : P.funcs[n9]? = some oW := Tryz.func164
abbrev rj : FuncId := 165
noncomputable abbrev fO : Func := Tryz.f165
theorem Ja : P.funcs[rj]? = some fO := Tryz.func165
abbrev qm : FuncId := 166
noncomputable abbrev oN : Func := Tryz.f166
theorem QN : P.funcs[qm]? = some oN := Tryz.func166
abbrev sL : FuncId := 168
noncomputable abbrev gn : Func := Tryz.f168
theorem Mn : P.funcs[sL]? = some gn := Tryz.func168
abbrev pJ : FuncId := 172
noncomputable abbrev eO : Func := Tryz.f172
theorem Tx : P.funcs[pJ]? = some eO := Tryz.func172
abbrev ru : FuncId := 173
noncomputable abbrev sA : Func := Tryz.f173
theorem Om : P.funcs[ru]? = some sA := Tryz.func173
abbrev pD : FuncId := 176
noncomputable abbrev oU : Func := Tryz.f176
theorem Tu : P.funcs[pD]? = some oU := Tryz.func176
abbrev wh : FuncId := 177
noncomputable abbrev vm : Func := Tryz.f177
theorem N7 : P.funcs[wh]? = some vm := Tryz.func177
abbrev pN : FuncId := 178
noncomputable abbrev sI : Func := Tryz.f178
theorem Tt : P.funcs[pN]? = some sI := Tryz.func178
abbrev DD : FuncId := 179
noncomputable abbrev EJ : Func := Tryz.f179
theorem Gi : P.funcs[DD]? = some EJ := Tryz.func179
abbrev Ck : FuncId := 180
noncomputable abbrev zK : Func := Tryz.f180
theorem SE : P.funcs[Ck]? = some zK := Tryz.func180
abbrev kE : FuncId := 183
noncomputable abbrev sw : Func := Tryz.f183
theorem Ts : P.funcs[kE]? = some sw := Tryz.func183
abbrev q7 : FuncId := 184
noncomputable abbrev o4 : Func := Tryz.f184
theorem Ol : P.funcs[q7]? = some o4 := Tryz.func184
abbrev jz : FuncId := 185
noncomputable abbrev iy : Func := Tryz.f185
theorem PC : P.funcs[jz]? = some iy := Tryz.func185
abbrev nq : FuncId := 186
noncomputable abbrev eg : Func := Tryz.f186
theorem JD : P.funcs[nq]? = some eg := Tryz.func186
abbrev oB : FuncId := 187
noncomputable abbrev qn : Func := Tryz.f187
theorem IE : P.funcs[oB]? = some qn := Tryz.func187
abbrev od : FuncId := 188
noncomputable abbrev kS : Func := Tryz.f188
theorem MA : P.funcs[od]? = some kS := Tryz.func188
abbrev uK : FuncId := 190
noncomputable abbrev sk : Func := Tryz.f190
theorem PW : P.funcs[uK]? = some sk := Tryz.func190
abbrev tR : FuncId := 191
noncomputable abbrev rS : Func := Tryz.f191
theorem R4 : P.funcs[tR]? = some rS := Tryz.func191
abbrev k8 : FuncId := 196
noncomputable abbrev j4 : Func := Tryz.f196
theorem PY : P.funcs[k8]? = some j4 := Tryz.func196
abbrev n6 : FuncId := 199
noncomputable abbrev l7 : Func := Tryz.f199
theorem Sa : P.funcs[n6]? = some l7 := Tryz.func199
abbrev r5 : FuncId := 200
noncomputable abbrev ko : Func := Tryz.f200
theorem Uk : P.funcs[r5]? = some ko := Tryz.func200
abbrev rR : FuncId := 201
noncomputable abbrev fu : Func := Tryz.f201
theorem LM : P.funcs[rR]? = some fu := Tryz.func201
abbrev nu : FuncId := 202
noncomputable abbrev cD : Func := Tryz.f202
theorem Iz : P.funcs[nu]? = some cD := Tryz.func202
abbrev nT : FuncId := 203
noncomputable abbrev fC : Func := Tryz.f203
theorem QJ : P.funcs[nT]? = some fC := Tryz.func203
abbrev mO : FuncId := 204
noncomputable abbrev rE : Func := Tryz.f204
theorem Qw : P.funcs[mO]? = some rE := Tryz.func204
abbrev vF : FuncId := 205
noncomputable abbrev JI : Func := Tryz.f205
theorem Rj : P.funcs[vF]? = some JI := Tryz.func205
abbrev qh : FuncId := 206
noncomputable abbrev ig : Func := Tryz.f206
theorem KW : P.funcs[qh]? = some ig := Tryz.func206
abbrev oY : FuncId := 207
noncomputable abbrev kH : Func := Tryz.f207
theorem LI : P.funcs[oY]? = some kH := Tryz.func207
abbrev rL : FuncId := 208
noncomputable abbrev lJ : Func := Tryz.f208
theorem Lb : P.funcs[rL]? = some lJ := Tryz.func208
abbrev lF : FuncId := 209
noncomputable abbrev e8 : Func := Tryz.f209
theorem Ut : P.funcs[lF]? = some e8 := Tryz.func209
abbrev mC : FuncId := 210
noncomputable abbrev oX : Func := Tryz.f210
theorem Gd : P.funcs[mC]? = some oX := Tryz.func210
abbrev o7 : FuncId := 211
noncomputable abbrev kz : Func := Tryz.f211
theorem Sb : P.funcs[o7]? = some kz := Tryz.func211
abbrev qD : FuncId := 212
noncomputable abbrev mc : Func := Tryz.f212
theorem TO : P.funcs[qD]? = some mc := Tryz.func212
abbrev rM : FuncId := 213
noncomputable abbrev l5 : Func := Tryz.f213
theorem Kq : P.funcs[rM]? = some l5 := Tryz.func213
abbrev lN : FuncId := 214
noncomputable abbrev pU : Func := Tryz.f214
theorem TR : P.funcs[lN]? = some pU := Tryz.func214
abbrev nr : FuncId := 216
noncomputable abbrev ri : Func := Tryz.f216
theorem KA : P.funcs[nr]? = some ri := Tryz.func216
abbrev oZ : FuncId := 217
noncomputable abbrev jq : Func := Tryz.f217
theorem Ir : P.funcs[oZ]? = some jq := Tryz.func217
abbrev rZ : FuncId := 218
noncomputable abbrev ql : Func := Tryz.f218
theorem Mr : P.funcs[rZ]? = some ql := Tryz.func218
abbrev rX : FuncId := 219
noncomputable abbrev qo : Func := Tryz.f219
theorem Gf : P.funcs[rX]? = some qo := Tryz.func219
abbrev qG : FuncId := 220
noncomputable abbrev ji : Func := Tryz.f220
theorem Lw : P.funcs[qG]? = some ji := Tryz.func220
abbrev qY : FuncId := 233
noncomputable abbrev jU : Func := Tryz.f233
theorem IT : P.funcs[qY]? = some jU := Tryz.func233
abbrev oL : FuncId := 234
noncomputable abbrev j0 : Func := Tryz.f234
theorem Jf : P.funcs[oL]? = some j0 := Tryz.func234
abbrev sx : FuncId := 235
noncomputable abbrev qZ : Func := Tryz.f235
theorem Qu : P.funcs[sx]? = some qZ := Tryz.func235
abbrev pZ : FuncId := 236
noncomputable abbrev iB : Func := Tryz.f236
theorem I0 : P.funcs[pZ]? = some iB := Tryz.func236
abbrev vw : FuncId := 237
noncomputable abbrev rJ : Func := Tryz.f237
theorem UU : P.funcs[vw]? = some rJ := Tryz.func237
abbrev Cy : TI := ⟨.int .i64, 1, 8, .int .i64 0⟩
theorem HM : bh P 2 Cy := bE (by kernel_rfl) (by kernel_rfl) (by kernel_rfl)
abbrev Bx : TI := ⟨.int .i64, 1, 8, .int .i64 0⟩
theorem Vh : bh P 3 Bx := bE (by kernel_rfl) (by kernel_rfl) (by kernel_rfl)
abbrev FO : TI := ⟨.bool, 1, 1, .bool false⟩
theorem Hx : bh P 4 FO := bE (by kernel_rfl) (by kernel_rfl) (by kernel_rfl)
abbrev zN : TI := ⟨.int .u8, 1, 1, .int .u8 0⟩
theorem Kf : bh P 5 zN := bE (by kernel_rfl) (by kernel_rfl) (by kernel_rfl)
abbrev DV : TI := ⟨.int .u8, 1, 1, .int .u8 0⟩
theorem Qy : bh P 6 DV := bE (by kernel_rfl) (by kernel_rfl) (by kernel_rfl)
abbrev Ez : TI := ⟨.struct #[{ name := "x", type := 2, offset := 0, embedded := false, tag := "", pkgPath := "runtime", byteOffset := 0 }, { name := "y", type := 3, offset := 1, embedded := false, tag := "", pkgPath := "runtime", byteOffset := 8 }, { name := "signed", type := 4, offset := 2, embedded := false, tag := "", pkgPath := "runtime", byteOffset := 16 }, { name := "code", type := 6, offset := 3, embedded := false, tag := "", pkgPath := "runtime", byteOffset := 17 }], 4, 24, .agg [.int .i64 0, .int .i64 0, .bool false, .int .u8 0]⟩
theorem JM : bh P 7 Ez := bE (by kernel_rfl) (by kernel_rfl) (by kernel_rfl)
abbrev EV : TI := ⟨.struct #[{ name := "x", type := 2, offset := 0, embedded := false, tag := "", pkgPath := "runtime", byteOffset := 0 }, { name := "y", type := 3, offset := 1, embedded := false, tag := "", pkgPath := "runtime", byteOffset := 8 }, { name := "signed", type := 4, offset := 2, embedded := false, tag := "", pkgPath := "runtime", byteOffset := 16 }, { name := "code", type := 6, offset := 3, embedded := false, tag := "", pkgPath := "runtime", byteOffset := 17 }], 4, 24, .agg [.int .i64 0, .int .i64 0, .bool false, .int .u8 0]⟩
theorem PA : bh P 8 EV := bE (by kernel_rfl) (by kernel_rfl) (by kernel_rfl)
abbrev Ax : TI := ⟨.string, 1, 16, .tuple []⟩
theorem GY : bh P 9 Ax := fc (by kernel_rfl) (by kernel_rfl) rfl
abbrev FK : TI := ⟨.string, 1, 16, .tuple []⟩
theorem I8 : bh P 10 FK := fc (by kernel_rfl) (by kernel_rfl) rfl
abbrev D5 : TI := ⟨.string, 1, 16, .tuple []⟩
theorem GU : bh P 11 D5 := fc (by kernel_rfl) (by kernel_rfl) rfl
abbrev DF : TI := ⟨.int .u64, 1, 8, .int .u64 0⟩
theorem UO : bh P 12 DF := bE (by kernel_rfl) (by kernel_rfl) (by kernel_rfl)
abbrev DL : TI := ⟨.struct #[{ name := "msg", type := 9, offset := 0, embedded := false, tag := "", pkgPath := "runtime", byteOffset := 0 }, { name := "addr", type := 12, offset := 1, embedded := false, tag := "", pkgPath := "runtime", byteOffset := 16 }], 2, 24, .tuple []⟩
theorem OD : bh P 13 DL := fc (by kernel_rfl) (by kernel_rfl) rfl
abbrev A5 : TI := ⟨.struct #[{ name := "msg", type := 9, offset := 0, embedded := false, tag := "", pkgPath := "runtime", byteOffset := 0 }, { name := "addr", type := 12, offset := 1, embedded := false, tag := "", pkgPath := "runtime", byteOffset := 16 }], 2, 24, .tuple []⟩
theorem G0 : bh P 14 A5 := fc (by kernel_rfl) (by kernel_rfl) rfl
abbrev E3 : TI := ⟨.pointer 246, 1, 8, .tuple []⟩
theorem Pq : bh P 15 E3 := fc (by kernel_rfl) (by kernel_rfl) rfl
abbrev Aw : TI := ⟨.pointer 249, 1, 8, .tuple []⟩
theorem G4 : bh P 16 Aw := fc (by kernel_rfl) (by kernel_rfl) rfl
abbrev FC : TI := ⟨.pointer 258, 1, 8, .tuple []⟩
theorem PL : bh P 17 FC := fc (by kernel_rfl) (by kernel_rfl) rfl
abbrev ER : TI := ⟨.struct #[{ name := "typ", type := 17, offset := 0, embedded := false, tag := "", pkgPath := "internal/runtime/maps", byteOffset := 0 }], 1, 8, .tuple []⟩
theorem LL : bh P 18 ER := fc (by kernel_rfl) (by kernel_rfl) rfl
abbrev Ej : TI := ⟨.struct #[{ name := "typ", type := 17, offset := 0, embedded := false, tag := "", pkgPath := "internal/runtime/maps", byteOffset := 0 }], 1, 8, .tuple []⟩
theorem Ht : bh P 19 Ej := fc (by kernel_rfl) (by kernel_rfl) rfl
abbrev EW : TI := ⟨.int .i32, 1, 4, .int .i32 0⟩
theorem PV : bh P 21 EW := bE (by kernel_rfl) (by kernel_rfl) (by kernel_rfl)
abbrev Ed : TI := ⟨.slice 3, 1, 24, .nil⟩
theorem KV : bh P 22 Ed := bE (by kernel_rfl) (by kernel_rfl) (by kernel_rfl)
abbrev Er : TI := ⟨.slice 42, 1, 24, .nil⟩
theorem KD : bh P 25 Er := bE (by kernel_rfl) (by kernel_rfl) (by kernel_rfl)
abbrev Ev : TI := ⟨.slice 123, 1, 24, .nil⟩
theorem Sd : bh P 26 Ev := bE (by kernel_rfl) (by kernel_rfl) (by kernel_rfl)
abbrev BM : TI := ⟨.struct #[{ name := "Degree", type := 3, offset := 0, embedded := false, tag := "", pkgPath := "", byteOffset := 0 }, { name := "Knots", type := 25, offset := 1, embedded := false, tag := "", pkgPath := "", byteOffset := 8 }, { name := "Poles", type := 26, offset := 2, embedded := false, tag := "", pkgPath := "", byteOffset := 32 }], 3, 56, .agg [.int .i64 0, .nil, .nil]⟩
theorem Oy : bh P 27 BM := bE (by kernel_rfl) (by kernel_rfl) (by kernel_rfl)
abbrev DA : TI := ⟨.struct #[{ name := "Degree", type := 3, offset := 0, embedded := false, tag := "", pkgPath := "", byteOffset := 0 }, { name := "Knots", type := 25, offset := 1, embedded := false, tag := "", pkgPath := "", byteOffset := 8 }, { name := "Poles", type := 26, offset := 2, embedded := false, tag := "", pkgPath := "", byteOffset := 32 }], 3, 56, .agg [.int .i64 0, .nil, .nil]⟩
theorem Gu : bh P 28 DA := bE (by kernel_rfl) (by kernel_rfl) (by kernel_rfl)
abbrev B6 : TI := ⟨.pointer 120, 1, 8, .tuple []⟩
theorem Um : bh P 29 B6 := fc (by kernel_rfl) (by kernel_rfl) rfl
abbrev D1 : TI := ⟨.slice 26, 1, 24, .nil⟩
theorem Vi : bh P 33 D1 := bE (by kernel_rfl) (by kernel_rfl) (by kernel_rfl)
abbrev Br : TI := ⟨.struct #[{ name := "U", type := 3, offset := 0, embedded := false, tag := "", pkgPath := "", byteOffset := 0 }, { name := "V", type := 3, offset := 1, embedded := false, tag := "", pkgPath := "", byteOffset := 8 }, { name := "KnotsU", type := 25, offset := 2, embedded := false, tag := "", pkgPath := "", byteOffset := 16 }, { name := "KnotsV", type := 25, offset := 3, embedded := false, tag := "", pkgPath := "", byteOffset := 40 }, { name := "Poles", type := 33, offset := 4, embedded := false, tag := "", pkgPath := "", byteOffset := 64 }], 5, 88, .agg [.int .i64 0, .int .i64 0, .nil, .nil, .nil]⟩
theorem S5 : bh P 34 Br := bE (by kernel_rfl) (by kernel_rfl) (by kernel_rfl)
abbrev z6 : TI := ⟨.struct #[{ name := "U", type := 3, offset := 0, embedded := false, tag := "", pkgPath := "", byteOffset := 0 }, { name := "V", type := 3, offset := 1, embedded := false, tag := "", pkgPath := "", byteOffset := 8 }, { name := "KnotsU", type := 25, offset := 2, embedded := false, tag := "", pkgPath := "", byteOffset := 16 }, { name := "KnotsV", type := 25, offset := 3, embedded := false, tag := "", pkgPath := "", byteOffset := 40 }, { name := "Poles", type := 33, offset := 4, embedded := false, tag := "", pkgPath := "", byteOffset := 64 }], 5, 88, .agg [.int .i64 0, .int .i64 0, .nil, .nil, .nil]⟩
theorem JV : bh P 35 z6 := bE (by kernel_rfl) (by kernel_rfl) (by kernel_rfl)
abbrev AL : TI := ⟨.int .i64, 1, 8, .int .i64 0⟩
theorem O2 : bh P 36 AL := bE (by kernel_rfl) (by kernel_rfl) (by kernel_rfl)
abbrev FX : TI := ⟨.slice 188, 1, 24, .nil⟩
theorem OR : bh P 40 FX := bE (by kernel_rfl) (by kernel_rfl) (by kernel_rfl)
abbrev Bl : TI := ⟨.struct #[{ name := "Neg", type := 4, offset := 0, embedded := false, tag := "", pkgPath := "", byteOffset := 0 }, { name := "Num", type := 40, offset := 1, embedded := false, tag := "", pkgPath := "", byteOffset := 8 }, { name := "Den", type := 40, offset := 2, embedded := false, tag := "", pkgPath := "", byteOffset := 32 }], 3, 56, .agg [.bool false, .nil, .nil]⟩
theorem Se : bh P 41 Bl := bE (by kernel_rfl) (by kernel_rfl) (by kernel_rfl)
abbrev zu : TI := ⟨.struct #[{ name := "Neg", type := 4, offset := 0, embedded := false, tag := "", pkgPath := "", byteOffset := 0 }, { name := "Num", type := 40, offset := 1, embedded := false, tag := "", pkgPath := "", byteOffset := 8 }, { name := "Den", type := 40, offset := 2, embedded := false, tag := "", pkgPath := "", byteOffset := 32 }], 3, 56, .rat 0 1⟩
theorem Uj : bh P 42 zu := bE (by kernel_rfl) (by kernel_rfl) (by kernel_rfl)
abbrev EG : TI := ⟨.struct #[{ name := "Lo", type := 42, offset := 0, embedded := false, tag := "", pkgPath := "", byteOffset := 0 }, { name := "Hi", type := 42, offset := 3, embedded := false, tag := "", pkgPath := "", byteOffset := 56 }], 6, 112, .agg [.rat 0 1, .rat 0 1]⟩
theorem NR : bh P 43 EG := bE (by kernel_rfl) (by kernel_rfl) (by kernel_rfl)
abbrev EC : TI := ⟨.struct #[{ name := "Lo", type := 42, offset := 0, embedded := false, tag := "", pkgPath := "", byteOffset := 0 }, { name := "Hi", type := 42, offset := 3, embedded := false, tag := "", pkgPath := "", byteOffset := 56 }], 6, 112, .agg [.rat 0 1, .rat 0 1]⟩
theorem La : bh P 44 EC := bE (by kernel_rfl) (by kernel_rfl) (by kernel_rfl)
abbrev FL : TI := ⟨.array 3 42, 9, 168, .agg [.rat 0 1, .rat 0 1, .rat 0 1]⟩
theorem Ki : bh P 48 FL := bE (by kernel_rfl) (by kernel_rfl) (by kernel_rfl)
abbrev zn : TI := ⟨.array 3 42, 9, 168, .agg [.rat 0 1, .rat 0 1, .rat 0 1]⟩
theorem OV : bh P 49 zn := bE (by kernel_rfl) (by kernel_rfl) (by kernel_rfl)
abbrev Fe : TI := ⟨.array 3 49, 27, 504, .agg [.agg [.rat 0 1, .rat 0 1, .rat 0 1], .agg [.rat 0 1, .rat 0 1, .rat 0 1], .agg [.rat 0 1, .rat 0 1, .rat 0 1]]⟩
theorem Hf : bh P 58 Fe := bE (by kernel_rfl) (by kernel_rfl) (by kernel_rfl)
abbrev Al : TI := ⟨.struct #[{ name := "M", type := 58, offset := 0, embedded := false, tag := "", pkgPath := "", byteOffset := 0 }, { name := "T", type := 49, offset := 27, embedded := false, tag := "", pkgPath := "", byteOffset := 504 }], 36, 672, .agg [.agg [.agg [.rat 0 1, .rat 0 1, .rat 0 1], .agg [.rat 0 1, .rat 0 1, .rat 0 1], .agg [.rat 0 1, .rat 0 1, .rat 0 1]], .agg [.rat 0 1, .rat 0 1, .rat 0 1]]⟩
theorem PM : bh P 59 Al := bE (by kernel_rfl) (by kernel_rfl) (by kernel_rfl)
abbrev B7 : TI := ⟨.struct #[{ name := "M", type := 58, offset := 0, embedded := false, tag := "", pkgPath := "", byteOffset := 0 }, { name := "T", type := 49, offset := 27, embedded := false, tag := "", pkgPath := "", byteOffset := 504 }], 36, 672, .agg [.agg [.agg [.rat 0 1, .rat 0 1, .rat 0 1], .agg [.rat 0 1, .rat 0 1, .rat 0 1], .agg [.rat 0 1, .rat 0 1, .rat 0 1]], .agg [.rat 0 1, .rat 0 1, .rat 0 1]]⟩
theorem T7 : bh P 60 B7 := bE (by kernel_rfl) (by kernel_rfl) (by kernel_rfl)
abbrev Cq : TI := ⟨.slice 49, 1, 24, .nil⟩
theorem I6 : bh P 82 Cq := bE (by kernel_rfl) (by kernel_rfl) (by kernel_rfl)
abbrev Bq : TI := ⟨.slice 103, 1, 24, .nil⟩
theorem LU : bh P 98 Bq := bE (by kernel_rfl) (by kernel_rfl) (by kernel_rfl)
abbrev Et : TI := ⟨.slice 44, 1, 24, .nil⟩
theorem Qg : bh P 101 Et := bE (by kernel_rfl) (by kernel_rfl) (by kernel_rfl)
abbrev zh : TI := ⟨.struct #[{ name := "A", type := 101, offset := 0, embedded := false, tag := "", pkgPath := "", byteOffset := 0 }, { name := "B", type := 101, offset := 1, embedded := false, tag := "", pkgPath := "", byteOffset := 24 }, { name := "Kind", type := 3, offset := 2, embedded := false, tag := "", pkgPath := "", byteOffset := 48 }, { name := "K", type := 3, offset := 3, embedded := false, tag := "", pkgPath := "", byteOffset := 56 }], 4, 64, .agg [.nil, .nil, .int .i64 0, .int .i64 0]⟩
theorem NG : bh P 102 zh := bE (by kernel_rfl) (by kernel_rfl) (by kernel_rfl)
abbrev C6 : TI := ⟨.struct #[{ name := "A", type := 101, offset := 0, embedded := false, tag := "", pkgPath := "", byteOffset := 0 }, { name := "B", type := 101, offset := 1, embedded := false, tag := "", pkgPath := "", byteOffset := 24 }, { name := "Kind", type := 3, offset := 2, embedded := false, tag := "", pkgPath := "", byteOffset := 48 }, { name := "K", type := 3, offset := 3, embedded := false, tag := "", pkgPath := "", byteOffset := 56 }], 4, 64, .agg [.nil, .nil, .int .i64 0, .int .i64 0]⟩
theorem O3 : bh P 103 C6 := bE (by kernel_rfl) (by kernel_rfl) (by kernel_rfl)
abbrev Av : TI := ⟨.slice 22, 1, 24, .nil⟩
theorem O1 : bh P 111 Av := bE (by kernel_rfl) (by kernel_rfl) (by kernel_rfl)
abbrev Dj : TI := ⟨.struct #[{ name := "L", type := 22, offset := 0, embedded := false, tag := "", pkgPath := "", byteOffset := 0 }, { name := "At", type := 3, offset := 1, embedded := false, tag := "", pkgPath := "", byteOffset := 24 }], 2, 32, .agg [.nil, .int .i64 0]⟩
theorem Oq : bh P 119 Dj := bE (by kernel_rfl) (by kernel_rfl) (by kernel_rfl)
abbrev DN : TI := ⟨.struct #[{ name := "L", type := 22, offset := 0, embedded := false, tag := "", pkgPath := "", byteOffset := 0 }, { name := "At", type := 3, offset := 1, embedded := false, tag := "", pkgPath := "", byteOffset := 24 }], 2, 32, .agg [.nil, .int .i64 0]⟩
theorem He : bh P 120 DN := bE (by kernel_rfl) (by kernel_rfl) (by kernel_rfl)
abbrev AH : TI := ⟨.struct #[{ name := "P", type := 49, offset := 0, embedded := false, tag := "", pkgPath := "", byteOffset := 0 }, { name := "W", type := 42, offset := 9, embedded := false, tag := "", pkgPath := "", byteOffset := 168 }], 12, 224, .agg [.agg [.rat 0 1, .rat 0 1, .rat 0 1], .rat 0 1]⟩
theorem QH : bh P 122 AH := bE (by kernel_rfl) (by kernel_rfl) (by kernel_rfl)
abbrev Fq : TI := ⟨.struct #[{ name := "P", type := 49, offset := 0, embedded := false, tag := "", pkgPath := "", byteOffset := 0 }, { name := "W", type := 42, offset := 9, embedded := false, tag := "", pkgPath := "", byteOffset := 168 }], 12, 224, .agg [.agg [.rat 0 1, .rat 0 1, .rat 0 1], .rat 0 1]⟩
theorem MF : bh P 123 Fq := bE (by kernel_rfl) (by kernel_rfl) (by kernel_rfl)
abbrev Dp : TI := ⟨.array 3 2, 3, 24, .agg [.int .i64 0, .int .i64 0, .int .i64 0]⟩
theorem NM : bh P 127 Dp := bE (by kernel_rfl) (by kernel_rfl) (by kernel_rfl)
abbrev BU : TI := ⟨.array 9 127, 27, 216, .agg [.agg [.int .i64 0, .int .i64 0, .int .i64 0], .agg [.int .i64 0, .int .i64 0, .int .i64 0], .agg [.int .i64 0, .int .i64 0, .int .i64 0], .agg [.int .i64 0, .int .i64 0, .int .i64 0], .agg [.int .i64 0, .int .i64 0, .int .i64 0], .agg [.int .i64 0, .int .i64 0, .int .i64 0], .agg [.int .i64 0, .int .i64 0, .int .i64 0], .agg [.int .i64 0, .int .i64 0, .int .i64 0], .agg [.int .i64 0, .int .i64 0, .int .i64 0]]⟩
theorem S6 : bh P 128 BU := bE (by kernel_rfl) (by kernel_rfl) (by kernel_rfl)
abbrev Cm : TI := ⟨.slice 127, 1, 24, .nil⟩
theorem Pd : bh P 130 Cm := bE (by kernel_rfl) (by kernel_rfl) (by kernel_rfl)
abbrev DW : TI := ⟨.array 4 42, 12, 224, .agg [.rat 0 1, .rat 0 1, .rat 0 1, .rat 0 1]⟩
theorem Ot : bh P 140 DW := bE (by kernel_rfl) (by kernel_rfl) (by kernel_rfl)
abbrev AR : TI := ⟨.slice 28, 1, 24, .nil⟩
theorem UD : bh P 151 AR := bE (by kernel_rfl) (by kernel_rfl) (by kernel_rfl)
abbrev Ay : TI := ⟨.slice 2, 1, 24, .nil⟩
theorem Ge : bh P 161 Ay := bE (by kernel_rfl) (by kernel_rfl) (by kernel_rfl)
abbrev FU : TI := ⟨.slice 4, 1, 24, .nil⟩
theorem PX : bh P 175 FU := bE (by kernel_rfl) (by kernel_rfl) (by kernel_rfl)
abbrev Dd : TI := ⟨.int .u64, 1, 8, .int .u64 0⟩
theorem Oh : bh P 183 Dd := bE (by kernel_rfl) (by kernel_rfl) (by kernel_rfl)
abbrev FA : TI := ⟨.int .u32, 1, 4, .int .u32 0⟩
theorem RP : bh P 188 FA := bE (by kernel_rfl) (by kernel_rfl) (by kernel_rfl)
abbrev Ba : TI := ⟨.int .u64, 1, 8, .int .u64 0⟩
theorem SJ : bh P 202 Ba := bE (by kernel_rfl) (by kernel_rfl) (by kernel_rfl)
abbrev Dt : TI := ⟨.slice 5, 1, 24, .nil⟩
theorem Ly : bh P 209 Dt := bE (by kernel_rfl) (by kernel_rfl) (by kernel_rfl)
abbrev Ct : TI := ⟨.slice 101, 1, 24, .nil⟩
theorem R3 : bh P 223 Ct := bE (by kernel_rfl) (by kernel_rfl) (by kernel_rfl)
abbrev zL : TI := ⟨.int .i64, 1, 8, .int .i64 0⟩
theorem Pf : bh P 227 zL := bE (by kernel_rfl) (by kernel_rfl) (by kernel_rfl)
abbrev A0 : TI := ⟨.int .u64, 1, 8, .int .u64 0⟩
theorem Ln : bh P 235 A0 := bE (by kernel_rfl) (by kernel_rfl) (by kernel_rfl)
abbrev AA : TI := ⟨.pointer 3, 1, 8, .tuple []⟩
theorem LP : bh P 239 AA := fc (by kernel_rfl) (by kernel_rfl) rfl
abbrev EO : TI := ⟨.pointer 235, 1, 8, .tuple []⟩
theorem IU : bh P 241 EO := fc (by kernel_rfl) (by kernel_rfl) rfl
abbrev zk : TI := ⟨.struct #[{ name := "_interface", type := 17, offset := 0, embedded := false, tag := "", pkgPath := "runtime", byteOffset := 0 }, { name := "concrete", type := 17, offset := 1, embedded := false, tag := "", pkgPath := "runtime", byteOffset := 8 }, { name := "asserted", type := 17, offset := 2, embedded := false, tag := "", pkgPath := "runtime", byteOffset := 16 }, { name := "missingMethod", type := 9, offset := 3, embedded := false, tag := "", pkgPath := "runtime", byteOffset := 24 }], 4, 40, .tuple []⟩
theorem QS : bh P 245 zk := fc (by kernel_rfl) (by kernel_rfl) rfl
abbrev FI : TI := ⟨.struct #[{ name := "_interface", type := 17, offset := 0, embedded := false, tag := "", pkgPath := "runtime", byteOffset := 0 }, { name := "concrete", type := 17, offset := 1, embedded := false, tag := "", pkgPath := "runtime", byteOffset := 8 }, { name := "asserted", type := 17, offset := 2, embedded := false, tag := "", pkgPath := "runtime", byteOffset := 16 }, { name := "missingMethod", type := 9, offset := 3, embedded := false, tag := "", pkgPath := "runtime", byteOffset := 24 }], 4, 40, .tuple []⟩
theorem Ri : bh P 246 FI := fc (by kernel_rfl) (by kernel_rfl) rfl
abbrev zj : TI := ⟨.int .u8, 1, 1, .int .u8 0⟩
theorem UQ : bh P 251 zj := bE (by kernel_rfl) (by kernel_rfl) (by kernel_rfl)
abbrev FJ : TI := ⟨.int .u8, 1, 1, .int .u8 0⟩
theorem Ph : bh P 252 FJ := bE (by kernel_rfl) (by kernel_rfl) (by kernel_rfl)
abbrev DG : TI := ⟨.pointer 5, 1, 8, .tuple []⟩
theorem I4 : bh P 254 DG := fc (by kernel_rfl) (by kernel_rfl) rfl
abbrev y9 : TI := ⟨.int .i32, 1, 4, .int .i32 0⟩
theorem Oi : bh P 255 y9 := bE (by kernel_rfl) (by kernel_rfl) (by kernel_rfl)
abbrev Eo : TI := ⟨.int .i32, 1, 4, .int .i32 0⟩
theorem K1 : bh P 256 Eo := bE (by kernel_rfl) (by kernel_rfl) (by kernel_rfl)
abbrev zq : TI := ⟨.struct #[{ name := "Size_", type := 12, offset := 0, embedded := false, tag := "", pkgPath := "", byteOffset := 0 }, { name := "PtrBytes", type := 12, offset := 1, embedded := false, tag := "", pkgPath := "", byteOffset := 8 }, { name := "Hash", type := 188, offset := 2, embedded := false, tag := "", pkgPath := "", byteOffset := 16 }, { name := "TFlag", type := 251, offset := 3, embedded := false, tag := "", pkgPath := "", byteOffset := 20 }, { name := "Align_", type := 5, offset := 4, embedded := false, tag := "", pkgPath := "", byteOffset := 21 }, { name := "FieldAlign_", type := 5, offset := 5, embedded := false, tag := "", pkgPath := "", byteOffset := 22 }, { name := "Kind_", type := 252, offset := 6, embedded := false, tag := "", pkgPath := "", byteOffset := 23 }, { name := "Equal", type := 253, offset := 7, embedded := false, tag := "", pkgPath := "", byteOffset := 24 }, { name := "GCData", type := 254, offset := 8, embedded := false, tag := "", pkgPath := "", byteOffset := 32 }, { name := "Str", type := 255, offset := 9, embedded := false, tag := "", pkgPath := "", byteOffset := 40 }, { name := "PtrToThis", type := 256, offset := 10, embedded := false, tag := "", pkgPath := "", byteOffset := 44 }], 11, 48, .tuple []⟩
theorem Ip : bh P 257 zq := fc (by kernel_rfl) (by kernel_rfl) rfl
abbrev CK : TI := ⟨.struct #[{ name := "Size_", type := 12, offset := 0, embedded := false, tag := "", pkgPath := "", byteOffset := 0 }, { name := "PtrBytes", type := 12, offset := 1, embedded := false, tag := "", pkgPath := "", byteOffset := 8 }, { name := "Hash", type := 188, offset := 2, embedded := false, tag := "", pkgPath := "", byteOffset := 16 }, { name := "TFlag", type := 251, offset := 3, embedded := false, tag := "", pkgPath := "", byteOffset := 20 }, { name := "Align_", type := 5, offset := 4, embedded := false, tag := "", pkgPath := "", byteOffset := 21 }, { name := "FieldAlign_", type := 5, offset := 5, embedded := false, tag := "", pkgPath := "", byteOffset := 22 }, { name := "Kind_", type := 252, offset := 6, embedded := false, tag := "", pkgPath := "", byteOffset := 23 }, { name := "Equal", type := 253, offset := 7, embedded := false, tag := "", pkgPath := "", byteOffset := 24 }, { name := "GCData", type := 254, offset := 8, embedded := false, tag := "", pkgPath := "", byteOffset := 32 }, { name := "Str", type := 255, offset := 9, embedded := false, tag := "", pkgPath := "", byteOffset := 40 }, { name := "PtrToThis", type := 256, offset := 10, embedded := false, tag := "", pkgPath := "", byteOffset := 44 }], 11, 48, .tuple []⟩
theorem RV : bh P 258 CK := fc (by kernel_rfl) (by kernel_rfl) rfl
abbrev T : Types := [(2, Cy), (3, Bx), (4, FO), (5, zN), (6, DV), (7, Ez), (8, EV), (9, Ax), (10, FK), (11, D5), (12, DF), (13, DL), (14, A5), (15, E3), (16, Aw), (17, FC), (18, ER), (19, Ej), (21, EW), (22, Ed), (25, Er), (26, Ev), (27, BM), (28, DA), (29, B6), (33, D1), (34, Br), (35, z6), (36, AL), (40, FX), (41, Bl), (42, zu), (43, EG), (44, EC), (48, FL), (49, zn), (58, Fe), (59, Al), (60, B7), (82, Cq), (98, Bq), (101, Et), (102, zh), (103, C6), (111, Av), (119, Dj), (120, DN), (122, AH), (123, Fq), (127, Dp), (128, BU), (130, Cm), (140, DW), (151, AR), (161, Ay), (175, FU), (183, Dd), (188, FA), (202, Ba), (209, Dt), (223, Ct), (227, zL), (235, A0), (239, AA), (241, EO), (245, zk), (246, FI), (251, zj), (252, FJ), (254, DG), (255, y9), (256, Eo), (257, zq), (258, CK)]
theorem hT : dh P T := bm HM (bm Vh (bm Hx (bm Kf (bm Qy (bm JM (bm PA (bm GY (bm I8 (bm GU (bm UO (bm OD (bm G0 (bm Pq (bm G4 (bm PL (bm LL (bm Ht (bm PV (bm KV (bm KD (bm Sd (bm Oy (bm Gu (bm Um (bm Vi (bm S5 (bm JV (bm O2 (bm OR (bm Se (bm Uj (bm NR (bm La (bm Ki (bm OV (bm Hf (bm PM (bm T7 (bm I6 (bm LU (bm Qg (bm NG (bm O3 (bm O1 (bm Oq (bm He (bm QH (bm MF (bm NM (bm S6 (bm Pd (bm Ot (bm UD (bm Ge (bm PX (bm Oh (bm RP (bm SJ (bm Ly (bm R3 (bm Pf (bm Ln (bm LP (bm IU (bm QS (bm Ri (bm UQ (bm Ph (bm I4 (bm Oi (bm K1 (bm Ip (bm RV (RT))))))))))))))))))))))))))))))))))))))))))))))))))))))))))))))))))))))))))
end Go.Am.N
