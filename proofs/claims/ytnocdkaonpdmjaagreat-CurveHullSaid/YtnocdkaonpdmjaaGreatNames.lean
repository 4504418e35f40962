/- The seat's names: the numbers of functions, the types. Written by a program. -/
import Derived.Test.YtnocdkaonpdmjaaGreatZ2
import Derived.Test.YtnocdkaonpdmjaaGreatProg
import Derived.KernelRfl
set_option linter.unusedVariables false
namespace Go.Am.N
open Go.Proofs
noncomputable abbrev P : Program := Tryz.prog
theorem hm : P.follows .mixedOrders = true := by kernel_rfl
abbrev Bv : FuncId := 4
noncomputable abbrev m8 : Func := Tryz.f4
theorem aal : P.funcs[Bv]? = some m8 := Tryz.func4
abbrev yz : FuncId := 6
noncomputable abbrev sS : Func := Tryz.f6
theorem WQ : P.funcs[yz]? = some sS := Tryz.func6
abbrev B7 : FuncId := 10
noncomputable abbrev yw : Func := Tryz.f10
theorem Sq : P.funcs[B7]? = some yw := Tryz.func10
abbrev pg : FuncId := 11
noncomputable abbrev sx : Func := Tryz.f11
theorem TR : P.funcs[pg]? = some sx := Tryz.func11
abbrev uF : FuncId := 23
noncomputable abbrev wo : Func := Tryz.f23
theorem P0 : P.funcs[uF]? = some wo := Tryz.func23
abbrev yV : FuncId := 24
noncomputable abbrev Ae : Func := Tryz.f24
theorem KX : P.funcs[yV]? = some Ae := Tryz.func24
abbrev tW : FuncId := 25
noncomputable abbrev vY : Func := Tryz.f25
theorem QO : P.funcs[tW]? = some vY := Tryz.func25
abbrev x6 : FuncId := 26
noncomputable abbrev vT : Func := Tryz.f26
theorem NX : P.funcs[x6]? = some vT := Tryz.func26
abbrev sw : FuncId := 27
noncomputable abbrev uG : Func := Tryz.f27
theorem Qz : P.funcs[sw]? = some uG := Tryz.func27
abbrev wN : FuncId := 28
noncomputable abbrev uj : Func := Tryz.f28
theorem Yx : P.funcs[wN]? = some uj := Tryz.func28
abbrev Iu : FuncId := 29
noncomputable abbrev Ku : Func := Tryz.f29
theorem acE : P.funcs[Iu]? = some Ku := Tryz.func29
abbrev FO : FuncId := 30
noncomputable abbrev J4 : Func := Tryz.f30
theorem X1 : P.funcs[FO]? = some J4 := Tryz.func30
abbrev mw : FuncId := 36
noncomputable abbrev sZ : Func := Tryz.f36
theorem ZR : P.funcs[mw]? = some sZ := Tryz.func36
abbrev sA : FuncId := 39
noncomputable abbrev jO : Func := Tryz.f39
theorem Pw : P.funcs[sA]? = some jO := Tryz.func39
abbrev oA : FuncId := 41
noncomputable abbrev wv : Func := Tryz.f41
theorem Rm : P.funcs[oA]? = some wv := Tryz.func41
abbrev uK : FuncId := 42
noncomputable abbrev tC : Func := Tryz.f42
theorem aac : P.funcs[uK]? = some tC := Tryz.func42
abbrev x9 : FuncId := 43
noncomputable abbrev rP : Func := Tryz.f43
theorem Ze : P.funcs[x9]? = some rP := Tryz.func43
abbrev v9 : FuncId := 44
noncomputable abbrev tN : Func := Tryz.f44
theorem Ri : P.funcs[v9]? = some tN := Tryz.func44
abbrev tE : FuncId := 46
noncomputable abbrev nS : Func := Tryz.f46
theorem K9 : P.funcs[tE]? = some nS := Tryz.func46
abbrev og : FuncId := 47
noncomputable abbrev xm : Func := Tryz.f47
theorem Wm : P.funcs[og]? = some xm := Tryz.func47
abbrev tv : FuncId := 48
noncomputable abbrev wP : Func := Tryz.f48
theorem Zn : P.funcs[tv]? = some wP := Tryz.func48
abbrev rT : FuncId := 56
noncomputable abbrev sr : Func := Tryz.f56
theorem RL : P.funcs[rT]? = some sr := Tryz.func56
abbrev EM : FuncId := 59
noncomputable abbrev Ff : Func := Tryz.f59
theorem NL : P.funcs[EM]? = some Ff := Tryz.func59
abbrev y8 : FuncId := 60
noncomputable abbrev wF : Func := Tryz.f60
theorem OG : P.funcs[y8]? = some wF := Tryz.func60
abbrev zM : FuncId := 61
noncomputable abbrev tF : Func := Tryz.f61
theorem Nz : P.funcs[zM]? = some tF := Tryz.func61
abbrev rW : FuncId := 62
noncomputable abbrev rO : Func := Tryz.f62
theorem NW : P.funcs[rW]? = some rO := Tryz.func62
abbrev mR : FuncId := 63
noncomputable abbrev sR : Func := Tryz.f63
theorem Wf : P.funcs[mR]? = some sR := Tryz.func63
abbrev uz : FuncId := 64
noncomputable abbrev vv : Func := Tryz.f64
theorem abO : P.funcs[uz]? = some vv := Tryz.func64
abbrev yE : FuncId := 65
noncomputable abbrev tL : Func := Tryz.f65
theorem N3 : P.funcs[yE]? = some tL := Tryz.func65
abbrev uC : FuncId := 66
noncomputable abbrev r8 : Func := Tryz.f66
theorem Oq : P.funcs[uC]? = some r8 := Tryz.func66
abbrev oY : FuncId := 67
noncomputable abbrev tI : Func := Tryz.f67
theorem Y1 : P.funcs[oY]? = some tI := Tryz.func67
abbrev Ga : FuncId := 68
noncomputable abbrev F0 : Func := Tryz.f68
theorem OB : P.funcs[Ga]? = some F0 := Tryz.func68
abbrev oX : FuncId := 69
noncomputable abbrev vm : Func := Tryz.f69
theorem Ve : P.funcs[oX]? = some vm := Tryz.func69
abbrev G7 : FuncId := 70
noncomputable abbrev IG : Func := Tryz.f70
theorem UG : P.funcs[G7]? = some IG := Tryz.func70
abbrev uv : FuncId := 72
noncomputable abbrev vX : Func := Tryz.f72
theorem aar : P.funcs[uv]? = some vX := Tryz.func72
abbrev lS : FuncId := 73
noncomputable abbrev rJ : Func := Tryz.f73
theorem MM : P.funcs[lS]? = some rJ := Tryz.func73
abbrev zg : FuncId := 75
noncomputable abbrev tK : Func := Tryz.f75
theorem Ww : P.funcs[zg]? = some tK := Tryz.func75
abbrev wT : FuncId := 77
noncomputable abbrev uo : Func := Tryz.f77
theorem NG : P.funcs[wT]? = some uo := Tryz.func77
abbrev qG : FuncId := 78
noncomputable abbrev nA : Func := Tryz.f78
theorem PF : P.funcs[qG]? = some nA := Tryz.func78
abbrev zn : FuncId := 80
noncomputable abbrev uN : Func := Tryz.f80
theorem W3 : P.funcs[zn]? = some uN := Tryz.func80
abbrev oF : FuncId := 82
noncomputable abbrev vp : Func := Tryz.f82
theorem Mo : P.funcs[oF]? = some vp := Tryz.func82
abbrev sP : FuncId := 84
noncomputable abbrev xE : Func := Tryz.f84
theorem Zl : P.funcs[sP]? = some xE := Tryz.func84
abbrev vW : FuncId := 85
noncomputable abbrev iM : Func := Tryz.f85
theorem Xk : P.funcs[vW]? = some iM := Tryz.func85
abbrev p5 : FuncId := 86
noncomputable abbrev jb : Func := Tryz.f86
theorem ZS : P.funcs[p5]? = some jb := Tryz.func86
abbrev vq : FuncId := 87
noncomputable abbrev xA : Func := Tryz.f87
theorem LM : P.funcs[vq]? = some xA := Tryz.func87
abbrev tc : FuncId := 88
noncomputable abbrev tf : Func := Tryz.f88
theorem V8 : P.funcs[tc]? = some tf := Tryz.func88
abbrev vO : FuncId := 89
noncomputable abbrev fA : Func := Tryz.f89
theorem Xx : P.funcs[vO]? = some fA := Tryz.func89
abbrev mo : FuncId := 90
noncomputable abbrev mM : Func := Tryz.f90
theorem NF : P.funcs[mo]? = some mM := Tryz.func90
abbrev vl : FuncId := 91
noncomputable abbrev tV : Func := Tryz.f91
theorem Ob : P.funcs[vl]? = some tV := Tryz.func91
abbrev o9 : FuncId := 92
noncomputable abbrev vf : Func := Tryz.f92
theorem Z9 : P.funcs[o9]? = some vf := Tryz.func92
abbrev vR : FuncId := 95
noncomputable abbrev pH : Func := Tryz.f95
theorem aaI : P.funcs[vR]? = some pH := Tryz.func95
abbrev vk : FuncId := 96
noncomputable abbrev sj : Func := Tryz.f96
theorem QY : P.funcs[vk]? = some sj := Tryz.func96
abbrev uW : FuncId := 97
noncomputable abbrev uk : Func := Tryz.f97
theorem Ys : P.funcs[uW]? = some uk := Tryz.func97
abbrev pW : FuncId := 98
noncomputable abbrev wz : Func := Tryz.f98
theorem Vh : P.funcs[pW]? = some wz := Tryz.func98
abbrev xg : FuncId := 104
noncomputable abbrev tu : Func := Tryz.f104
theorem Su : P.funcs[xg]? = some tu := Tryz.func104
abbrev Ar : FuncId := 109
noncomputable abbrev xu : Func := Tryz.f109
theorem PX : P.funcs[Ar]? = some xu := Tryz.func109
abbrev qU : FuncId := 110
noncomputable abbrev tr : Func := Tryz.f110
theorem UD : P.funcs[qU]? = some tr := Tryz.func110
abbrev uD : FuncId := 111
noncomputable abbrev sk : Func := Tryz.f111
theorem V4 : P.funcs[uD]? = some sk := Tryz.func111
abbrev z7 : FuncId := 112
noncomputable abbrev vQ : Func := Tryz.f112
theorem aaH : P.funcs[z7]? = some vQ := Tryz.func112
abbrev uE : FuncId := 113
noncomputable abbrev uB : Func := Tryz.f113
theorem VI : P.funcs[uE]? = some uB := Tryz.func113
abbrev g8 : FuncId := 114
noncomputable abbrev vF : Func := Tryz.f114
theorem XV : P.funcs[g8]? = some vF := Tryz.func114
abbrev oQ : FuncId := 115
noncomputable abbrev uT : Func := Tryz.f115
theorem Rb : P.funcs[oQ]? = some uT := Tryz.func115
abbrev fC : FuncId := 116
noncomputable abbrev vP : Func := Tryz.f116
theorem Xq : P.funcs[fC]? = some vP := Tryz.func116
abbrev gP : FuncId := 117
noncomputable abbrev ua : Func := Tryz.f117
theorem L7 : P.funcs[gP]? = some ua := Tryz.func117
abbrev AD : FuncId := 118
noncomputable abbrev y6 : Func := Tryz.f118
theorem Zf : P.funcs[AD]? = some y6 := Tryz.func118
abbrev ym : FuncId := 119
noncomputable abbrev wU : Func := Tryz.f119
theorem RE : P.funcs[ym]? = some wU := Tryz.func119
abbrev yh : FuncId := 120
noncomputable abbrev rV : Func := Tryz.f120
theorem QX : P.funcs[yh]? = some rV := Tryz.func120
abbrev rL : FuncId := 122
noncomputable abbrev vr : Func := Tryz.f122
theorem Th : P.funcs[rL]? = some vr := Tryz.func122
abbrev u7 : FuncId := 124
noncomputable abbrev uh : Func := Tryz.f124
theorem Wu : P.funcs[u7]? = some uh := Tryz.func124
abbrev tT : FuncId := 125
noncomputable abbrev su : Func := Tryz.f125
theorem U2 : P.funcs[tT]? = some su := Tryz.func125
abbrev qM : FuncId := 126
noncomputable abbrev rU : Func := Tryz.f126
theorem ZE : P.funcs[qM]? = some rU := Tryz.func126
abbrev ru : FuncId := 127
noncomputable abbrev fW : Func := Tryz.f127
theorem NO : P.funcs[ru]? = some fW := Tryz.func127
abbrev sq : FuncId := 128
noncomputable abbrev tS : Func := Tryz.f128
theorem ZJ : P.funcs[sq]? = some tS := Tryz.func128
abbrev iy : FuncId := 129
noncomputable abbrev xl : Func := Tryz.f129
theorem Vu : P.funcs[iy]? = some xl := Tryz.func129
abbrev fj : FuncId := 130
noncomputable abbrev uf : Func := Tryz.f130
theorem Sx : P.funcs[fj]? = some uf := Tryz.func130
abbrev zC : FuncId := 131
noncomputable abbrev uU : Func := Tryz.f131
theorem YJ : P.funcs[zC]? = some uU := Tryz.func131
abbrev r6 : FuncId := 133
noncomputable abbrev vh : Func := Tryz.f133
theorem Nx : P.funcs[r6]? = some vh := Tryz.func133
abbrev qQ : FuncId := 134
noncomputable abbrev uY : Func := Tryz.f134
theorem S0 : P.funcs[qQ]? = some uY := Tryz.func134
abbrev rB : FuncId := 135
noncomputable abbrev oe : Func := Tryz.f135
theorem PN : P.funcs[rB]? = some oe := Tryz.func135
abbrev kS : FuncId := 136
noncomputable abbrev jP : Func := Tryz.f136
theorem NA : P.funcs[kS]? = some jP := Tryz.func136
abbrev wM : FuncId := 137
noncomputable abbrev ig : Func := Tryz.f137
theorem RN : P.funcs[wM]? = some ig := Tryz.func137
abbrev qV : FuncId := 138
noncomputable abbrev eH : Func := Tryz.f138
theorem aay : P.funcs[qV]? = some eH := Tryz.func138
abbrev uP : FuncId := 139
noncomputable abbrev nV : Func := Tryz.f139
theorem Ro : P.funcs[uP]? = some nV := Tryz.func139
abbrev rq : FuncId := 140
noncomputable abbrev uM : Func := Tryz.f140
theorem UK : P.funcs[rq]? = some uM := Tryz.func140
abbrev nO : FuncId := 141
noncomputable abbrev tR : Func := Tryz.f141
theorem Rs : P.funcs[nO]? = some tR := Tryz.func141
abbrev tX : FuncId := 142
noncomputable abbrev td : Func := Tryz.f142
theorem Vw : P.funcs[tX]? = some td := Tryz.func142
abbrev r7 : FuncId := 143
noncomputable abbrev wB : Func := Tryz.f143
theorem MQ : P.funcs[r7]? = some wB := Tryz.func143
abbrev rY : FuncId := 144
noncomputable abbrev dU : Func := Tryz.f144
theorem acw : P.funcs[rY]? = some dU := Tryz.func144
abbrev sU : FuncId := 145
noncomputable abbrev xz : Func := Tryz.f145
theorem aav : P.funcs[sU]? = some xz := Tryz.func145
abbrev qF : FuncId := 146
noncomputable abbrev xy : Func := Tryz.f146
theorem acp : P.funcs[qF]? = some xy := Tryz.func146
abbrev qK : FuncId := 147
noncomputable abbrev cR : Func := Tryz.f147
theorem abQ : P.funcs[qK]? = some cR := Tryz.func147
abbrev uV : FuncId := 148
noncomputable abbrev gA : Func := Tryz.f148
theorem X9 : P.funcs[uV]? = some gA := Tryz.func148
abbrev xj : FuncId := 152
noncomputable abbrev vN : Func := Tryz.f152
theorem MS : P.funcs[xj]? = some vN := Tryz.func152
abbrev r5 : FuncId := 153
noncomputable abbrev uZ : Func := Tryz.f153
theorem TU : P.funcs[r5]? = some uZ := Tryz.func153
abbrev rE : FuncId := 154
noncomputable abbrev zI : Func := Tryz.f154
theorem Wx : P.funcs[rE]? = some zI := Tryz.func154
abbrev vD : FuncId := 155
noncomputable abbrev um : Func := Tryz.f155
theorem PM : P.funcs[vD]? = some um := Tryz.func155
abbrev l7 : FuncId := 157
noncomputable abbrev w7 : Func := Tryz.f157
theorem Ot : P.funcs[l7]? = some w7 := Tryz.func157
abbrev oJ : FuncId := 159
noncomputable abbrev fI : Func := Tryz.f159
theorem Mr : P.funcs[oJ]? = some fI := Tryz.func159
abbrev qD : FuncId := 160
noncomputable abbrev xe : Func := Tryz.f160
theorem aaj : P.funcs[qD]? = some xe := Tryz.func160
abbrev nP : FuncId := 161
noncomputable abbrev wI : Func := Tryz.f161
theorem OP : P.funcs[nP]? = some wI := Tryz.func161
abbrev pM : FuncId := 162
noncomputable abbrev cT : Func := Tryz.f162
theorem On : P.funcs[pM]? = some cT := Tryz.func162
abbrev ue : FuncId := 163
noncomputable abbrev nw : Func := Tryz.f163
theorem Oa : P.funcs[ue]? = some nw := Tryz.func163
abbrev p8 : FuncId := 164
noncomputable abbrev we : Func := Tryz.f164
theorem Yq : P.funcs[p8]? = some we := Tryz.func164
abbrev pV : FuncId := 165
noncomputable abbrev l5 : Func := Tryz.f165
theorem Uq : P.funcs[pV]? = some l5 := Tryz.func165
abbrev oP : FuncId := 166
noncomputable abbrev mY : Func := Tryz.f166
theorem YA : P.funcs[oP]? = some mY := Tryz.func166
abbrev zH : FuncId := 167
noncomputable abbrev Av : Func := Tryz.f167
theorem X7 : P.funcs[zH]? = some Av := Tryz.func167
abbrev l6 : FuncId := 168
noncomputable abbrev wR : Func := Tryz.f168
theorem UQ : P.funcs[l6]? = some wR := Tryz.func168
abbrev pq : FuncId := 169
noncomputable abbrev wj : Func := Tryz.f169
theorem YE : P.funcs[pq]? = some wj := Tryz.func169
abbrev pR : FuncId := 170
noncomputable abbrev sD : Func := Tryz.f170
theorem Sd : P.funcs[pR]? = some sD := Tryz.func170
abbrev xx : FuncId := 171
noncomputable abbrev nk : Func := Tryz.f171
theorem Nh : P.funcs[xx]? = some nk := Tryz.func171
abbrev vM : FuncId := 172
noncomputable abbrev kU : Func := Tryz.f172
theorem O5 : P.funcs[vM]? = some kU := Tryz.func172
abbrev wJ : FuncId := 173
noncomputable abbrev vE : Func := Tryz.f173
theorem LP : P.funcs[wJ]? = some vE := Tryz.func173
abbrev uI : FuncId := 174
noncomputable abbrev sC : Func := Tryz.f174
theorem aa2 : P.funcs[uI]? = some sC := Tryz.func174
abbrev vu : FuncId := 175
noncomputable abbrev kQ : Func := Tryz.f175
theorem aaR : P.funcs[vu]? = some kQ := Tryz.func175
abbrev wG : FuncId := 176
noncomputable abbrev uu : Func := Tryz.f176
theorem abv : P.funcs[wG]? = some uu := Tryz.func176
abbrev AQ : FuncId := 177
noncomputable abbrev Up : Func := Tryz.f177
theorem Zq : P.funcs[AQ]? = some Up := Tryz.func177
abbrev qx : FuncId := 178
noncomputable abbrev gd : Func := Tryz.f178
theorem Uj : P.funcs[qx]? = some gd := Tryz.func178
abbrev sL : FuncId := 179
noncomputable abbrev jI : Func := Tryz.f179
theorem Yy : P.funcs[sL]? = some jI := Tryz.func179
abbrev uA : FuncId := 180
noncomputable abbrev mz : Func := Tryz.f180
theorem UW : P.funcs[uA]? = some mz := Tryz.func180
abbrev vK : FuncId := 181
noncomputable abbrev ng : Func := Tryz.f181
theorem aaf : P.funcs[vK]? = some ng := Tryz.func181
abbrev rI : FuncId := 182
noncomputable abbrev oB : Func := Tryz.f182
theorem Ug : P.funcs[rI]? = some oB := Tryz.func182
abbrev w8 : FuncId := 184
noncomputable abbrev ve : Func := Tryz.f184
theorem ZT : P.funcs[w8]? = some ve := Tryz.func184
abbrev rQ : FuncId := 185
noncomputable abbrev lU : Func := Tryz.f185
theorem ZB : P.funcs[rQ]? = some lU := Tryz.func185
abbrev D8 : FuncId := 186
noncomputable abbrev JN : Func := Tryz.f186
theorem Pu : P.funcs[D8]? = some JN := Tryz.func186
abbrev uJ : FuncId := 187
noncomputable abbrev mm : Func := Tryz.f187
theorem U5 : P.funcs[uJ]? = some mm := Tryz.func187
abbrev vi : FuncId := 188
noncomputable abbrev ux : Func := Tryz.f188
theorem Rj : P.funcs[vi]? = some ux := Tryz.func188
abbrev tB : FuncId := 189
noncomputable abbrev jQ : Func := Tryz.f189
theorem Ns : P.funcs[tB]? = some jQ := Tryz.func189
abbrev zY : FuncId := 190
noncomputable abbrev jh : Func := Tryz.f190
theorem Xh : P.funcs[zY]? = some jh := Tryz.func190
abbrev EL : TI := ⟨.int .i64, 1, 8, .int .i64 0⟩
theorem TH : bE P 2 EL := cw (by kernel_rfl) (by kernel_rfl) (by kernel_rfl)
abbrev JF : TI := ⟨.int .i64, 1, 8, .int .i64 0⟩
theorem ok3 : bE P 3 JF := cw (by kernel_rfl) (by kernel_rfl) (by kernel_rfl)
abbrev GK : TI := ⟨.bool, 1, 1, .bool false⟩
theorem Om : bE P 4 GK := cw (by kernel_rfl) (by kernel_rfl) (by kernel_rfl)
abbrev J2 : TI := ⟨.int .u8, 1, 1, .int .u8 0⟩
theorem RV : bE P 5 J2 := cw (by kernel_rfl) (by kernel_rfl) (by kernel_rfl)
abbrev Ei : TI := ⟨.int .u8, 1, 1, .int .u8 0⟩
theorem Pz : bE P 6 Ei := cw (by kernel_rfl) (by kernel_rfl) (by kernel_rfl)
abbrev Kl : TI := ⟨.struct #[{ name := "x", type := 2, offset := 0, embedded := false, tag := "", pkgPath := "runtime", byteOffset := 0 }, { name := "y", type := 3, offset := 1, embedded := false, tag := "", pkgPath := "runtime", byteOffset := 8 }, { name := "signed", type := 4, offset := 2, embedded := false, tag := "", pkgPath := "runtime", byteOffset := 16 }, { name := "code", type := 6, offset := 3, embedded := false, tag := "", pkgPath := "runtime", byteOffset := 17 }], 4, 24, .agg [.int .i64 0, .int .i64 0, .bool false, .int .u8 0]⟩
theorem ok7 : bE P 7 Kl := cw (by kernel_rfl) (by kernel_rfl) (by kernel_rfl)
abbrev Kj : TI := ⟨.struct #[{ name := "x", type := 2, offset := 0, embedded := false, tag := "", pkgPath := "runtime", byteOffset := 0 }, { name := "y", type := 3, offset := 1, embedded := false, tag := "", pkgPath := "runtime", byteOffset := 8 }, { name := "signed", type := 4, offset := 2, embedded := false, tag := "", pkgPath := "runtime", byteOffset := 16 }, { name := "code", type := 6, offset := 3, embedded := false, tag := "", pkgPath := "runtime", byteOffset := 17 }], 4, 24, .agg [.int .i64 0, .int .i64 0, .bool false, .int .u8 0]⟩
theorem Pv : bE P 8 Kj := cw (by kernel_rfl) (by kernel_rfl) (by kernel_rfl)
abbrev FX : TI := ⟨.string, 1, 16, .tuple []⟩
theorem SV : bE P 9 FX := gF (by kernel_rfl) (by kernel_rfl) rfl
abbrev Gl : TI := ⟨.string, 1, 16, .tuple []⟩
theorem Mb : bE P 10 Gl := gF (by kernel_rfl) (by kernel_rfl) rfl
abbrev DT : TI := ⟨.string, 1, 16, .tuple []⟩
theorem abh : bE P 11 DT := gF (by kernel_rfl) (by kernel_rfl) rfl
abbrev Fx : TI := ⟨.int .u64, 1, 8, .int .u64 0⟩
theorem K2 : bE P 12 Fx := cw (by kernel_rfl) (by kernel_rfl) (by kernel_rfl)
abbrev JP : TI := ⟨.struct #[{ name := "msg", type := 9, offset := 0, embedded := false, tag := "", pkgPath := "runtime", byteOffset := 0 }, { name := "addr", type := 12, offset := 1, embedded := false, tag := "", pkgPath := "runtime", byteOffset := 16 }], 2, 24, .tuple []⟩
theorem TW : bE P 13 JP := gF (by kernel_rfl) (by kernel_rfl) rfl
abbrev Fg : TI := ⟨.struct #[{ name := "msg", type := 9, offset := 0, embedded := false, tag := "", pkgPath := "runtime", byteOffset := 0 }, { name := "addr", type := 12, offset := 1, embedded := false, tag := "", pkgPath := "runtime", byteOffset := 16 }], 2, 24, .tuple []⟩
theorem MO : bE P 14 Fg := gF (by kernel_rfl) (by kernel_rfl) rfl
abbrev I7 : TI := ⟨.pointer 202, 1, 8, .tuple []⟩
theorem RF : bE P 15 I7 := gF (by kernel_rfl) (by kernel_rfl) rfl
abbrev EJ : TI := ⟨.pointer 205, 1, 8, .tuple []⟩
theorem acu : bE P 16 EJ := gF (by kernel_rfl) (by kernel_rfl) rfl
abbrev Hh : TI := ⟨.pointer 214, 1, 8, .tuple []⟩
theorem Rt : bE P 17 Hh := gF (by kernel_rfl) (by kernel_rfl) rfl
abbrev KP : TI := ⟨.struct #[{ name := "typ", type := 17, offset := 0, embedded := false, tag := "", pkgPath := "internal/runtime/maps", byteOffset := 0 }], 1, 8, .tuple []⟩
theorem TK : bE P 18 KP := gF (by kernel_rfl) (by kernel_rfl) rfl
abbrev GZ : TI := ⟨.struct #[{ name := "typ", type := 17, offset := 0, embedded := false, tag := "", pkgPath := "internal/runtime/maps", byteOffset := 0 }], 1, 8, .tuple []⟩
theorem UA : bE P 19 GZ := gF (by kernel_rfl) (by kernel_rfl) rfl
abbrev FD : TI := ⟨.int .i32, 1, 4, .int .i32 0⟩
theorem Vm : bE P 21 FD := cw (by kernel_rfl) (by kernel_rfl) (by kernel_rfl)
abbrev Ek : TI := ⟨.slice 3, 1, 24, .nil⟩
theorem Qe : bE P 22 Ek := cw (by kernel_rfl) (by kernel_rfl) (by kernel_rfl)
abbrev Fq : TI := ⟨.slice 32, 1, 24, .nil⟩
theorem Zt : bE P 25 Fq := cw (by kernel_rfl) (by kernel_rfl) (by kernel_rfl)
abbrev Kh : TI := ⟨.slice 45, 1, 24, .nil⟩
theorem Xm : bE P 26 Kh := cw (by kernel_rfl) (by kernel_rfl) (by kernel_rfl)
abbrev JV : TI := ⟨.struct #[{ name := "U", type := 3, offset := 0, embedded := false, tag := "", pkgPath := "", byteOffset := 0 }, { name := "V", type := 3, offset := 1, embedded := false, tag := "", pkgPath := "", byteOffset := 8 }, { name := "KnotsU", type := 25, offset := 2, embedded := false, tag := "", pkgPath := "", byteOffset := 16 }, { name := "KnotsV", type := 25, offset := 3, embedded := false, tag := "", pkgPath := "", byteOffset := 40 }, { name := "Poles", type := 26, offset := 4, embedded := false, tag := "", pkgPath := "", byteOffset := 64 }], 5, 88, .agg [.int .i64 0, .int .i64 0, .nil, .nil, .nil]⟩
theorem acz : bE P 27 JV := cw (by kernel_rfl) (by kernel_rfl) (by kernel_rfl)
abbrev GF : TI := ⟨.struct #[{ name := "U", type := 3, offset := 0, embedded := false, tag := "", pkgPath := "", byteOffset := 0 }, { name := "V", type := 3, offset := 1, embedded := false, tag := "", pkgPath := "", byteOffset := 8 }, { name := "KnotsU", type := 25, offset := 2, embedded := false, tag := "", pkgPath := "", byteOffset := 16 }, { name := "KnotsV", type := 25, offset := 3, embedded := false, tag := "", pkgPath := "", byteOffset := 40 }, { name := "Poles", type := 26, offset := 4, embedded := false, tag := "", pkgPath := "", byteOffset := 64 }], 5, 88, .agg [.int .i64 0, .int .i64 0, .nil, .nil, .nil]⟩
theorem Wo : bE P 28 GF := cw (by kernel_rfl) (by kernel_rfl) (by kernel_rfl)
abbrev KC : TI := ⟨.slice 156, 1, 24, .nil⟩
theorem RX : bE P 30 KC := cw (by kernel_rfl) (by kernel_rfl) (by kernel_rfl)
abbrev E6 : TI := ⟨.struct #[{ name := "Neg", type := 4, offset := 0, embedded := false, tag := "", pkgPath := "", byteOffset := 0 }, { name := "Num", type := 30, offset := 1, embedded := false, tag := "", pkgPath := "", byteOffset := 8 }, { name := "Den", type := 30, offset := 2, embedded := false, tag := "", pkgPath := "", byteOffset := 32 }], 3, 56, .agg [.bool false, .nil, .nil]⟩
theorem Yt : bE P 31 E6 := cw (by kernel_rfl) (by kernel_rfl) (by kernel_rfl)
abbrev Eh : TI := ⟨.struct #[{ name := "Neg", type := 4, offset := 0, embedded := false, tag := "", pkgPath := "", byteOffset := 0 }, { name := "Num", type := 30, offset := 1, embedded := false, tag := "", pkgPath := "", byteOffset := 8 }, { name := "Den", type := 30, offset := 2, embedded := false, tag := "", pkgPath := "", byteOffset := 32 }], 3, 56, .rat 0 1⟩
theorem Ox : bE P 32 Eh := cw (by kernel_rfl) (by kernel_rfl) (by kernel_rfl)
abbrev HZ : TI := ⟨.struct #[{ name := "Lo", type := 32, offset := 0, embedded := false, tag := "", pkgPath := "", byteOffset := 0 }, { name := "Hi", type := 32, offset := 3, embedded := false, tag := "", pkgPath := "", byteOffset := 56 }], 6, 112, .agg [.rat 0 1, .rat 0 1]⟩
theorem Qa : bE P 33 HZ := cw (by kernel_rfl) (by kernel_rfl) (by kernel_rfl)
abbrev Ks : TI := ⟨.struct #[{ name := "Lo", type := 32, offset := 0, embedded := false, tag := "", pkgPath := "", byteOffset := 0 }, { name := "Hi", type := 32, offset := 3, embedded := false, tag := "", pkgPath := "", byteOffset := 56 }], 6, 112, .agg [.rat 0 1, .rat 0 1]⟩
theorem acm : bE P 34 Ks := cw (by kernel_rfl) (by kernel_rfl) (by kernel_rfl)
abbrev Fk : TI := ⟨.array 3 32, 9, 168, .agg [.rat 0 1, .rat 0 1, .rat 0 1]⟩
theorem V9 : bE P 40 Fk := cw (by kernel_rfl) (by kernel_rfl) (by kernel_rfl)
abbrev Jp : TI := ⟨.array 3 32, 9, 168, .agg [.rat 0 1, .rat 0 1, .rat 0 1]⟩
theorem YV : bE P 41 Jp := cw (by kernel_rfl) (by kernel_rfl) (by kernel_rfl)
abbrev FI : TI := ⟨.int .i64, 1, 8, .int .i64 0⟩
theorem Mi : bE P 42 FI := cw (by kernel_rfl) (by kernel_rfl) (by kernel_rfl)
abbrev E0 : TI := ⟨.slice 65, 1, 24, .nil⟩
theorem S9 : bE P 45 E0 := cw (by kernel_rfl) (by kernel_rfl) (by kernel_rfl)
abbrev GU : TI := ⟨.struct #[{ name := "Degree", type := 3, offset := 0, embedded := false, tag := "", pkgPath := "", byteOffset := 0 }, { name := "Knots", type := 25, offset := 1, embedded := false, tag := "", pkgPath := "", byteOffset := 8 }, { name := "Poles", type := 45, offset := 2, embedded := false, tag := "", pkgPath := "", byteOffset := 32 }], 3, 56, .agg [.int .i64 0, .nil, .nil]⟩
theorem MT : bE P 46 GU := cw (by kernel_rfl) (by kernel_rfl) (by kernel_rfl)
abbrev Fi : TI := ⟨.struct #[{ name := "Degree", type := 3, offset := 0, embedded := false, tag := "", pkgPath := "", byteOffset := 0 }, { name := "Knots", type := 25, offset := 1, embedded := false, tag := "", pkgPath := "", byteOffset := 8 }, { name := "Poles", type := 45, offset := 2, embedded := false, tag := "", pkgPath := "", byteOffset := 32 }], 3, 56, .agg [.int .i64 0, .nil, .nil]⟩
theorem R6 : bE P 47 Fi := cw (by kernel_rfl) (by kernel_rfl) (by kernel_rfl)
abbrev Kg : TI := ⟨.pointer 103, 1, 8, .tuple []⟩
theorem Ls : bE P 54 Kg := gF (by kernel_rfl) (by kernel_rfl) rfl
abbrev IJ : TI := ⟨.struct #[{ name := "N", type := 41, offset := 0, embedded := false, tag := "", pkgPath := "", byteOffset := 0 }, { name := "D", type := 32, offset := 9, embedded := false, tag := "", pkgPath := "", byteOffset := 168 }], 12, 224, .agg [.agg [.rat 0 1, .rat 0 1, .rat 0 1], .rat 0 1]⟩
theorem Py : bE P 58 IJ := cw (by kernel_rfl) (by kernel_rfl) (by kernel_rfl)
abbrev D5 : TI := ⟨.struct #[{ name := "N", type := 41, offset := 0, embedded := false, tag := "", pkgPath := "", byteOffset := 0 }, { name := "D", type := 32, offset := 9, embedded := false, tag := "", pkgPath := "", byteOffset := 168 }], 12, 224, .agg [.agg [.rat 0 1, .rat 0 1, .rat 0 1], .rat 0 1]⟩
theorem ZK : bE P 59 D5 := cw (by kernel_rfl) (by kernel_rfl) (by kernel_rfl)
abbrev JB : TI := ⟨.struct #[{ name := "P", type := 41, offset := 0, embedded := false, tag := "", pkgPath := "", byteOffset := 0 }, { name := "W", type := 32, offset := 9, embedded := false, tag := "", pkgPath := "", byteOffset := 168 }], 12, 224, .agg [.agg [.rat 0 1, .rat 0 1, .rat 0 1], .rat 0 1]⟩
theorem Zv : bE P 64 JB := cw (by kernel_rfl) (by kernel_rfl) (by kernel_rfl)
abbrev E4 : TI := ⟨.struct #[{ name := "P", type := 41, offset := 0, embedded := false, tag := "", pkgPath := "", byteOffset := 0 }, { name := "W", type := 32, offset := 9, embedded := false, tag := "", pkgPath := "", byteOffset := 168 }], 12, 224, .agg [.agg [.rat 0 1, .rat 0 1, .rat 0 1], .rat 0 1]⟩
theorem Ut : bE P 65 E4 := cw (by kernel_rfl) (by kernel_rfl) (by kernel_rfl)
abbrev DX : TI := ⟨.slice 84, 1, 24, .nil⟩
theorem VV : bE P 78 DX := cw (by kernel_rfl) (by kernel_rfl) (by kernel_rfl)
abbrev Ie : TI := ⟨.struct #[{ name := "Degree", type := 3, offset := 0, embedded := false, tag := "", pkgPath := "", byteOffset := 0 }, { name := "Knots", type := 25, offset := 1, embedded := false, tag := "", pkgPath := "", byteOffset := 8 }, { name := "C", type := 78, offset := 2, embedded := false, tag := "", pkgPath := "", byteOffset := 32 }], 3, 56, .agg [.int .i64 0, .nil, .nil]⟩
theorem aaB : bE P 79 Ie := cw (by kernel_rfl) (by kernel_rfl) (by kernel_rfl)
abbrev DZ : TI := ⟨.struct #[{ name := "Degree", type := 3, offset := 0, embedded := false, tag := "", pkgPath := "", byteOffset := 0 }, { name := "Knots", type := 25, offset := 1, embedded := false, tag := "", pkgPath := "", byteOffset := 8 }, { name := "C", type := 78, offset := 2, embedded := false, tag := "", pkgPath := "", byteOffset := 32 }], 3, 56, .agg [.int .i64 0, .nil, .nil]⟩
theorem YO : bE P 80 DZ := cw (by kernel_rfl) (by kernel_rfl) (by kernel_rfl)
abbrev GW : TI := ⟨.array 4 32, 12, 224, .agg [.rat 0 1, .rat 0 1, .rat 0 1, .rat 0 1]⟩
theorem aaZ : bE P 83 GW := cw (by kernel_rfl) (by kernel_rfl) (by kernel_rfl)
abbrev HA : TI := ⟨.array 4 32, 12, 224, .agg [.rat 0 1, .rat 0 1, .rat 0 1, .rat 0 1]⟩
theorem V6 : bE P 84 HA := cw (by kernel_rfl) (by kernel_rfl) (by kernel_rfl)
abbrev DW : TI := ⟨.struct #[{ name := "L", type := 22, offset := 0, embedded := false, tag := "", pkgPath := "", byteOffset := 0 }, { name := "At", type := 3, offset := 1, embedded := false, tag := "", pkgPath := "", byteOffset := 24 }], 2, 32, .agg [.nil, .int .i64 0]⟩
theorem aa8 : bE P 102 DW := cw (by kernel_rfl) (by kernel_rfl) (by kernel_rfl)
abbrev Ev : TI := ⟨.struct #[{ name := "L", type := 22, offset := 0, embedded := false, tag := "", pkgPath := "", byteOffset := 0 }, { name := "At", type := 3, offset := 1, embedded := false, tag := "", pkgPath := "", byteOffset := 24 }], 2, 32, .agg [.nil, .int .i64 0]⟩
theorem LJ : bE P 103 Ev := cw (by kernel_rfl) (by kernel_rfl) (by kernel_rfl)
abbrev Io : TI := ⟨.slice 80, 1, 24, .nil⟩
theorem R4 : bE P 131 Io := cw (by kernel_rfl) (by kernel_rfl) (by kernel_rfl)
abbrev JT : TI := ⟨.int .u32, 1, 4, .int .u32 0⟩
theorem LN : bE P 156 JT := cw (by kernel_rfl) (by kernel_rfl) (by kernel_rfl)
abbrev Ke : TI := ⟨.slice 5, 1, 24, .nil⟩
theorem acv : bE P 160 Ke := cw (by kernel_rfl) (by kernel_rfl) (by kernel_rfl)
abbrev EX : TI := ⟨.int .u64, 1, 8, .int .u64 0⟩
theorem ace : bE P 163 EX := cw (by kernel_rfl) (by kernel_rfl) (by kernel_rfl)
abbrev JQ : TI := ⟨.int .u64, 1, 8, .int .u64 0⟩
theorem abT : bE P 164 JQ := cw (by kernel_rfl) (by kernel_rfl) (by kernel_rfl)
abbrev Jw : TI := ⟨.slice 25, 1, 24, .nil⟩
theorem Zy : bE P 179 Jw := cw (by kernel_rfl) (by kernel_rfl) (by kernel_rfl)
abbrev Ji : TI := ⟨.struct #[{ name := "_interface", type := 17, offset := 0, embedded := false, tag := "", pkgPath := "runtime", byteOffset := 0 }, { name := "concrete", type := 17, offset := 1, embedded := false, tag := "", pkgPath := "runtime", byteOffset := 8 }, { name := "asserted", type := 17, offset := 2, embedded := false, tag := "", pkgPath := "runtime", byteOffset := 16 }, { name := "missingMethod", type := 9, offset := 3, embedded := false, tag := "", pkgPath := "runtime", byteOffset := 24 }], 4, 40, .tuple []⟩
theorem abP : bE P 201 Ji := gF (by kernel_rfl) (by kernel_rfl) rfl
abbrev Gz : TI := ⟨.struct #[{ name := "_interface", type := 17, offset := 0, embedded := false, tag := "", pkgPath := "runtime", byteOffset := 0 }, { name := "concrete", type := 17, offset := 1, embedded := false, tag := "", pkgPath := "runtime", byteOffset := 8 }, { name := "asserted", type := 17, offset := 2, embedded := false, tag := "", pkgPath := "runtime", byteOffset := 16 }, { name := "missingMethod", type := 9, offset := 3, embedded := false, tag := "", pkgPath := "runtime", byteOffset := 24 }], 4, 40, .tuple []⟩
theorem acA : bE P 202 Gz := gF (by kernel_rfl) (by kernel_rfl) rfl
abbrev Ex : TI := ⟨.int .u8, 1, 1, .int .u8 0⟩
theorem abL : bE P 207 Ex := cw (by kernel_rfl) (by kernel_rfl) (by kernel_rfl)
abbrev EV : TI := ⟨.int .u8, 1, 1, .int .u8 0⟩
theorem Lp : bE P 208 EV := cw (by kernel_rfl) (by kernel_rfl) (by kernel_rfl)
abbrev JE : TI := ⟨.pointer 5, 1, 8, .tuple []⟩
theorem UI : bE P 210 JE := gF (by kernel_rfl) (by kernel_rfl) rfl
abbrev Hv : TI := ⟨.int .i32, 1, 4, .int .i32 0⟩
theorem N6 : bE P 211 Hv := cw (by kernel_rfl) (by kernel_rfl) (by kernel_rfl)
abbrev Ec : TI := ⟨.int .i32, 1, 4, .int .i32 0⟩
theorem VP : bE P 212 Ec := cw (by kernel_rfl) (by kernel_rfl) (by kernel_rfl)
abbrev KL : TI := ⟨.struct #[{ name := "Size_", type := 12, offset := 0, embedded := false, tag := "", pkgPath := "", byteOffset := 0 }, { name := "PtrBytes", type := 12, offset := 1, embedded := false, tag := "", pkgPath := "", byteOffset := 8 }, { name := "Hash", type := 156, offset := 2, embedded := false, tag := "", pkgPath := "", byteOffset := 16 }, { name := "TFlag", type := 207, offset := 3, embedded := false, tag := "", pkgPath := "", byteOffset := 20 }, { name := "Align_", type := 5, offset := 4, embedded := false, tag := "", pkgPath := "", byteOffset := 21 }, { name := "FieldAlign_", type := 5, offset := 5, embedded := false, tag := "", pkgPath := "", byteOffset := 22 }, { name := "Kind_", type := 208, offset := 6, embedded := false, tag := "", pkgPath := "", byteOffset := 23 }, { name := "Equal", type := 209, offset := 7, embedded := false, tag := "", pkgPath := "", byteOffset := 24 }, { name := "GCData", type := 210, offset := 8, embedded := false, tag := "", pkgPath := "", byteOffset := 32 }, { name := "Str", type := 211, offset := 9, embedded := false, tag := "", pkgPath := "", byteOffset := 40 }, { name := "PtrToThis", type := 212, offset := 10, embedded := false, tag := "", pkgPath := "", byteOffset := 44 }], 11, 48, .tuple []⟩
theorem aa3 : bE P 213 KL := gF (by kernel_rfl) (by kernel_rfl) rfl
abbrev Gj : TI := ⟨.struct #[{ name := "Size_", type := 12, offset := 0, embedded := false, tag := "", pkgPath := "", byteOffset := 0 }, { name := "PtrBytes", type := 12, offset := 1, embedded := false, tag := "", pkgPath := "", byteOffset := 8 }, { name := "Hash", type := 156, offset := 2, embedded := false, tag := "", pkgPath := "", byteOffset := 16 }, { name := "TFlag", type := 207, offset := 3, embedded := false, tag := "", pkgPath := "", byteOffset := 20 }, { name := "Align_", type := 5, offset := 4, embedded := false, tag := "", pkgPath := "", byteOffset := 21 }, { name := "FieldAlign_", type := 5, offset := 5, embedded := false, tag := "", pkgPath := "", byteOffset := 22 }, { name := "Kind_", type := 208, offset := 6, embedded := false, tag := "", pkgPath := "", byteOffset := 23 }, { name := "Equal", type := 209, offset := 7, embedded := false, tag := "", pkgPath := "", byteOffset := 24 }, { name := "GCData", type := 210, offset := 8, embedded := false, tag := "", pkgPath := "", byteOffset := 32 }, { name := "Str", type := 211, offset := 9, embedded := false, tag := "", pkgPath := "", byteOffset := 40 }, { name := "PtrToThis", type := 212, offset := 10, embedded := false, tag := "", pkgPath := "", byteOffset := 44 }], 11, 48, .tuple []⟩
theorem O7 : bE P 214 Gj := gF (by kernel_rfl) (by kernel_rfl) rfl
abbrev T : Types := [(2, EL), (3, JF), (4, GK), (5, J2), (6, Ei), (7, Kl), (8, Kj), (9, FX), (10, Gl), (11, DT), (12, Fx), (13, JP), (14, Fg), (15, I7), (16, EJ), (17, Hh), (18, KP), (19, GZ), (21, FD), (22, Ek), (25, Fq), (26, Kh), (27, JV), (28, GF), (30, KC), (31, E6), (32, Eh), (33, HZ), (34, Ks), (40, Fk), (41, Jp), (42, FI), (45, E0), (46, GU), (47, Fi), (54, Kg), (58, IJ), (59, D5), (64, JB), (65, E4), (78, DX), (79, Ie), (80, DZ), (83, GW), (84, HA), (102, DW), (103, Ev), (131, Io), (156, JT), (160, Ke), (163, EX), (164, JQ), (179, Jw), (201, Ji), (202, Gz), (207, Ex), (208, EV), (210, JE), (211, Hv), (212, Ec), (213, KL), (214, Gj)]
theorem hT : dr P T := bM TH (bM ok3 (bM Om (bM RV (bM Pz (bM ok7 (bM Pv (bM SV (bM Mb (bM abh (bM K2 (bM TW (bM MO (bM RF (bM acu (bM Rt (bM TK (bM UA (bM Vm (bM Qe (bM Zt (bM Xm (bM acz (bM Wo (bM RX (bM Yt (bM Ox (bM Qa (bM acm (bM V9 (bM YV (bM Mi (bM S9 (bM MT (bM R6 (bM Ls (bM Py (bM ZK (bM Zv (bM Ut (bM VV (bM aaB (bM YO (bM aaZ (bM V6 (bM aa8 (bM LJ (bM R4 (bM LN (bM acv (bM ace (bM abT (bM Zy (bM abP (bM acA (bM abL (bM Lp (bM UI (bM N6 (bM VP (bM aa3 (bM O7 (WE))))))))))))))))))))))))))))))))))))))))))))))))))))))))))))))
end Go.Am.N
