/- The seat's names: the numbers of functions, the types. Written by a program. -/
import Derived.Test.YtjhhblmbiaghfaaGreatZ1
import Derived.Test.YtjhhblmbiaghfaaGreatProg
import Derived.KernelRfl
set_option linter.unusedVariables false
namespace Go.Am.N
open Go.Proofs
noncomputable abbrev P : Program := Tryz.prog
theorem hm : P.follows .mixedOrders = true := by kernel_rfl
abbrev zO : FuncId := 3
noncomputable abbrev kB : Func := Tryz.f3
theorem Zd : P.funcs[zO]? = some kB := Tryz.func3
abbrev xF : FuncId := 5
noncomputable abbrev rG : Func := Tryz.f5
theorem S7 : P.funcs[xF]? = some rG := Tryz.func5
abbrev tn : FuncId := 6
noncomputable abbrev rQ : Func := Tryz.f6
theorem Uz : P.funcs[tn]? = some rQ := Tryz.func6
abbrev xZ : FuncId := 7
noncomputable abbrev yh : Func := Tryz.f7
theorem Ze : P.funcs[xZ]? = some yh := Tryz.func7
abbrev tE : FuncId := 8
noncomputable abbrev rL : Func := Tryz.f8
theorem Si : P.funcs[tE]? = some rL := Tryz.func8
abbrev sB : FuncId := 9
noncomputable abbrev tq : Func := Tryz.f9
theorem K4 : P.funcs[sB]? = some tq := Tryz.func9
abbrev k8 : FuncId := 10
noncomputable abbrev uk : Func := Tryz.f10
theorem Wy : P.funcs[k8]? = some uk := Tryz.func10
abbrev oD : FuncId := 11
noncomputable abbrev sD : Func := Tryz.f11
theorem La : P.funcs[oD]? = some sD := Tryz.func11
abbrev qD : FuncId := 12
noncomputable abbrev uX : Func := Tryz.f12
theorem Yi : P.funcs[qD]? = some uX := Tryz.func12
abbrev pH : FuncId := 13
noncomputable abbrev n8 : Func := Tryz.f13
theorem Qp : P.funcs[pH]? = some n8 := Tryz.func13
abbrev wg : FuncId := 14
noncomputable abbrev nN : Func := Tryz.f14
theorem Ob : P.funcs[wg]? = some nN := Tryz.func14
abbrev r7 : FuncId := 15
noncomputable abbrev qF : Func := Tryz.f15
theorem X9 : P.funcs[r7]? = some qF := Tryz.func15
abbrev sE : FuncId := 16
noncomputable abbrev pK : Func := Tryz.f16
theorem JH : P.funcs[sE]? = some pK := Tryz.func16
abbrev x5 : FuncId := 17
noncomputable abbrev qR : Func := Tryz.f17
theorem Qd : P.funcs[x5]? = some qR := Tryz.func17
abbrev oO : FuncId := 18
noncomputable abbrev uy : Func := Tryz.f18
theorem Nw : P.funcs[oO]? = some uy := Tryz.func18
abbrev qS : FuncId := 19
noncomputable abbrev s6 : Func := Tryz.f19
theorem Vz : P.funcs[qS]? = some s6 := Tryz.func19
abbrev A8 : FuncId := 20
noncomputable abbrev xU : Func := Tryz.f20
theorem UD : P.funcs[A8]? = some xU := Tryz.func20
abbrev wo : FuncId := 21
noncomputable abbrev wD : Func := Tryz.f21
theorem Qc : P.funcs[wo]? = some wD := Tryz.func21
abbrev wm : FuncId := 26
noncomputable abbrev r9 : Func := Tryz.f26
theorem ML : P.funcs[wm]? = some r9 := Tryz.func26
abbrev yt : FuncId := 37
noncomputable abbrev u9 : Func := Tryz.f37
theorem Z4 : P.funcs[yt]? = some u9 := Tryz.func37
abbrev wI : FuncId := 38
noncomputable abbrev rT : Func := Tryz.f38
theorem Xp : P.funcs[wI]? = some rT := Tryz.func38
abbrev yH : FuncId := 39
noncomputable abbrev tL : Func := Tryz.f39
theorem UR : P.funcs[yH]? = some tL := Tryz.func39
abbrev pY : FuncId := 40
noncomputable abbrev ua : Func := Tryz.f40
theorem SN : P.funcs[pY]? = some ua := Tryz.func40
abbrev pV : FuncId := 41
noncomputable abbrev vq : Func := Tryz.f41
theorem MD : P.funcs[pV]? = some vq := Tryz.func41
abbrev AT : FuncId := 42
noncomputable abbrev xN : Func := Tryz.f42
theorem VM : P.funcs[AT]? = some xN := Tryz.func42
abbrev qg : FuncId := 43
noncomputable abbrev td : Func := Tryz.f43
theorem TA : P.funcs[qg]? = some td := Tryz.func43
abbrev tA : FuncId := 44
noncomputable abbrev vJ : Func := Tryz.f44
theorem Tm : P.funcs[tA]? = some vJ := Tryz.func44
abbrev Aw : FuncId := 45
noncomputable abbrev zI : Func := Tryz.f45
theorem UL : P.funcs[Aw]? = some zI := Tryz.func45
abbrev vc : FuncId := 46
noncomputable abbrev wA : Func := Tryz.f46
theorem O9 : P.funcs[vc]? = some wA := Tryz.func46
abbrev Bm : FuncId := 47
noncomputable abbrev yd : Func := Tryz.f47
theorem JF : P.funcs[Bm]? = some yd := Tryz.func47
abbrev BL : FuncId := 48
noncomputable abbrev y5 : Func := Tryz.f48
theorem Q0 : P.funcs[BL]? = some y5 := Tryz.func48
abbrev pq : FuncId := 49
noncomputable abbrev l6 : Func := Tryz.f49
theorem Zv : P.funcs[pq]? = some l6 := Tryz.func49
abbrev xy : FuncId := 50
noncomputable abbrev uV : Func := Tryz.f50
theorem Ky : P.funcs[xy]? = some uV := Tryz.func50
abbrev oV : FuncId := 51
noncomputable abbrev uc : Func := Tryz.f51
theorem ME : P.funcs[oV]? = some uc := Tryz.func51
abbrev wW : FuncId := 52
noncomputable abbrev u6 : Func := Tryz.f52
theorem NZ : P.funcs[wW]? = some u6 := Tryz.func52
abbrev yc : FuncId := 53
noncomputable abbrev xm : Func := Tryz.f53
theorem Rd : P.funcs[yc]? = some xm := Tryz.func53
abbrev yR : FuncId := 54
noncomputable abbrev uB : Func := Tryz.f54
theorem X1 : P.funcs[yR]? = some uB := Tryz.func54
abbrev rI : FuncId := 55
noncomputable abbrev wh : Func := Tryz.f55
theorem Yh : P.funcs[rI]? = some wh := Tryz.func55
abbrev pQ : FuncId := 60
noncomputable abbrev ve : Func := Tryz.f60
theorem RT : P.funcs[pQ]? = some ve := Tryz.func60
abbrev zj : FuncId := 61
noncomputable abbrev sY : Func := Tryz.f61
theorem ZK : P.funcs[zj]? = some sY := Tryz.func61
abbrev yu : FuncId := 63
noncomputable abbrev rF : Func := Tryz.f63
theorem XR : P.funcs[yu]? = some rF := Tryz.func63
abbrev wQ : FuncId := 76
noncomputable abbrev tY : Func := Tryz.f76
theorem RM : P.funcs[wQ]? = some tY := Tryz.func76
abbrev oB : FuncId := 79
noncomputable abbrev qQ : Func := Tryz.f79
theorem Mq : P.funcs[oB]? = some qQ := Tryz.func79
abbrev r5 : FuncId := 80
noncomputable abbrev sI : Func := Tryz.f80
theorem JS : P.funcs[r5]? = some sI := Tryz.func80
abbrev zA : FuncId := 81
noncomputable abbrev vi : Func := Tryz.f81
theorem U8 : P.funcs[zA]? = some vi := Tryz.func81
abbrev wT : FuncId := 82
noncomputable abbrev vZ : Func := Tryz.f82
theorem P6 : P.funcs[wT]? = some vZ := Tryz.func82
abbrev CZ : FuncId := 83
noncomputable abbrev HI : Func := Tryz.f83
theorem VW : P.funcs[CZ]? = some HI := Tryz.func83
abbrev uZ : FuncId := 84
noncomputable abbrev ud : Func := Tryz.f84
theorem Sk : P.funcs[uZ]? = some ud := Tryz.func84
abbrev rE : FuncId := 85
noncomputable abbrev qT : Func := Tryz.f85
theorem JB : P.funcs[rE]? = some qT := Tryz.func85
abbrev Ct : FuncId := 86
noncomputable abbrev oa : Func := Tryz.f86
theorem SM : P.funcs[Ct]? = some oa := Tryz.func86
abbrev kg : FuncId := 87
noncomputable abbrev sy : Func := Tryz.f87
theorem Vq : P.funcs[kg]? = some sy := Tryz.func87
abbrev kP : FuncId := 88
noncomputable abbrev sr : Func := Tryz.f88
theorem Nd : P.funcs[kP]? = some sr := Tryz.func88
abbrev Ca : FuncId := 89
noncomputable abbrev xY : Func := Tryz.f89
theorem KC : P.funcs[Ca]? = some xY := Tryz.func89
abbrev pA : FuncId := 90
noncomputable abbrev vR : Func := Tryz.f90
theorem Vw : P.funcs[pA]? = some vR := Tryz.func90
abbrev sS : FuncId := 91
noncomputable abbrev ur : Func := Tryz.f91
theorem Yy : P.funcs[sS]? = some ur := Tryz.func91
abbrev p8 : FuncId := 92
noncomputable abbrev lF : Func := Tryz.f92
theorem Vd : P.funcs[p8]? = some lF := Tryz.func92
abbrev nh : FuncId := 93
noncomputable abbrev mz : Func := Tryz.f93
theorem PD : P.funcs[nh]? = some mz := Tryz.func93
abbrev sx : FuncId := 94
noncomputable abbrev gv : Func := Tryz.f94
theorem Qw : P.funcs[sx]? = some gv := Tryz.func94
abbrev vU : FuncId := 95
noncomputable abbrev uI : Func := Tryz.f95
theorem LL : P.funcs[vU]? = some uI := Tryz.func95
abbrev oK : FuncId := 96
noncomputable abbrev vk : Func := Tryz.f96
theorem MC : P.funcs[oK]? = some vk := Tryz.func96
abbrev mK : FuncId := 97
noncomputable abbrev lE : Func := Tryz.f97
theorem JJ : P.funcs[mK]? = some lE := Tryz.func97
abbrev qe : FuncId := 98
noncomputable abbrev iG : Func := Tryz.f98
theorem Yq : P.funcs[qe]? = some iG := Tryz.func98
abbrev wj : FuncId := 99
noncomputable abbrev v7 : Func := Tryz.f99
theorem QM : P.funcs[wj]? = some v7 := Tryz.func99
abbrev yx : FuncId := 100
noncomputable abbrev zg : Func := Tryz.f100
theorem YT : P.funcs[yx]? = some zg := Tryz.func100
abbrev xq : FuncId := 101
noncomputable abbrev vH : Func := Tryz.f101
theorem MY : P.funcs[xq]? = some vH := Tryz.func101
abbrev vQ : FuncId := 102
noncomputable abbrev wu : Func := Tryz.f102
theorem R4 : P.funcs[vQ]? = some wu := Tryz.func102
abbrev um : FuncId := 116
noncomputable abbrev rY : Func := Tryz.f116
theorem Xd : P.funcs[um]? = some rY := Tryz.func116
abbrev ug : FuncId := 117
noncomputable abbrev fu : Func := Tryz.f117
theorem Tj : P.funcs[ug]? = some fu := Tryz.func117
abbrev uR : FuncId := 118
noncomputable abbrev rz : Func := Tryz.f118
theorem S9 : P.funcs[uR]? = some rz := Tryz.func118
abbrev qh : FuncId := 119
noncomputable abbrev vK : Func := Tryz.f119
theorem S2 : P.funcs[qh]? = some vK := Tryz.func119
abbrev x7 : FuncId := 123
noncomputable abbrev vF : Func := Tryz.f123
theorem Rv : P.funcs[x7]? = some vF := Tryz.func123
abbrev yP : FuncId := 124
noncomputable abbrev sJ : Func := Tryz.f124
theorem UE : P.funcs[yP]? = some sJ := Tryz.func124
abbrev yJ : FuncId := 125
noncomputable abbrev qN : Func := Tryz.f125
theorem YQ : P.funcs[yJ]? = some qN := Tryz.func125
abbrev sL : FuncId := 135
noncomputable abbrev uS : Func := Tryz.f135
theorem Kr : P.funcs[sL]? = some uS := Tryz.func135
abbrev Fl : FuncId := 136
noncomputable abbrev HT : Func := Tryz.f136
theorem Sy : P.funcs[Fl]? = some HT := Tryz.func136
abbrev vO : FuncId := 137
noncomputable abbrev vl : Func := Tryz.f137
theorem RX : P.funcs[vO]? = some vl := Tryz.func137
abbrev Co : FuncId := 138
noncomputable abbrev pI : Func := Tryz.f138
theorem Ye : P.funcs[Co]? = some pI := Tryz.func138
abbrev vt : FuncId := 139
noncomputable abbrev ta : Func := Tryz.f139
theorem WC : P.funcs[vt]? = some ta := Tryz.func139
abbrev sZ : FuncId := 140
noncomputable abbrev mw : Func := Tryz.f140
theorem UP : P.funcs[sZ]? = some mw := Tryz.func140
abbrev oA : FuncId := 141
noncomputable abbrev fD : Func := Tryz.f141
theorem Pw : P.funcs[oA]? = some fD := Tryz.func141
abbrev qk : FuncId := 142
noncomputable abbrev tc : Func := Tryz.f142
theorem Sl : P.funcs[qk]? = some tc := Tryz.func142
abbrev kQ : FuncId := 143
noncomputable abbrev jq : Func := Tryz.f143
theorem My : P.funcs[kQ]? = some jq := Tryz.func143
abbrev zc : FuncId := 144
noncomputable abbrev oG : Func := Tryz.f144
theorem Ri : P.funcs[zc]? = some oG := Tryz.func144
abbrev yE : FuncId := 150
noncomputable abbrev uG : Func := Tryz.f150
theorem SF : P.funcs[yE]? = some uG := Tryz.func150
abbrev qM : FuncId := 153
noncomputable abbrev tN : Func := Tryz.f153
theorem Qe : P.funcs[qM]? = some tN := Tryz.func153
abbrev s5 : FuncId := 154
noncomputable abbrev sF : Func := Tryz.f154
theorem Q5 : P.funcs[s5]? = some sF := Tryz.func154
abbrev uL : FuncId := 158
noncomputable abbrev fR : Func := Tryz.f158
theorem Wt : P.funcs[uL]? = some fR := Tryz.func158
abbrev wS : FuncId := 160
noncomputable abbrev tC : Func := Tryz.f160
theorem Xc : P.funcs[wS]? = some tC := Tryz.func160
abbrev vm : FuncId := 166
noncomputable abbrev oy : Func := Tryz.f166
theorem UU : P.funcs[vm]? = some oy := Tryz.func166
abbrev uM : FuncId := 168
noncomputable abbrev gO : Func := Tryz.f168
theorem Nr : P.funcs[uM]? = some gO := Tryz.func168
abbrev p7 : FuncId := 169
noncomputable abbrev eF : Func := Tryz.f169
theorem RF : P.funcs[p7]? = some eF := Tryz.func169
abbrev uw : FuncId := 170
noncomputable abbrev mO : Func := Tryz.f170
theorem VG : P.funcs[uw]? = some mO := Tryz.func170
abbrev yw : FuncId := 173
noncomputable abbrev ru : Func := Tryz.f173
theorem Ut : P.funcs[yw]? = some ru := Tryz.func173
abbrev y7 : FuncId := 175
noncomputable abbrev qU : Func := Tryz.f175
theorem KI : P.funcs[y7]? = some qU := Tryz.func175
abbrev tu : FuncId := 176
noncomputable abbrev dD : Func := Tryz.f176
theorem K3 : P.funcs[tu]? = some dD := Tryz.func176
abbrev oN : FuncId := 177
noncomputable abbrev vG : Func := Tryz.f177
theorem N6 : P.funcs[oN]? = some vG := Tryz.func177
abbrev qb : FuncId := 178
noncomputable abbrev cK : Func := Tryz.f178
theorem RP : P.funcs[qb]? = some cK := Tryz.func178
abbrev mA : FuncId := 183
noncomputable abbrev rq : Func := Tryz.f183
theorem TO : P.funcs[mA]? = some rq := Tryz.func183
abbrev nQ : FuncId := 184
noncomputable abbrev qO : Func := Tryz.f184
theorem YZ : P.funcs[nQ]? = some qO := Tryz.func184
abbrev AZ : FuncId := 190
noncomputable abbrev xL : Func := Tryz.f190
theorem L7 : P.funcs[AZ]? = some xL := Tryz.func190
abbrev p4 : FuncId := 192
noncomputable abbrev cT : Func := Tryz.f192
theorem Lv : P.funcs[p4]? = some cT := Tryz.func192
abbrev uJ : FuncId := 193
noncomputable abbrev mJ : Func := Tryz.f193
theorem QU : P.funcs[uJ]? = some mJ := Tryz.func193
abbrev pg : FuncId := 194
noncomputable abbrev wq : Func := Tryz.f194
theorem XS : P.funcs[pg]? = some wq := Tryz.func194
abbrev qH : FuncId := 197
noncomputable abbrev wB : Func := Tryz.f197
theorem Sr : P.funcs[qH]? = some wB := Tryz.func197
abbrev sP : FuncId := 198
noncomputable abbrev lN : Func := Tryz.f198
theorem Yu : P.funcs[sP]? = some lN := Tryz.func198
abbrev tv : FuncId := 199
noncomputable abbrev kH : Func := Tryz.f199
theorem Zk : P.funcs[tv]? = some kH := Tryz.func199
abbrev uK : FuncId := 200
noncomputable abbrev vC : Func := Tryz.f200
theorem Ju : P.funcs[uK]? = some vC := Tryz.func200
abbrev uj : FuncId := 201
noncomputable abbrev rJ : Func := Tryz.f201
theorem Oq : P.funcs[uj]? = some rJ := Tryz.func201
abbrev tF : FuncId := 202
noncomputable abbrev j7 : Func := Tryz.f202
theorem O7 : P.funcs[tF]? = some j7 := Tryz.func202
abbrev wz : FuncId := 203
noncomputable abbrev sC : Func := Tryz.f203
theorem UW : P.funcs[wz]? = some sC := Tryz.func203
abbrev AF : FuncId := 204
noncomputable abbrev VK : Func := Tryz.f204
theorem To : P.funcs[AF]? = some VK := Tryz.func204
abbrev oS : FuncId := 205
noncomputable abbrev gd : Func := Tryz.f205
theorem St : P.funcs[oS]? = some gd := Tryz.func205
abbrev sW : FuncId := 206
noncomputable abbrev jn : Func := Tryz.f206
theorem PU : P.funcs[sW]? = some jn := Tryz.func206
abbrev sw : FuncId := 207
noncomputable abbrev lp : Func := Tryz.f207
theorem Lb : P.funcs[sw]? = some lp := Tryz.func207
abbrev vT : FuncId := 208
noncomputable abbrev mZ : Func := Tryz.f208
theorem NM : P.funcs[vT]? = some mZ := Tryz.func208
abbrev tG : FuncId := 212
noncomputable abbrev mc : Func := Tryz.f212
theorem Ru : P.funcs[tG]? = some mc := Tryz.func212
abbrev v5 : FuncId := 213
noncomputable abbrev vP : Func := Tryz.f213
theorem U1 : P.funcs[v5]? = some vP := Tryz.func213
abbrev vN : FuncId := 214
noncomputable abbrev jk : Func := Tryz.f214
theorem Qz : P.funcs[vN]? = some jk := Tryz.func214
abbrev C8 : TI := ⟨.int .i64, 1, 8, .int .i64 0⟩
theorem NB : bt P 2 C8 := bU (by kernel_rfl) (by kernel_rfl) (by kernel_rfl)
abbrev FW : TI := ⟨.int .i64, 1, 8, .int .i64 0⟩
theorem TP : bt P 3 FW := bU (by kernel_rfl) (by kernel_rfl) (by kernel_rfl)
abbrev Hf : TI := ⟨.bool, 1, 1, .bool false⟩
theorem Yf : bt P 4 Hf := bU (by kernel_rfl) (by kernel_rfl) (by kernel_rfl)
abbrev HH : TI := ⟨.int .u8, 1, 1, .int .u8 0⟩
theorem KW : bt P 5 HH := bU (by kernel_rfl) (by kernel_rfl) (by kernel_rfl)
abbrev HW : TI := ⟨.int .u8, 1, 1, .int .u8 0⟩
theorem W8 : bt P 6 HW := bU (by kernel_rfl) (by kernel_rfl) (by kernel_rfl)
abbrev Ea : TI := ⟨.struct #[{ name := "x", type := 2, offset := 0, embedded := false, tag := "", pkgPath := "runtime", byteOffset := 0 }, { name := "y", type := 3, offset := 1, embedded := false, tag := "", pkgPath := "runtime", byteOffset := 8 }, { name := "signed", type := 4, offset := 2, embedded := false, tag := "", pkgPath := "runtime", byteOffset := 16 }, { name := "code", type := 6, offset := 3, embedded := false, tag := "", pkgPath := "runtime", byteOffset := 17 }], 4, 24, .agg [.int .i64 0, .int .i64 0, .bool false, .int .u8 0]⟩
theorem J9 : bt P 7 Ea := bU (by kernel_rfl) (by kernel_rfl) (by kernel_rfl)
abbrev E6 : TI := ⟨.struct #[{ name := "x", type := 2, offset := 0, embedded := false, tag := "", pkgPath := "runtime", byteOffset := 0 }, { name := "y", type := 3, offset := 1, embedded := false, tag := "", pkgPath := "runtime", byteOffset := 8 }, { name := "signed", type := 4, offset := 2, embedded := false, tag := "", pkgPath := "runtime", byteOffset := 16 }, { name := "code", type := 6, offset := 3, embedded := false, tag := "", pkgPath := "runtime", byteOffset := 17 }], 4, 24, .agg [.int .i64 0, .int .i64 0, .bool false, .int .u8 0]⟩
theorem K7 : bt P 8 E6 := bU (by kernel_rfl) (by kernel_rfl) (by kernel_rfl)
abbrev FI : TI := ⟨.string, 1, 16, .tuple []⟩
theorem Ti : bt P 9 FI := fO (by kernel_rfl) (by kernel_rfl) rfl
abbrev Dg : TI := ⟨.string, 1, 16, .tuple []⟩
theorem ZT : bt P 10 Dg := fO (by kernel_rfl) (by kernel_rfl) rfl
abbrev Hx : TI := ⟨.string, 1, 16, .tuple []⟩
theorem Nx : bt P 11 Hx := fO (by kernel_rfl) (by kernel_rfl) rfl
abbrev Ds : TI := ⟨.int .u64, 1, 8, .int .u64 0⟩
theorem Ss : bt P 12 Ds := bU (by kernel_rfl) (by kernel_rfl) (by kernel_rfl)
abbrev FR : TI := ⟨.struct #[{ name := "msg", type := 9, offset := 0, embedded := false, tag := "", pkgPath := "runtime", byteOffset := 0 }, { name := "addr", type := 12, offset := 1, embedded := false, tag := "", pkgPath := "runtime", byteOffset := 16 }], 2, 24, .tuple []⟩
theorem Ux : bt P 13 FR := fO (by kernel_rfl) (by kernel_rfl) rfl
abbrev Du : TI := ⟨.struct #[{ name := "msg", type := 9, offset := 0, embedded := false, tag := "", pkgPath := "runtime", byteOffset := 0 }, { name := "addr", type := 12, offset := 1, embedded := false, tag := "", pkgPath := "runtime", byteOffset := 16 }], 2, 24, .tuple []⟩
theorem X4 : bt P 14 Du := fO (by kernel_rfl) (by kernel_rfl) rfl
abbrev Hy : TI := ⟨.pointer 229, 1, 8, .tuple []⟩
theorem Xu : bt P 15 Hy := fO (by kernel_rfl) (by kernel_rfl) rfl
abbrev EL : TI := ⟨.pointer 232, 1, 8, .tuple []⟩
theorem Qm : bt P 16 EL := fO (by kernel_rfl) (by kernel_rfl) rfl
abbrev Gr : TI := ⟨.pointer 241, 1, 8, .tuple []⟩
theorem Zh : bt P 17 Gr := fO (by kernel_rfl) (by kernel_rfl) rfl
abbrev DZ : TI := ⟨.struct #[{ name := "typ", type := 17, offset := 0, embedded := false, tag := "", pkgPath := "internal/runtime/maps", byteOffset := 0 }], 1, 8, .tuple []⟩
theorem Tb : bt P 18 DZ := fO (by kernel_rfl) (by kernel_rfl) rfl
abbrev FQ : TI := ⟨.struct #[{ name := "typ", type := 17, offset := 0, embedded := false, tag := "", pkgPath := "internal/runtime/maps", byteOffset := 0 }], 1, 8, .tuple []⟩
theorem SY : bt P 19 FQ := fO (by kernel_rfl) (by kernel_rfl) rfl
abbrev Io : TI := ⟨.int .i32, 1, 4, .int .i32 0⟩
theorem Nc : bt P 21 Io := bU (by kernel_rfl) (by kernel_rfl) (by kernel_rfl)
abbrev FE : TI := ⟨.slice 3, 1, 24, .nil⟩
theorem RG : bt P 22 FE := bU (by kernel_rfl) (by kernel_rfl) (by kernel_rfl)
abbrev EG : TI := ⟨.pointer 75, 1, 8, .tuple []⟩
theorem VF : bt P 25 EG := fO (by kernel_rfl) (by kernel_rfl) rfl
abbrev E2 : TI := ⟨.slice 32, 1, 24, .nil⟩
theorem Wb : bt P 27 E2 := bU (by kernel_rfl) (by kernel_rfl) (by kernel_rfl)
abbrev He : TI := ⟨.slice 54, 1, 24, .nil⟩
theorem LA : bt P 30 He := bU (by kernel_rfl) (by kernel_rfl) (by kernel_rfl)
abbrev Dd : TI := ⟨.struct #[{ name := "A", type := 30, offset := 0, embedded := false, tag := "", pkgPath := "", byteOffset := 0 }, { name := "B", type := 30, offset := 1, embedded := false, tag := "", pkgPath := "", byteOffset := 24 }, { name := "Kind", type := 3, offset := 2, embedded := false, tag := "", pkgPath := "", byteOffset := 48 }, { name := "K", type := 3, offset := 3, embedded := false, tag := "", pkgPath := "", byteOffset := 56 }], 4, 64, .agg [.nil, .nil, .int .i64 0, .int .i64 0]⟩
theorem NL : bt P 31 Dd := bU (by kernel_rfl) (by kernel_rfl) (by kernel_rfl)
abbrev Fm : TI := ⟨.struct #[{ name := "A", type := 30, offset := 0, embedded := false, tag := "", pkgPath := "", byteOffset := 0 }, { name := "B", type := 30, offset := 1, embedded := false, tag := "", pkgPath := "", byteOffset := 24 }, { name := "Kind", type := 3, offset := 2, embedded := false, tag := "", pkgPath := "", byteOffset := 48 }, { name := "K", type := 3, offset := 3, embedded := false, tag := "", pkgPath := "", byteOffset := 56 }], 4, 64, .agg [.nil, .nil, .int .i64 0, .int .i64 0]⟩
theorem QD : bt P 32 Fm := bU (by kernel_rfl) (by kernel_rfl) (by kernel_rfl)
abbrev CN : TI := ⟨.int .i64, 1, 8, .int .i64 0⟩
theorem WV : bt P 35 CN := bU (by kernel_rfl) (by kernel_rfl) (by kernel_rfl)
abbrev D5 : TI := ⟨.slice 22, 1, 24, .nil⟩
theorem KM : bt P 41 D5 := bU (by kernel_rfl) (by kernel_rfl) (by kernel_rfl)
abbrev Gw : TI := ⟨.slice 52, 1, 24, .nil⟩
theorem TK : bt P 45 Gw := bU (by kernel_rfl) (by kernel_rfl) (by kernel_rfl)
abbrev Hw : TI := ⟨.slice 64, 1, 24, .nil⟩
theorem LB : bt P 46 Hw := bU (by kernel_rfl) (by kernel_rfl) (by kernel_rfl)
abbrev D7 : TI := ⟨.struct #[{ name := "U", type := 3, offset := 0, embedded := false, tag := "", pkgPath := "", byteOffset := 0 }, { name := "V", type := 3, offset := 1, embedded := false, tag := "", pkgPath := "", byteOffset := 8 }, { name := "KnotsU", type := 45, offset := 2, embedded := false, tag := "", pkgPath := "", byteOffset := 16 }, { name := "KnotsV", type := 45, offset := 3, embedded := false, tag := "", pkgPath := "", byteOffset := 40 }, { name := "Poles", type := 46, offset := 4, embedded := false, tag := "", pkgPath := "", byteOffset := 64 }], 5, 88, .agg [.int .i64 0, .int .i64 0, .nil, .nil, .nil]⟩
theorem M6 : bt P 47 D7 := bU (by kernel_rfl) (by kernel_rfl) (by kernel_rfl)
abbrev Jb : TI := ⟨.struct #[{ name := "U", type := 3, offset := 0, embedded := false, tag := "", pkgPath := "", byteOffset := 0 }, { name := "V", type := 3, offset := 1, embedded := false, tag := "", pkgPath := "", byteOffset := 8 }, { name := "KnotsU", type := 45, offset := 2, embedded := false, tag := "", pkgPath := "", byteOffset := 16 }, { name := "KnotsV", type := 45, offset := 3, embedded := false, tag := "", pkgPath := "", byteOffset := 40 }, { name := "Poles", type := 46, offset := 4, embedded := false, tag := "", pkgPath := "", byteOffset := 64 }], 5, 88, .agg [.int .i64 0, .int .i64 0, .nil, .nil, .nil]⟩
theorem Qu : bt P 48 Jb := bU (by kernel_rfl) (by kernel_rfl) (by kernel_rfl)
abbrev F6 : TI := ⟨.slice 129, 1, 24, .nil⟩
theorem UK : bt P 50 F6 := bU (by kernel_rfl) (by kernel_rfl) (by kernel_rfl)
abbrev G8 : TI := ⟨.struct #[{ name := "Neg", type := 4, offset := 0, embedded := false, tag := "", pkgPath := "", byteOffset := 0 }, { name := "Num", type := 50, offset := 1, embedded := false, tag := "", pkgPath := "", byteOffset := 8 }, { name := "Den", type := 50, offset := 2, embedded := false, tag := "", pkgPath := "", byteOffset := 32 }], 3, 56, .agg [.bool false, .nil, .nil]⟩
theorem KK : bt P 51 G8 := bU (by kernel_rfl) (by kernel_rfl) (by kernel_rfl)
abbrev Fs : TI := ⟨.struct #[{ name := "Neg", type := 4, offset := 0, embedded := false, tag := "", pkgPath := "", byteOffset := 0 }, { name := "Num", type := 50, offset := 1, embedded := false, tag := "", pkgPath := "", byteOffset := 8 }, { name := "Den", type := 50, offset := 2, embedded := false, tag := "", pkgPath := "", byteOffset := 32 }], 3, 56, .rat 0 1⟩
theorem WA : bt P 52 Fs := bU (by kernel_rfl) (by kernel_rfl) (by kernel_rfl)
abbrev HC : TI := ⟨.struct #[{ name := "Lo", type := 52, offset := 0, embedded := false, tag := "", pkgPath := "", byteOffset := 0 }, { name := "Hi", type := 52, offset := 3, embedded := false, tag := "", pkgPath := "", byteOffset := 56 }], 6, 112, .agg [.rat 0 1, .rat 0 1]⟩
theorem Rb : bt P 53 HC := bU (by kernel_rfl) (by kernel_rfl) (by kernel_rfl)
abbrev Gm : TI := ⟨.struct #[{ name := "Lo", type := 52, offset := 0, embedded := false, tag := "", pkgPath := "", byteOffset := 0 }, { name := "Hi", type := 52, offset := 3, embedded := false, tag := "", pkgPath := "", byteOffset := 56 }], 6, 112, .agg [.rat 0 1, .rat 0 1]⟩
theorem Yj : bt P 54 Gm := bU (by kernel_rfl) (by kernel_rfl) (by kernel_rfl)
abbrev HM : TI := ⟨.array 3 52, 9, 168, .agg [.rat 0 1, .rat 0 1, .rat 0 1]⟩
theorem WD : bt P 60 HM := bU (by kernel_rfl) (by kernel_rfl) (by kernel_rfl)
abbrev GL : TI := ⟨.array 3 52, 9, 168, .agg [.rat 0 1, .rat 0 1, .rat 0 1]⟩
theorem T6 : bt P 61 GL := bU (by kernel_rfl) (by kernel_rfl) (by kernel_rfl)
abbrev Db : TI := ⟨.slice 93, 1, 24, .nil⟩
theorem Nq : bt P 64 Db := bU (by kernel_rfl) (by kernel_rfl) (by kernel_rfl)
abbrev Ji : TI := ⟨.struct #[{ name := "Degree", type := 3, offset := 0, embedded := false, tag := "", pkgPath := "", byteOffset := 0 }, { name := "Knots", type := 45, offset := 1, embedded := false, tag := "", pkgPath := "", byteOffset := 8 }, { name := "Poles", type := 64, offset := 2, embedded := false, tag := "", pkgPath := "", byteOffset := 32 }], 3, 56, .agg [.int .i64 0, .nil, .nil]⟩
theorem JZ : bt P 65 Ji := bU (by kernel_rfl) (by kernel_rfl) (by kernel_rfl)
abbrev Jh : TI := ⟨.struct #[{ name := "Degree", type := 3, offset := 0, embedded := false, tag := "", pkgPath := "", byteOffset := 0 }, { name := "Knots", type := 45, offset := 1, embedded := false, tag := "", pkgPath := "", byteOffset := 8 }, { name := "Poles", type := 64, offset := 2, embedded := false, tag := "", pkgPath := "", byteOffset := 32 }], 3, 56, .agg [.int .i64 0, .nil, .nil]⟩
theorem Y1 : bt P 66 Jh := bU (by kernel_rfl) (by kernel_rfl) (by kernel_rfl)
abbrev DV : TI := ⟨.struct #[{ name := "L", type := 22, offset := 0, embedded := false, tag := "", pkgPath := "", byteOffset := 0 }, { name := "At", type := 3, offset := 1, embedded := false, tag := "", pkgPath := "", byteOffset := 24 }], 2, 32, .agg [.nil, .int .i64 0]⟩
theorem Zn : bt P 74 DV := bU (by kernel_rfl) (by kernel_rfl) (by kernel_rfl)
abbrev EH : TI := ⟨.struct #[{ name := "L", type := 22, offset := 0, embedded := false, tag := "", pkgPath := "", byteOffset := 0 }, { name := "At", type := 3, offset := 1, embedded := false, tag := "", pkgPath := "", byteOffset := 24 }], 2, 32, .agg [.nil, .int .i64 0]⟩
theorem OW : bt P 75 EH := bU (by kernel_rfl) (by kernel_rfl) (by kernel_rfl)
abbrev Fk : TI := ⟨.slice 4, 1, 24, .nil⟩
theorem X5 : bt P 85 Fk := bU (by kernel_rfl) (by kernel_rfl) (by kernel_rfl)
abbrev F4 : TI := ⟨.struct #[{ name := "P", type := 61, offset := 0, embedded := false, tag := "", pkgPath := "", byteOffset := 0 }, { name := "W", type := 52, offset := 9, embedded := false, tag := "", pkgPath := "", byteOffset := 168 }], 12, 224, .agg [.agg [.rat 0 1, .rat 0 1, .rat 0 1], .rat 0 1]⟩
theorem QJ : bt P 92 F4 := bU (by kernel_rfl) (by kernel_rfl) (by kernel_rfl)
abbrev Hh : TI := ⟨.struct #[{ name := "P", type := 61, offset := 0, embedded := false, tag := "", pkgPath := "", byteOffset := 0 }, { name := "W", type := 52, offset := 9, embedded := false, tag := "", pkgPath := "", byteOffset := 168 }], 12, 224, .agg [.agg [.rat 0 1, .rat 0 1, .rat 0 1], .rat 0 1]⟩
theorem QV : bt P 93 Hh := bU (by kernel_rfl) (by kernel_rfl) (by kernel_rfl)
abbrev E8 : TI := ⟨.slice 103, 1, 24, .nil⟩
theorem Y8 : bt P 97 E8 := bU (by kernel_rfl) (by kernel_rfl) (by kernel_rfl)
abbrev F5 : TI := ⟨.struct #[{ name := "Degree", type := 3, offset := 0, embedded := false, tag := "", pkgPath := "", byteOffset := 0 }, { name := "Knots", type := 45, offset := 1, embedded := false, tag := "", pkgPath := "", byteOffset := 8 }, { name := "C", type := 97, offset := 2, embedded := false, tag := "", pkgPath := "", byteOffset := 32 }], 3, 56, .agg [.int .i64 0, .nil, .nil]⟩
theorem VZ : bt P 98 F5 := bU (by kernel_rfl) (by kernel_rfl) (by kernel_rfl)
abbrev Gv : TI := ⟨.struct #[{ name := "Degree", type := 3, offset := 0, embedded := false, tag := "", pkgPath := "", byteOffset := 0 }, { name := "Knots", type := 45, offset := 1, embedded := false, tag := "", pkgPath := "", byteOffset := 8 }, { name := "C", type := 97, offset := 2, embedded := false, tag := "", pkgPath := "", byteOffset := 32 }], 3, 56, .agg [.int .i64 0, .nil, .nil]⟩
theorem WJ : bt P 99 Gv := bU (by kernel_rfl) (by kernel_rfl) (by kernel_rfl)
abbrev Iz : TI := ⟨.array 4 52, 12, 224, .agg [.rat 0 1, .rat 0 1, .rat 0 1, .rat 0 1]⟩
theorem Js : bt P 102 Iz := bU (by kernel_rfl) (by kernel_rfl) (by kernel_rfl)
abbrev EE : TI := ⟨.array 4 52, 12, 224, .agg [.rat 0 1, .rat 0 1, .rat 0 1, .rat 0 1]⟩
theorem ZH : bt P 103 EE := bU (by kernel_rfl) (by kernel_rfl) (by kernel_rfl)
abbrev Ge : TI := ⟨.int .u64, 1, 8, .int .u64 0⟩
theorem Sc : bt P 125 Ge := bU (by kernel_rfl) (by kernel_rfl) (by kernel_rfl)
abbrev Dv : TI := ⟨.int .u32, 1, 4, .int .u32 0⟩
theorem Xs : bt P 129 Dv := bU (by kernel_rfl) (by kernel_rfl) (by kernel_rfl)
abbrev GJ : TI := ⟨.int .u64, 1, 8, .int .u64 0⟩
theorem Xl : bt P 135 GJ := bU (by kernel_rfl) (by kernel_rfl) (by kernel_rfl)
abbrev G4 : TI := ⟨.slice 99, 1, 24, .nil⟩
theorem LF : bt P 152 G4 := bU (by kernel_rfl) (by kernel_rfl) (by kernel_rfl)
abbrev IP : TI := ⟨.slice 30, 1, 24, .nil⟩
theorem Qg : bt P 166 IP := bU (by kernel_rfl) (by kernel_rfl) (by kernel_rfl)
abbrev It : TI := ⟨.int .i64, 1, 8, .int .i64 0⟩
theorem Zs : bt P 174 It := bU (by kernel_rfl) (by kernel_rfl) (by kernel_rfl)
abbrev Dl : TI := ⟨.slice 5, 1, 24, .nil⟩
theorem PE : bt P 191 Dl := bU (by kernel_rfl) (by kernel_rfl) (by kernel_rfl)
abbrev Iq : TI := ⟨.int .u64, 1, 8, .int .u64 0⟩
theorem P3 : bt P 205 Iq := bU (by kernel_rfl) (by kernel_rfl) (by kernel_rfl)
abbrev Fp : TI := ⟨.pointer 3, 1, 8, .tuple []⟩
theorem Tt : bt P 209 Fp := fO (by kernel_rfl) (by kernel_rfl) rfl
abbrev Ey : TI := ⟨.slice 45, 1, 24, .nil⟩
theorem Pj : bt P 211 Ey := bU (by kernel_rfl) (by kernel_rfl) (by kernel_rfl)
abbrev IL : TI := ⟨.pointer 205, 1, 8, .tuple []⟩
theorem Uq : bt P 224 IL := fO (by kernel_rfl) (by kernel_rfl) rfl
abbrev Iv : TI := ⟨.struct #[{ name := "_interface", type := 17, offset := 0, embedded := false, tag := "", pkgPath := "runtime", byteOffset := 0 }, { name := "concrete", type := 17, offset := 1, embedded := false, tag := "", pkgPath := "runtime", byteOffset := 8 }, { name := "asserted", type := 17, offset := 2, embedded := false, tag := "", pkgPath := "runtime", byteOffset := 16 }, { name := "missingMethod", type := 9, offset := 3, embedded := false, tag := "", pkgPath := "runtime", byteOffset := 24 }], 4, 40, .tuple []⟩
theorem R5 : bt P 228 Iv := fO (by kernel_rfl) (by kernel_rfl) rfl
abbrev FC : TI := ⟨.struct #[{ name := "_interface", type := 17, offset := 0, embedded := false, tag := "", pkgPath := "runtime", byteOffset := 0 }, { name := "concrete", type := 17, offset := 1, embedded := false, tag := "", pkgPath := "runtime", byteOffset := 8 }, { name := "asserted", type := 17, offset := 2, embedded := false, tag := "", pkgPath := "runtime", byteOffset := 16 }, { name := "missingMethod", type := 9, offset := 3, embedded := false, tag := "", pkgPath := "runtime", byteOffset := 24 }], 4, 40, .tuple []⟩
theorem Pb : bt P 229 FC := fO (by kernel_rfl) (by kernel_rfl) rfl
abbrev HJ : TI := ⟨.int .u8, 1, 1, .int .u8 0⟩
theorem Vg : bt P 234 HJ := bU (by kernel_rfl) (by kernel_rfl) (by kernel_rfl)
abbrev F2 : TI := ⟨.int .u8, 1, 1, .int .u8 0⟩
theorem Wf : bt P 235 F2 := bU (by kernel_rfl) (by kernel_rfl) (by kernel_rfl)
abbrev HX : TI := ⟨.pointer 5, 1, 8, .tuple []⟩
theorem US : bt P 237 HX := fO (by kernel_rfl) (by kernel_rfl) rfl
abbrev C3 : TI := ⟨.int .i32, 1, 4, .int .i32 0⟩
theorem JY : bt P 238 C3 := bU (by kernel_rfl) (by kernel_rfl) (by kernel_rfl)
abbrev HZ : TI := ⟨.int .i32, 1, 4, .int .i32 0⟩
theorem Kk : bt P 239 HZ := bU (by kernel_rfl) (by kernel_rfl) (by kernel_rfl)
abbrev C9 : TI := ⟨.struct #[{ name := "Size_", type := 12, offset := 0, embedded := false, tag := "", pkgPath := "", byteOffset := 0 }, { name := "PtrBytes", type := 12, offset := 1, embedded := false, tag := "", pkgPath := "", byteOffset := 8 }, { name := "Hash", type := 129, offset := 2, embedded := false, tag := "", pkgPath := "", byteOffset := 16 }, { name := "TFlag", type := 234, offset := 3, embedded := false, tag := "", pkgPath := "", byteOffset := 20 }, { name := "Align_", type := 5, offset := 4, embedded := false, tag := "", pkgPath := "", byteOffset := 21 }, { name := "FieldAlign_", type := 5, offset := 5, embedded := false, tag := "", pkgPath := "", byteOffset := 22 }, { name := "Kind_", type := 235, offset := 6, embedded := false, tag := "", pkgPath := "", byteOffset := 23 }, { name := "Equal", type := 236, offset := 7, embedded := false, tag := "", pkgPath := "", byteOffset := 24 }, { name := "GCData", type := 237, offset := 8, embedded := false, tag := "", pkgPath := "", byteOffset := 32 }, { name := "Str", type := 238, offset := 9, embedded := false, tag := "", pkgPath := "", byteOffset := 40 }, { name := "PtrToThis", type := 239, offset := 10, embedded := false, tag := "", pkgPath := "", byteOffset := 44 }], 11, 48, .tuple []⟩
theorem WY : bt P 240 C9 := fO (by kernel_rfl) (by kernel_rfl) rfl
abbrev Dz : TI := ⟨.struct #[{ name := "Size_", type := 12, offset := 0, embedded := false, tag := "", pkgPath := "", byteOffset := 0 }, { name := "PtrBytes", type := 12, offset := 1, embedded := false, tag := "", pkgPath := "", byteOffset := 8 }, { name := "Hash", type := 129, offset := 2, embedded := false, tag := "", pkgPath := "", byteOffset := 16 }, { name := "TFlag", type := 234, offset := 3, embedded := false, tag := "", pkgPath := "", byteOffset := 20 }, { name := "Align_", type := 5, offset := 4, embedded := false, tag := "", pkgPath := "", byteOffset := 21 }, { name := "FieldAlign_", type := 5, offset := 5, embedded := false, tag := "", pkgPath := "", byteOffset := 22 }, { name := "Kind_", type := 235, offset := 6, embedded := false, tag := "", pkgPath := "", byteOffset := 23 }, { name := "Equal", type := 236, offset := 7, embedded := false, tag := "", pkgPath := "", byteOffset := 24 }, { name := "GCData", type := 237, offset := 8, embedded := false, tag := "", pkgPath := "", byteOffset := 32 }, { name := "Str", type := 238, offset := 9, embedded := false, tag := "", pkgPath := "", byteOffset := 40 }, { name := "PtrToThis", type := 239, offset := 10, embedded := false, tag := "", pkgPath := "", byteOffset := 44 }], 11, 48, .tuple []⟩
theorem RK : bt P 241 Dz := fO (by kernel_rfl) (by kernel_rfl) rfl
abbrev T : Types := [(2, C8), (3, FW), (4, Hf), (5, HH), (6, HW), (7, Ea), (8, E6), (9, FI), (10, Dg), (11, Hx), (12, Ds), (13, FR), (14, Du), (15, Hy), (16, EL), (17, Gr), (18, DZ), (19, FQ), (21, Io), (22, FE), (25, EG), (27, E2), (30, He), (31, Dd), (32, Fm), (35, CN), (41, D5), (45, Gw), (46, Hw), (47, D7), (48, Jb), (50, F6), (51, G8), (52, Fs), (53, HC), (54, Gm), (60, HM), (61, GL), (64, Db), (65, Ji), (66, Jh), (74, DV), (75, EH), (85, Fk), (92, F4), (93, Hh), (97, E8), (98, F5), (99, Gv), (102, Iz), (103, EE), (125, Ge), (129, Dv), (135, GJ), (152, G4), (166, IP), (174, It), (191, Dl), (205, Iq), (209, Fp), (211, Ey), (224, IL), (228, Iv), (229, FC), (234, HJ), (235, F2), (237, HX), (238, C3), (239, HZ), (240, C9), (241, Dz)]
theorem hT : dn P T := bw NB (bw TP (bw Yf (bw KW (bw W8 (bw J9 (bw K7 (bw Ti (bw ZT (bw Nx (bw Ss (bw Ux (bw X4 (bw Xu (bw Qm (bw Zh (bw Tb (bw SY (bw Nc (bw RG (bw VF (bw Wb (bw LA (bw NL (bw QD (bw WV (bw KM (bw TK (bw LB (bw M6 (bw Qu (bw UK (bw KK (bw WA (bw Rb (bw Yj (bw WD (bw T6 (bw Nq (bw JZ (bw Y1 (bw Zn (bw OW (bw X5 (bw QJ (bw QV (bw Y8 (bw VZ (bw WJ (bw Js (bw ZH (bw Sc (bw Xs (bw Xl (bw LF (bw Qg (bw Zs (bw PE (bw P3 (bw Tt (bw Pj (bw Uq (bw R5 (bw Pb (bw Vg (bw Wf (bw US (bw JY (bw Kk (bw WY (bw RK (L6)))))))))))))))))))))))))))))))))))))))))))))))))))))))))))))))))))))))
end Go.Am.N
