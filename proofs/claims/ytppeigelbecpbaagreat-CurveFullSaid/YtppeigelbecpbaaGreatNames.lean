/- The seat's names: the numbers of functions, the types. Written by a program. -/
import Derived.Test.YtppeigelbecpbaaGreatZ2
import Derived.Test.YtppeigelbecpbaaGreatProg
import Derived.KernelRfl
set_option linter.unusedVariables false
namespace Go.Am.N
open Go.Proofs
noncomputable abbrev P:Program:=Tryz.prog
theorem hm:P.follows .mixedOrders=true:=by kernel_rfl
abbrev za:FuncId:=5
noncomputable abbrev nu:Func:=Tryz.f5
theorem Xh:P.funcs[za]?=some nu:=Tryz.func5
abbrev vu:FuncId:=14
noncomputable abbrev uC:Func:=Tryz.f14
theorem VY:P.funcs[vu]?=some uC:=Tryz.func14
abbrev uc:FuncId:=26
noncomputable abbrev qG:Func:=Tryz.f26
theorem LW:P.funcs[uc]?=some qG:=Tryz.func26
abbrev qX:FuncId:=29
noncomputable abbrev tM:Func:=Tryz.f29
theorem R9:P.funcs[qX]?=some tM:=Tryz.func29
abbrev oC:FuncId:=36
noncomputable abbrev vO:Func:=Tryz.f36
theorem Py:P.funcs[oC]?=some vO:=Tryz.func36
abbrev pF:FuncId:=37
noncomputable abbrev uw:Func:=Tryz.f37
theorem NQ:P.funcs[pF]?=some uw:=Tryz.func37
abbrev vw:FuncId:=38
noncomputable abbrev uP:Func:=Tryz.f38
theorem UX:P.funcs[vw]?=some uP:=Tryz.func38
abbrev vQ:FuncId:=39
noncomputable abbrev vP:Func:=Tryz.f39
theorem Oy:P.funcs[vQ]?=some vP:=Tryz.func39
abbrev ym:FuncId:=56
noncomputable abbrev sD:Func:=Tryz.f56
theorem Pz:P.funcs[ym]?=some sD:=Tryz.func56
abbrev u9:FuncId:=61
noncomputable abbrev jm:Func:=Tryz.f61
theorem Re:P.funcs[u9]?=some jm:=Tryz.func61
abbrev ou:FuncId:=63
noncomputable abbrev tA:Func:=Tryz.f63
theorem M9:P.funcs[ou]?=some tA:=Tryz.func63
abbrev xG:FuncId:=64
noncomputable abbrev ta:Func:=Tryz.f64
theorem XJ:P.funcs[xG]?=some ta:=Tryz.func64
abbrev wQ:FuncId:=66
noncomputable abbrev qx:Func:=Tryz.f66
theorem VU:P.funcs[wQ]?=some qx:=Tryz.func66
abbrev r7:FuncId:=68
noncomputable abbrev ng:Func:=Tryz.f68
theorem LH:P.funcs[r7]?=some ng:=Tryz.func68
abbrev nk:FuncId:=69
noncomputable abbrev sW:Func:=Tryz.f69
theorem KD:P.funcs[nk]?=some sW:=Tryz.func69
abbrev s7:FuncId:=71
noncomputable abbrev uq:Func:=Tryz.f71
theorem VC:P.funcs[s7]?=some uq:=Tryz.func71
abbrev xS:FuncId:=79
noncomputable abbrev uz:Func:=Tryz.f79
theorem Xs:P.funcs[xS]?=some uz:=Tryz.func79
abbrev It:FuncId:=82
noncomputable abbrev Hx:Func:=Tryz.f82
theorem OY:P.funcs[It]?=some Hx:=Tryz.func82
abbrev xW:FuncId:=83
noncomputable abbrev tq:Func:=Tryz.f83
theorem JP:P.funcs[xW]?=some tq:=Tryz.func83
abbrev oA:FuncId:=84
noncomputable abbrev ve:Func:=Tryz.f84
theorem Yv:P.funcs[oA]?=some ve:=Tryz.func84
abbrev tN:FuncId:=85
noncomputable abbrev vc:Func:=Tryz.f85
theorem Wr:P.funcs[tN]?=some vc:=Tryz.func85
abbrev nC:FuncId:=86
noncomputable abbrev tT:Func:=Tryz.f86
theorem Zj:P.funcs[nC]?=some tT:=Tryz.func86
abbrev xo:FuncId:=87
noncomputable abbrev tR:Func:=Tryz.f87
theorem LS:P.funcs[xo]?=some tR:=Tryz.func87
abbrev xj:FuncId:=92
noncomputable abbrev rR:Func:=Tryz.f92
theorem XI:P.funcs[xj]?=some rR:=Tryz.func92
abbrev sX:FuncId:=94
noncomputable abbrev uH:Func:=Tryz.f94
theorem SY:P.funcs[sX]?=some uH:=Tryz.func94
abbrev tf:FuncId:=95
noncomputable abbrev vq:Func:=Tryz.f95
theorem Uz:P.funcs[tf]?=some vq:=Tryz.func95
abbrev oP:FuncId:=96
noncomputable abbrev tv:Func:=Tryz.f96
theorem Ym:P.funcs[oP]?=some tv:=Tryz.func96
abbrev tL:FuncId:=97
noncomputable abbrev sq:Func:=Tryz.f97
theorem KS:P.funcs[tL]?=some sq:=Tryz.func97
abbrev ug:FuncId:=99
noncomputable abbrev tY:Func:=Tryz.f99
theorem Y4:P.funcs[ug]?=some tY:=Tryz.func99
abbrev xL:FuncId:=100
noncomputable abbrev uJ:Func:=Tryz.f100
theorem Od:P.funcs[xL]?=some uJ:=Tryz.func100
abbrev gu:FuncId:=101
noncomputable abbrev vD:Func:=Tryz.f101
theorem Qw:P.funcs[gu]?=some vD:=Tryz.func101
abbrev qV:FuncId:=102
noncomputable abbrev rW:Func:=Tryz.f102
theorem Vs:P.funcs[qV]?=some rW:=Tryz.func102
abbrev qi:FuncId:=103
noncomputable abbrev nU:Func:=Tryz.f103
theorem LQ:P.funcs[qi]?=some nU:=Tryz.func103
abbrev nV:FuncId:=104
noncomputable abbrev uG:Func:=Tryz.f104
theorem Jv:P.funcs[nV]?=some uG:=Tryz.func104
abbrev wO:FuncId:=105
noncomputable abbrev rY:Func:=Tryz.f105
theorem LA:P.funcs[wO]?=some rY:=Tryz.func105
abbrev eZ:FuncId:=106
noncomputable abbrev qE:Func:=Tryz.f106
theorem P6:P.funcs[eZ]?=some qE:=Tryz.func106
abbrev mG:FuncId:=107
noncomputable abbrev r6:Func:=Tryz.f107
theorem Ua:P.funcs[mG]?=some r6:=Tryz.func107
abbrev fV:FuncId:=108
noncomputable abbrev vM:Func:=Tryz.f108
theorem Yw:P.funcs[fV]?=some vM:=Tryz.func108
abbrev rJ:FuncId:=109
noncomputable abbrev rq:Func:=Tryz.f109
theorem Vv:P.funcs[rJ]?=some rq:=Tryz.func109
abbrev qA:FuncId:=119
noncomputable abbrev uh:Func:=Tryz.f119
theorem Ly:P.funcs[qA]?=some uh:=Tryz.func119
abbrev tu:FuncId:=120
noncomputable abbrev vE:Func:=Tryz.f120
theorem NZ:P.funcs[tu]?=some vE:=Tryz.func120
abbrev pU:FuncId:=121
noncomputable abbrev uR:Func:=Tryz.f121
theorem OE:P.funcs[pU]?=some uR:=Tryz.func121
abbrev rI:FuncId:=123
noncomputable abbrev vT:Func:=Tryz.f123
theorem MD:P.funcs[rI]?=some vT:=Tryz.func123
abbrev fk:FuncId:=137
noncomputable abbrev rE:Func:=Tryz.f137
theorem Kr:P.funcs[fk]?=some rE:=Tryz.func137
abbrev vK:FuncId:=145
noncomputable abbrev iF:Func:=Tryz.f145
theorem MG:P.funcs[vK]?=some iF:=Tryz.func145
abbrev qc:FuncId:=146
noncomputable abbrev iU:Func:=Tryz.f146
theorem Rl:P.funcs[qc]?=some iU:=Tryz.func146
abbrev tO:FuncId:=147
noncomputable abbrev rP:Func:=Tryz.f147
theorem Y3:P.funcs[tO]?=some rP:=Tryz.func147
abbrev sO:FuncId:=148
noncomputable abbrev uA:Func:=Tryz.f148
theorem LC:P.funcs[sO]?=some uA:=Tryz.func148
abbrev qH:FuncId:=149
noncomputable abbrev fy:Func:=Tryz.f149
theorem O4:P.funcs[qH]?=some fy:=Tryz.func149
abbrev mB:FuncId:=150
noncomputable abbrev lP:Func:=Tryz.f150
theorem Pb:P.funcs[mB]?=some lP:=Tryz.func150
abbrev vF:FuncId:=151
noncomputable abbrev vh:Func:=Tryz.f151
theorem Vb:P.funcs[vF]?=some vh:=Tryz.func151
abbrev oF:FuncId:=152
noncomputable abbrev th:Func:=Tryz.f152
theorem W2:P.funcs[oF]?=some th:=Tryz.func152
abbrev qI:FuncId:=155
noncomputable abbrev pW:Func:=Tryz.f155
theorem MW:P.funcs[qI]?=some pW:=Tryz.func155
abbrev hJ:FuncId:=164
noncomputable abbrev rH:Func:=Tryz.f164
theorem Vr:P.funcs[hJ]?=some rH:=Tryz.func164
abbrev A8:FuncId:=165
noncomputable abbrev w7:Func:=Tryz.f165
theorem IN:P.funcs[A8]?=some w7:=Tryz.func165
abbrev tK:FuncId:=166
noncomputable abbrev sn:Func:=Tryz.f166
theorem KB:P.funcs[tK]?=some sn:=Tryz.func166
abbrev qS:FuncId:=167
noncomputable abbrev uQ:Func:=Tryz.f167
theorem WT:P.funcs[qS]?=some uQ:=Tryz.func167
abbrev uk:FuncId:=170
noncomputable abbrev vg:Func:=Tryz.f170
theorem Pm:P.funcs[uk]?=some vg:=Tryz.func170
abbrev qo:FuncId:=173
noncomputable abbrev vj:Func:=Tryz.f173
theorem LG:P.funcs[qo]?=some vj:=Tryz.func173
abbrev mD:FuncId:=174
noncomputable abbrev qB:Func:=Tryz.f174
theorem J1:P.funcs[mD]?=some qB:=Tryz.func174
abbrev xg:FuncId:=175
noncomputable abbrev v7:Func:=Tryz.f175
theorem VG:P.funcs[xg]?=some v7:=Tryz.func175
abbrev lV:FuncId:=176
noncomputable abbrev s9:Func:=Tryz.f176
theorem LX:P.funcs[lV]?=some s9:=Tryz.func176
abbrev qb:FuncId:=178
noncomputable abbrev qp:Func:=Tryz.f178
theorem QI:P.funcs[qb]?=some qp:=Tryz.func178
abbrev vX:FuncId:=179
noncomputable abbrev uy:Func:=Tryz.f179
theorem XZ:P.funcs[vX]?=some uy:=Tryz.func179
abbrev rK:FuncId:=180
noncomputable abbrev kJ:Func:=Tryz.f180
theorem TU:P.funcs[rK]?=some kJ:=Tryz.func180
abbrev oQ:FuncId:=182
noncomputable abbrev xk:Func:=Tryz.f182
theorem JO:P.funcs[oQ]?=some xk:=Tryz.func182
abbrev r8:FuncId:=183
noncomputable abbrev rm:Func:=Tryz.f183
theorem Sm:P.funcs[r8]?=some rm:=Tryz.func183
abbrev pI:FuncId:=184
noncomputable abbrev vI:Func:=Tryz.f184
theorem XP:P.funcs[pI]?=some vI:=Tryz.func184
abbrev pL:FuncId:=185
noncomputable abbrev fM:Func:=Tryz.f185
theorem UO:P.funcs[pL]?=some fM:=Tryz.func185
abbrev qJ:FuncId:=186
noncomputable abbrev vt:Func:=Tryz.f186
theorem Sd:P.funcs[qJ]?=some vt:=Tryz.func186
abbrev qT:FuncId:=187
noncomputable abbrev s8:Func:=Tryz.f187
theorem Xi:P.funcs[qT]?=some s8:=Tryz.func187
abbrev p7:FuncId:=188
noncomputable abbrev tI:Func:=Tryz.f188
theorem M0:P.funcs[p7]?=some tI:=Tryz.func188
abbrev oe:FuncId:=190
noncomputable abbrev qO:Func:=Tryz.f190
theorem VZ:P.funcs[oe]?=some qO:=Tryz.func190
abbrev vp:FuncId:=191
noncomputable abbrev dI:Func:=Tryz.f191
theorem WX:P.funcs[vp]?=some dI:=Tryz.func191
abbrev sA:FuncId:=192
noncomputable abbrev r9:Func:=Tryz.f192
theorem X9:P.funcs[sA]?=some r9:=Tryz.func192
abbrev oJ:FuncId:=193
noncomputable abbrev sN:Func:=Tryz.f193
theorem X0:P.funcs[oJ]?=some sN:=Tryz.func193
abbrev p5:FuncId:=194
noncomputable abbrev cI:Func:=Tryz.f194
theorem Rx:P.funcs[p5]?=some cI:=Tryz.func194
abbrev rB:FuncId:=195
noncomputable abbrev gq:Func:=Tryz.f195
theorem WD:P.funcs[rB]?=some gq:=Tryz.func195
abbrev yN:FuncId:=201
noncomputable abbrev vH:Func:=Tryz.f201
theorem OT:P.funcs[yN]?=some vH:=Tryz.func201
abbrev wC:FuncId:=202
noncomputable abbrev tV:Func:=Tryz.f202
theorem YK:P.funcs[wC]?=some tV:=Tryz.func202
abbrev pN:FuncId:=204
noncomputable abbrev lI:Func:=Tryz.f204
theorem MP:P.funcs[pN]?=some lI:=Tryz.func204
abbrev pE:FuncId:=207
noncomputable abbrev og:Func:=Tryz.f207
theorem Ze:P.funcs[pE]?=some og:=Tryz.func207
abbrev kH:FuncId:=208
noncomputable abbrev ji:Func:=Tryz.f208
theorem VF:P.funcs[kH]?=some ji:=Tryz.func208
abbrev uZ:FuncId:=209
noncomputable abbrev gV:Func:=Tryz.f209
theorem Nk:P.funcs[uZ]?=some gV:=Tryz.func209
abbrev oL:FuncId:=210
noncomputable abbrev ey:Func:=Tryz.f210
theorem Xu:P.funcs[oL]?=some ey:=Tryz.func210
abbrev sY:FuncId:=211
noncomputable abbrev mX:Func:=Tryz.f211
theorem Rg:P.funcs[sY]?=some mX:=Tryz.func211
abbrev rO:FuncId:=212
noncomputable abbrev uK:Func:=Tryz.f212
theorem Wn:P.funcs[rO]?=some uK:=Tryz.func212
abbrev m8:FuncId:=215
noncomputable abbrev lX:Func:=Tryz.f215
theorem X1:P.funcs[m8]?=some lX:=Tryz.func215
abbrev Ei:FuncId:=216
noncomputable abbrev CB:Func:=Tryz.f216
theorem PG:P.funcs[Ei]?=some CB:=Tryz.func216
abbrev qF:FuncId:=217
noncomputable abbrev tW:Func:=Tryz.f217
theorem Lb:P.funcs[qF]?=some tW:=Tryz.func217
abbrev wB:FuncId:=218
noncomputable abbrev iN:Func:=Tryz.f218
theorem Oa:P.funcs[wB]?=some iN:=Tryz.func218
abbrev nX:FuncId:=219
noncomputable abbrev fL:Func:=Tryz.f219
theorem YC:P.funcs[nX]?=some fL:=Tryz.func219
abbrev oq:FuncId:=220
noncomputable abbrev vR:Func:=Tryz.f220
theorem QA:P.funcs[oq]?=some vR:=Tryz.func220
abbrev nQ:FuncId:=221
noncomputable abbrev tC:Func:=Tryz.f221
theorem T7:P.funcs[nQ]?=some tC:=Tryz.func221
abbrev pQ:FuncId:=222
noncomputable abbrev cN:Func:=Tryz.f222
theorem TW:P.funcs[pQ]?=some cN:=Tryz.func222
abbrev q9:FuncId:=223
noncomputable abbrev kZ:Func:=Tryz.f223
theorem Kq:P.funcs[q9]?=some kZ:=Tryz.func223
abbrev pe:FuncId:=224
noncomputable abbrev ur:Func:=Tryz.f224
theorem Sj:P.funcs[pe]?=some ur:=Tryz.func224
abbrev pV:FuncId:=225
noncomputable abbrev uS:Func:=Tryz.f225
theorem TM:P.funcs[pV]?=some uS:=Tryz.func225
abbrev Bm:FuncId:=226
noncomputable abbrev RP:Func:=Tryz.f226
theorem Kt:P.funcs[Bm]?=some RP:=Tryz.func226
abbrev pY:FuncId:=227
noncomputable abbrev gh:Func:=Tryz.f227
theorem TJ:P.funcs[pY]?=some gh:=Tryz.func227
abbrev rN:FuncId:=228
noncomputable abbrev jx:Func:=Tryz.f228
theorem Ni:P.funcs[rN]?=some jx:=Tryz.func228
abbrev u7:FuncId:=229
noncomputable abbrev l7:Func:=Tryz.f229
theorem Rs:P.funcs[u7]?=some l7:=Tryz.func229
abbrev tB:FuncId:=230
noncomputable abbrev lQ:Func:=Tryz.f230
theorem NA:P.funcs[tB]?=some lQ:=Tryz.func230
abbrev rC:FuncId:=231
noncomputable abbrev nI:Func:=Tryz.f231
theorem IU:P.funcs[rC]?=some nI:=Tryz.func231
abbrev sU:FuncId:=235
noncomputable abbrev ua:Func:=Tryz.f235
theorem O2:P.funcs[sU]?=some ua:=Tryz.func235
abbrev ql:FuncId:=237
noncomputable abbrev uj:Func:=Tryz.f237
theorem RF:P.funcs[ql]?=some uj:=Tryz.func237
abbrev sr:FuncId:=238
noncomputable abbrev lM:Func:=Tryz.f238
theorem WY:P.funcs[sr]?=some lM:=Tryz.func238
abbrev vU:FuncId:=239
noncomputable abbrev kQ:Func:=Tryz.f239
theorem Ox:P.funcs[vU]?=some kQ:=Tryz.func239
abbrev rX:FuncId:=240
noncomputable abbrev qR:Func:=Tryz.f240
theorem LN:P.funcs[rX]?=some qR:=Tryz.func240
abbrev uD:FuncId:=241
noncomputable abbrev ri:Func:=Tryz.f241
theorem X3:P.funcs[uD]?=some ri:=Tryz.func241
abbrev r5:FuncId:=242
noncomputable abbrev kW:Func:=Tryz.f242
theorem Mg:P.funcs[r5]?=some kW:=Tryz.func242
abbrev rS:FuncId:=246
noncomputable abbrev lR:Func:=Tryz.f246
theorem Qk:P.funcs[rS]?=some lR:=Tryz.func246
abbrev tE:FuncId:=247
noncomputable abbrev sZ:Func:=Tryz.f247
theorem Xf:P.funcs[tE]?=some sZ:=Tryz.func247
abbrev rG:FuncId:=248
noncomputable abbrev ju:Func:=Tryz.f248
theorem Ue:P.funcs[rG]?=some ju:=Tryz.func248
abbrev Fj:TI:=⟨.int .i64,1,8,.int .i64 0⟩
theorem Y5:bw P 2 Fj:=b6 (by kernel_rfl) (by kernel_rfl) (by kernel_rfl)
abbrev Ek:TI:=⟨.int .i64,1,8,.int .i64 0⟩
theorem OH:bw P 3 Ek:=b6 (by kernel_rfl) (by kernel_rfl) (by kernel_rfl)
abbrev CZ:TI:=⟨.bool,1,1,.bool false⟩
theorem QN:bw P 4 CZ:=b6 (by kernel_rfl) (by kernel_rfl) (by kernel_rfl)
abbrev Cx:TI:=⟨.int .u8,1,1,.int .u8 0⟩
theorem LO:bw P 5 Cx:=b6 (by kernel_rfl) (by kernel_rfl) (by kernel_rfl)
abbrev D5:TI:=⟨.int .u8,1,1,.int .u8 0⟩
theorem WI:bw P 6 D5:=b6 (by kernel_rfl) (by kernel_rfl) (by kernel_rfl)
abbrev Hz:TI:=⟨.struct #[{name:= "x",type:=2,offset:=0,embedded:=false,tag:= "",pkgPath:= "runtime",byteOffset:=0},{name:= "y",type:=3,offset:=1,embedded:=false,tag:= "",pkgPath:= "runtime",byteOffset:=8},{name:= "signed",type:=4,offset:=2,embedded:=false,tag:= "",pkgPath:= "runtime",byteOffset:=16},{name:= "code",type:=6,offset:=3,embedded:=false,tag:= "",pkgPath:= "runtime",byteOffset:=17}],4,24,.agg [.int .i64 0,.int .i64 0,.bool false,.int .u8 0]⟩
theorem SS:bw P 7 Hz:=b6 (by kernel_rfl) (by kernel_rfl) (by kernel_rfl)
abbrev Gd:TI:=⟨.struct #[{name:= "x",type:=2,offset:=0,embedded:=false,tag:= "",pkgPath:= "runtime",byteOffset:=0},{name:= "y",type:=3,offset:=1,embedded:=false,tag:= "",pkgPath:= "runtime",byteOffset:=8},{name:= "signed",type:=4,offset:=2,embedded:=false,tag:= "",pkgPath:= "runtime",byteOffset:=16},{name:= "code",type:=6,offset:=3,embedded:=false,tag:= "",pkgPath:= "runtime",byteOffset:=17}],4,24,.agg [.int .i64 0,.int .i64 0,.bool false,.int .u8 0]⟩
theorem KN:bw P 8 Gd:=b6 (by kernel_rfl) (by kernel_rfl) (by kernel_rfl)
abbrev Im:TI:=⟨.string,1,16,.tuple []⟩
theorem XW:bw P 9 Im:=gn (by kernel_rfl) (by kernel_rfl) rfl
abbrev EX:TI:=⟨.string,1,16,.tuple []⟩
theorem YM:bw P 10 EX:=gn (by kernel_rfl) (by kernel_rfl) rfl
abbrev DS:TI:=⟨.string,1,16,.tuple []⟩
theorem Xn:bw P 11 DS:=gn (by kernel_rfl) (by kernel_rfl) rfl
abbrev F5:TI:=⟨.int .u64,1,8,.int .u64 0⟩
theorem Wk:bw P 12 F5:=b6 (by kernel_rfl) (by kernel_rfl) (by kernel_rfl)
abbrev Eo:TI:=⟨.struct #[{name:= "msg",type:=9,offset:=0,embedded:=false,tag:= "",pkgPath:= "runtime",byteOffset:=0},{name:= "addr",type:=12,offset:=1,embedded:=false,tag:= "",pkgPath:= "runtime",byteOffset:=16}],2,24,.tuple []⟩
theorem Rn:bw P 13 Eo:=gn (by kernel_rfl) (by kernel_rfl) rfl
abbrev Ew:TI:=⟨.struct #[{name:= "msg",type:=9,offset:=0,embedded:=false,tag:= "",pkgPath:= "runtime",byteOffset:=0},{name:= "addr",type:=12,offset:=1,embedded:=false,tag:= "",pkgPath:= "runtime",byteOffset:=16}],2,24,.tuple []⟩
theorem NI:bw P 14 Ew:=gn (by kernel_rfl) (by kernel_rfl) rfl
abbrev Cd:TI:=⟨.pointer 242,1,8,.tuple []⟩
theorem SG:bw P 15 Cd:=gn (by kernel_rfl) (by kernel_rfl) rfl
abbrev Ht:TI:=⟨.pointer 245,1,8,.tuple []⟩
theorem Nd:bw P 16 Ht:=gn (by kernel_rfl) (by kernel_rfl) rfl
abbrev E5:TI:=⟨.pointer 254,1,8,.tuple []⟩
theorem Zk:bw P 17 E5:=gn (by kernel_rfl) (by kernel_rfl) rfl
abbrev Dc:TI:=⟨.struct #[{name:= "typ",type:=17,offset:=0,embedded:=false,tag:= "",pkgPath:= "internal/runtime/maps",byteOffset:=0}],1,8,.tuple []⟩
theorem RO:bw P 18 Dc:=gn (by kernel_rfl) (by kernel_rfl) rfl
abbrev Cs:TI:=⟨.struct #[{name:= "typ",type:=17,offset:=0,embedded:=false,tag:= "",pkgPath:= "internal/runtime/maps",byteOffset:=0}],1,8,.tuple []⟩
theorem PF:bw P 19 Cs:=gn (by kernel_rfl) (by kernel_rfl) rfl
abbrev HF:TI:=⟨.int .i32,1,4,.int .i32 0⟩
theorem RZ:bw P 21 HF:=b6 (by kernel_rfl) (by kernel_rfl) (by kernel_rfl)
abbrev G5:TI:=⟨.slice 3,1,24,.nil⟩
theorem Mr:bw P 22 G5:=b6 (by kernel_rfl) (by kernel_rfl) (by kernel_rfl)
abbrev G9:TI:=⟨.slice 32,1,24,.nil⟩
theorem TS:bw P 25 G9:=b6 (by kernel_rfl) (by kernel_rfl) (by kernel_rfl)
abbrev GM:TI:=⟨.slice 45,1,24,.nil⟩
theorem Ro:bw P 26 GM:=b6 (by kernel_rfl) (by kernel_rfl) (by kernel_rfl)
abbrev Gf:TI:=⟨.struct #[{name:= "U",type:=3,offset:=0,embedded:=false,tag:= "",pkgPath:= "",byteOffset:=0},{name:= "V",type:=3,offset:=1,embedded:=false,tag:= "",pkgPath:= "",byteOffset:=8},{name:= "KnotsU",type:=25,offset:=2,embedded:=false,tag:= "",pkgPath:= "",byteOffset:=16},{name:= "KnotsV",type:=25,offset:=3,embedded:=false,tag:= "",pkgPath:= "",byteOffset:=40},{name:= "Poles",type:=26,offset:=4,embedded:=false,tag:= "",pkgPath:= "",byteOffset:=64}],5,88,.agg [.int .i64 0,.int .i64 0,.nil,.nil,.nil]⟩
theorem I5:bw P 27 Gf:=b6 (by kernel_rfl) (by kernel_rfl) (by kernel_rfl)
abbrev CM:TI:=⟨.struct #[{name:= "U",type:=3,offset:=0,embedded:=false,tag:= "",pkgPath:= "",byteOffset:=0},{name:= "V",type:=3,offset:=1,embedded:=false,tag:= "",pkgPath:= "",byteOffset:=8},{name:= "KnotsU",type:=25,offset:=2,embedded:=false,tag:= "",pkgPath:= "",byteOffset:=16},{name:= "KnotsV",type:=25,offset:=3,embedded:=false,tag:= "",pkgPath:= "",byteOffset:=40},{name:= "Poles",type:=26,offset:=4,embedded:=false,tag:= "",pkgPath:= "",byteOffset:=64}],5,88,.agg [.int .i64 0,.int .i64 0,.nil,.nil,.nil]⟩
theorem LI:bw P 28 CM:=b6 (by kernel_rfl) (by kernel_rfl) (by kernel_rfl)
abbrev Ie:TI:=⟨.slice 194,1,24,.nil⟩
theorem NU:bw P 30 Ie:=b6 (by kernel_rfl) (by kernel_rfl) (by kernel_rfl)
abbrev E3:TI:=⟨.struct #[{name:= "Neg",type:=4,offset:=0,embedded:=false,tag:= "",pkgPath:= "",byteOffset:=0},{name:= "Num",type:=30,offset:=1,embedded:=false,tag:= "",pkgPath:= "",byteOffset:=8},{name:= "Den",type:=30,offset:=2,embedded:=false,tag:= "",pkgPath:= "",byteOffset:=32}],3,56,.agg [.bool false,.nil,.nil]⟩
theorem Sr:bw P 31 E3:=b6 (by kernel_rfl) (by kernel_rfl) (by kernel_rfl)
abbrev Gc:TI:=⟨.struct #[{name:= "Neg",type:=4,offset:=0,embedded:=false,tag:= "",pkgPath:= "",byteOffset:=0},{name:= "Num",type:=30,offset:=1,embedded:=false,tag:= "",pkgPath:= "",byteOffset:=8},{name:= "Den",type:=30,offset:=2,embedded:=false,tag:= "",pkgPath:= "",byteOffset:=32}],3,56,.rat 0 1⟩
theorem Ob:bw P 32 Gc:=b6 (by kernel_rfl) (by kernel_rfl) (by kernel_rfl)
abbrev DH:TI:=⟨.struct #[{name:= "Lo",type:=32,offset:=0,embedded:=false,tag:= "",pkgPath:= "",byteOffset:=0},{name:= "Hi",type:=32,offset:=3,embedded:=false,tag:= "",pkgPath:= "",byteOffset:=56}],6,112,.agg [.rat 0 1,.rat 0 1]⟩
theorem UN:bw P 33 DH:=b6 (by kernel_rfl) (by kernel_rfl) (by kernel_rfl)
abbrev EF:TI:=⟨.struct #[{name:= "Lo",type:=32,offset:=0,embedded:=false,tag:= "",pkgPath:= "",byteOffset:=0},{name:= "Hi",type:=32,offset:=3,embedded:=false,tag:= "",pkgPath:= "",byteOffset:=56}],6,112,.agg [.rat 0 1,.rat 0 1]⟩
theorem TK:bw P 34 EF:=b6 (by kernel_rfl) (by kernel_rfl) (by kernel_rfl)
abbrev HK:TI:=⟨.array 3 32,9,168,.agg [.rat 0 1,.rat 0 1,.rat 0 1]⟩
theorem UH:bw P 40 HK:=b6 (by kernel_rfl) (by kernel_rfl) (by kernel_rfl)
abbrev DO:TI:=⟨.array 3 32,9,168,.agg [.rat 0 1,.rat 0 1,.rat 0 1]⟩
theorem Rh:bw P 41 DO:=b6 (by kernel_rfl) (by kernel_rfl) (by kernel_rfl)
abbrev HI:TI:=⟨.int .i64,1,8,.int .i64 0⟩
theorem Nq:bw P 42 HI:=b6 (by kernel_rfl) (by kernel_rfl) (by kernel_rfl)
abbrev Gz:TI:=⟨.slice 64,1,24,.nil⟩
theorem IL:bw P 45 Gz:=b6 (by kernel_rfl) (by kernel_rfl) (by kernel_rfl)
abbrev CU:TI:=⟨.struct #[{name:= "Degree",type:=3,offset:=0,embedded:=false,tag:= "",pkgPath:= "",byteOffset:=0},{name:= "Knots",type:=25,offset:=1,embedded:=false,tag:= "",pkgPath:= "",byteOffset:=8},{name:= "Poles",type:=45,offset:=2,embedded:=false,tag:= "",pkgPath:= "",byteOffset:=32}],3,56,.agg [.int .i64 0,.nil,.nil]⟩
theorem Oc:bw P 46 CU:=b6 (by kernel_rfl) (by kernel_rfl) (by kernel_rfl)
abbrev CA:TI:=⟨.struct #[{name:= "Degree",type:=3,offset:=0,embedded:=false,tag:= "",pkgPath:= "",byteOffset:=0},{name:= "Knots",type:=25,offset:=1,embedded:=false,tag:= "",pkgPath:= "",byteOffset:=8},{name:= "Poles",type:=45,offset:=2,embedded:=false,tag:= "",pkgPath:= "",byteOffset:=32}],3,56,.agg [.int .i64 0,.nil,.nil]⟩
theorem Y1:bw P 47 CA:=b6 (by kernel_rfl) (by kernel_rfl) (by kernel_rfl)
abbrev CD:TI:=⟨.struct #[{name:= "P",type:=41,offset:=0,embedded:=false,tag:= "",pkgPath:= "",byteOffset:=0},{name:= "W",type:=32,offset:=9,embedded:=false,tag:= "",pkgPath:= "",byteOffset:=168}],12,224,.agg [.agg [.rat 0 1,.rat 0 1,.rat 0 1],.rat 0 1]⟩
theorem TD:bw P 63 CD:=b6 (by kernel_rfl) (by kernel_rfl) (by kernel_rfl)
abbrev Ge:TI:=⟨.struct #[{name:= "P",type:=41,offset:=0,embedded:=false,tag:= "",pkgPath:= "",byteOffset:=0},{name:= "W",type:=32,offset:=9,embedded:=false,tag:= "",pkgPath:= "",byteOffset:=168}],12,224,.agg [.agg [.rat 0 1,.rat 0 1,.rat 0 1],.rat 0 1]⟩
theorem WV:bw P 64 Ge:=b6 (by kernel_rfl) (by kernel_rfl) (by kernel_rfl)
abbrev Gv:TI:=⟨.pointer 139,1,8,.tuple []⟩
theorem Rp:bw P 69 Gv:=gn (by kernel_rfl) (by kernel_rfl) rfl
abbrev Gy:TI:=⟨.slice 47,1,24,.nil⟩
theorem J0:bw P 73 Gy:=b6 (by kernel_rfl) (by kernel_rfl) (by kernel_rfl)
abbrev Dp:TI:=⟨.array 3 41,27,504,.agg [.agg [.rat 0 1,.rat 0 1,.rat 0 1],.agg [.rat 0 1,.rat 0 1,.rat 0 1],.agg [.rat 0 1,.rat 0 1,.rat 0 1]]⟩
theorem JF:bw P 75 Dp:=b6 (by kernel_rfl) (by kernel_rfl) (by kernel_rfl)
abbrev EP:TI:=⟨.struct #[{name:= "M",type:=75,offset:=0,embedded:=false,tag:= "",pkgPath:= "",byteOffset:=0},{name:= "T",type:=41,offset:=27,embedded:=false,tag:= "",pkgPath:= "",byteOffset:=504}],36,672,.agg [.agg [.agg [.rat 0 1,.rat 0 1,.rat 0 1],.agg [.rat 0 1,.rat 0 1,.rat 0 1],.agg [.rat 0 1,.rat 0 1,.rat 0 1]],.agg [.rat 0 1,.rat 0 1,.rat 0 1]]⟩
theorem PY:bw P 76 EP:=b6 (by kernel_rfl) (by kernel_rfl) (by kernel_rfl)
abbrev Fk:TI:=⟨.struct #[{name:= "M",type:=75,offset:=0,embedded:=false,tag:= "",pkgPath:= "",byteOffset:=0},{name:= "T",type:=41,offset:=27,embedded:=false,tag:= "",pkgPath:= "",byteOffset:=504}],36,672,.agg [.agg [.agg [.rat 0 1,.rat 0 1,.rat 0 1],.agg [.rat 0 1,.rat 0 1,.rat 0 1],.agg [.rat 0 1,.rat 0 1,.rat 0 1]],.agg [.rat 0 1,.rat 0 1,.rat 0 1]]⟩
theorem S4:bw P 77 Fk:=b6 (by kernel_rfl) (by kernel_rfl) (by kernel_rfl)
abbrev FI:TI:=⟨.slice 99,1,24,.nil⟩
theorem I4:bw P 93 FI:=b6 (by kernel_rfl) (by kernel_rfl) (by kernel_rfl)
abbrev Cw:TI:=⟨.struct #[{name:= "Degree",type:=3,offset:=0,embedded:=false,tag:= "",pkgPath:= "",byteOffset:=0},{name:= "Knots",type:=25,offset:=1,embedded:=false,tag:= "",pkgPath:= "",byteOffset:=8},{name:= "C",type:=93,offset:=2,embedded:=false,tag:= "",pkgPath:= "",byteOffset:=32}],3,56,.agg [.int .i64 0,.nil,.nil]⟩
theorem Jr:bw P 94 Cw:=b6 (by kernel_rfl) (by kernel_rfl) (by kernel_rfl)
abbrev Ef:TI:=⟨.struct #[{name:= "Degree",type:=3,offset:=0,embedded:=false,tag:= "",pkgPath:= "",byteOffset:=0},{name:= "Knots",type:=25,offset:=1,embedded:=false,tag:= "",pkgPath:= "",byteOffset:=8},{name:= "C",type:=93,offset:=2,embedded:=false,tag:= "",pkgPath:= "",byteOffset:=32}],3,56,.agg [.int .i64 0,.nil,.nil]⟩
theorem VT:bw P 95 Ef:=b6 (by kernel_rfl) (by kernel_rfl) (by kernel_rfl)
abbrev DR:TI:=⟨.array 4 32,12,224,.agg [.rat 0 1,.rat 0 1,.rat 0 1,.rat 0 1]⟩
theorem OS:bw P 98 DR:=b6 (by kernel_rfl) (by kernel_rfl) (by kernel_rfl)
abbrev Gx:TI:=⟨.array 4 32,12,224,.agg [.rat 0 1,.rat 0 1,.rat 0 1,.rat 0 1]⟩
theorem Wc:bw P 99 Gx:=b6 (by kernel_rfl) (by kernel_rfl) (by kernel_rfl)
abbrev Hr:TI:=⟨.struct #[{name:= "L",type:=22,offset:=0,embedded:=false,tag:= "",pkgPath:= "",byteOffset:=0},{name:= "At",type:=3,offset:=1,embedded:=false,tag:= "",pkgPath:= "",byteOffset:=24}],2,32,.agg [.nil,.int .i64 0]⟩
theorem Q6:bw P 138 Hr:=b6 (by kernel_rfl) (by kernel_rfl) (by kernel_rfl)
abbrev DV:TI:=⟨.struct #[{name:= "L",type:=22,offset:=0,embedded:=false,tag:= "",pkgPath:= "",byteOffset:=0},{name:= "At",type:=3,offset:=1,embedded:=false,tag:= "",pkgPath:= "",byteOffset:=24}],2,32,.agg [.nil,.int .i64 0]⟩
theorem VI:bw P 139 DV:=b6 (by kernel_rfl) (by kernel_rfl) (by kernel_rfl)
abbrev Il:TI:=⟨.array 4 25,4,96,.agg [.nil,.nil,.nil,.nil]⟩
theorem XK:bw P 143 Il:=b6 (by kernel_rfl) (by kernel_rfl) (by kernel_rfl)
abbrev F6:TI:=⟨.slice 95,1,24,.nil⟩
theorem Qt:bw P 172 F6:=b6 (by kernel_rfl) (by kernel_rfl) (by kernel_rfl)
abbrev Cp:TI:=⟨.array 2 32,6,112,.agg [.rat 0 1,.rat 0 1]⟩
theorem W0:bw P 186 Cp:=b6 (by kernel_rfl) (by kernel_rfl) (by kernel_rfl)
abbrev DL:TI:=⟨.int .u64,1,8,.int .u64 0⟩
theorem VQ:bw P 189 DL:=b6 (by kernel_rfl) (by kernel_rfl) (by kernel_rfl)
abbrev HA:TI:=⟨.int .u32,1,4,.int .u32 0⟩
theorem Zd:bw P 194 HA:=b6 (by kernel_rfl) (by kernel_rfl) (by kernel_rfl)
abbrev HO:TI:=⟨.slice 5,1,24,.nil⟩
theorem Ve:bw P 210 HO:=b6 (by kernel_rfl) (by kernel_rfl) (by kernel_rfl)
abbrev GW:TI:=⟨.int .u64,1,8,.int .u64 0⟩
theorem UR:bw P 213 GW:=b6 (by kernel_rfl) (by kernel_rfl) (by kernel_rfl)
abbrev Gp:TI:=⟨.slice 25,1,24,.nil⟩
theorem Lw:bw P 232 Gp:=b6 (by kernel_rfl) (by kernel_rfl) (by kernel_rfl)
abbrev FV:TI:=⟨.struct #[{name:= "_interface",type:=17,offset:=0,embedded:=false,tag:= "",pkgPath:= "runtime",byteOffset:=0},{name:= "concrete",type:=17,offset:=1,embedded:=false,tag:= "",pkgPath:= "runtime",byteOffset:=8},{name:= "asserted",type:=17,offset:=2,embedded:=false,tag:= "",pkgPath:= "runtime",byteOffset:=16},{name:= "missingMethod",type:=9,offset:=3,embedded:=false,tag:= "",pkgPath:= "runtime",byteOffset:=24}],4,40,.tuple []⟩
theorem W7:bw P 241 FV:=gn (by kernel_rfl) (by kernel_rfl) rfl
abbrev Eb:TI:=⟨.struct #[{name:= "_interface",type:=17,offset:=0,embedded:=false,tag:= "",pkgPath:= "runtime",byteOffset:=0},{name:= "concrete",type:=17,offset:=1,embedded:=false,tag:= "",pkgPath:= "runtime",byteOffset:=8},{name:= "asserted",type:=17,offset:=2,embedded:=false,tag:= "",pkgPath:= "runtime",byteOffset:=16},{name:= "missingMethod",type:=9,offset:=3,embedded:=false,tag:= "",pkgPath:= "runtime",byteOffset:=24}],4,40,.tuple []⟩
theorem Jf:bw P 242 Eb:=gn (by kernel_rfl) (by kernel_rfl) rfl
abbrev CJ:TI:=⟨.int .u8,1,1,.int .u8 0⟩
theorem Xw:bw P 247 CJ:=b6 (by kernel_rfl) (by kernel_rfl) (by kernel_rfl)
abbrev FW:TI:=⟨.int .u8,1,1,.int .u8 0⟩
theorem Jj:bw P 248 FW:=b6 (by kernel_rfl) (by kernel_rfl) (by kernel_rfl)
abbrev Ey:TI:=⟨.pointer 5,1,8,.tuple []⟩
theorem ON:bw P 250 Ey:=gn (by kernel_rfl) (by kernel_rfl) rfl
abbrev Fe:TI:=⟨.int .i32,1,4,.int .i32 0⟩
theorem Sc:bw P 251 Fe:=b6 (by kernel_rfl) (by kernel_rfl) (by kernel_rfl)
abbrev Fh:TI:=⟨.int .i32,1,4,.int .i32 0⟩
theorem O1:bw P 252 Fh:=b6 (by kernel_rfl) (by kernel_rfl) (by kernel_rfl)
abbrev GU:TI:=⟨.struct #[{name:= "Size_",type:=12,offset:=0,embedded:=false,tag:= "",pkgPath:= "",byteOffset:=0},{name:= "PtrBytes",type:=12,offset:=1,embedded:=false,tag:= "",pkgPath:= "",byteOffset:=8},{name:= "Hash",type:=194,offset:=2,embedded:=false,tag:= "",pkgPath:= "",byteOffset:=16},{name:= "TFlag",type:=247,offset:=3,embedded:=false,tag:= "",pkgPath:= "",byteOffset:=20},{name:= "Align_",type:=5,offset:=4,embedded:=false,tag:= "",pkgPath:= "",byteOffset:=21},{name:= "FieldAlign_",type:=5,offset:=5,embedded:=false,tag:= "",pkgPath:= "",byteOffset:=22},{name:= "Kind_",type:=248,offset:=6,embedded:=false,tag:= "",pkgPath:= "",byteOffset:=23},{name:= "Equal",type:=249,offset:=7,embedded:=false,tag:= "",pkgPath:= "",byteOffset:=24},{name:= "GCData",type:=250,offset:=8,embedded:=false,tag:= "",pkgPath:= "",byteOffset:=32},{name:= "Str",type:=251,offset:=9,embedded:=false,tag:= "",pkgPath:= "",byteOffset:=40},{name:= "PtrToThis",type:=252,offset:=10,embedded:=false,tag:= "",pkgPath:= "",byteOffset:=44}],11,48,.tuple []⟩
theorem Jt:bw P 253 GU:=gn (by kernel_rfl) (by kernel_rfl) rfl
abbrev GN:TI:=⟨.struct #[{name:= "Size_",type:=12,offset:=0,embedded:=false,tag:= "",pkgPath:= "",byteOffset:=0},{name:= "PtrBytes",type:=12,offset:=1,embedded:=false,tag:= "",pkgPath:= "",byteOffset:=8},{name:= "Hash",type:=194,offset:=2,embedded:=false,tag:= "",pkgPath:= "",byteOffset:=16},{name:= "TFlag",type:=247,offset:=3,embedded:=false,tag:= "",pkgPath:= "",byteOffset:=20},{name:= "Align_",type:=5,offset:=4,embedded:=false,tag:= "",pkgPath:= "",byteOffset:=21},{name:= "FieldAlign_",type:=5,offset:=5,embedded:=false,tag:= "",pkgPath:= "",byteOffset:=22},{name:= "Kind_",type:=248,offset:=6,embedded:=false,tag:= "",pkgPath:= "",byteOffset:=23},{name:= "Equal",type:=249,offset:=7,embedded:=false,tag:= "",pkgPath:= "",byteOffset:=24},{name:= "GCData",type:=250,offset:=8,embedded:=false,tag:= "",pkgPath:= "",byteOffset:=32},{name:= "Str",type:=251,offset:=9,embedded:=false,tag:= "",pkgPath:= "",byteOffset:=40},{name:= "PtrToThis",type:=252,offset:=10,embedded:=false,tag:= "",pkgPath:= "",byteOffset:=44}],11,48,.tuple []⟩
theorem Rd:bw P 254 GN:=gn (by kernel_rfl) (by kernel_rfl) rfl
abbrev T:Types:=[(2,Fj),(3,Ek),(4,CZ),(5,Cx),(6,D5),(7,Hz),(8,Gd),(9,Im),(10,EX),(11,DS),(12,F5),(13,Eo),(14,Ew),(15,Cd),(16,Ht),(17,E5),(18,Dc),(19,Cs),(21,HF),(22,G5),(25,G9),(26,GM),(27,Gf),(28,CM),(30,Ie),(31,E3),(32,Gc),(33,DH),(34,EF),(40,HK),(41,DO),(42,HI),(45,Gz),(46,CU),(47,CA),(63,CD),(64,Ge),(69,Gv),(73,Gy),(75,Dp),(76,EP),(77,Fk),(93,FI),(94,Cw),(95,Ef),(98,DR),(99,Gx),(138,Hr),(139,DV),(143,Il),(172,F6),(186,Cp),(189,DL),(194,HA),(210,HO),(213,GW),(232,Gp),(241,FV),(242,Eb),(247,CJ),(248,FW),(250,Ey),(251,Fe),(252,Fh),(253,GU),(254,GN)]
theorem hT:dw P T:=bD Y5 (bD OH (bD QN (bD LO (bD WI (bD SS (bD KN (bD XW (bD YM (bD Xn (bD Wk (bD Rn (bD NI (bD SG (bD Nd (bD Zk (bD RO (bD PF (bD RZ (bD Mr (bD TS (bD Ro (bD I5 (bD LI (bD NU (bD Sr (bD Ob (bD UN (bD TK (bD UH (bD Rh (bD Nq (bD IL (bD Oc (bD Y1 (bD TD (bD WV (bD Rp (bD J0 (bD JF (bD PY (bD S4 (bD I4 (bD Jr (bD VT (bD OS (bD Wc (bD Q6 (bD VI (bD XK (bD Qt (bD W0 (bD VQ (bD Zd (bD Ve (bD UR (bD Lw (bD W7 (bD Jf (bD Xw (bD Jj (bD ON (bD Sc (bD O1 (bD Jt (bD Rd (SX))))))))))))))))))))))))))))))))))))))))))))))))))))))))))))))))))
end Go.Am.N
