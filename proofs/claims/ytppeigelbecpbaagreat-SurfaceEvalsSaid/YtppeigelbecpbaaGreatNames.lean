/- The seat's names: the numbers of functions, the types. Written by a program. -/
import Derived.Test.YtppeigelbecpbaaGreatZ2
import Derived.Test.YtppeigelbecpbaaGreatProg
import Derived.KernelRfl
set_option linter.unusedVariables false
namespace Go.Am.N
open Go.Proofs
noncomputable abbrev P:Program:=Tryz.prog
theorem hm:P.follows .mixedOrders=true:=by kernel_rfl
abbrev De:FuncId:=3
noncomputable abbrev m9:Func:=Tryz.f3
theorem Qq:P.funcs[De]?=some m9:=Tryz.func3
abbrev Bv:FuncId:=9
noncomputable abbrev s6:Func:=Tryz.f9
theorem U4:P.funcs[Bv]?=some s6:=Tryz.func9
abbrev uh:FuncId:=10
noncomputable abbrev xJ:Func:=Tryz.f10
theorem ZE:P.funcs[uh]?=some xJ:=Tryz.func10
abbrev L5:FuncId:=11
noncomputable abbrev FB:Func:=Tryz.f11
theorem R8:P.funcs[L5]?=some FB:=Tryz.func11
abbrev FK:FuncId:=12
noncomputable abbrev MP:Func:=Tryz.f12
theorem Xa:P.funcs[FK]?=some MP:=Tryz.func12
abbrev DQ:FuncId:=13
noncomputable abbrev ze:Func:=Tryz.f13
theorem YE:P.funcs[DQ]?=some ze:=Tryz.func13
abbrev o9:FuncId:=14
noncomputable abbrev vQ:Func:=Tryz.f14
theorem Uk:P.funcs[o9]?=some vQ:=Tryz.func14
abbrev A3:FuncId:=15
noncomputable abbrev uF:Func:=Tryz.f15
theorem Rm:P.funcs[A3]?=some uF:=Tryz.func15
abbrev yK:FuncId:=16
noncomputable abbrev ue:Func:=Tryz.f16
theorem OI:P.funcs[yK]?=some ue:=Tryz.func16
abbrev AQ:FuncId:=17
noncomputable abbrev u9:Func:=Tryz.f17
theorem Qj:P.funcs[AQ]?=some u9:=Tryz.func17
abbrev oZ:FuncId:=18
noncomputable abbrev pq:Func:=Tryz.f18
theorem ab6:P.funcs[oZ]?=some pq:=Tryz.func18
abbrev sS:FuncId:=19
noncomputable abbrev uB:Func:=Tryz.f19
theorem Ts:P.funcs[sS]?=some uB:=Tryz.func19
abbrev AF:FuncId:=20
noncomputable abbrev wS:Func:=Tryz.f20
theorem Rg:P.funcs[AF]?=some wS:=Tryz.func20
abbrev qL:FuncId:=21
noncomputable abbrev pn:Func:=Tryz.f21
theorem WJ:P.funcs[qL]?=some pn:=Tryz.func21
abbrev Jr:FuncId:=22
noncomputable abbrev Jz:Func:=Tryz.f22
theorem Xo:P.funcs[Jr]?=some Jz:=Tryz.func22
abbrev EK:FuncId:=23
noncomputable abbrev BX:Func:=Tryz.f23
theorem G7:P.funcs[EK]?=some BX:=Tryz.func23
abbrev A2:FuncId:=24
noncomputable abbrev tR:Func:=Tryz.f24
theorem WA:P.funcs[A2]?=some tR:=Tryz.func24
abbrev M6:FuncId:=25
noncomputable abbrev Mg:Func:=Tryz.f25
theorem Wv:P.funcs[M6]?=some Mg:=Tryz.func25
abbrev jE:FuncId:=36
noncomputable abbrev wL:Func:=Tryz.f36
theorem Ot:P.funcs[jE]?=some wL:=Tryz.func36
abbrev lY:FuncId:=37
noncomputable abbrev vX:Func:=Tryz.f37
theorem aew:P.funcs[lY]?=some vX:=Tryz.func37
abbrev A1:FuncId:=40
noncomputable abbrev zu:Func:=Tryz.f40
theorem OJ:P.funcs[A1]?=some zu:=Tryz.func40
abbrev IS:FuncId:=59
noncomputable abbrev Gm:Func:=Tryz.f59
theorem NV:P.funcs[IS]?=some Gm:=Tryz.func59
abbrev Gr:FuncId:=60
noncomputable abbrev GC:Func:=Tryz.f60
theorem WL:P.funcs[Gr]?=some GC:=Tryz.func60
abbrev uk:FuncId:=61
noncomputable abbrev lD:Func:=Tryz.f61
theorem Ti:P.funcs[uk]?=some lD:=Tryz.func61
abbrev x5:FuncId:=62
noncomputable abbrev nX:Func:=Tryz.f62
theorem ac7:P.funcs[x5]?=some nX:=Tryz.func62
abbrev oy:FuncId:=63
noncomputable abbrev uI:Func:=Tryz.f63
theorem Td:P.funcs[oy]?=some uI:=Tryz.func63
abbrev sw:FuncId:=64
noncomputable abbrev sY:Func:=Tryz.f64
theorem PB:P.funcs[sw]?=some sY:=Tryz.func64
abbrev Bq:FuncId:=65
noncomputable abbrev yC:Func:=Tryz.f65
theorem Q3:P.funcs[Bq]?=some yC:=Tryz.func65
abbrev yu:FuncId:=66
noncomputable abbrev vD:Func:=Tryz.f66
theorem aaX:P.funcs[yu]?=some vD:=Tryz.func66
abbrev rN:FuncId:=67
noncomputable abbrev oB:Func:=Tryz.f67
theorem XR:P.funcs[rN]?=some oB:=Tryz.func67
abbrev pW:FuncId:=68
noncomputable abbrev oX:Func:=Tryz.f68
theorem Ws:P.funcs[pW]?=some oX:=Tryz.func68
abbrev oS:FuncId:=69
noncomputable abbrev yT:Func:=Tryz.f69
theorem OK:P.funcs[oS]?=some yT:=Tryz.func69
abbrev Ak:FuncId:=70
noncomputable abbrev w7:Func:=Tryz.f70
theorem Wb:P.funcs[Ak]?=some w7:=Tryz.func70
abbrev qb:FuncId:=71
noncomputable abbrev wo:Func:=Tryz.f71
theorem Vh:P.funcs[qb]?=some wo:=Tryz.func71
abbrev xu:FuncId:=72
noncomputable abbrev tT:Func:=Tryz.f72
theorem RN:P.funcs[xu]?=some tT:=Tryz.func72
abbrev zD:FuncId:=73
noncomputable abbrev j5:Func:=Tryz.f73
theorem abX:P.funcs[zD]?=some j5:=Tryz.func73
abbrev oF:FuncId:=74
noncomputable abbrev ur:Func:=Tryz.f74
theorem VA:P.funcs[oF]?=some ur:=Tryz.func74
abbrev pV:FuncId:=75
noncomputable abbrev xo:Func:=Tryz.f75
theorem RR:P.funcs[pV]?=some xo:=Tryz.func75
abbrev n7:FuncId:=76
noncomputable abbrev xT:Func:=Tryz.f76
theorem Tr:P.funcs[n7]?=some xT:=Tryz.func76
abbrev Cz:FuncId:=77
noncomputable abbrev Be:Func:=Tryz.f77
theorem W1:P.funcs[Cz]?=some Be:=Tryz.func77
abbrev LI:FuncId:=78
noncomputable abbrev Nh:Func:=Tryz.f78
theorem Rb:P.funcs[LI]?=some Nh:=Tryz.func78
abbrev tr:FuncId:=79
noncomputable abbrev xX:Func:=Tryz.f79
theorem acy:P.funcs[tr]?=some xX:=Tryz.func79
abbrev wE:FuncId:=80
noncomputable abbrev tK:Func:=Tryz.f80
theorem Rc:P.funcs[wE]?=some tK:=Tryz.func80
abbrev xp:FuncId:=81
noncomputable abbrev ye:Func:=Tryz.f81
theorem XJ:P.funcs[xp]?=some ye:=Tryz.func81
abbrev ya:FuncId:=84
noncomputable abbrev sD:Func:=Tryz.f84
theorem SA:P.funcs[ya]?=some sD:=Tryz.func84
abbrev wV:FuncId:=92
noncomputable abbrev ym:Func:=Tryz.f92
theorem aaG:P.funcs[wV]?=some ym:=Tryz.func92
abbrev vN:FuncId:=94
noncomputable abbrev vK:Func:=Tryz.f94
theorem Ww:P.funcs[vN]?=some vK:=Tryz.func94
abbrev yU:FuncId:=95
noncomputable abbrev yp:Func:=Tryz.f95
theorem Pn:P.funcs[yU]?=some yp:=Tryz.func95
abbrev zA:FuncId:=97
noncomputable abbrev wK:Func:=Tryz.f97
theorem On:P.funcs[zA]?=some wK:=Tryz.func97
abbrev BN:FuncId:=100
noncomputable abbrev yH:Func:=Tryz.f100
theorem Xf:P.funcs[BN]?=some yH:=Tryz.func100
abbrev uz:FuncId:=102
noncomputable abbrev xg:Func:=Tryz.f102
theorem Qw:P.funcs[uz]?=some xg:=Tryz.func102
abbrev qj:FuncId:=103
noncomputable abbrev pI:Func:=Tryz.f103
theorem S0:P.funcs[qj]?=some pI:=Tryz.func103
abbrev sZ:FuncId:=104
noncomputable abbrev vh:Func:=Tryz.f104
theorem agt:P.funcs[sZ]?=some vh:=Tryz.func104
abbrev Bp:FuncId:=105
noncomputable abbrev uj:Func:=Tryz.f105
theorem S3:P.funcs[Bp]?=some uj:=Tryz.func105
abbrev oA:FuncId:=107
noncomputable abbrev x6:Func:=Tryz.f107
theorem ach:P.funcs[oA]?=some x6:=Tryz.func107
abbrev yM:FuncId:=109
noncomputable abbrev uD:Func:=Tryz.f109
theorem YX:P.funcs[yM]?=some uD:=Tryz.func109
abbrev mI:FuncId:=110
noncomputable abbrev x3:Func:=Tryz.f110
theorem Q0:P.funcs[mI]?=some x3:=Tryz.func110
abbrev td:FuncId:=111
noncomputable abbrev uv:Func:=Tryz.f111
theorem Pq:P.funcs[td]?=some uv:=Tryz.func111
abbrev AE:FuncId:=112
noncomputable abbrev tU:Func:=Tryz.f112
theorem Rv:P.funcs[AE]?=some tU:=Tryz.func112
abbrev Aq:FuncId:=116
noncomputable abbrev sW:Func:=Tryz.f116
theorem aei:P.funcs[Aq]?=some sW:=Tryz.func116
abbrev tN:FuncId:=119
noncomputable abbrev yz:Func:=Tryz.f119
theorem agB:P.funcs[tN]?=some yz:=Tryz.func119
abbrev tJ:FuncId:=120
noncomputable abbrev uw:Func:=Tryz.f120
theorem Q8:P.funcs[tJ]?=some uw:=Tryz.func120
abbrev rE:FuncId:=121
noncomputable abbrev sN:Func:=Tryz.f121
theorem UP:P.funcs[rE]?=some sN:=Tryz.func121
abbrev uu:FuncId:=123
noncomputable abbrev tn:Func:=Tryz.f123
theorem afz:P.funcs[uu]?=some tn:=Tryz.func123
abbrev zN:FuncId:=125
noncomputable abbrev vG:Func:=Tryz.f125
theorem VL:P.funcs[zN]?=some vG:=Tryz.func125
abbrev Gq:FuncId:=133
noncomputable abbrev J8:Func:=Tryz.f133
theorem TA:P.funcs[Gq]?=some J8:=Tryz.func133
abbrev fJ:FuncId:=137
noncomputable abbrev yg:Func:=Tryz.f137
theorem agz:P.funcs[fJ]?=some yg:=Tryz.func137
abbrev HP:FuncId:=140
noncomputable abbrev Kx:Func:=Tryz.f140
theorem XK:P.funcs[HP]?=some Kx:=Tryz.func140
abbrev gX:FuncId:=141
noncomputable abbrev tX:Func:=Tryz.f141
theorem acS:P.funcs[gX]?=some tX:=Tryz.func141
abbrev uo:FuncId:=142
noncomputable abbrev jZ:Func:=Tryz.f142
theorem ab0:P.funcs[uo]?=some jZ:=Tryz.func142
abbrev fF:FuncId:=143
noncomputable abbrev wG:Func:=Tryz.f143
theorem Y4:P.funcs[fF]?=some wG:=Tryz.func143
abbrev gy:FuncId:=144
noncomputable abbrev tW:Func:=Tryz.f144
theorem agc:P.funcs[gy]?=some tW:=Tryz.func144
abbrev yJ:FuncId:=145
noncomputable abbrev jn:Func:=Tryz.f145
theorem Uq:P.funcs[yJ]?=some jn:=Tryz.func145
abbrev rM:FuncId:=146
noncomputable abbrev jH:Func:=Tryz.f146
theorem Ux:P.funcs[rM]?=some jH:=Tryz.func146
abbrev xF:FuncId:=147
noncomputable abbrev yF:Func:=Tryz.f147
theorem aeQ:P.funcs[xF]?=some yF:=Tryz.func147
abbrev wN:FuncId:=148
noncomputable abbrev yh:Func:=Tryz.f148
theorem UD:P.funcs[wN]?=some yh:=Tryz.func148
abbrev yV:FuncId:=149
noncomputable abbrev fK:Func:=Tryz.f149
theorem Sv:P.funcs[yV]?=some fK:=Tryz.func149
abbrev mE:FuncId:=150
noncomputable abbrev nJ:Func:=Tryz.f150
theorem Ui:P.funcs[mE]?=some nJ:=Tryz.func150
abbrev wF:FuncId:=151
noncomputable abbrev xd:Func:=Tryz.f151
theorem Pf:P.funcs[wF]?=some xd:=Tryz.func151
abbrev rS:FuncId:=152
noncomputable abbrev vH:Func:=Tryz.f152
theorem Wy:P.funcs[rS]?=some vH:=Tryz.func152
abbrev zo:FuncId:=153
noncomputable abbrev uy:Func:=Tryz.f153
theorem aap:P.funcs[zo]?=some uy:=Tryz.func153
abbrev vq:FuncId:=154
noncomputable abbrev xe:Func:=Tryz.f154
theorem Ve:P.funcs[vq]?=some xe:=Tryz.func154
abbrev xY:FuncId:=155
noncomputable abbrev rH:Func:=Tryz.f155
theorem T3:P.funcs[xY]?=some rH:=Tryz.func155
abbrev sO:FuncId:=156
noncomputable abbrev uK:Func:=Tryz.f156
theorem NU:P.funcs[sO]?=some uK:=Tryz.func156
abbrev l9:FuncId:=157
noncomputable abbrev uZ:Func:=Tryz.f157
theorem ac1:P.funcs[l9]?=some uZ:=Tryz.func157
abbrev vw:FuncId:=158
noncomputable abbrev tf:Func:=Tryz.f158
theorem SC:P.funcs[vw]?=some tf:=Tryz.func158
abbrev iq:FuncId:=159
noncomputable abbrev v7:Func:=Tryz.f159
theorem abO:P.funcs[iq]?=some v7:=Tryz.func159
abbrev p8:FuncId:=160
noncomputable abbrev xk:Func:=Tryz.f160
theorem af4:P.funcs[p8]?=some xk:=Tryz.func160
abbrev BM:FuncId:=161
noncomputable abbrev v5:Func:=Tryz.f161
theorem aaF:P.funcs[BM]?=some v5:=Tryz.func161
abbrev xR:FuncId:=162
noncomputable abbrev wA:Func:=Tryz.f162
theorem Zl:P.funcs[xR]?=some wA:=Tryz.func162
abbrev E6:FuncId:=163
noncomputable abbrev BB:Func:=Tryz.f163
theorem RB:P.funcs[E6]?=some BB:=Tryz.func163
abbrev iZ:FuncId:=164
noncomputable abbrev tB:Func:=Tryz.f164
theorem acA:P.funcs[iZ]?=some tB:=Tryz.func164
abbrev Fk:FuncId:=165
noncomputable abbrev Bg:Func:=Tryz.f165
theorem UA:P.funcs[Fk]?=some Bg:=Tryz.func165
abbrev sC:FuncId:=170
noncomputable abbrev vP:Func:=Tryz.f170
theorem X8:P.funcs[sC]?=some vP:=Tryz.func170
abbrev oL:FuncId:=173
noncomputable abbrev uT:Func:=Tryz.f173
theorem QA:P.funcs[oL]?=some uT:=Tryz.func173
abbrev nR:FuncId:=174
noncomputable abbrev wv:Func:=Tryz.f174
theorem Zr:P.funcs[nR]?=some wv:=Tryz.func174
abbrev A4:FuncId:=175
noncomputable abbrev y8:Func:=Tryz.f175
theorem Uc:P.funcs[A4]?=some y8:=Tryz.func175
abbrev vp:FuncId:=176
noncomputable abbrev AR:Func:=Tryz.f176
theorem af0:P.funcs[vp]?=some AR:=Tryz.func176
abbrev wJ:FuncId:=178
noncomputable abbrev yD:Func:=Tryz.f178
theorem Xi:P.funcs[wJ]?=some yD:=Tryz.func178
abbrev yb:FuncId:=183
noncomputable abbrev ug:Func:=Tryz.f183
theorem aaM:P.funcs[yb]?=some ug:=Tryz.func183
abbrev q9:FuncId:=184
noncomputable abbrev u5:Func:=Tryz.f184
theorem aeY:P.funcs[q9]?=some u5:=Tryz.func184
abbrev qv:FuncId:=185
noncomputable abbrev gn:Func:=Tryz.f185
theorem Wq:P.funcs[qv]?=some gn:=Tryz.func185
abbrev tq:FuncId:=186
noncomputable abbrev sx:Func:=Tryz.f186
theorem aeL:P.funcs[tq]?=some sx:=Tryz.func186
abbrev tM:FuncId:=187
noncomputable abbrev uG:Func:=Tryz.f187
theorem X3:P.funcs[tM]?=some uG:=Tryz.func187
abbrev rJ:FuncId:=188
noncomputable abbrev wu:Func:=Tryz.f188
theorem acn:P.funcs[rJ]?=some wu:=Tryz.func188
abbrev yy:FuncId:=189
noncomputable abbrev tF:Func:=Tryz.f189
theorem QX:P.funcs[yy]?=some tF:=Tryz.func189
abbrev ow:FuncId:=190
noncomputable abbrev vY:Func:=Tryz.f190
theorem afE:P.funcs[ow]?=some vY:=Tryz.func190
abbrev xG:FuncId:=191
noncomputable abbrev dY:Func:=Tryz.f191
theorem PN:P.funcs[xG]?=some dY:=Tryz.func191
abbrev wk:FuncId:=192
noncomputable abbrev tc:Func:=Tryz.f192
theorem VQ:P.funcs[wk]?=some tc:=Tryz.func192
abbrev sn:FuncId:=193
noncomputable abbrev wY:Func:=Tryz.f193
theorem W2:P.funcs[sn]?=some wY:=Tryz.func193
abbrev r8:FuncId:=194
noncomputable abbrev cW:Func:=Tryz.f194
theorem ZK:P.funcs[r8]?=some cW:=Tryz.func194
abbrev xw:FuncId:=195
noncomputable abbrev g8:Func:=Tryz.f195
theorem Sq:P.funcs[xw]?=some g8:=Tryz.func195
abbrev I4:FuncId:=196
noncomputable abbrev NK:Func:=Tryz.f196
theorem PY:P.funcs[I4]?=some NK:=Tryz.func196
abbrev yo:FuncId:=197
noncomputable abbrev uV:Func:=Tryz.f197
theorem aeb:P.funcs[yo]?=some uV:=Tryz.func197
abbrev yZ:FuncId:=201
noncomputable abbrev x7:Func:=Tryz.f201
theorem WE:P.funcs[yZ]?=some x7:=Tryz.func201
abbrev zG:FuncId:=202
noncomputable abbrev vJ:Func:=Tryz.f202
theorem Zc:P.funcs[zG]?=some vJ:=Tryz.func202
abbrev qR:FuncId:=204
noncomputable abbrev nc:Func:=Tryz.f204
theorem Oh:P.funcs[qR]?=some nc:=Tryz.func204
abbrev B8:FuncId:=205
noncomputable abbrev zm:Func:=Tryz.f205
theorem QY:P.funcs[B8]?=some zm:=Tryz.func205
abbrev lR:FuncId:=206
noncomputable abbrev vW:Func:=Tryz.f206
theorem Xl:P.funcs[lR]?=some vW:=Tryz.func206
abbrev p6:FuncId:=207
noncomputable abbrev pS:Func:=Tryz.f207
theorem TO:P.funcs[p6]?=some pS:=Tryz.func207
abbrev l6:FuncId:=208
noncomputable abbrev kj:Func:=Tryz.f208
theorem PS:P.funcs[l6]?=some kj:=Tryz.func208
abbrev uQ:FuncId:=209
noncomputable abbrev iI:Func:=Tryz.f209
theorem RK:P.funcs[uQ]?=some iI:=Tryz.func209
abbrev rC:FuncId:=210
noncomputable abbrev fj:Func:=Tryz.f210
theorem T1:P.funcs[rC]?=some fj:=Tryz.func210
abbrev uO:FuncId:=211
noncomputable abbrev oT:Func:=Tryz.f211
theorem P2:P.funcs[uO]?=some oT:=Tryz.func211
abbrev y6:FuncId:=212
noncomputable abbrev wX:Func:=Tryz.f212
theorem Rs:P.funcs[y6]?=some wX:=Tryz.func212
abbrev wg:FuncId:=213
noncomputable abbrev sA:Func:=Tryz.f213
theorem agu:P.funcs[wg]?=some sA:=Tryz.func213
abbrev wQ:FuncId:=214
noncomputable abbrev pK:Func:=Tryz.f214
theorem Vd:P.funcs[wQ]?=some pK:=Tryz.func214
abbrev oE:FuncId:=215
noncomputable abbrev nh:Func:=Tryz.f215
theorem WZ:P.funcs[oE]?=some nh:=Tryz.func215
abbrev vu:FuncId:=217
noncomputable abbrev vF:Func:=Tryz.f217
theorem Wo:P.funcs[vu]?=some vF:=Tryz.func217
abbrev ov:FuncId:=219
noncomputable abbrev fZ:Func:=Tryz.f219
theorem Ro:P.funcs[ov]?=some fZ:=Tryz.func219
abbrev p7:FuncId:=220
noncomputable abbrev xB:Func:=Tryz.f220
theorem afV:P.funcs[p7]?=some xB:=Tryz.func220
abbrev o3:FuncId:=221
noncomputable abbrev tY:Func:=Tryz.f221
theorem Xg:P.funcs[o3]?=some tY:=Tryz.func221
abbrev rR:FuncId:=222
noncomputable abbrev dg:Func:=Tryz.f222
theorem Qx:P.funcs[rR]?=some dg:=Tryz.func222
abbrev yl:FuncId:=223
noncomputable abbrev nu:Func:=Tryz.f223
theorem X6:P.funcs[yl]?=some nu:=Tryz.func223
abbrev qo:FuncId:=224
noncomputable abbrev uC:Func:=Tryz.f224
theorem ab3:P.funcs[qo]?=some uC:=Tryz.func224
abbrev qE:FuncId:=225
noncomputable abbrev ua:Func:=Tryz.f225
theorem aeC:P.funcs[qE]?=some ua:=Tryz.func225
abbrev CU:FuncId:=226
noncomputable abbrev agx:Func:=Tryz.f226
theorem Q6:P.funcs[CU]?=some agx:=Tryz.func226
abbrev rL:FuncId:=227
noncomputable abbrev gE:Func:=Tryz.f227
theorem Yo:P.funcs[rL]?=some gE:=Tryz.func227
abbrev vr:FuncId:=228
noncomputable abbrev jR:Func:=Tryz.f228
theorem OR:P.funcs[vr]?=some jR:=Tryz.func228
abbrev ta:FuncId:=229
noncomputable abbrev nP:Func:=Tryz.f229
theorem afr:P.funcs[ta]?=some nP:=Tryz.func229
abbrev xZ:FuncId:=230
noncomputable abbrev nN:Func:=Tryz.f230
theorem abJ:P.funcs[xZ]?=some nN:=Tryz.func230
abbrev tu:FuncId:=231
noncomputable abbrev oQ:Func:=Tryz.f231
theorem TU:P.funcs[tu]?=some oQ:=Tryz.func231
abbrev Nz:FuncId:=232
noncomputable abbrev JR:Func:=Tryz.f232
theorem Ry:P.funcs[Nz]?=some JR:=Tryz.func232
abbrev tC:FuncId:=235
noncomputable abbrev tE:Func:=Tryz.f235
theorem Pc:P.funcs[tC]?=some tE:=Tryz.func235
abbrev Cf:FuncId:=236
noncomputable abbrev Ah:Func:=Tryz.f236
theorem UZ:P.funcs[Cf]?=some Ah:=Tryz.func236
abbrev rB:FuncId:=237
noncomputable abbrev wI:Func:=Tryz.f237
theorem Va:P.funcs[rB]?=some wI:=Tryz.func237
abbrev th:FuncId:=238
noncomputable abbrev mG:Func:=Tryz.f238
theorem acK:P.funcs[th]?=some mG:=Tryz.func238
abbrev yI:FuncId:=239
noncomputable abbrev lM:Func:=Tryz.f239
theorem PD:P.funcs[yI]?=some lM:=Tryz.func239
abbrev vZ:FuncId:=240
noncomputable abbrev yR:Func:=Tryz.f240
theorem OC:P.funcs[vZ]?=some yR:=Tryz.func240
abbrev uJ:FuncId:=241
noncomputable abbrev uA:Func:=Tryz.f241
theorem Rz:P.funcs[uJ]?=some uA:=Tryz.func241
abbrev vg:FuncId:=242
noncomputable abbrev l5:Func:=Tryz.f242
theorem aeh:P.funcs[vg]?=some l5:=Tryz.func242
abbrev Bu:FuncId:=243
noncomputable abbrev yP:Func:=Tryz.f243
theorem Ya:P.funcs[Bu]?=some yP:=Tryz.func243
abbrev uW:FuncId:=246
noncomputable abbrev nQ:Func:=Tryz.f246
theorem P5:P.funcs[uW]?=some nQ:=Tryz.func246
abbrev vS:FuncId:=247
noncomputable abbrev wj:Func:=Tryz.f247
theorem agv:P.funcs[vS]?=some wj:=Tryz.func247
abbrev xU:FuncId:=248
noncomputable abbrev kg:Func:=Tryz.f248
theorem Py:P.funcs[xU]?=some kg:=Tryz.func248
abbrev KP:TI:=⟨.int .i64,1,8,.int .i64 0⟩
theorem ok2:bE P 2 KP:=cA (by kernel_rfl) (by kernel_rfl) (by kernel_rfl)
abbrev FY:TI:=⟨.int .i64,1,8,.int .i64 0⟩
theorem ok3:bE P 3 FY:=cA (by kernel_rfl) (by kernel_rfl) (by kernel_rfl)
abbrev Kf:TI:=⟨.bool,1,1,.bool false⟩
theorem ok4:bE P 4 Kf:=cA (by kernel_rfl) (by kernel_rfl) (by kernel_rfl)
abbrev JO:TI:=⟨.int .u8,1,1,.int .u8 0⟩
theorem QB:bE P 5 JO:=cA (by kernel_rfl) (by kernel_rfl) (by kernel_rfl)
abbrev Ku:TI:=⟨.int .u8,1,1,.int .u8 0⟩
theorem Te:bE P 6 Ku:=cA (by kernel_rfl) (by kernel_rfl) (by kernel_rfl)
abbrev HI:TI:=⟨.struct #[{name:= "x",type:=2,offset:=0,embedded:=false,tag:= "",pkgPath:= "runtime",byteOffset:=0},{name:= "y",type:=3,offset:=1,embedded:=false,tag:= "",pkgPath:= "runtime",byteOffset:=8},{name:= "signed",type:=4,offset:=2,embedded:=false,tag:= "",pkgPath:= "runtime",byteOffset:=16},{name:= "code",type:=6,offset:=3,embedded:=false,tag:= "",pkgPath:= "runtime",byteOffset:=17}],4,24,.agg [.int .i64 0,.int .i64 0,.bool false,.int .u8 0]⟩
theorem ok7:bE P 7 HI:=cA (by kernel_rfl) (by kernel_rfl) (by kernel_rfl)
abbrev Ll:TI:=⟨.struct #[{name:= "x",type:=2,offset:=0,embedded:=false,tag:= "",pkgPath:= "runtime",byteOffset:=0},{name:= "y",type:=3,offset:=1,embedded:=false,tag:= "",pkgPath:= "runtime",byteOffset:=8},{name:= "signed",type:=4,offset:=2,embedded:=false,tag:= "",pkgPath:= "runtime",byteOffset:=16},{name:= "code",type:=6,offset:=3,embedded:=false,tag:= "",pkgPath:= "runtime",byteOffset:=17}],4,24,.agg [.int .i64 0,.int .i64 0,.bool false,.int .u8 0]⟩
theorem Z6:bE P 8 Ll:=cA (by kernel_rfl) (by kernel_rfl) (by kernel_rfl)
abbrev LJ:TI:=⟨.string,1,16,.tuple []⟩
theorem ok9:bE P 9 LJ:=hH (by kernel_rfl) (by kernel_rfl) rfl
abbrev G4:TI:=⟨.string,1,16,.tuple []⟩
theorem Ym:bE P 10 G4:=hH (by kernel_rfl) (by kernel_rfl) rfl
abbrev HS:TI:=⟨.string,1,16,.tuple []⟩
theorem QS:bE P 11 HS:=hH (by kernel_rfl) (by kernel_rfl) rfl
abbrev Nu:TI:=⟨.int .u64,1,8,.int .u64 0⟩
theorem R5:bE P 12 Nu:=cA (by kernel_rfl) (by kernel_rfl) (by kernel_rfl)
abbrev Ml:TI:=⟨.struct #[{name:= "msg",type:=9,offset:=0,embedded:=false,tag:= "",pkgPath:= "runtime",byteOffset:=0},{name:= "addr",type:=12,offset:=1,embedded:=false,tag:= "",pkgPath:= "runtime",byteOffset:=16}],2,24,.tuple []⟩
theorem aeE:bE P 13 Ml:=hH (by kernel_rfl) (by kernel_rfl) rfl
abbrev Ms:TI:=⟨.struct #[{name:= "msg",type:=9,offset:=0,embedded:=false,tag:= "",pkgPath:= "runtime",byteOffset:=0},{name:= "addr",type:=12,offset:=1,embedded:=false,tag:= "",pkgPath:= "runtime",byteOffset:=16}],2,24,.tuple []⟩
theorem Qd:bE P 14 Ms:=hH (by kernel_rfl) (by kernel_rfl) rfl
abbrev LL:TI:=⟨.pointer 242,1,8,.tuple []⟩
theorem adH:bE P 15 LL:=hH (by kernel_rfl) (by kernel_rfl) rfl
abbrev KO:TI:=⟨.pointer 245,1,8,.tuple []⟩
theorem ab9:bE P 16 KO:=hH (by kernel_rfl) (by kernel_rfl) rfl
abbrev Na:TI:=⟨.pointer 254,1,8,.tuple []⟩
theorem Ta:bE P 17 Na:=hH (by kernel_rfl) (by kernel_rfl) rfl
abbrev MU:TI:=⟨.struct #[{name:= "typ",type:=17,offset:=0,embedded:=false,tag:= "",pkgPath:= "internal/runtime/maps",byteOffset:=0}],1,8,.tuple []⟩
theorem UM:bE P 18 MU:=hH (by kernel_rfl) (by kernel_rfl) rfl
abbrev LO:TI:=⟨.struct #[{name:= "typ",type:=17,offset:=0,embedded:=false,tag:= "",pkgPath:= "internal/runtime/maps",byteOffset:=0}],1,8,.tuple []⟩
theorem aa5:bE P 19 LO:=hH (by kernel_rfl) (by kernel_rfl) rfl
abbrev Ij:TI:=⟨.int .i32,1,4,.int .i32 0⟩
theorem adJ:bE P 21 Ij:=cA (by kernel_rfl) (by kernel_rfl) (by kernel_rfl)
abbrev JN:TI:=⟨.slice 3,1,24,.nil⟩
theorem PA:bE P 22 JN:=cA (by kernel_rfl) (by kernel_rfl) (by kernel_rfl)
abbrev Hq:TI:=⟨.slice 32,1,24,.nil⟩
theorem Ox:bE P 25 Hq:=cA (by kernel_rfl) (by kernel_rfl) (by kernel_rfl)
abbrev GV:TI:=⟨.slice 45,1,24,.nil⟩
theorem N7:bE P 26 GV:=cA (by kernel_rfl) (by kernel_rfl) (by kernel_rfl)
abbrev NG:TI:=⟨.struct #[{name:= "U",type:=3,offset:=0,embedded:=false,tag:= "",pkgPath:= "",byteOffset:=0},{name:= "V",type:=3,offset:=1,embedded:=false,tag:= "",pkgPath:= "",byteOffset:=8},{name:= "KnotsU",type:=25,offset:=2,embedded:=false,tag:= "",pkgPath:= "",byteOffset:=16},{name:= "KnotsV",type:=25,offset:=3,embedded:=false,tag:= "",pkgPath:= "",byteOffset:=40},{name:= "Poles",type:=26,offset:=4,embedded:=false,tag:= "",pkgPath:= "",byteOffset:=64}],5,88,.agg [.int .i64 0,.int .i64 0,.nil,.nil,.nil]⟩
theorem aa2:bE P 27 NG:=cA (by kernel_rfl) (by kernel_rfl) (by kernel_rfl)
abbrev ID:TI:=⟨.struct #[{name:= "U",type:=3,offset:=0,embedded:=false,tag:= "",pkgPath:= "",byteOffset:=0},{name:= "V",type:=3,offset:=1,embedded:=false,tag:= "",pkgPath:= "",byteOffset:=8},{name:= "KnotsU",type:=25,offset:=2,embedded:=false,tag:= "",pkgPath:= "",byteOffset:=16},{name:= "KnotsV",type:=25,offset:=3,embedded:=false,tag:= "",pkgPath:= "",byteOffset:=40},{name:= "Poles",type:=26,offset:=4,embedded:=false,tag:= "",pkgPath:= "",byteOffset:=64}],5,88,.agg [.int .i64 0,.int .i64 0,.nil,.nil,.nil]⟩
theorem UE:bE P 28 ID:=cA (by kernel_rfl) (by kernel_rfl) (by kernel_rfl)
abbrev KQ:TI:=⟨.slice 194,1,24,.nil⟩
theorem RS:bE P 30 KQ:=cA (by kernel_rfl) (by kernel_rfl) (by kernel_rfl)
abbrev Ns:TI:=⟨.struct #[{name:= "Neg",type:=4,offset:=0,embedded:=false,tag:= "",pkgPath:= "",byteOffset:=0},{name:= "Num",type:=30,offset:=1,embedded:=false,tag:= "",pkgPath:= "",byteOffset:=8},{name:= "Den",type:=30,offset:=2,embedded:=false,tag:= "",pkgPath:= "",byteOffset:=32}],3,56,.agg [.bool false,.nil,.nil]⟩
theorem ZV:bE P 31 Ns:=cA (by kernel_rfl) (by kernel_rfl) (by kernel_rfl)
abbrev JA:TI:=⟨.struct #[{name:= "Neg",type:=4,offset:=0,embedded:=false,tag:= "",pkgPath:= "",byteOffset:=0},{name:= "Num",type:=30,offset:=1,embedded:=false,tag:= "",pkgPath:= "",byteOffset:=8},{name:= "Den",type:=30,offset:=2,embedded:=false,tag:= "",pkgPath:= "",byteOffset:=32}],3,56,.rat 0 1⟩
theorem adA:bE P 32 JA:=cA (by kernel_rfl) (by kernel_rfl) (by kernel_rfl)
abbrev L4:TI:=⟨.struct #[{name:= "Lo",type:=32,offset:=0,embedded:=false,tag:= "",pkgPath:= "",byteOffset:=0},{name:= "Hi",type:=32,offset:=3,embedded:=false,tag:= "",pkgPath:= "",byteOffset:=56}],6,112,.agg [.rat 0 1,.rat 0 1]⟩
theorem adh:bE P 33 L4:=cA (by kernel_rfl) (by kernel_rfl) (by kernel_rfl)
abbrev JL:TI:=⟨.struct #[{name:= "Lo",type:=32,offset:=0,embedded:=false,tag:= "",pkgPath:= "",byteOffset:=0},{name:= "Hi",type:=32,offset:=3,embedded:=false,tag:= "",pkgPath:= "",byteOffset:=56}],6,112,.agg [.rat 0 1,.rat 0 1]⟩
theorem T4:bE P 34 JL:=cA (by kernel_rfl) (by kernel_rfl) (by kernel_rfl)
abbrev NA:TI:=⟨.array 3 32,9,168,.agg [.rat 0 1,.rat 0 1,.rat 0 1]⟩
theorem Zf:bE P 40 NA:=cA (by kernel_rfl) (by kernel_rfl) (by kernel_rfl)
abbrev Ky:TI:=⟨.array 3 32,9,168,.agg [.rat 0 1,.rat 0 1,.rat 0 1]⟩
theorem U6:bE P 41 Ky:=cA (by kernel_rfl) (by kernel_rfl) (by kernel_rfl)
abbrev FA:TI:=⟨.int .i64,1,8,.int .i64 0⟩
theorem aai:bE P 42 FA:=cA (by kernel_rfl) (by kernel_rfl) (by kernel_rfl)
abbrev F8:TI:=⟨.slice 64,1,24,.nil⟩
theorem O6:bE P 45 F8:=cA (by kernel_rfl) (by kernel_rfl) (by kernel_rfl)
abbrev Mq:TI:=⟨.struct #[{name:= "Degree",type:=3,offset:=0,embedded:=false,tag:= "",pkgPath:= "",byteOffset:=0},{name:= "Knots",type:=25,offset:=1,embedded:=false,tag:= "",pkgPath:= "",byteOffset:=8},{name:= "Poles",type:=45,offset:=2,embedded:=false,tag:= "",pkgPath:= "",byteOffset:=32}],3,56,.agg [.int .i64 0,.nil,.nil]⟩
theorem V0:bE P 46 Mq:=cA (by kernel_rfl) (by kernel_rfl) (by kernel_rfl)
abbrev Lf:TI:=⟨.struct #[{name:= "Degree",type:=3,offset:=0,embedded:=false,tag:= "",pkgPath:= "",byteOffset:=0},{name:= "Knots",type:=25,offset:=1,embedded:=false,tag:= "",pkgPath:= "",byteOffset:=8},{name:= "Poles",type:=45,offset:=2,embedded:=false,tag:= "",pkgPath:= "",byteOffset:=32}],3,56,.agg [.int .i64 0,.nil,.nil]⟩
theorem VY:bE P 47 Lf:=cA (by kernel_rfl) (by kernel_rfl) (by kernel_rfl)
abbrev JZ:TI:=⟨.struct #[{name:= "P",type:=41,offset:=0,embedded:=false,tag:= "",pkgPath:= "",byteOffset:=0},{name:= "W",type:=32,offset:=9,embedded:=false,tag:= "",pkgPath:= "",byteOffset:=168}],12,224,.agg [.agg [.rat 0 1,.rat 0 1,.rat 0 1],.rat 0 1]⟩
theorem acF:bE P 63 JZ:=cA (by kernel_rfl) (by kernel_rfl) (by kernel_rfl)
abbrev Gp:TI:=⟨.struct #[{name:= "P",type:=41,offset:=0,embedded:=false,tag:= "",pkgPath:= "",byteOffset:=0},{name:= "W",type:=32,offset:=9,embedded:=false,tag:= "",pkgPath:= "",byteOffset:=168}],12,224,.agg [.agg [.rat 0 1,.rat 0 1,.rat 0 1],.rat 0 1]⟩
theorem Q4:bE P 64 Gp:=cA (by kernel_rfl) (by kernel_rfl) (by kernel_rfl)
abbrev Ie:TI:=⟨.pointer 139,1,8,.tuple []⟩
theorem V6:bE P 69 Ie:=hH (by kernel_rfl) (by kernel_rfl) rfl
abbrev I0:TI:=⟨.slice 47,1,24,.nil⟩
theorem afK:bE P 73 I0:=cA (by kernel_rfl) (by kernel_rfl) (by kernel_rfl)
abbrev FE:TI:=⟨.array 3 41,27,504,.agg [.agg [.rat 0 1,.rat 0 1,.rat 0 1],.agg [.rat 0 1,.rat 0 1,.rat 0 1],.agg [.rat 0 1,.rat 0 1,.rat 0 1]]⟩
theorem af9:bE P 75 FE:=cA (by kernel_rfl) (by kernel_rfl) (by kernel_rfl)
abbrev I9:TI:=⟨.struct #[{name:= "M",type:=75,offset:=0,embedded:=false,tag:= "",pkgPath:= "",byteOffset:=0},{name:= "T",type:=41,offset:=27,embedded:=false,tag:= "",pkgPath:= "",byteOffset:=504}],36,672,.agg [.agg [.agg [.rat 0 1,.rat 0 1,.rat 0 1],.agg [.rat 0 1,.rat 0 1,.rat 0 1],.agg [.rat 0 1,.rat 0 1,.rat 0 1]],.agg [.rat 0 1,.rat 0 1,.rat 0 1]]⟩
theorem N4:bE P 76 I9:=cA (by kernel_rfl) (by kernel_rfl) (by kernel_rfl)
abbrev IJ:TI:=⟨.struct #[{name:= "M",type:=75,offset:=0,embedded:=false,tag:= "",pkgPath:= "",byteOffset:=0},{name:= "T",type:=41,offset:=27,embedded:=false,tag:= "",pkgPath:= "",byteOffset:=504}],36,672,.agg [.agg [.agg [.rat 0 1,.rat 0 1,.rat 0 1],.agg [.rat 0 1,.rat 0 1,.rat 0 1],.agg [.rat 0 1,.rat 0 1,.rat 0 1]],.agg [.rat 0 1,.rat 0 1,.rat 0 1]]⟩
theorem Qp:bE P 77 IJ:=cA (by kernel_rfl) (by kernel_rfl) (by kernel_rfl)
abbrev J1:TI:=⟨.slice 99,1,24,.nil⟩
theorem ae3:bE P 93 J1:=cA (by kernel_rfl) (by kernel_rfl) (by kernel_rfl)
abbrev LX:TI:=⟨.struct #[{name:= "Degree",type:=3,offset:=0,embedded:=false,tag:= "",pkgPath:= "",byteOffset:=0},{name:= "Knots",type:=25,offset:=1,embedded:=false,tag:= "",pkgPath:= "",byteOffset:=8},{name:= "C",type:=93,offset:=2,embedded:=false,tag:= "",pkgPath:= "",byteOffset:=32}],3,56,.agg [.int .i64 0,.nil,.nil]⟩
theorem Wp:bE P 94 LX:=cA (by kernel_rfl) (by kernel_rfl) (by kernel_rfl)
abbrev Nl:TI:=⟨.struct #[{name:= "Degree",type:=3,offset:=0,embedded:=false,tag:= "",pkgPath:= "",byteOffset:=0},{name:= "Knots",type:=25,offset:=1,embedded:=false,tag:= "",pkgPath:= "",byteOffset:=8},{name:= "C",type:=93,offset:=2,embedded:=false,tag:= "",pkgPath:= "",byteOffset:=32}],3,56,.agg [.int .i64 0,.nil,.nil]⟩
theorem SM:bE P 95 Nl:=cA (by kernel_rfl) (by kernel_rfl) (by kernel_rfl)
abbrev Mu:TI:=⟨.array 4 32,12,224,.agg [.rat 0 1,.rat 0 1,.rat 0 1,.rat 0 1]⟩
theorem Ol:bE P 98 Mu:=cA (by kernel_rfl) (by kernel_rfl) (by kernel_rfl)
abbrev JD:TI:=⟨.array 4 32,12,224,.agg [.rat 0 1,.rat 0 1,.rat 0 1,.rat 0 1]⟩
theorem agj:bE P 99 JD:=cA (by kernel_rfl) (by kernel_rfl) (by kernel_rfl)
abbrev Nr:TI:=⟨.struct #[{name:= "L",type:=22,offset:=0,embedded:=false,tag:= "",pkgPath:= "",byteOffset:=0},{name:= "At",type:=3,offset:=1,embedded:=false,tag:= "",pkgPath:= "",byteOffset:=24}],2,32,.agg [.nil,.int .i64 0]⟩
theorem QE:bE P 138 Nr:=cA (by kernel_rfl) (by kernel_rfl) (by kernel_rfl)
abbrev KZ:TI:=⟨.struct #[{name:= "L",type:=22,offset:=0,embedded:=false,tag:= "",pkgPath:= "",byteOffset:=0},{name:= "At",type:=3,offset:=1,embedded:=false,tag:= "",pkgPath:= "",byteOffset:=24}],2,32,.agg [.nil,.int .i64 0]⟩
theorem Sr:bE P 139 KZ:=cA (by kernel_rfl) (by kernel_rfl) (by kernel_rfl)
abbrev H8:TI:=⟨.array 4 25,4,96,.agg [.nil,.nil,.nil,.nil]⟩
theorem W4:bE P 143 H8:=cA (by kernel_rfl) (by kernel_rfl) (by kernel_rfl)
abbrev MA:TI:=⟨.slice 95,1,24,.nil⟩
theorem abC:bE P 172 MA:=cA (by kernel_rfl) (by kernel_rfl) (by kernel_rfl)
abbrev J0:TI:=⟨.array 2 32,6,112,.agg [.rat 0 1,.rat 0 1]⟩
theorem aci:bE P 186 J0:=cA (by kernel_rfl) (by kernel_rfl) (by kernel_rfl)
abbrev KY:TI:=⟨.int .u64,1,8,.int .u64 0⟩
theorem ZJ:bE P 189 KY:=cA (by kernel_rfl) (by kernel_rfl) (by kernel_rfl)
abbrev KH:TI:=⟨.int .u32,1,4,.int .u32 0⟩
theorem Yg:bE P 194 KH:=cA (by kernel_rfl) (by kernel_rfl) (by kernel_rfl)
abbrev M9:TI:=⟨.slice 5,1,24,.nil⟩
theorem afM:bE P 210 M9:=cA (by kernel_rfl) (by kernel_rfl) (by kernel_rfl)
abbrev H9:TI:=⟨.int .u64,1,8,.int .u64 0⟩
theorem TH:bE P 213 H9:=cA (by kernel_rfl) (by kernel_rfl) (by kernel_rfl)
abbrev KJ:TI:=⟨.slice 25,1,24,.nil⟩
theorem adN:bE P 232 KJ:=cA (by kernel_rfl) (by kernel_rfl) (by kernel_rfl)
abbrev Hg:TI:=⟨.struct #[{name:= "_interface",type:=17,offset:=0,embedded:=false,tag:= "",pkgPath:= "runtime",byteOffset:=0},{name:= "concrete",type:=17,offset:=1,embedded:=false,tag:= "",pkgPath:= "runtime",byteOffset:=8},{name:= "asserted",type:=17,offset:=2,embedded:=false,tag:= "",pkgPath:= "runtime",byteOffset:=16},{name:= "missingMethod",type:=9,offset:=3,embedded:=false,tag:= "",pkgPath:= "runtime",byteOffset:=24}],4,40,.tuple []⟩
theorem agp:bE P 241 Hg:=hH (by kernel_rfl) (by kernel_rfl) rfl
abbrev G8:TI:=⟨.struct #[{name:= "_interface",type:=17,offset:=0,embedded:=false,tag:= "",pkgPath:= "runtime",byteOffset:=0},{name:= "concrete",type:=17,offset:=1,embedded:=false,tag:= "",pkgPath:= "runtime",byteOffset:=8},{name:= "asserted",type:=17,offset:=2,embedded:=false,tag:= "",pkgPath:= "runtime",byteOffset:=16},{name:= "missingMethod",type:=9,offset:=3,embedded:=false,tag:= "",pkgPath:= "runtime",byteOffset:=24}],4,40,.tuple []⟩
theorem S1:bE P 242 G8:=hH (by kernel_rfl) (by kernel_rfl) rfl
abbrev LU:TI:=⟨.int .u8,1,1,.int .u8 0⟩
theorem acH:bE P 247 LU:=cA (by kernel_rfl) (by kernel_rfl) (by kernel_rfl)
abbrev Im:TI:=⟨.int .u8,1,1,.int .u8 0⟩
theorem abM:bE P 248 Im:=cA (by kernel_rfl) (by kernel_rfl) (by kernel_rfl)
abbrev FW:TI:=⟨.pointer 5,1,8,.tuple []⟩
theorem VJ:bE P 250 FW:=hH (by kernel_rfl) (by kernel_rfl) rfl
abbrev Np:TI:=⟨.int .i32,1,4,.int .i32 0⟩
theorem adC:bE P 251 Np:=cA (by kernel_rfl) (by kernel_rfl) (by kernel_rfl)
abbrev KL:TI:=⟨.int .i32,1,4,.int .i32 0⟩
theorem Oa:bE P 252 KL:=cA (by kernel_rfl) (by kernel_rfl) (by kernel_rfl)
abbrev Mk:TI:=⟨.struct #[{name:= "Size_",type:=12,offset:=0,embedded:=false,tag:= "",pkgPath:= "",byteOffset:=0},{name:= "PtrBytes",type:=12,offset:=1,embedded:=false,tag:= "",pkgPath:= "",byteOffset:=8},{name:= "Hash",type:=194,offset:=2,embedded:=false,tag:= "",pkgPath:= "",byteOffset:=16},{name:= "TFlag",type:=247,offset:=3,embedded:=false,tag:= "",pkgPath:= "",byteOffset:=20},{name:= "Align_",type:=5,offset:=4,embedded:=false,tag:= "",pkgPath:= "",byteOffset:=21},{name:= "FieldAlign_",type:=5,offset:=5,embedded:=false,tag:= "",pkgPath:= "",byteOffset:=22},{name:= "Kind_",type:=248,offset:=6,embedded:=false,tag:= "",pkgPath:= "",byteOffset:=23},{name:= "Equal",type:=249,offset:=7,embedded:=false,tag:= "",pkgPath:= "",byteOffset:=24},{name:= "GCData",type:=250,offset:=8,embedded:=false,tag:= "",pkgPath:= "",byteOffset:=32},{name:= "Str",type:=251,offset:=9,embedded:=false,tag:= "",pkgPath:= "",byteOffset:=40},{name:= "PtrToThis",type:=252,offset:=10,embedded:=false,tag:= "",pkgPath:= "",byteOffset:=44}],11,48,.tuple []⟩
theorem aab:bE P 253 Mk:=hH (by kernel_rfl) (by kernel_rfl) rfl
abbrev G3:TI:=⟨.struct #[{name:= "Size_",type:=12,offset:=0,embedded:=false,tag:= "",pkgPath:= "",byteOffset:=0},{name:= "PtrBytes",type:=12,offset:=1,embedded:=false,tag:= "",pkgPath:= "",byteOffset:=8},{name:= "Hash",type:=194,offset:=2,embedded:=false,tag:= "",pkgPath:= "",byteOffset:=16},{name:= "TFlag",type:=247,offset:=3,embedded:=false,tag:= "",pkgPath:= "",byteOffset:=20},{name:= "Align_",type:=5,offset:=4,embedded:=false,tag:= "",pkgPath:= "",byteOffset:=21},{name:= "FieldAlign_",type:=5,offset:=5,embedded:=false,tag:= "",pkgPath:= "",byteOffset:=22},{name:= "Kind_",type:=248,offset:=6,embedded:=false,tag:= "",pkgPath:= "",byteOffset:=23},{name:= "Equal",type:=249,offset:=7,embedded:=false,tag:= "",pkgPath:= "",byteOffset:=24},{name:= "GCData",type:=250,offset:=8,embedded:=false,tag:= "",pkgPath:= "",byteOffset:=32},{name:= "Str",type:=251,offset:=9,embedded:=false,tag:= "",pkgPath:= "",byteOffset:=40},{name:= "PtrToThis",type:=252,offset:=10,embedded:=false,tag:= "",pkgPath:= "",byteOffset:=44}],11,48,.tuple []⟩
theorem RP:bE P 254 G3:=hH (by kernel_rfl) (by kernel_rfl) rfl
abbrev T:Types:=[(2,KP),(3,FY),(4,Kf),(5,JO),(6,Ku),(7,HI),(8,Ll),(9,LJ),(10,G4),(11,HS),(12,Nu),(13,Ml),(14,Ms),(15,LL),(16,KO),(17,Na),(18,MU),(19,LO),(21,Ij),(22,JN),(25,Hq),(26,GV),(27,NG),(28,ID),(30,KQ),(31,Ns),(32,JA),(33,L4),(34,JL),(40,NA),(41,Ky),(42,FA),(45,F8),(46,Mq),(47,Lf),(63,JZ),(64,Gp),(69,Ie),(73,I0),(75,FE),(76,I9),(77,IJ),(93,J1),(94,LX),(95,Nl),(98,Mu),(99,JD),(138,Nr),(139,KZ),(143,H8),(172,MA),(186,J0),(189,KY),(194,KH),(210,M9),(213,H9),(232,KJ),(241,Hg),(242,G8),(247,LU),(248,Im),(250,FW),(251,Np),(252,KL),(253,Mk),(254,G3)]
theorem hT:dB P T:=bK ok2 (bK ok3 (bK ok4 (bK QB (bK Te (bK ok7 (bK Z6 (bK ok9 (bK Ym (bK QS (bK R5 (bK aeE (bK Qd (bK adH (bK ab9 (bK Ta (bK UM (bK aa5 (bK adJ (bK PA (bK Ox (bK N7 (bK aa2 (bK UE (bK RS (bK ZV (bK adA (bK adh (bK T4 (bK Zf (bK U6 (bK aai (bK O6 (bK V0 (bK VY (bK acF (bK Q4 (bK V6 (bK afK (bK af9 (bK N4 (bK Qp (bK ae3 (bK Wp (bK SM (bK Ol (bK agj (bK QE (bK Sr (bK W4 (bK abC (bK aci (bK ZJ (bK Yg (bK afM (bK TH (bK adN (bK agp (bK S1 (bK acH (bK abM (bK VJ (bK adC (bK Oa (bK aab (bK RP (Vr))))))))))))))))))))))))))))))))))))))))))))))))))))))))))))))))))
end Go.Am.N
