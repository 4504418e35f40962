/- The seat's names: the numbers of functions, the types. Written by a program. -/
import Derived.Test.YtppeigelbecpbaaGreatZ2
import Derived.Test.YtppeigelbecpbaaGreatProg
import Derived.KernelRfl
set_option linter.unusedVariables false
namespace Go.Am.N
open Go.Proofs
noncomputable abbrev P:Program:=Tryz.prog
theorem hm:P.follows .mixedOrders=true:=by kernel_rfl
abbrev Fc:FuncId:=7
noncomputable abbrev jQ:Func:=Tryz.f7
theorem abr:P.funcs[Fc]?=some jQ:=Tryz.func7
abbrev BA:FuncId:=9
noncomputable abbrev wD:Func:=Tryz.f9
theorem adG:P.funcs[BA]?=some wD:=Tryz.func9
abbrev rR:FuncId:=14
noncomputable abbrev vl:Func:=Tryz.f14
theorem afj:P.funcs[rR]?=some vl:=Tryz.func14
abbrev C7:FuncId:=15
noncomputable abbrev uk:Func:=Tryz.f15
theorem Xe:P.funcs[C7]?=some uk:=Tryz.func15
abbrev xE:FuncId:=23
noncomputable abbrev rN:Func:=Tryz.f23
theorem JW:P.funcs[xE]?=some rN:=Tryz.func23
abbrev Ah:FuncId:=24
noncomputable abbrev zy:Func:=Tryz.f24
theorem ag0:P.funcs[Ah]?=some zy:=Tryz.func24
abbrev yE:FuncId:=26
noncomputable abbrev zD:Func:=Tryz.f26
theorem Wz:P.funcs[yE]?=some zD:=Tryz.func26
abbrev C2:FuncId:=29
noncomputable abbrev yD:Func:=Tryz.f29
theorem abp:P.funcs[C2]?=some yD:=Tryz.func29
abbrev lJ:FuncId:=36
noncomputable abbrev wz:Func:=Tryz.f36
theorem aeK:P.funcs[lJ]?=some wz:=Tryz.func36
abbrev oI:FuncId:=37
noncomputable abbrev vc:Func:=Tryz.f37
theorem W5:P.funcs[oI]?=some vc:=Tryz.func37
abbrev Du:FuncId:=39
noncomputable abbrev vh:Func:=Tryz.f39
theorem adr:P.funcs[Du]?=some vh:=Tryz.func39
abbrev A4:FuncId:=40
noncomputable abbrev CF:Func:=Tryz.f40
theorem adX:P.funcs[A4]?=some CF:=Tryz.func40
abbrev wq:FuncId:=41
noncomputable abbrev C3:Func:=Tryz.f41
theorem YR:P.funcs[wq]?=some C3:=Tryz.func41
abbrev Dl:FuncId:=46
noncomputable abbrev uJ:Func:=Tryz.f46
theorem Rr:P.funcs[Dl]?=some uJ:=Tryz.func46
abbrev z6:FuncId:=47
noncomputable abbrev oU:Func:=Tryz.f47
theorem VY:P.funcs[z6]?=some oU:=Tryz.func47
abbrev uL:FuncId:=48
noncomputable abbrev oL:Func:=Tryz.f48
theorem SU:P.funcs[uL]?=some oL:=Tryz.func48
abbrev xL:FuncId:=49
noncomputable abbrev uK:Func:=Tryz.f49
theorem S9:P.funcs[xL]?=some uK:=Tryz.func49
abbrev yV:FuncId:=50
noncomputable abbrev zh:Func:=Tryz.f50
theorem ajd:P.funcs[yV]?=some zh:=Tryz.func50
abbrev vR:FuncId:=51
noncomputable abbrev AI:Func:=Tryz.f51
theorem aei:P.funcs[vR]?=some AI:=Tryz.func51
abbrev Ap:FuncId:=52
noncomputable abbrev xB:Func:=Tryz.f52
theorem Tq:P.funcs[Ap]?=some xB:=Tryz.func52
abbrev mM:FuncId:=53
noncomputable abbrev zW:Func:=Tryz.f53
theorem UC:P.funcs[mM]?=some zW:=Tryz.func53
abbrev uA:FuncId:=54
noncomputable abbrev Ac:Func:=Tryz.f54
theorem abf:P.funcs[uA]?=some Ac:=Tryz.func54
abbrev BM:FuncId:=56
noncomputable abbrev wV:Func:=Tryz.f56
theorem afK:P.funcs[BM]?=some wV:=Tryz.func56
abbrev Mq:FuncId:=57
noncomputable abbrev Mh:Func:=Tryz.f57
theorem ah8:P.funcs[Mq]?=some Mh:=Tryz.func57
abbrev z8:FuncId:=61
noncomputable abbrev kW:Func:=Tryz.f61
theorem aio:P.funcs[z8]?=some kW:=Tryz.func61
abbrev p4:FuncId:=63
noncomputable abbrev xU:Func:=Tryz.f63
theorem XL:P.funcs[p4]?=some xU:=Tryz.func63
abbrev wE:FuncId:=64
noncomputable abbrev yy:Func:=Tryz.f64
theorem SY:P.funcs[wE]?=some yy:=Tryz.func64
abbrev yA:FuncId:=66
noncomputable abbrev Ay:Func:=Tryz.f66
theorem W7:P.funcs[yA]?=some Ay:=Tryz.func66
abbrev zN:FuncId:=68
noncomputable abbrev qz:Func:=Tryz.f68
theorem ah2:P.funcs[zN]?=some qz:=Tryz.func68
abbrev pe:FuncId:=69
noncomputable abbrev wQ:Func:=Tryz.f69
theorem ajO:P.funcs[pe]?=some wQ:=Tryz.func69
abbrev mO:FuncId:=71
noncomputable abbrev uM:Func:=Tryz.f71
theorem VC:P.funcs[mO]?=some uM:=Tryz.func71
abbrev AO:FuncId:=79
noncomputable abbrev Aq:Func:=Tryz.f79
theorem agt:P.funcs[AO]?=some Aq:=Tryz.func79
abbrev Ak:FuncId:=80
noncomputable abbrev v9:Func:=Tryz.f80
theorem acD:P.funcs[Ak]?=some v9:=Tryz.func80
abbrev w8:FuncId:=81
noncomputable abbrev zE:Func:=Tryz.f81
theorem adt:P.funcs[w8]?=some zE:=Tryz.func81
abbrev PB:FuncId:=82
noncomputable abbrev Nq:Func:=Tryz.f82
theorem XX:P.funcs[PB]?=some Nq:=Tryz.func82
abbrev Cx:FuncId:=83
noncomputable abbrev Aw:Func:=Tryz.f83
theorem aeE:P.funcs[Cx]?=some Aw:=Tryz.func83
abbrev rJ:FuncId:=84
noncomputable abbrev uZ:Func:=Tryz.f84
theorem QL:P.funcs[rJ]?=some uZ:=Tryz.func84
abbrev AB:FuncId:=85
noncomputable abbrev wB:Func:=Tryz.f85
theorem Uo:P.funcs[AB]?=some wB:=Tryz.func85
abbrev qL:FuncId:=86
noncomputable abbrev wS:Func:=Tryz.f86
theorem ag2:P.funcs[qL]?=some wS:=Tryz.func86
abbrev CB:FuncId:=87
noncomputable abbrev yZ:Func:=Tryz.f87
theorem Zi:P.funcs[CB]?=some yZ:=Tryz.func87
abbrev vu:FuncId:=92
noncomputable abbrev zg:Func:=Tryz.f92
theorem VB:P.funcs[vu]?=some zg:=Tryz.func92
abbrev wT:FuncId:=94
noncomputable abbrev yI:Func:=Tryz.f94
theorem YF:P.funcs[wT]?=some yI:=Tryz.func94
abbrev ud:FuncId:=95
noncomputable abbrev vL:Func:=Tryz.f95
theorem afi:P.funcs[ud]?=some vL:=Tryz.func95
abbrev qW:FuncId:=96
noncomputable abbrev yc:Func:=Tryz.f96
theorem XF:P.funcs[qW]?=some yc:=Tryz.func96
abbrev AU:FuncId:=97
noncomputable abbrev uz:Func:=Tryz.f97
theorem Tv:P.funcs[AU]?=some uz:=Tryz.func97
abbrev uw:FuncId:=99
noncomputable abbrev yh:Func:=Tryz.f99
theorem ai2:P.funcs[uw]?=some yh:=Tryz.func99
abbrev CE:FuncId:=100
noncomputable abbrev x8:Func:=Tryz.f100
theorem ag5:P.funcs[CE]?=some x8:=Tryz.func100
abbrev hU:FuncId:=101
noncomputable abbrev vf:Func:=Tryz.f101
theorem WI:P.funcs[hU]?=some vf:=Tryz.func101
abbrev zK:FuncId:=102
noncomputable abbrev xT:Func:=Tryz.f102
theorem acw:P.funcs[zK]?=some xT:=Tryz.func102
abbrev sr:FuncId:=103
noncomputable abbrev qK:Func:=Tryz.f103
theorem agp:P.funcs[sr]?=some qK:=Tryz.func103
abbrev qq:FuncId:=104
noncomputable abbrev vF:Func:=Tryz.f104
theorem ajT:P.funcs[qq]?=some vF:=Tryz.func104
abbrev BU:FuncId:=105
noncomputable abbrev Ad:Func:=Tryz.f105
theorem TM:P.funcs[BU]?=some Ad:=Tryz.func105
abbrev fP:FuncId:=106
noncomputable abbrev zU:Func:=Tryz.f106
theorem Sh:P.funcs[fP]?=some zU:=Tryz.func106
abbrev qb:FuncId:=107
noncomputable abbrev y9:Func:=Tryz.f107
theorem abn:P.funcs[qb]?=some y9:=Tryz.func107
abbrev gO:FuncId:=108
noncomputable abbrev xy:Func:=Tryz.f108
theorem ZE:P.funcs[gO]?=some xy:=Tryz.func108
abbrev vE:FuncId:=109
noncomputable abbrev yF:Func:=Tryz.f109
theorem aak:P.funcs[vE]?=some yF:=Tryz.func109
abbrev oy:FuncId:=110
noncomputable abbrev v8:Func:=Tryz.f110
theorem aef:P.funcs[oy]?=some v8:=Tryz.func110
abbrev uP:FuncId:=111
noncomputable abbrev y7:Func:=Tryz.f111
theorem UT:P.funcs[uP]?=some y7:=Tryz.func111
abbrev BE:FuncId:=112
noncomputable abbrev Ar:Func:=Tryz.f112
theorem ahP:P.funcs[BE]?=some Ar:=Tryz.func112
abbrev xh:FuncId:=116
noncomputable abbrev vC:Func:=Tryz.f116
theorem YW:P.funcs[xh]?=some vC:=Tryz.func116
abbrev I6:FuncId:=117
noncomputable abbrev H8:Func:=Tryz.f117
theorem aa8:P.funcs[I6]?=some H8:=Tryz.func117
abbrev N4:FuncId:=118
noncomputable abbrev ND:Func:=Tryz.f118
theorem Xp:P.funcs[N4]?=some ND:=Tryz.func118
abbrev Ae:FuncId:=119
noncomputable abbrev uY:Func:=Tryz.f119
theorem V1:P.funcs[Ae]?=some uY:=Tryz.func119
abbrev xW:FuncId:=120
noncomputable abbrev ym:Func:=Tryz.f120
theorem abk:P.funcs[xW]?=some ym:=Tryz.func120
abbrev o4:FuncId:=121
noncomputable abbrev AE:Func:=Tryz.f121
theorem afH:P.funcs[o4]?=some AE:=Tryz.func121
abbrev N8:FuncId:=122
noncomputable abbrev JL:Func:=Tryz.f122
theorem YI:P.funcs[N8]?=some JL:=Tryz.func122
abbrev uv:FuncId:=123
noncomputable abbrev Ab:Func:=Tryz.f123
theorem akd:P.funcs[uv]?=some Ab:=Tryz.func123
abbrev K5:FuncId:=124
noncomputable abbrev Ny:Func:=Tryz.f124
theorem abL:P.funcs[K5]?=some Ny:=Tryz.func124
abbrev Ca:FuncId:=125
noncomputable abbrev Aa:Func:=Tryz.f125
theorem RB:P.funcs[Ca]?=some Aa:=Tryz.func125
abbrev vm:FuncId:=126
noncomputable abbrev zx:Func:=Tryz.f126
theorem Ye:P.funcs[vm]?=some zx:=Tryz.func126
abbrev zl:FuncId:=127
noncomputable abbrev yH:Func:=Tryz.f127
theorem ajH:P.funcs[zl]?=some yH:=Tryz.func127
abbrev AM:FuncId:=128
noncomputable abbrev vk:Func:=Tryz.f128
theorem Yg:P.funcs[AM]?=some vk:=Tryz.func128
abbrev Ng:FuncId:=129
noncomputable abbrev Bw:Func:=Tryz.f129
theorem TY:P.funcs[Ng]?=some Bw:=Tryz.func129
abbrev xF:FuncId:=130
noncomputable abbrev Ao:Func:=Tryz.f130
theorem abF:P.funcs[xF]?=some Ao:=Tryz.func130
abbrev Pr:FuncId:=131
noncomputable abbrev JC:Func:=Tryz.f131
theorem ajp:P.funcs[Pr]?=some JC:=Tryz.func131
abbrev vp:FuncId:=132
noncomputable abbrev vi:Func:=Tryz.f132
theorem aj3:P.funcs[vp]?=some vi:=Tryz.func132
abbrev KA:FuncId:=134
noncomputable abbrev Nb:Func:=Tryz.f134
theorem YL:P.funcs[KA]?=some Nb:=Tryz.func134
abbrev JN:FuncId:=135
noncomputable abbrev PJ:Func:=Tryz.f135
theorem afb:P.funcs[JN]?=some PJ:=Tryz.func135
abbrev fT:FuncId:=137
noncomputable abbrev xb:Func:=Tryz.f137
theorem Ww:P.funcs[fT]?=some xb:=Tryz.func137
abbrev ze:FuncId:=145
noncomputable abbrev jA:Func:=Tryz.f145
theorem ady:P.funcs[ze]?=some jA:=Tryz.func145
abbrev tv:FuncId:=146
noncomputable abbrev kg:Func:=Tryz.f146
theorem Xj:P.funcs[tv]?=some kg:=Tryz.func146
abbrev yx:FuncId:=147
noncomputable abbrev wY:Func:=Tryz.f147
theorem aco:P.funcs[yx]?=some wY:=Tryz.func147
abbrev zP:FuncId:=148
noncomputable abbrev we:Func:=Tryz.f148
theorem Ux:P.funcs[zP]?=some we:=Tryz.func148
abbrev xP:FuncId:=149
noncomputable abbrev gb:Func:=Tryz.f149
theorem adB:P.funcs[xP]?=some gb:=Tryz.func149
abbrev nJ:FuncId:=150
noncomputable abbrev nU:Func:=Tryz.f150
theorem Wt:P.funcs[nJ]?=some nU:=Tryz.func150
abbrev Ag:FuncId:=151
noncomputable abbrev zC:Func:=Tryz.f151
theorem aby:P.funcs[Ag]?=some zC:=Tryz.func151
abbrev rT:FuncId:=152
noncomputable abbrev xk:Func:=Tryz.f152
theorem afF:P.funcs[rT]?=some xk:=Tryz.func152
abbrev yg:FuncId:=155
noncomputable abbrev rm:Func:=Tryz.f155
theorem Xx:P.funcs[yg]?=some rm:=Tryz.func155
abbrev jb:FuncId:=164
noncomputable abbrev AA:Func:=Tryz.f164
theorem aiM:P.funcs[jb]?=some AA:=Tryz.func164
abbrev GI:FuncId:=165
noncomputable abbrev Cs:Func:=Tryz.f165
theorem agv:P.funcs[GI]?=some Cs:=Tryz.func165
abbrev xd:FuncId:=166
noncomputable abbrev As:Func:=Tryz.f166
theorem abG:P.funcs[xd]?=some As:=Tryz.func166
abbrev zF:FuncId:=167
noncomputable abbrev uj:Func:=Tryz.f167
theorem XS:P.funcs[zF]?=some uj:=Tryz.func167
abbrev xC:FuncId:=170
noncomputable abbrev xN:Func:=Tryz.f170
theorem aje:P.funcs[xC]?=some xN:=Tryz.func170
abbrev qP:FuncId:=173
noncomputable abbrev zn:Func:=Tryz.f173
theorem ajm:P.funcs[qP]?=some zn:=Tryz.func173
abbrev nQ:FuncId:=174
noncomputable abbrev xY:Func:=Tryz.f174
theorem abP:P.funcs[nQ]?=some xY:=Tryz.func174
abbrev Bs:FuncId:=175
noncomputable abbrev Cm:Func:=Tryz.f175
theorem aeF:P.funcs[Bs]?=some Cm:=Tryz.func175
abbrev nM:FuncId:=176
noncomputable abbrev yU:Func:=Tryz.f176
theorem VL:P.funcs[nM]?=some yU:=Tryz.func176
abbrev ri:FuncId:=178
noncomputable abbrev xH:Func:=Tryz.f178
theorem SN:P.funcs[ri]?=some xH:=Tryz.func178
abbrev AK:FuncId:=179
noncomputable abbrev u5:Func:=Tryz.f179
theorem UP:P.funcs[AK]?=some u5:=Tryz.func179
abbrev xM:FuncId:=180
noncomputable abbrev mz:Func:=Tryz.f180
theorem YV:P.funcs[xM]?=some mz:=Tryz.func180
abbrev rH:FuncId:=182
noncomputable abbrev CJ:Func:=Tryz.f182
theorem Vg:P.funcs[rH]?=some CJ:=Tryz.func182
abbrev AQ:FuncId:=183
noncomputable abbrev xA:Func:=Tryz.f183
theorem VP:P.funcs[AQ]?=some xA:=Tryz.func183
abbrev rY:FuncId:=184
noncomputable abbrev uH:Func:=Tryz.f184
theorem YB:P.funcs[rY]?=some uH:=Tryz.func184
abbrev rI:FuncId:=185
noncomputable abbrev gH:Func:=Tryz.f185
theorem RG:P.funcs[rI]?=some gH:=Tryz.func185
abbrev uy:FuncId:=186
noncomputable abbrev AP:Func:=Tryz.f186
theorem aeD:P.funcs[uy]?=some AP:=Tryz.func186
abbrev wU:FuncId:=187
noncomputable abbrev yu:Func:=Tryz.f187
theorem QE:P.funcs[wU]?=some yu:=Tryz.func187
abbrev su:FuncId:=188
noncomputable abbrev u9:Func:=Tryz.f188
theorem adJ:P.funcs[su]?=some u9:=Tryz.func188
abbrev yo:FuncId:=189
noncomputable abbrev xx:Func:=Tryz.f189
theorem WL:P.funcs[yo]?=some xx:=Tryz.func189
abbrev pE:FuncId:=190
noncomputable abbrev vY:Func:=Tryz.f190
theorem ags:P.funcs[pE]?=some vY:=Tryz.func190
abbrev vT:FuncId:=191
noncomputable abbrev er:Func:=Tryz.f191
theorem Uu:P.funcs[vT]?=some er:=Tryz.func191
abbrev xm:FuncId:=192
noncomputable abbrev vG:Func:=Tryz.f192
theorem Qo:P.funcs[xm]?=some vG:=Tryz.func192
abbrev tV:FuncId:=193
noncomputable abbrev yl:Func:=Tryz.f193
theorem VE:P.funcs[tV]?=some yl:=Tryz.func193
abbrev qZ:FuncId:=194
noncomputable abbrev dc:Func:=Tryz.f194
theorem T7:P.funcs[qZ]?=some dc:=Tryz.func194
abbrev Ai:FuncId:=195
noncomputable abbrev iC:Func:=Tryz.f195
theorem abc:P.funcs[Ai]?=some iC:=Tryz.func195
abbrev GC:FuncId:=196
noncomputable abbrev FW:Func:=Tryz.f196
theorem N9:P.funcs[GC]?=some FW:=Tryz.func196
abbrev B6:FuncId:=197
noncomputable abbrev y6:Func:=Tryz.f197
theorem VZ:P.funcs[B6]?=some y6:=Tryz.func197
abbrev NO:FuncId:=198
noncomputable abbrev AR:Func:=Tryz.f198
theorem UM:P.funcs[NO]?=some AR:=Tryz.func198
abbrev xR:FuncId:=199
noncomputable abbrev Ff:Func:=Tryz.f199
theorem V9:P.funcs[xR]?=some Ff:=Tryz.func199
abbrev OR:FuncId:=200
noncomputable abbrev Lf:Func:=Tryz.f200
theorem Se:P.funcs[OR]?=some Lf:=Tryz.func200
abbrev Be:FuncId:=201
noncomputable abbrev xK:Func:=Tryz.f201
theorem aaM:P.funcs[Be]?=some xK:=Tryz.func201
abbrev Ce:FuncId:=202
noncomputable abbrev xQ:Func:=Tryz.f202
theorem Ul:P.funcs[Ce]?=some xQ:=Tryz.func202
abbrev IZ:FuncId:=203
noncomputable abbrev PI:Func:=Tryz.f203
theorem aiP:P.funcs[IZ]?=some PI:=Tryz.func203
abbrev rP:FuncId:=204
noncomputable abbrev nY:Func:=Tryz.f204
theorem ace:P.funcs[rP]?=some nY:=Tryz.func204
abbrev rU:FuncId:=207
noncomputable abbrev pK:Func:=Tryz.f207
theorem Rg:P.funcs[rU]?=some pK:=Tryz.func207
abbrev nu:FuncId:=208
noncomputable abbrev kE:Func:=Tryz.f208
theorem RI:P.funcs[nu]?=some kE:=Tryz.func208
abbrev z7:FuncId:=209
noncomputable abbrev iX:Func:=Tryz.f209
theorem adM:P.funcs[z7]?=some iX:=Tryz.func209
abbrev ta:FuncId:=210
noncomputable abbrev fl:Func:=Tryz.f210
theorem adP:P.funcs[ta]?=some fl:=Tryz.func210
abbrev uh:FuncId:=211
noncomputable abbrev qG:Func:=Tryz.f211
theorem SX:P.funcs[uh]?=some qG:=Tryz.func211
abbrev xD:FuncId:=212
noncomputable abbrev yM:Func:=Tryz.f212
theorem acS:P.funcs[xD]?=some yM:=Tryz.func212
abbrev pG:FuncId:=215
noncomputable abbrev nV:Func:=Tryz.f215
theorem Yu:P.funcs[pG]?=some nV:=Tryz.func215
abbrev HU:FuncId:=216
noncomputable abbrev II:Func:=Tryz.f216
theorem XE:P.funcs[HU]?=some II:=Tryz.func216
abbrev z9:FuncId:=217
noncomputable abbrev yQ:Func:=Tryz.f217
theorem ahv:P.funcs[z9]?=some yQ:=Tryz.func217
abbrev BJ:FuncId:=218
noncomputable abbrev j4:Func:=Tryz.f218
theorem Yf:P.funcs[BJ]?=some j4:=Tryz.func218
abbrev pT:FuncId:=219
noncomputable abbrev gn:Func:=Tryz.f219
theorem aj1:P.funcs[pT]?=some gn:=Tryz.func219
abbrev sw:FuncId:=220
noncomputable abbrev xV:Func:=Tryz.f220
theorem abm:P.funcs[sw]?=some xV:=Tryz.func220
abbrev pR:FuncId:=221
noncomputable abbrev x7:Func:=Tryz.f221
theorem QU:P.funcs[pR]?=some x7:=Tryz.func221
abbrev sn:FuncId:=222
noncomputable abbrev dm:Func:=Tryz.f222
theorem ait:P.funcs[sn]?=some dm:=Tryz.func222
abbrev zm:FuncId:=223
noncomputable abbrev oD:Func:=Tryz.f223
theorem Wj:P.funcs[zm]?=some oD:=Tryz.func223
abbrev tg:FuncId:=224
noncomputable abbrev wA:Func:=Tryz.f224
theorem Yy:P.funcs[tg]?=some wA:=Tryz.func224
abbrev rM:FuncId:=225
noncomputable abbrev zQ:Func:=Tryz.f225
theorem ae2:P.funcs[rM]?=some zQ:=Tryz.func225
abbrev DY:FuncId:=226
noncomputable abbrev abO:Func:=Tryz.f226
theorem TH:P.funcs[DY]?=some abO:=Tryz.func226
abbrev tG:FuncId:=227
noncomputable abbrev gX:Func:=Tryz.f227
theorem VR:P.funcs[tG]?=some gX:=Tryz.func227
abbrev vN:FuncId:=228
noncomputable abbrev kT:Func:=Tryz.f228
theorem Qh:P.funcs[vN]?=some kT:=Tryz.func228
abbrev yq:FuncId:=229
noncomputable abbrev oq:Func:=Tryz.f229
theorem ZA:P.funcs[yq]?=some oq:=Tryz.func229
abbrev Ax:FuncId:=230
noncomputable abbrev oS:Func:=Tryz.f230
theorem Ws:P.funcs[Ax]?=some oS:=Tryz.func230
abbrev y8:FuncId:=231
noncomputable abbrev qM:Func:=Tryz.f231
theorem aaP:P.funcs[y8]?=some qM:=Tryz.func231
abbrev DV:FuncId:=232
noncomputable abbrev DX:Func:=Tryz.f232
theorem MH:P.funcs[DV]?=some DX:=Tryz.func232
abbrev Al:FuncId:=233
noncomputable abbrev FV:Func:=Tryz.f233
theorem agw:P.funcs[Al]?=some FV:=Tryz.func233
abbrev NQ:FuncId:=234
noncomputable abbrev OY:Func:=Tryz.f234
theorem afG:P.funcs[NQ]?=some OY:=Tryz.func234
abbrev xI:FuncId:=235
noncomputable abbrev uR:Func:=Tryz.f235
theorem Tg:P.funcs[xI]?=some uR:=Tryz.func235
abbrev tJ:FuncId:=237
noncomputable abbrev w7:Func:=Tryz.f237
theorem Z2:P.funcs[tJ]?=some w7:=Tryz.func237
abbrev ye:FuncId:=238
noncomputable abbrev oc:Func:=Tryz.f238
theorem TT:P.funcs[ye]?=some oc:=Tryz.func238
abbrev x9:FuncId:=239
noncomputable abbrev mL:Func:=Tryz.f239
theorem Rt:P.funcs[x9]?=some mL:=Tryz.func239
abbrev AF:FuncId:=240
noncomputable abbrev zk:Func:=Tryz.f240
theorem ah0:P.funcs[AF]?=some zk:=Tryz.func240
abbrev yB:FuncId:=241
noncomputable abbrev uX:Func:=Tryz.f241
theorem agV:P.funcs[yB]?=some uX:=Tryz.func241
abbrev xZ:FuncId:=242
noncomputable abbrev mI:Func:=Tryz.f242
theorem Z8:P.funcs[xZ]?=some mI:=Tryz.func242
abbrev Au:FuncId:=246
noncomputable abbrev oP:Func:=Tryz.f246
theorem QO:P.funcs[Au]?=some oP:=Tryz.func246
abbrev xS:FuncId:=247
noncomputable abbrev yY:Func:=Tryz.f247
theorem TV:P.funcs[xS]?=some yY:=Tryz.func247
abbrev Av:FuncId:=248
noncomputable abbrev kB:Func:=Tryz.f248
theorem ajx:P.funcs[Av]?=some kB:=Tryz.func248
abbrev P9:TI:=⟨.int .i64,1,8,.int .i64 0⟩
theorem ok2:bG P 2 P9:=cy (by kernel_rfl) (by kernel_rfl) (by kernel_rfl)
abbrev I1:TI:=⟨.int .i64,1,8,.int .i64 0⟩
theorem Tj:bG P 3 I1:=cy (by kernel_rfl) (by kernel_rfl) (by kernel_rfl)
abbrev I2:TI:=⟨.bool,1,1,.bool false⟩
theorem V6:bG P 4 I2:=cy (by kernel_rfl) (by kernel_rfl) (by kernel_rfl)
abbrev IX:TI:=⟨.int .u8,1,1,.int .u8 0⟩
theorem Vt:bG P 5 IX:=cy (by kernel_rfl) (by kernel_rfl) (by kernel_rfl)
abbrev J2:TI:=⟨.int .u8,1,1,.int .u8 0⟩
theorem W8:bG P 6 J2:=cy (by kernel_rfl) (by kernel_rfl) (by kernel_rfl)
abbrev NZ:TI:=⟨.struct #[{name:= "x",type:=2,offset:=0,embedded:=false,tag:= "",pkgPath:= "runtime",byteOffset:=0},{name:= "y",type:=3,offset:=1,embedded:=false,tag:= "",pkgPath:= "runtime",byteOffset:=8},{name:= "signed",type:=4,offset:=2,embedded:=false,tag:= "",pkgPath:= "runtime",byteOffset:=16},{name:= "code",type:=6,offset:=3,embedded:=false,tag:= "",pkgPath:= "runtime",byteOffset:=17}],4,24,.agg [.int .i64 0,.int .i64 0,.bool false,.int .u8 0]⟩
theorem Ty:bG P 7 NZ:=cy (by kernel_rfl) (by kernel_rfl) (by kernel_rfl)
abbrev OC:TI:=⟨.struct #[{name:= "x",type:=2,offset:=0,embedded:=false,tag:= "",pkgPath:= "runtime",byteOffset:=0},{name:= "y",type:=3,offset:=1,embedded:=false,tag:= "",pkgPath:= "runtime",byteOffset:=8},{name:= "signed",type:=4,offset:=2,embedded:=false,tag:= "",pkgPath:= "runtime",byteOffset:=16},{name:= "code",type:=6,offset:=3,embedded:=false,tag:= "",pkgPath:= "runtime",byteOffset:=17}],4,24,.agg [.int .i64 0,.int .i64 0,.bool false,.int .u8 0]⟩
theorem Sj:bG P 8 OC:=cy (by kernel_rfl) (by kernel_rfl) (by kernel_rfl)
abbrev M6:TI:=⟨.string,1,16,.tuple []⟩
theorem ok9:bG P 9 M6:=iw (by kernel_rfl) (by kernel_rfl) rfl
abbrev J9:TI:=⟨.string,1,16,.tuple []⟩
theorem ac8:bG P 10 J9:=iw (by kernel_rfl) (by kernel_rfl) rfl
abbrev IS:TI:=⟨.string,1,16,.tuple []⟩
theorem acM:bG P 11 IS:=iw (by kernel_rfl) (by kernel_rfl) rfl
abbrev IV:TI:=⟨.int .u64,1,8,.int .u64 0⟩
theorem afn:bG P 12 IV:=cy (by kernel_rfl) (by kernel_rfl) (by kernel_rfl)
abbrev O1:TI:=⟨.struct #[{name:= "msg",type:=9,offset:=0,embedded:=false,tag:= "",pkgPath:= "runtime",byteOffset:=0},{name:= "addr",type:=12,offset:=1,embedded:=false,tag:= "",pkgPath:= "runtime",byteOffset:=16}],2,24,.tuple []⟩
theorem Qc:bG P 13 O1:=iw (by kernel_rfl) (by kernel_rfl) rfl
abbrev JG:TI:=⟨.struct #[{name:= "msg",type:=9,offset:=0,embedded:=false,tag:= "",pkgPath:= "runtime",byteOffset:=0},{name:= "addr",type:=12,offset:=1,embedded:=false,tag:= "",pkgPath:= "runtime",byteOffset:=16}],2,24,.tuple []⟩
theorem Xn:bG P 14 JG:=iw (by kernel_rfl) (by kernel_rfl) rfl
abbrev Nx:TI:=⟨.pointer 242,1,8,.tuple []⟩
theorem aeO:bG P 15 Nx:=iw (by kernel_rfl) (by kernel_rfl) rfl
abbrev ME:TI:=⟨.pointer 245,1,8,.tuple []⟩
theorem adg:bG P 16 ME:=iw (by kernel_rfl) (by kernel_rfl) rfl
abbrev Nm:TI:=⟨.pointer 254,1,8,.tuple []⟩
theorem afs:bG P 17 Nm:=iw (by kernel_rfl) (by kernel_rfl) rfl
abbrev Ka:TI:=⟨.struct #[{name:= "typ",type:=17,offset:=0,embedded:=false,tag:= "",pkgPath:= "internal/runtime/maps",byteOffset:=0}],1,8,.tuple []⟩
theorem YH:bG P 18 Ka:=iw (by kernel_rfl) (by kernel_rfl) rfl
abbrev IC:TI:=⟨.struct #[{name:= "typ",type:=17,offset:=0,embedded:=false,tag:= "",pkgPath:= "internal/runtime/maps",byteOffset:=0}],1,8,.tuple []⟩
theorem aad:bG P 19 IC:=iw (by kernel_rfl) (by kernel_rfl) rfl
abbrev Mg:TI:=⟨.int .i32,1,4,.int .i32 0⟩
theorem acB:bG P 21 Mg:=cy (by kernel_rfl) (by kernel_rfl) (by kernel_rfl)
abbrev PX:TI:=⟨.slice 3,1,24,.nil⟩
theorem ajZ:bG P 22 PX:=cy (by kernel_rfl) (by kernel_rfl) (by kernel_rfl)
abbrev Jv:TI:=⟨.slice 32,1,24,.nil⟩
theorem ag8:bG P 25 Jv:=cy (by kernel_rfl) (by kernel_rfl) (by kernel_rfl)
abbrev P3:TI:=⟨.slice 45,1,24,.nil⟩
theorem agF:bG P 26 P3:=cy (by kernel_rfl) (by kernel_rfl) (by kernel_rfl)
abbrev KT:TI:=⟨.struct #[{name:= "U",type:=3,offset:=0,embedded:=false,tag:= "",pkgPath:= "",byteOffset:=0},{name:= "V",type:=3,offset:=1,embedded:=false,tag:= "",pkgPath:= "",byteOffset:=8},{name:= "KnotsU",type:=25,offset:=2,embedded:=false,tag:= "",pkgPath:= "",byteOffset:=16},{name:= "KnotsV",type:=25,offset:=3,embedded:=false,tag:= "",pkgPath:= "",byteOffset:=40},{name:= "Poles",type:=26,offset:=4,embedded:=false,tag:= "",pkgPath:= "",byteOffset:=64}],5,88,.agg [.int .i64 0,.int .i64 0,.nil,.nil,.nil]⟩
theorem WZ:bG P 27 KT:=cy (by kernel_rfl) (by kernel_rfl) (by kernel_rfl)
abbrev Pa:TI:=⟨.struct #[{name:= "U",type:=3,offset:=0,embedded:=false,tag:= "",pkgPath:= "",byteOffset:=0},{name:= "V",type:=3,offset:=1,embedded:=false,tag:= "",pkgPath:= "",byteOffset:=8},{name:= "KnotsU",type:=25,offset:=2,embedded:=false,tag:= "",pkgPath:= "",byteOffset:=16},{name:= "KnotsV",type:=25,offset:=3,embedded:=false,tag:= "",pkgPath:= "",byteOffset:=40},{name:= "Poles",type:=26,offset:=4,embedded:=false,tag:= "",pkgPath:= "",byteOffset:=64}],5,88,.agg [.int .i64 0,.int .i64 0,.nil,.nil,.nil]⟩
theorem ZV:bG P 28 Pa:=cy (by kernel_rfl) (by kernel_rfl) (by kernel_rfl)
abbrev OO:TI:=⟨.slice 194,1,24,.nil⟩
theorem ajN:bG P 30 OO:=cy (by kernel_rfl) (by kernel_rfl) (by kernel_rfl)
abbrev PF:TI:=⟨.struct #[{name:= "Neg",type:=4,offset:=0,embedded:=false,tag:= "",pkgPath:= "",byteOffset:=0},{name:= "Num",type:=30,offset:=1,embedded:=false,tag:= "",pkgPath:= "",byteOffset:=8},{name:= "Den",type:=30,offset:=2,embedded:=false,tag:= "",pkgPath:= "",byteOffset:=32}],3,56,.agg [.bool false,.nil,.nil]⟩
theorem ajS:bG P 31 PF:=cy (by kernel_rfl) (by kernel_rfl) (by kernel_rfl)
abbrev Pv:TI:=⟨.struct #[{name:= "Neg",type:=4,offset:=0,embedded:=false,tag:= "",pkgPath:= "",byteOffset:=0},{name:= "Num",type:=30,offset:=1,embedded:=false,tag:= "",pkgPath:= "",byteOffset:=8},{name:= "Den",type:=30,offset:=2,embedded:=false,tag:= "",pkgPath:= "",byteOffset:=32}],3,56,.rat 0 1⟩
theorem ah6:bG P 32 Pv:=cy (by kernel_rfl) (by kernel_rfl) (by kernel_rfl)
abbrev LX:TI:=⟨.struct #[{name:= "Lo",type:=32,offset:=0,embedded:=false,tag:= "",pkgPath:= "",byteOffset:=0},{name:= "Hi",type:=32,offset:=3,embedded:=false,tag:= "",pkgPath:= "",byteOffset:=56}],6,112,.agg [.rat 0 1,.rat 0 1]⟩
theorem abz:bG P 33 LX:=cy (by kernel_rfl) (by kernel_rfl) (by kernel_rfl)
abbrev IW:TI:=⟨.struct #[{name:= "Lo",type:=32,offset:=0,embedded:=false,tag:= "",pkgPath:= "",byteOffset:=0},{name:= "Hi",type:=32,offset:=3,embedded:=false,tag:= "",pkgPath:= "",byteOffset:=56}],6,112,.agg [.rat 0 1,.rat 0 1]⟩
theorem UA:bG P 34 IW:=cy (by kernel_rfl) (by kernel_rfl) (by kernel_rfl)
abbrev Nl:TI:=⟨.array 3 32,9,168,.agg [.rat 0 1,.rat 0 1,.rat 0 1]⟩
theorem WC:bG P 40 Nl:=cy (by kernel_rfl) (by kernel_rfl) (by kernel_rfl)
abbrev JJ:TI:=⟨.array 3 32,9,168,.agg [.rat 0 1,.rat 0 1,.rat 0 1]⟩
theorem Sr:bG P 41 JJ:=cy (by kernel_rfl) (by kernel_rfl) (by kernel_rfl)
abbrev Pz:TI:=⟨.int .i64,1,8,.int .i64 0⟩
theorem ahL:bG P 42 Pz:=cy (by kernel_rfl) (by kernel_rfl) (by kernel_rfl)
abbrev Og:TI:=⟨.slice 64,1,24,.nil⟩
theorem aar:bG P 45 Og:=cy (by kernel_rfl) (by kernel_rfl) (by kernel_rfl)
abbrev Iv:TI:=⟨.struct #[{name:= "Degree",type:=3,offset:=0,embedded:=false,tag:= "",pkgPath:= "",byteOffset:=0},{name:= "Knots",type:=25,offset:=1,embedded:=false,tag:= "",pkgPath:= "",byteOffset:=8},{name:= "Poles",type:=45,offset:=2,embedded:=false,tag:= "",pkgPath:= "",byteOffset:=32}],3,56,.agg [.int .i64 0,.nil,.nil]⟩
theorem age:bG P 46 Iv:=cy (by kernel_rfl) (by kernel_rfl) (by kernel_rfl)
abbrev NP:TI:=⟨.struct #[{name:= "Degree",type:=3,offset:=0,embedded:=false,tag:= "",pkgPath:= "",byteOffset:=0},{name:= "Knots",type:=25,offset:=1,embedded:=false,tag:= "",pkgPath:= "",byteOffset:=8},{name:= "Poles",type:=45,offset:=2,embedded:=false,tag:= "",pkgPath:= "",byteOffset:=32}],3,56,.agg [.int .i64 0,.nil,.nil]⟩
theorem Qe:bG P 47 NP:=cy (by kernel_rfl) (by kernel_rfl) (by kernel_rfl)
abbrev Jf:TI:=⟨.struct #[{name:= "P",type:=41,offset:=0,embedded:=false,tag:= "",pkgPath:= "",byteOffset:=0},{name:= "W",type:=32,offset:=9,embedded:=false,tag:= "",pkgPath:= "",byteOffset:=168}],12,224,.agg [.agg [.rat 0 1,.rat 0 1,.rat 0 1],.rat 0 1]⟩
theorem VD:bG P 63 Jf:=cy (by kernel_rfl) (by kernel_rfl) (by kernel_rfl)
abbrev Jp:TI:=⟨.struct #[{name:= "P",type:=41,offset:=0,embedded:=false,tag:= "",pkgPath:= "",byteOffset:=0},{name:= "W",type:=32,offset:=9,embedded:=false,tag:= "",pkgPath:= "",byteOffset:=168}],12,224,.agg [.agg [.rat 0 1,.rat 0 1,.rat 0 1],.rat 0 1]⟩
theorem YO:bG P 64 Jp:=cy (by kernel_rfl) (by kernel_rfl) (by kernel_rfl)
abbrev OG:TI:=⟨.pointer 139,1,8,.tuple []⟩
theorem aeP:bG P 69 OG:=iw (by kernel_rfl) (by kernel_rfl) rfl
abbrev L9:TI:=⟨.slice 47,1,24,.nil⟩
theorem ahh:bG P 73 L9:=cy (by kernel_rfl) (by kernel_rfl) (by kernel_rfl)
abbrev Pt:TI:=⟨.array 3 41,27,504,.agg [.agg [.rat 0 1,.rat 0 1,.rat 0 1],.agg [.rat 0 1,.rat 0 1,.rat 0 1],.agg [.rat 0 1,.rat 0 1,.rat 0 1]]⟩
theorem Vb:bG P 75 Pt:=cy (by kernel_rfl) (by kernel_rfl) (by kernel_rfl)
abbrev Pg:TI:=⟨.struct #[{name:= "M",type:=75,offset:=0,embedded:=false,tag:= "",pkgPath:= "",byteOffset:=0},{name:= "T",type:=41,offset:=27,embedded:=false,tag:= "",pkgPath:= "",byteOffset:=504}],36,672,.agg [.agg [.agg [.rat 0 1,.rat 0 1,.rat 0 1],.agg [.rat 0 1,.rat 0 1,.rat 0 1],.agg [.rat 0 1,.rat 0 1,.rat 0 1]],.agg [.rat 0 1,.rat 0 1,.rat 0 1]]⟩
theorem RL:bG P 76 Pg:=cy (by kernel_rfl) (by kernel_rfl) (by kernel_rfl)
abbrev OZ:TI:=⟨.struct #[{name:= "M",type:=75,offset:=0,embedded:=false,tag:= "",pkgPath:= "",byteOffset:=0},{name:= "T",type:=41,offset:=27,embedded:=false,tag:= "",pkgPath:= "",byteOffset:=504}],36,672,.agg [.agg [.agg [.rat 0 1,.rat 0 1,.rat 0 1],.agg [.rat 0 1,.rat 0 1,.rat 0 1],.agg [.rat 0 1,.rat 0 1,.rat 0 1]],.agg [.rat 0 1,.rat 0 1,.rat 0 1]]⟩
theorem acY:bG P 77 OZ:=cy (by kernel_rfl) (by kernel_rfl) (by kernel_rfl)
abbrev NX:TI:=⟨.slice 99,1,24,.nil⟩
theorem VW:bG P 93 NX:=cy (by kernel_rfl) (by kernel_rfl) (by kernel_rfl)
abbrev Lg:TI:=⟨.struct #[{name:= "Degree",type:=3,offset:=0,embedded:=false,tag:= "",pkgPath:= "",byteOffset:=0},{name:= "Knots",type:=25,offset:=1,embedded:=false,tag:= "",pkgPath:= "",byteOffset:=8},{name:= "C",type:=93,offset:=2,embedded:=false,tag:= "",pkgPath:= "",byteOffset:=32}],3,56,.agg [.int .i64 0,.nil,.nil]⟩
theorem aaL:bG P 94 Lg:=cy (by kernel_rfl) (by kernel_rfl) (by kernel_rfl)
abbrev NS:TI:=⟨.struct #[{name:= "Degree",type:=3,offset:=0,embedded:=false,tag:= "",pkgPath:= "",byteOffset:=0},{name:= "Knots",type:=25,offset:=1,embedded:=false,tag:= "",pkgPath:= "",byteOffset:=8},{name:= "C",type:=93,offset:=2,embedded:=false,tag:= "",pkgPath:= "",byteOffset:=32}],3,56,.agg [.int .i64 0,.nil,.nil]⟩
theorem UU:bG P 95 NS:=cy (by kernel_rfl) (by kernel_rfl) (by kernel_rfl)
abbrev Ig:TI:=⟨.array 4 32,12,224,.agg [.rat 0 1,.rat 0 1,.rat 0 1,.rat 0 1]⟩
theorem ajq:bG P 98 Ig:=cy (by kernel_rfl) (by kernel_rfl) (by kernel_rfl)
abbrev Ms:TI:=⟨.array 4 32,12,224,.agg [.rat 0 1,.rat 0 1,.rat 0 1,.rat 0 1]⟩
theorem aat:bG P 99 Ms:=cy (by kernel_rfl) (by kernel_rfl) (by kernel_rfl)
abbrev Oy:TI:=⟨.struct #[{name:= "L",type:=22,offset:=0,embedded:=false,tag:= "",pkgPath:= "",byteOffset:=0},{name:= "At",type:=3,offset:=1,embedded:=false,tag:= "",pkgPath:= "",byteOffset:=24}],2,32,.agg [.nil,.int .i64 0]⟩
theorem aiB:bG P 138 Oy:=cy (by kernel_rfl) (by kernel_rfl) (by kernel_rfl)
abbrev PL:TI:=⟨.struct #[{name:= "L",type:=22,offset:=0,embedded:=false,tag:= "",pkgPath:= "",byteOffset:=0},{name:= "At",type:=3,offset:=1,embedded:=false,tag:= "",pkgPath:= "",byteOffset:=24}],2,32,.agg [.nil,.int .i64 0]⟩
theorem Tt:bG P 139 PL:=cy (by kernel_rfl) (by kernel_rfl) (by kernel_rfl)
abbrev JB:TI:=⟨.array 4 25,4,96,.agg [.nil,.nil,.nil,.nil]⟩
theorem ag7:bG P 143 JB:=cy (by kernel_rfl) (by kernel_rfl) (by kernel_rfl)
abbrev HZ:TI:=⟨.slice 95,1,24,.nil⟩
theorem afx:bG P 172 HZ:=cy (by kernel_rfl) (by kernel_rfl) (by kernel_rfl)
abbrev IQ:TI:=⟨.array 2 32,6,112,.agg [.rat 0 1,.rat 0 1]⟩
theorem Vv:bG P 186 IQ:=cy (by kernel_rfl) (by kernel_rfl) (by kernel_rfl)
abbrev NG:TI:=⟨.int .u64,1,8,.int .u64 0⟩
theorem RP:bG P 189 NG:=cy (by kernel_rfl) (by kernel_rfl) (by kernel_rfl)
abbrev Nd:TI:=⟨.int .u32,1,4,.int .u32 0⟩
theorem agh:bG P 194 Nd:=cy (by kernel_rfl) (by kernel_rfl) (by kernel_rfl)
abbrev MA:TI:=⟨.slice 5,1,24,.nil⟩
theorem TS:bG P 210 MA:=cy (by kernel_rfl) (by kernel_rfl) (by kernel_rfl)
abbrev OX:TI:=⟨.int .u64,1,8,.int .u64 0⟩
theorem ake:bG P 213 OX:=cy (by kernel_rfl) (by kernel_rfl) (by kernel_rfl)
abbrev OU:TI:=⟨.slice 25,1,24,.nil⟩
theorem Sx:bG P 232 OU:=cy (by kernel_rfl) (by kernel_rfl) (by kernel_rfl)
abbrev I3:TI:=⟨.struct #[{name:= "_interface",type:=17,offset:=0,embedded:=false,tag:= "",pkgPath:= "runtime",byteOffset:=0},{name:= "concrete",type:=17,offset:=1,embedded:=false,tag:= "",pkgPath:= "runtime",byteOffset:=8},{name:= "asserted",type:=17,offset:=2,embedded:=false,tag:= "",pkgPath:= "runtime",byteOffset:=16},{name:= "missingMethod",type:=9,offset:=3,embedded:=false,tag:= "",pkgPath:= "runtime",byteOffset:=24}],4,40,.tuple []⟩
theorem ab7:bG P 241 I3:=iw (by kernel_rfl) (by kernel_rfl) rfl
abbrev I5:TI:=⟨.struct #[{name:= "_interface",type:=17,offset:=0,embedded:=false,tag:= "",pkgPath:= "runtime",byteOffset:=0},{name:= "concrete",type:=17,offset:=1,embedded:=false,tag:= "",pkgPath:= "runtime",byteOffset:=8},{name:= "asserted",type:=17,offset:=2,embedded:=false,tag:= "",pkgPath:= "runtime",byteOffset:=16},{name:= "missingMethod",type:=9,offset:=3,embedded:=false,tag:= "",pkgPath:= "runtime",byteOffset:=24}],4,40,.tuple []⟩
theorem aen:bG P 242 I5:=iw (by kernel_rfl) (by kernel_rfl) rfl
abbrev KL:TI:=⟨.int .u8,1,1,.int .u8 0⟩
theorem agy:bG P 247 KL:=cy (by kernel_rfl) (by kernel_rfl) (by kernel_rfl)
abbrev J3:TI:=⟨.int .u8,1,1,.int .u8 0⟩
theorem To:bG P 248 J3:=cy (by kernel_rfl) (by kernel_rfl) (by kernel_rfl)
abbrev OM:TI:=⟨.pointer 5,1,8,.tuple []⟩
theorem aiC:bG P 250 OM:=iw (by kernel_rfl) (by kernel_rfl) rfl
abbrev K3:TI:=⟨.int .i32,1,4,.int .i32 0⟩
theorem aav:bG P 251 K3:=cy (by kernel_rfl) (by kernel_rfl) (by kernel_rfl)
abbrev Ks:TI:=⟨.int .i32,1,4,.int .i32 0⟩
theorem agJ:bG P 252 Ks:=cy (by kernel_rfl) (by kernel_rfl) (by kernel_rfl)
abbrev KC:TI:=⟨.struct #[{name:= "Size_",type:=12,offset:=0,embedded:=false,tag:= "",pkgPath:= "",byteOffset:=0},{name:= "PtrBytes",type:=12,offset:=1,embedded:=false,tag:= "",pkgPath:= "",byteOffset:=8},{name:= "Hash",type:=194,offset:=2,embedded:=false,tag:= "",pkgPath:= "",byteOffset:=16},{name:= "TFlag",type:=247,offset:=3,embedded:=false,tag:= "",pkgPath:= "",byteOffset:=20},{name:= "Align_",type:=5,offset:=4,embedded:=false,tag:= "",pkgPath:= "",byteOffset:=21},{name:= "FieldAlign_",type:=5,offset:=5,embedded:=false,tag:= "",pkgPath:= "",byteOffset:=22},{name:= "Kind_",type:=248,offset:=6,embedded:=false,tag:= "",pkgPath:= "",byteOffset:=23},{name:= "Equal",type:=249,offset:=7,embedded:=false,tag:= "",pkgPath:= "",byteOffset:=24},{name:= "GCData",type:=250,offset:=8,embedded:=false,tag:= "",pkgPath:= "",byteOffset:=32},{name:= "Str",type:=251,offset:=9,embedded:=false,tag:= "",pkgPath:= "",byteOffset:=40},{name:= "PtrToThis",type:=252,offset:=10,embedded:=false,tag:= "",pkgPath:= "",byteOffset:=44}],11,48,.tuple []⟩
theorem Y1:bG P 253 KC:=iw (by kernel_rfl) (by kernel_rfl) rfl
abbrev IY:TI:=⟨.struct #[{name:= "Size_",type:=12,offset:=0,embedded:=false,tag:= "",pkgPath:= "",byteOffset:=0},{name:= "PtrBytes",type:=12,offset:=1,embedded:=false,tag:= "",pkgPath:= "",byteOffset:=8},{name:= "Hash",type:=194,offset:=2,embedded:=false,tag:= "",pkgPath:= "",byteOffset:=16},{name:= "TFlag",type:=247,offset:=3,embedded:=false,tag:= "",pkgPath:= "",byteOffset:=20},{name:= "Align_",type:=5,offset:=4,embedded:=false,tag:= "",pkgPath:= "",byteOffset:=21},{name:= "FieldAlign_",type:=5,offset:=5,embedded:=false,tag:= "",pkgPath:= "",byteOffset:=22},{name:= "Kind_",type:=248,offset:=6,embedded:=false,tag:= "",pkgPath:= "",byteOffset:=23},{name:= "Equal",type:=249,offset:=7,embedded:=false,tag:= "",pkgPath:= "",byteOffset:=24},{name:= "GCData",type:=250,offset:=8,embedded:=false,tag:= "",pkgPath:= "",byteOffset:=32},{name:= "Str",type:=251,offset:=9,embedded:=false,tag:= "",pkgPath:= "",byteOffset:=40},{name:= "PtrToThis",type:=252,offset:=10,embedded:=false,tag:= "",pkgPath:= "",byteOffset:=44}],11,48,.tuple []⟩
theorem adQ:bG P 254 IY:=iw (by kernel_rfl) (by kernel_rfl) rfl
abbrev T:Types:=[(2,P9),(3,I1),(4,I2),(5,IX),(6,J2),(7,NZ),(8,OC),(9,M6),(10,J9),(11,IS),(12,IV),(13,O1),(14,JG),(15,Nx),(16,ME),(17,Nm),(18,Ka),(19,IC),(21,Mg),(22,PX),(25,Jv),(26,P3),(27,KT),(28,Pa),(30,OO),(31,PF),(32,Pv),(33,LX),(34,IW),(40,Nl),(41,JJ),(42,Pz),(45,Og),(46,Iv),(47,NP),(63,Jf),(64,Jp),(69,OG),(73,L9),(75,Pt),(76,Pg),(77,OZ),(93,NX),(94,Lg),(95,NS),(98,Ig),(99,Ms),(138,Oy),(139,PL),(143,JB),(172,HZ),(186,IQ),(189,NG),(194,Nd),(210,MA),(213,OX),(232,OU),(241,I3),(242,I5),(247,KL),(248,J3),(250,OM),(251,K3),(252,Ks),(253,KC),(254,IY)]
theorem hT:cP P T:=bM ok2 (bM Tj (bM V6 (bM Vt (bM W8 (bM Ty (bM Sj (bM ok9 (bM ac8 (bM acM (bM afn (bM Qc (bM Xn (bM aeO (bM adg (bM afs (bM YH (bM aad (bM acB (bM ajZ (bM ag8 (bM agF (bM WZ (bM ZV (bM ajN (bM ajS (bM ah6 (bM abz (bM UA (bM WC (bM Sr (bM ahL (bM aar (bM age (bM Qe (bM VD (bM YO (bM aeP (bM ahh (bM Vb (bM RL (bM acY (bM VW (bM aaL (bM UU (bM ajq (bM aat (bM aiB (bM Tt (bM ag7 (bM afx (bM Vv (bM RP (bM agh (bM TS (bM ake (bM Sx (bM ab7 (bM aen (bM agy (bM To (bM aiC (bM aav (bM agJ (bM Y1 (bM adQ (ZH))))))))))))))))))))))))))))))))))))))))))))))))))))))))))))))))))
end Go.Am.N
