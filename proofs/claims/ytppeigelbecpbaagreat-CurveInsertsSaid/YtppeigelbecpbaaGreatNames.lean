/- The seat's names: the numbers of functions, the types. Written by a program. -/
import Derived.Test.YtppeigelbecpbaaGreatZ2
import Derived.Test.YtppeigelbecpbaaGreatProg
import Derived.KernelRfl
set_option linter.unusedVariables false
namespace Go.Am.N
open Go.Proofs
noncomputable abbrev P:Program:=Tryz.prog
theorem hm:P.follows .mixedOrders=true:=by kernel_rfl
abbrev HD:FuncId:=4
noncomputable abbrev j6:Func:=Tryz.f4
theorem ado:P.funcs[HD]?=some j6:=Tryz.func4
abbrev Ch:FuncId:=9
noncomputable abbrev xw:Func:=Tryz.f9
theorem ahi:P.funcs[Ch]?=some xw:=Tryz.func9
abbrev Ii:FuncId:=13
noncomputable abbrev Cn:Func:=Tryz.f13
theorem XD:P.funcs[Ii]?=some Cn:=Tryz.func13
abbrev ry:FuncId:=14
noncomputable abbrev xg:Func:=Tryz.f14
theorem aee:P.funcs[ry]?=some xg:=Tryz.func14
abbrev J7:FuncId:=23
noncomputable abbrev Qn:Func:=Tryz.f23
theorem YJ:P.funcs[J7]?=some Qn:=Tryz.func23
abbrev Ea:FuncId:=24
noncomputable abbrev xj:Func:=Tryz.f24
theorem XL:P.funcs[Ea]?=some xj:=Tryz.func24
abbrev xI:FuncId:=26
noncomputable abbrev xT:Func:=Tryz.f26
theorem abI:P.funcs[xI]?=some xT:=Tryz.func26
abbrev OM:FuncId:=27
noncomputable abbrev Ot:Func:=Tryz.f27
theorem Sx:P.funcs[OM]?=some Ot:=Tryz.func27
abbrev Pe:FuncId:=28
noncomputable abbrev Od:Func:=Tryz.f28
theorem WS:P.funcs[Pe]?=some Od:=Tryz.func28
abbrev oT:FuncId:=29
noncomputable abbrev yV:Func:=Tryz.f29
theorem aao:P.funcs[oT]?=some yV:=Tryz.func29
abbrev uQ:FuncId:=30
noncomputable abbrev wg:Func:=Tryz.f30
theorem aev:P.funcs[uQ]?=some wg:=Tryz.func30
abbrev zE:FuncId:=31
noncomputable abbrev qh:Func:=Tryz.f31
theorem aeW:P.funcs[zE]?=some qh:=Tryz.func31
abbrev xq:FuncId:=32
noncomputable abbrev xl:Func:=Tryz.f32
theorem ahG:P.funcs[xq]?=some xl:=Tryz.func32
abbrev Bb:FuncId:=33
noncomputable abbrev ru:Func:=Tryz.f33
theorem RY:P.funcs[Bb]?=some ru:=Tryz.func33
abbrev Cv:FuncId:=34
noncomputable abbrev wV:Func:=Tryz.f34
theorem aiK:P.funcs[Cv]?=some wV:=Tryz.func34
abbrev vQ:FuncId:=35
noncomputable abbrev lZ:Func:=Tryz.f35
theorem Ru:P.funcs[vQ]?=some lZ:=Tryz.func35
abbrev mR:FuncId:=36
noncomputable abbrev y7:Func:=Tryz.f36
theorem VZ:P.funcs[mR]?=some y7:=Tryz.func36
abbrev oR:FuncId:=37
noncomputable abbrev x4:Func:=Tryz.f37
theorem Xc:P.funcs[oR]?=some x4:=Tryz.func37
abbrev Co:FuncId:=39
noncomputable abbrev xR:Func:=Tryz.f39
theorem ahX:P.funcs[Co]?=some xR:=Tryz.func39
abbrev By:FuncId:=40
noncomputable abbrev Bn:Func:=Tryz.f40
theorem ain:P.funcs[By]?=some Bn:=Tryz.func40
abbrev wm:FuncId:=41
noncomputable abbrev xV:Func:=Tryz.f41
theorem ach:P.funcs[wm]?=some xV:=Tryz.func41
abbrev Da:FuncId:=56
noncomputable abbrev zh:Func:=Tryz.f56
theorem Rf:P.funcs[Da]?=some zh:=Tryz.func56
abbrev yQ:FuncId:=61
noncomputable abbrev lC:Func:=Tryz.f61
theorem Rj:P.funcs[yQ]?=some lC:=Tryz.func61
abbrev qj:FuncId:=63
noncomputable abbrev zU:Func:=Tryz.f63
theorem ahb:P.funcs[qj]?=some zU:=Tryz.func63
abbrev AW:FuncId:=64
noncomputable abbrev Aa:Func:=Tryz.f64
theorem ajR:P.funcs[AW]?=some Aa:=Tryz.func64
abbrev Dq:FuncId:=65
noncomputable abbrev wB:Func:=Tryz.f65
theorem VV:P.funcs[Dq]?=some wB:=Tryz.func65
abbrev AY:FuncId:=66
noncomputable abbrev wG:Func:=Tryz.f66
theorem Sg:P.funcs[AY]?=some wG:=Tryz.func66
abbrev wH:FuncId:=68
noncomputable abbrev qu:Func:=Tryz.f68
theorem XB:P.funcs[wH]?=some qu:=Tryz.func68
abbrev rQ:FuncId:=69
noncomputable abbrev xH:Func:=Tryz.f69
theorem akq:P.funcs[rQ]?=some xH:=Tryz.func69
abbrev wX:FuncId:=71
noncomputable abbrev wR:Func:=Tryz.f71
theorem ahR:P.funcs[wX]?=some wR:=Tryz.func71
abbrev x7:FuncId:=74
noncomputable abbrev yo:Func:=Tryz.f74
theorem acI:P.funcs[x7]?=some yo:=Tryz.func74
abbrev yS:FuncId:=75
noncomputable abbrev w8:Func:=Tryz.f75
theorem ac2:P.funcs[yS]?=some w8:=Tryz.func75
abbrev xM:FuncId:=79
noncomputable abbrev u9:Func:=Tryz.f79
theorem aam:P.funcs[xM]?=some u9:=Tryz.func79
abbrev vq:FuncId:=80
noncomputable abbrev xY:Func:=Tryz.f80
theorem VE:P.funcs[vq]?=some xY:=Tryz.func80
abbrev yM:FuncId:=81
noncomputable abbrev yF:Func:=Tryz.f81
theorem acn:P.funcs[yM]?=some yF:=Tryz.func81
abbrev Ov:FuncId:=82
noncomputable abbrev KZ:Func:=Tryz.f82
theorem aji:P.funcs[Ov]?=some KZ:=Tryz.func82
abbrev yN:FuncId:=83
noncomputable abbrev vN:Func:=Tryz.f83
theorem Vc:P.funcs[yN]?=some vN:=Tryz.func83
abbrev qc:FuncId:=84
noncomputable abbrev xC:Func:=Tryz.f84
theorem aio:P.funcs[qc]?=some xC:=Tryz.func84
abbrev p7:FuncId:=85
noncomputable abbrev wz:Func:=Tryz.f85
theorem aie:P.funcs[p7]?=some wz:=Tryz.func85
abbrev mY:FuncId:=86
noncomputable abbrev z9:Func:=Tryz.f86
theorem af1:P.funcs[mY]?=some z9:=Tryz.func86
abbrev Dk:FuncId:=87
noncomputable abbrev Az:Func:=Tryz.f87
theorem abr:P.funcs[Dk]?=some Az:=Tryz.func87
abbrev vc:FuncId:=88
noncomputable abbrev xO:Func:=Tryz.f88
theorem agF:P.funcs[vc]?=some xO:=Tryz.func88
abbrev rX:FuncId:=89
noncomputable abbrev AN:Func:=Tryz.f89
theorem UC:P.funcs[rX]?=some AN:=Tryz.func89
abbrev s9:FuncId:=90
noncomputable abbrev AF:Func:=Tryz.f90
theorem Y3:P.funcs[s9]?=some AF:=Tryz.func90
abbrev x6:FuncId:=91
noncomputable abbrev nF:Func:=Tryz.f91
theorem ZX:P.funcs[x6]?=some nF:=Tryz.func91
abbrev yu:FuncId:=92
noncomputable abbrev zu:Func:=Tryz.f92
theorem Sw:P.funcs[yu]?=some zu:=Tryz.func92
abbrev Ck:FuncId:=93
noncomputable abbrev zR:Func:=Tryz.f93
theorem ac3:P.funcs[Ck]?=some zR:=Tryz.func93
abbrev vX:FuncId:=94
noncomputable abbrev AS:Func:=Tryz.f94
theorem WL:P.funcs[vX]?=some AS:=Tryz.func94
abbrev zg:FuncId:=95
noncomputable abbrev yC:Func:=Tryz.f95
theorem Vs:P.funcs[zg]?=some yC:=Tryz.func95
abbrev xD:FuncId:=96
noncomputable abbrev yI:Func:=Tryz.f96
theorem aih:P.funcs[xD]?=some yI:=Tryz.func96
abbrev DX:FuncId:=97
noncomputable abbrev Ab:Func:=Tryz.f97
theorem WJ:P.funcs[DX]?=some Ab:=Tryz.func97
abbrev z5:FuncId:=99
noncomputable abbrev vp:Func:=Tryz.f99
theorem ajL:P.funcs[z5]?=some vp:=Tryz.func99
abbrev Cs:FuncId:=100
noncomputable abbrev wk:Func:=Tryz.f100
theorem W5:P.funcs[Cs]?=some wk:=Tryz.func100
abbrev iI:FuncId:=101
noncomputable abbrev yL:Func:=Tryz.f101
theorem X2:P.funcs[iI]?=some yL:=Tryz.func101
abbrev AU:FuncId:=102
noncomputable abbrev wJ:Func:=Tryz.f102
theorem ah6:P.funcs[AU]?=some wJ:=Tryz.func102
abbrev sC:FuncId:=103
noncomputable abbrev rK:Func:=Tryz.f103
theorem ajx:P.funcs[sC]?=some rK:=Tryz.func103
abbrev qS:FuncId:=104
noncomputable abbrev uX:Func:=Tryz.f104
theorem aaN:P.funcs[qS]?=some uX:=Tryz.func104
abbrev DO:FuncId:=105
noncomputable abbrev ve:Func:=Tryz.f105
theorem aiC:P.funcs[DO]?=some ve:=Tryz.func105
abbrev gd:FuncId:=106
noncomputable abbrev vP:Func:=Tryz.f106
theorem XI:P.funcs[gd]?=some vP:=Tryz.func106
abbrev qp:FuncId:=107
noncomputable abbrev zK:Func:=Tryz.f107
theorem Z7:P.funcs[qp]?=some zK:=Tryz.func107
abbrev hU:FuncId:=108
noncomputable abbrev AE:Func:=Tryz.f108
theorem Yo:P.funcs[hU]?=some AE:=Tryz.func108
abbrev AQ:FuncId:=109
noncomputable abbrev vv:Func:=Tryz.f109
theorem Wc:P.funcs[AQ]?=some vv:=Tryz.func109
abbrev pS:FuncId:=110
noncomputable abbrev zW:Func:=Tryz.f110
theorem acA:P.funcs[pS]?=some zW:=Tryz.func110
abbrev vY:FuncId:=111
noncomputable abbrev Au:Func:=Tryz.f111
theorem QX:P.funcs[vY]?=some Au:=Tryz.func111
abbrev Cb:FuncId:=112
noncomputable abbrev v8:Func:=Tryz.f112
theorem acK:P.funcs[Cb]?=some v8:=Tryz.func112
abbrev BC:FuncId:=116
noncomputable abbrev yE:Func:=Tryz.f116
theorem aaP:P.funcs[BC]?=some yE:=Tryz.func116
abbrev zT:FuncId:=119
noncomputable abbrev yG:Func:=Tryz.f119
theorem Wx:P.funcs[zT]?=some yG:=Tryz.func119
abbrev wo:FuncId:=120
noncomputable abbrev vO:Func:=Tryz.f120
theorem ac9:P.funcs[wo]?=some vO:=Tryz.func120
abbrev uy:FuncId:=121
noncomputable abbrev AB:Func:=Tryz.f121
theorem SR:P.funcs[uy]?=some AB:=Tryz.func121
abbrev AI:FuncId:=123
noncomputable abbrev yK:Func:=Tryz.f123
theorem ag8:P.funcs[AI]?=some yK:=Tryz.func123
abbrev r9:FuncId:=125
noncomputable abbrev yq:Func:=Tryz.f125
theorem TK:P.funcs[r9]?=some yq:=Tryz.func125
abbrev fW:FuncId:=137
noncomputable abbrev A2:Func:=Tryz.f137
theorem RO:P.funcs[fW]?=some A2:=Tryz.func137
abbrev wu:FuncId:=145
noncomputable abbrev jN:Func:=Tryz.f145
theorem ahf:P.funcs[wu]?=some jN:=Tryz.func145
abbrev uj:FuncId:=146
noncomputable abbrev j8:Func:=Tryz.f146
theorem aeA:P.funcs[uj]?=some j8:=Tryz.func146
abbrev x9:FuncId:=147
noncomputable abbrev zx:Func:=Tryz.f147
theorem abz:P.funcs[x9]?=some zx:=Tryz.func147
abbrev AK:FuncId:=148
noncomputable abbrev wj:Func:=Tryz.f148
theorem afB:P.funcs[AK]?=some wj:=Tryz.func148
abbrev zy:FuncId:=149
noncomputable abbrev gu:Func:=Tryz.f149
theorem afC:P.funcs[zy]?=some gu:=Tryz.func149
abbrev pI:FuncId:=150
noncomputable abbrev pG:Func:=Tryz.f150
theorem V6:P.funcs[pI]?=some pG:=Tryz.func150
abbrev wT:FuncId:=151
noncomputable abbrev Av:Func:=Tryz.f151
theorem Tv:P.funcs[wT]?=some Av:=Tryz.func151
abbrev uv:FuncId:=152
noncomputable abbrev vD:Func:=Tryz.f152
theorem aiu:P.funcs[uv]?=some vD:=Tryz.func152
abbrev xW:FuncId:=155
noncomputable abbrev tZ:Func:=Tryz.f155
theorem abv:P.funcs[xW]?=some tZ:=Tryz.func155
abbrev BQ:FuncId:=161
noncomputable abbrev u5:Func:=Tryz.f161
theorem ad3:P.funcs[BQ]?=some u5:=Tryz.func161
abbrev Hu:FuncId:=163
noncomputable abbrev D7:Func:=Tryz.f163
theorem Yv:P.funcs[Hu]?=some D7:=Tryz.func163
abbrev jD:FuncId:=164
noncomputable abbrev z7:Func:=Tryz.f164
theorem age:P.funcs[jD]?=some z7:=Tryz.func164
abbrev HU:FuncId:=165
noncomputable abbrev BD:Func:=Tryz.f165
theorem TA:P.funcs[HU]?=some BD:=Tryz.func165
abbrev sL:FuncId:=166
noncomputable abbrev A1:Func:=Tryz.f166
theorem ZC:P.funcs[sL]?=some A1:=Tryz.func166
abbrev pY:FuncId:=167
noncomputable abbrev Al:Func:=Tryz.f167
theorem Rg:P.funcs[pY]?=some Al:=Tryz.func167
abbrev zf:FuncId:=168
noncomputable abbrev yH:Func:=Tryz.f168
theorem ahH:P.funcs[zf]?=some yH:=Tryz.func168
abbrev Lz:FuncId:=169
noncomputable abbrev Kg:Func:=Tryz.f169
theorem afJ:P.funcs[Lz]?=some Kg:=Tryz.func169
abbrev mq:FuncId:=170
noncomputable abbrev m7:Func:=Tryz.f170
theorem Jh:P.funcs[mq]?=some m7:=Tryz.func170
abbrev oF:FuncId:=171
noncomputable abbrev zH:Func:=Tryz.f171
theorem adY:P.funcs[oF]?=some zH:=Tryz.func171
abbrev od:FuncId:=172
noncomputable abbrev A5:Func:=Tryz.f172
theorem ajd:P.funcs[od]?=some A5:=Tryz.func172
abbrev rI:FuncId:=173
noncomputable abbrev vH:Func:=Tryz.f173
theorem Vm:P.funcs[rI]?=some vH:=Tryz.func173
abbrev oO:FuncId:=174
noncomputable abbrev yB:Func:=Tryz.f174
theorem aj8:P.funcs[oO]?=some yB:=Tryz.func174
abbrev Cw:FuncId:=175
noncomputable abbrev CN:Func:=Tryz.f175
theorem akf:P.funcs[Cw]?=some CN:=Tryz.func175
abbrev pM:FuncId:=176
noncomputable abbrev z8:Func:=Tryz.f176
theorem Tp:P.funcs[pM]?=some z8:=Tryz.func176
abbrev sq:FuncId:=178
noncomputable abbrev vu:Func:=Tryz.f178
theorem air:P.funcs[sq]?=some vu:=Tryz.func178
abbrev yw:FuncId:=179
noncomputable abbrev A0:Func:=Tryz.f179
theorem RB:P.funcs[yw]?=some A0:=Tryz.func179
abbrev xu:FuncId:=180
noncomputable abbrev nJ:Func:=Tryz.f180
theorem S3:P.funcs[xu]?=some nJ:=Tryz.func180
abbrev ux:FuncId:=182
noncomputable abbrev CB:Func:=Tryz.f182
theorem Q6:P.funcs[ux]?=some CB:=Tryz.func182
abbrev zC:FuncId:=183
noncomputable abbrev zX:Func:=Tryz.f183
theorem TZ:P.funcs[zC]?=some zX:=Tryz.func183
abbrev sn:FuncId:=184
noncomputable abbrev xB:Func:=Tryz.f184
theorem Z4:P.funcs[sn]?=some xB:=Tryz.func184
abbrev tg:FuncId:=185
noncomputable abbrev gN:Func:=Tryz.f185
theorem aht:P.funcs[tg]?=some gN:=Tryz.func185
abbrev zQ:FuncId:=186
noncomputable abbrev yJ:Func:=Tryz.f186
theorem VF:P.funcs[zQ]?=some yJ:=Tryz.func186
abbrev y5:FuncId:=187
noncomputable abbrev wS:Func:=Tryz.f187
theorem Uu:P.funcs[y5]?=some wS:=Tryz.func187
abbrev tC:FuncId:=188
noncomputable abbrev wq:Func:=Tryz.f188
theorem abC:P.funcs[tC]?=some wq:=Tryz.func188
abbrev wZ:FuncId:=189
noncomputable abbrev Ap:Func:=Tryz.f189
theorem afK:P.funcs[wZ]?=some Ap:=Tryz.func189
abbrev qC:FuncId:=190
noncomputable abbrev vG:Func:=Tryz.f190
theorem Ug:P.funcs[qC]?=some vG:=Tryz.func190
abbrev wP:FuncId:=191
noncomputable abbrev eI:Func:=Tryz.f191
theorem aas:P.funcs[wP]?=some eI:=Tryz.func191
abbrev uY:FuncId:=192
noncomputable abbrev z6:Func:=Tryz.f192
theorem aaS:P.funcs[uY]?=some z6:=Tryz.func192
abbrev uL:FuncId:=193
noncomputable abbrev zP:Func:=Tryz.f193
theorem Wp:P.funcs[uL]?=some zP:=Tryz.func193
abbrev tL:FuncId:=194
noncomputable abbrev dy:Func:=Tryz.f194
theorem aer:P.funcs[tL]?=some dy:=Tryz.func194
abbrev u7:FuncId:=195
noncomputable abbrev iQ:Func:=Tryz.f195
theorem S4:P.funcs[u7]?=some iQ:=Tryz.func195
abbrev CE:FuncId:=197
noncomputable abbrev uW:Func:=Tryz.f197
theorem agB:P.funcs[CE]?=some uW:=Tryz.func197
abbrev Dh:FuncId:=201
noncomputable abbrev Ak:Func:=Tryz.f201
theorem Vu:P.funcs[Dh]?=some Ak:=Tryz.func201
abbrev C7:FuncId:=202
noncomputable abbrev Aq:Func:=Tryz.f202
theorem Wt:P.funcs[C7]?=some Aq:=Tryz.func202
abbrev tI:FuncId:=204
noncomputable abbrev oV:Func:=Tryz.f204
theorem aac:P.funcs[tI]?=some oV:=Tryz.func204
abbrev tv:FuncId:=207
noncomputable abbrev qo:Func:=Tryz.f207
theorem ajo:P.funcs[tv]?=some qo:=Tryz.func207
abbrev nr:FuncId:=208
noncomputable abbrev k7:Func:=Tryz.f208
theorem afZ:P.funcs[nr]?=some k7:=Tryz.func208
abbrev yl:FuncId:=209
noncomputable abbrev jw:Func:=Tryz.f209
theorem ahC:P.funcs[yl]?=some jw:=Tryz.func209
abbrev uD:FuncId:=210
noncomputable abbrev fA:Func:=Tryz.f210
theorem XJ:P.funcs[uD]?=some fA:=Tryz.func210
abbrev vT:FuncId:=211
noncomputable abbrev rM:Func:=Tryz.f211
theorem abe:P.funcs[vT]?=some rM:=Tryz.func211
abbrev x5:FuncId:=212
noncomputable abbrev yR:Func:=Tryz.f212
theorem afM:P.funcs[x5]?=some yR:=Tryz.func212
abbrev qX:FuncId:=215
noncomputable abbrev pH:Func:=Tryz.f215
theorem afU:P.funcs[qX]?=some pH:=Tryz.func215
abbrev LR:FuncId:=216
noncomputable abbrev Py:Func:=Tryz.f216
theorem aaE:P.funcs[LR]?=some Py:=Tryz.func216
abbrev xy:FuncId:=217
noncomputable abbrev vf:Func:=Tryz.f217
theorem Zu:P.funcs[xy]?=some vf:=Tryz.func217
abbrev Dj:FuncId:=218
noncomputable abbrev ke:Func:=Tryz.f218
theorem TD:P.funcs[Dj]?=some ke:=Tryz.func218
abbrev rG:FuncId:=219
noncomputable abbrev gG:Func:=Tryz.f219
theorem Vy:P.funcs[rG]?=some gG:=Tryz.func219
abbrev uA:FuncId:=220
noncomputable abbrev xQ:Func:=Tryz.f220
theorem agj:P.funcs[uA]?=some xQ:=Tryz.func220
abbrev rj:FuncId:=221
noncomputable abbrev Ah:Func:=Tryz.f221
theorem adA:P.funcs[rj]?=some Ah:=Tryz.func221
abbrev uV:FuncId:=222
noncomputable abbrev dH:Func:=Tryz.f222
theorem Y4:P.funcs[uV]?=some dH:=Tryz.func222
abbrev vE:FuncId:=223
noncomputable abbrev oc:Func:=Tryz.f223
theorem afn:P.funcs[vE]?=some oc:=Tryz.func223
abbrev uk:FuncId:=224
noncomputable abbrev xP:Func:=Tryz.f224
theorem akr:P.funcs[uk]?=some xP:=Tryz.func224
abbrev r7:FuncId:=225
noncomputable abbrev vU:Func:=Tryz.f225
theorem WN:P.funcs[r7]?=some vU:=Tryz.func225
abbrev GZ:FuncId:=226
noncomputable abbrev X1:Func:=Tryz.f226
theorem aec:P.funcs[GZ]?=some X1:=Tryz.func226
abbrev uc:FuncId:=227
noncomputable abbrev iq:Func:=Tryz.f227
theorem ahV:P.funcs[uc]?=some iq:=Tryz.func227
abbrev vS:FuncId:=228
noncomputable abbrev lT:Func:=Tryz.f228
theorem QW:P.funcs[vS]?=some lT:=Tryz.func228
abbrev ye:FuncId:=229
noncomputable abbrev oo:Func:=Tryz.f229
theorem aiA:P.funcs[ye]?=some oo:=Tryz.func229
abbrev y8:FuncId:=230
noncomputable abbrev o5:Func:=Tryz.f230
theorem ag0:P.funcs[y8]?=some o5:=Tryz.func230
abbrev xh:FuncId:=231
noncomputable abbrev rq:Func:=Tryz.f231
theorem U6:P.funcs[xh]?=some rq:=Tryz.func231
abbrev zF:FuncId:=235
noncomputable abbrev wI:Func:=Tryz.f235
theorem aif:P.funcs[zF]?=some wI:=Tryz.func235
abbrev tX:FuncId:=237
noncomputable abbrev Ae:Func:=Tryz.f237
theorem TW:P.funcs[tX]?=some Ae:=Tryz.func237
abbrev zI:FuncId:=238
noncomputable abbrev pF:Func:=Tryz.f238
theorem aa4:P.funcs[zI]?=some pF:=Tryz.func238
abbrev AT:FuncId:=239
noncomputable abbrev nY:Func:=Tryz.f239
theorem acX:P.funcs[AT]?=some nY:=Tryz.func239
abbrev yZ:FuncId:=240
noncomputable abbrev wD:Func:=Tryz.f240
theorem T7:P.funcs[yZ]?=some wD:=Tryz.func240
abbrev AR:FuncId:=241
noncomputable abbrev xx:Func:=Tryz.f241
theorem Rd:P.funcs[AR]?=some xx:=Tryz.func241
abbrev z4:FuncId:=242
noncomputable abbrev nB:Func:=Tryz.f242
theorem Vw:P.funcs[z4]?=some nB:=Tryz.func242
abbrev A4:FuncId:=246
noncomputable abbrev pQ:Func:=Tryz.f246
theorem TB:P.funcs[A4]?=some pQ:=Tryz.func246
abbrev x3:FuncId:=247
noncomputable abbrev vj:Func:=Tryz.f247
theorem Vx:P.funcs[x3]?=some vj:=Tryz.func247
abbrev vk:FuncId:=248
noncomputable abbrev k8:Func:=Tryz.f248
theorem YK:P.funcs[vk]?=some k8:=Tryz.func248
abbrev Nv:TI:=⟨.int .i64,1,8,.int .i64 0⟩
theorem ok2:bL P 2 Nv:=cI (by kernel_rfl) (by kernel_rfl) (by kernel_rfl)
abbrev Jt:TI:=⟨.int .i64,1,8,.int .i64 0⟩
theorem Yx:bL P 3 Jt:=cI (by kernel_rfl) (by kernel_rfl) (by kernel_rfl)
abbrev JQ:TI:=⟨.bool,1,1,.bool false⟩
theorem Zq:bL P 4 JQ:=cI (by kernel_rfl) (by kernel_rfl) (by kernel_rfl)
abbrev MX:TI:=⟨.int .u8,1,1,.int .u8 0⟩
theorem Rc:bL P 5 MX:=cI (by kernel_rfl) (by kernel_rfl) (by kernel_rfl)
abbrev LK:TI:=⟨.int .u8,1,1,.int .u8 0⟩
theorem WW:bL P 6 LK:=cI (by kernel_rfl) (by kernel_rfl) (by kernel_rfl)
abbrev KV:TI:=⟨.struct #[{name:= "x",type:=2,offset:=0,embedded:=false,tag:= "",pkgPath:= "runtime",byteOffset:=0},{name:= "y",type:=3,offset:=1,embedded:=false,tag:= "",pkgPath:= "runtime",byteOffset:=8},{name:= "signed",type:=4,offset:=2,embedded:=false,tag:= "",pkgPath:= "runtime",byteOffset:=16},{name:= "code",type:=6,offset:=3,embedded:=false,tag:= "",pkgPath:= "runtime",byteOffset:=17}],4,24,.agg [.int .i64 0,.int .i64 0,.bool false,.int .u8 0]⟩
theorem ok7:bL P 7 KV:=cI (by kernel_rfl) (by kernel_rfl) (by kernel_rfl)
abbrev P2:TI:=⟨.struct #[{name:= "x",type:=2,offset:=0,embedded:=false,tag:= "",pkgPath:= "runtime",byteOffset:=0},{name:= "y",type:=3,offset:=1,embedded:=false,tag:= "",pkgPath:= "runtime",byteOffset:=8},{name:= "signed",type:=4,offset:=2,embedded:=false,tag:= "",pkgPath:= "runtime",byteOffset:=16},{name:= "code",type:=6,offset:=3,embedded:=false,tag:= "",pkgPath:= "runtime",byteOffset:=17}],4,24,.agg [.int .i64 0,.int .i64 0,.bool false,.int .u8 0]⟩
theorem ok8:bL P 8 P2:=cI (by kernel_rfl) (by kernel_rfl) (by kernel_rfl)
abbrev Ja:TI:=⟨.string,1,16,.tuple []⟩
theorem ok9:bL P 9 Ja:=iK (by kernel_rfl) (by kernel_rfl) rfl
abbrev PF:TI:=⟨.string,1,16,.tuple []⟩
theorem Xo:bL P 10 PF:=iK (by kernel_rfl) (by kernel_rfl) rfl
abbrev P7:TI:=⟨.string,1,16,.tuple []⟩
theorem ahl:bL P 11 P7:=iK (by kernel_rfl) (by kernel_rfl) rfl
abbrev Oo:TI:=⟨.int .u64,1,8,.int .u64 0⟩
theorem abW:bL P 12 Oo:=cI (by kernel_rfl) (by kernel_rfl) (by kernel_rfl)
abbrev Nu:TI:=⟨.struct #[{name:= "msg",type:=9,offset:=0,embedded:=false,tag:= "",pkgPath:= "runtime",byteOffset:=0},{name:= "addr",type:=12,offset:=1,embedded:=false,tag:= "",pkgPath:= "runtime",byteOffset:=16}],2,24,.tuple []⟩
theorem aeH:bL P 13 Nu:=iK (by kernel_rfl) (by kernel_rfl) rfl
abbrev LV:TI:=⟨.struct #[{name:= "msg",type:=9,offset:=0,embedded:=false,tag:= "",pkgPath:= "runtime",byteOffset:=0},{name:= "addr",type:=12,offset:=1,embedded:=false,tag:= "",pkgPath:= "runtime",byteOffset:=16}],2,24,.tuple []⟩
theorem adp:bL P 14 LV:=iK (by kernel_rfl) (by kernel_rfl) rfl
abbrev JY:TI:=⟨.pointer 242,1,8,.tuple []⟩
theorem aia:bL P 15 JY:=iK (by kernel_rfl) (by kernel_rfl) rfl
abbrev Ni:TI:=⟨.pointer 245,1,8,.tuple []⟩
theorem ahr:bL P 16 Ni:=iK (by kernel_rfl) (by kernel_rfl) rfl
abbrev IY:TI:=⟨.pointer 254,1,8,.tuple []⟩
theorem ajT:bL P 17 IY:=iK (by kernel_rfl) (by kernel_rfl) rfl
abbrev Kk:TI:=⟨.struct #[{name:= "typ",type:=17,offset:=0,embedded:=false,tag:= "",pkgPath:= "internal/runtime/maps",byteOffset:=0}],1,8,.tuple []⟩
theorem aav:bL P 18 Kk:=iK (by kernel_rfl) (by kernel_rfl) rfl
abbrev NB:TI:=⟨.struct #[{name:= "typ",type:=17,offset:=0,embedded:=false,tag:= "",pkgPath:= "internal/runtime/maps",byteOffset:=0}],1,8,.tuple []⟩
theorem aiX:bL P 19 NB:=iK (by kernel_rfl) (by kernel_rfl) rfl
abbrev Ke:TI:=⟨.int .i32,1,4,.int .i32 0⟩
theorem ahn:bL P 21 Ke:=cI (by kernel_rfl) (by kernel_rfl) (by kernel_rfl)
abbrev Ob:TI:=⟨.slice 3,1,24,.nil⟩
theorem ahK:bL P 22 Ob:=cI (by kernel_rfl) (by kernel_rfl) (by kernel_rfl)
abbrev KR:TI:=⟨.slice 32,1,24,.nil⟩
theorem S2:bL P 25 KR:=cI (by kernel_rfl) (by kernel_rfl) (by kernel_rfl)
abbrev Pa:TI:=⟨.slice 45,1,24,.nil⟩
theorem agw:bL P 26 Pa:=cI (by kernel_rfl) (by kernel_rfl) (by kernel_rfl)
abbrev Oa:TI:=⟨.struct #[{name:= "U",type:=3,offset:=0,embedded:=false,tag:= "",pkgPath:= "",byteOffset:=0},{name:= "V",type:=3,offset:=1,embedded:=false,tag:= "",pkgPath:= "",byteOffset:=8},{name:= "KnotsU",type:=25,offset:=2,embedded:=false,tag:= "",pkgPath:= "",byteOffset:=16},{name:= "KnotsV",type:=25,offset:=3,embedded:=false,tag:= "",pkgPath:= "",byteOffset:=40},{name:= "Poles",type:=26,offset:=4,embedded:=false,tag:= "",pkgPath:= "",byteOffset:=64}],5,88,.agg [.int .i64 0,.int .i64 0,.nil,.nil,.nil]⟩
theorem ajt:bL P 27 Oa:=cI (by kernel_rfl) (by kernel_rfl) (by kernel_rfl)
abbrev Jx:TI:=⟨.struct #[{name:= "U",type:=3,offset:=0,embedded:=false,tag:= "",pkgPath:= "",byteOffset:=0},{name:= "V",type:=3,offset:=1,embedded:=false,tag:= "",pkgPath:= "",byteOffset:=8},{name:= "KnotsU",type:=25,offset:=2,embedded:=false,tag:= "",pkgPath:= "",byteOffset:=16},{name:= "KnotsV",type:=25,offset:=3,embedded:=false,tag:= "",pkgPath:= "",byteOffset:=40},{name:= "Poles",type:=26,offset:=4,embedded:=false,tag:= "",pkgPath:= "",byteOffset:=64}],5,88,.agg [.int .i64 0,.int .i64 0,.nil,.nil,.nil]⟩
theorem ajz:bL P 28 Jx:=cI (by kernel_rfl) (by kernel_rfl) (by kernel_rfl)
abbrev NQ:TI:=⟨.slice 194,1,24,.nil⟩
theorem agX:bL P 30 NQ:=cI (by kernel_rfl) (by kernel_rfl) (by kernel_rfl)
abbrev MH:TI:=⟨.struct #[{name:= "Neg",type:=4,offset:=0,embedded:=false,tag:= "",pkgPath:= "",byteOffset:=0},{name:= "Num",type:=30,offset:=1,embedded:=false,tag:= "",pkgPath:= "",byteOffset:=8},{name:= "Den",type:=30,offset:=2,embedded:=false,tag:= "",pkgPath:= "",byteOffset:=32}],3,56,.agg [.bool false,.nil,.nil]⟩
theorem Zh:bL P 31 MH:=cI (by kernel_rfl) (by kernel_rfl) (by kernel_rfl)
abbrev Mn:TI:=⟨.struct #[{name:= "Neg",type:=4,offset:=0,embedded:=false,tag:= "",pkgPath:= "",byteOffset:=0},{name:= "Num",type:=30,offset:=1,embedded:=false,tag:= "",pkgPath:= "",byteOffset:=8},{name:= "Den",type:=30,offset:=2,embedded:=false,tag:= "",pkgPath:= "",byteOffset:=32}],3,56,.rat 0 1⟩
theorem Tc:bL P 32 Mn:=cI (by kernel_rfl) (by kernel_rfl) (by kernel_rfl)
abbrev Pv:TI:=⟨.struct #[{name:= "Lo",type:=32,offset:=0,embedded:=false,tag:= "",pkgPath:= "",byteOffset:=0},{name:= "Hi",type:=32,offset:=3,embedded:=false,tag:= "",pkgPath:= "",byteOffset:=56}],6,112,.agg [.rat 0 1,.rat 0 1]⟩
theorem TM:bL P 33 Pv:=cI (by kernel_rfl) (by kernel_rfl) (by kernel_rfl)
abbrev PX:TI:=⟨.struct #[{name:= "Lo",type:=32,offset:=0,embedded:=false,tag:= "",pkgPath:= "",byteOffset:=0},{name:= "Hi",type:=32,offset:=3,embedded:=false,tag:= "",pkgPath:= "",byteOffset:=56}],6,112,.agg [.rat 0 1,.rat 0 1]⟩
theorem UB:bL P 34 PX:=cI (by kernel_rfl) (by kernel_rfl) (by kernel_rfl)
abbrev Jc:TI:=⟨.array 3 32,9,168,.agg [.rat 0 1,.rat 0 1,.rat 0 1]⟩
theorem RT:bL P 40 Jc:=cI (by kernel_rfl) (by kernel_rfl) (by kernel_rfl)
abbrev K6:TI:=⟨.array 3 32,9,168,.agg [.rat 0 1,.rat 0 1,.rat 0 1]⟩
theorem SK:bL P 41 K6:=cI (by kernel_rfl) (by kernel_rfl) (by kernel_rfl)
abbrev PZ:TI:=⟨.int .i64,1,8,.int .i64 0⟩
theorem aaI:bL P 42 PZ:=cI (by kernel_rfl) (by kernel_rfl) (by kernel_rfl)
abbrev IX:TI:=⟨.slice 64,1,24,.nil⟩
theorem adB:bL P 45 IX:=cI (by kernel_rfl) (by kernel_rfl) (by kernel_rfl)
abbrev OC:TI:=⟨.struct #[{name:= "Degree",type:=3,offset:=0,embedded:=false,tag:= "",pkgPath:= "",byteOffset:=0},{name:= "Knots",type:=25,offset:=1,embedded:=false,tag:= "",pkgPath:= "",byteOffset:=8},{name:= "Poles",type:=45,offset:=2,embedded:=false,tag:= "",pkgPath:= "",byteOffset:=32}],3,56,.agg [.int .i64 0,.nil,.nil]⟩
theorem ai6:bL P 46 OC:=cI (by kernel_rfl) (by kernel_rfl) (by kernel_rfl)
abbrev OF:TI:=⟨.struct #[{name:= "Degree",type:=3,offset:=0,embedded:=false,tag:= "",pkgPath:= "",byteOffset:=0},{name:= "Knots",type:=25,offset:=1,embedded:=false,tag:= "",pkgPath:= "",byteOffset:=8},{name:= "Poles",type:=45,offset:=2,embedded:=false,tag:= "",pkgPath:= "",byteOffset:=32}],3,56,.agg [.int .i64 0,.nil,.nil]⟩
theorem adg:bL P 47 OF:=cI (by kernel_rfl) (by kernel_rfl) (by kernel_rfl)
abbrev KP:TI:=⟨.struct #[{name:= "P",type:=41,offset:=0,embedded:=false,tag:= "",pkgPath:= "",byteOffset:=0},{name:= "W",type:=32,offset:=9,embedded:=false,tag:= "",pkgPath:= "",byteOffset:=168}],12,224,.agg [.agg [.rat 0 1,.rat 0 1,.rat 0 1],.rat 0 1]⟩
theorem Ry:bL P 63 KP:=cI (by kernel_rfl) (by kernel_rfl) (by kernel_rfl)
abbrev P3:TI:=⟨.struct #[{name:= "P",type:=41,offset:=0,embedded:=false,tag:= "",pkgPath:= "",byteOffset:=0},{name:= "W",type:=32,offset:=9,embedded:=false,tag:= "",pkgPath:= "",byteOffset:=168}],12,224,.agg [.agg [.rat 0 1,.rat 0 1,.rat 0 1],.rat 0 1]⟩
theorem ahT:bL P 64 P3:=cI (by kernel_rfl) (by kernel_rfl) (by kernel_rfl)
abbrev Kw:TI:=⟨.pointer 139,1,8,.tuple []⟩
theorem ZM:bL P 69 Kw:=iK (by kernel_rfl) (by kernel_rfl) rfl
abbrev Ml:TI:=⟨.slice 47,1,24,.nil⟩
theorem YR:bL P 73 Ml:=cI (by kernel_rfl) (by kernel_rfl) (by kernel_rfl)
abbrev JV:TI:=⟨.array 3 41,27,504,.agg [.agg [.rat 0 1,.rat 0 1,.rat 0 1],.agg [.rat 0 1,.rat 0 1,.rat 0 1],.agg [.rat 0 1,.rat 0 1,.rat 0 1]]⟩
theorem WU:bL P 75 JV:=cI (by kernel_rfl) (by kernel_rfl) (by kernel_rfl)
abbrev Kc:TI:=⟨.struct #[{name:= "M",type:=75,offset:=0,embedded:=false,tag:= "",pkgPath:= "",byteOffset:=0},{name:= "T",type:=41,offset:=27,embedded:=false,tag:= "",pkgPath:= "",byteOffset:=504}],36,672,.agg [.agg [.agg [.rat 0 1,.rat 0 1,.rat 0 1],.agg [.rat 0 1,.rat 0 1,.rat 0 1],.agg [.rat 0 1,.rat 0 1,.rat 0 1]],.agg [.rat 0 1,.rat 0 1,.rat 0 1]]⟩
theorem agE:bL P 76 Kc:=cI (by kernel_rfl) (by kernel_rfl) (by kernel_rfl)
abbrev MA:TI:=⟨.struct #[{name:= "M",type:=75,offset:=0,embedded:=false,tag:= "",pkgPath:= "",byteOffset:=0},{name:= "T",type:=41,offset:=27,embedded:=false,tag:= "",pkgPath:= "",byteOffset:=504}],36,672,.agg [.agg [.agg [.rat 0 1,.rat 0 1,.rat 0 1],.agg [.rat 0 1,.rat 0 1,.rat 0 1],.agg [.rat 0 1,.rat 0 1,.rat 0 1]],.agg [.rat 0 1,.rat 0 1,.rat 0 1]]⟩
theorem ac6:bL P 77 MA:=cI (by kernel_rfl) (by kernel_rfl) (by kernel_rfl)
abbrev Om:TI:=⟨.slice 99,1,24,.nil⟩
theorem XO:bL P 93 Om:=cI (by kernel_rfl) (by kernel_rfl) (by kernel_rfl)
abbrev LX:TI:=⟨.struct #[{name:= "Degree",type:=3,offset:=0,embedded:=false,tag:= "",pkgPath:= "",byteOffset:=0},{name:= "Knots",type:=25,offset:=1,embedded:=false,tag:= "",pkgPath:= "",byteOffset:=8},{name:= "C",type:=93,offset:=2,embedded:=false,tag:= "",pkgPath:= "",byteOffset:=32}],3,56,.agg [.int .i64 0,.nil,.nil]⟩
theorem V8:bL P 94 LX:=cI (by kernel_rfl) (by kernel_rfl) (by kernel_rfl)
abbrev PB:TI:=⟨.struct #[{name:= "Degree",type:=3,offset:=0,embedded:=false,tag:= "",pkgPath:= "",byteOffset:=0},{name:= "Knots",type:=25,offset:=1,embedded:=false,tag:= "",pkgPath:= "",byteOffset:=8},{name:= "C",type:=93,offset:=2,embedded:=false,tag:= "",pkgPath:= "",byteOffset:=32}],3,56,.agg [.int .i64 0,.nil,.nil]⟩
theorem Zr:bL P 95 PB:=cI (by kernel_rfl) (by kernel_rfl) (by kernel_rfl)
abbrev PD:TI:=⟨.array 4 32,12,224,.agg [.rat 0 1,.rat 0 1,.rat 0 1,.rat 0 1]⟩
theorem acQ:bL P 98 PD:=cI (by kernel_rfl) (by kernel_rfl) (by kernel_rfl)
abbrev NX:TI:=⟨.array 4 32,12,224,.agg [.rat 0 1,.rat 0 1,.rat 0 1,.rat 0 1]⟩
theorem aho:bL P 99 NX:=cI (by kernel_rfl) (by kernel_rfl) (by kernel_rfl)
abbrev Kb:TI:=⟨.struct #[{name:= "L",type:=22,offset:=0,embedded:=false,tag:= "",pkgPath:= "",byteOffset:=0},{name:= "At",type:=3,offset:=1,embedded:=false,tag:= "",pkgPath:= "",byteOffset:=24}],2,32,.agg [.nil,.int .i64 0]⟩
theorem UH:bL P 138 Kb:=cI (by kernel_rfl) (by kernel_rfl) (by kernel_rfl)
abbrev Qe:TI:=⟨.struct #[{name:= "L",type:=22,offset:=0,embedded:=false,tag:= "",pkgPath:= "",byteOffset:=0},{name:= "At",type:=3,offset:=1,embedded:=false,tag:= "",pkgPath:= "",byteOffset:=24}],2,32,.agg [.nil,.int .i64 0]⟩
theorem abH:bL P 139 Qe:=cI (by kernel_rfl) (by kernel_rfl) (by kernel_rfl)
abbrev MQ:TI:=⟨.array 4 25,4,96,.agg [.nil,.nil,.nil,.nil]⟩
theorem ab3:bL P 143 MQ:=cI (by kernel_rfl) (by kernel_rfl) (by kernel_rfl)
abbrev Ol:TI:=⟨.slice 95,1,24,.nil⟩
theorem SQ:bL P 172 Ol:=cI (by kernel_rfl) (by kernel_rfl) (by kernel_rfl)
abbrev NT:TI:=⟨.array 2 32,6,112,.agg [.rat 0 1,.rat 0 1]⟩
theorem aaL:bL P 186 NT:=cI (by kernel_rfl) (by kernel_rfl) (by kernel_rfl)
abbrev Nn:TI:=⟨.int .u64,1,8,.int .u64 0⟩
theorem Te:bL P 189 Nn:=cI (by kernel_rfl) (by kernel_rfl) (by kernel_rfl)
abbrev Ou:TI:=⟨.int .u32,1,4,.int .u32 0⟩
theorem Sh:bL P 194 Ou:=cI (by kernel_rfl) (by kernel_rfl) (by kernel_rfl)
abbrev N6:TI:=⟨.slice 5,1,24,.nil⟩
theorem afP:bL P 210 N6:=cI (by kernel_rfl) (by kernel_rfl) (by kernel_rfl)
abbrev NL:TI:=⟨.int .u64,1,8,.int .u64 0⟩
theorem aak:bL P 213 NL:=cI (by kernel_rfl) (by kernel_rfl) (by kernel_rfl)
abbrev PN:TI:=⟨.slice 25,1,24,.nil⟩
theorem Sb:bL P 232 PN:=cI (by kernel_rfl) (by kernel_rfl) (by kernel_rfl)
abbrev Nz:TI:=⟨.struct #[{name:= "_interface",type:=17,offset:=0,embedded:=false,tag:= "",pkgPath:= "runtime",byteOffset:=0},{name:= "concrete",type:=17,offset:=1,embedded:=false,tag:= "",pkgPath:= "runtime",byteOffset:=8},{name:= "asserted",type:=17,offset:=2,embedded:=false,tag:= "",pkgPath:= "runtime",byteOffset:=16},{name:= "missingMethod",type:=9,offset:=3,embedded:=false,tag:= "",pkgPath:= "runtime",byteOffset:=24}],4,40,.tuple []⟩
theorem agl:bL P 241 Nz:=iK (by kernel_rfl) (by kernel_rfl) rfl
abbrev NO:TI:=⟨.struct #[{name:= "_interface",type:=17,offset:=0,embedded:=false,tag:= "",pkgPath:= "runtime",byteOffset:=0},{name:= "concrete",type:=17,offset:=1,embedded:=false,tag:= "",pkgPath:= "runtime",byteOffset:=8},{name:= "asserted",type:=17,offset:=2,embedded:=false,tag:= "",pkgPath:= "runtime",byteOffset:=16},{name:= "missingMethod",type:=9,offset:=3,embedded:=false,tag:= "",pkgPath:= "runtime",byteOffset:=24}],4,40,.tuple []⟩
theorem ajU:bL P 242 NO:=iK (by kernel_rfl) (by kernel_rfl) rfl
abbrev Qq:TI:=⟨.int .u8,1,1,.int .u8 0⟩
theorem SF:bL P 247 Qq:=cI (by kernel_rfl) (by kernel_rfl) (by kernel_rfl)
abbrev J1:TI:=⟨.int .u8,1,1,.int .u8 0⟩
theorem afg:bL P 248 J1:=cI (by kernel_rfl) (by kernel_rfl) (by kernel_rfl)
abbrev NC:TI:=⟨.pointer 5,1,8,.tuple []⟩
theorem ZW:bL P 250 NC:=iK (by kernel_rfl) (by kernel_rfl) rfl
abbrev Ks:TI:=⟨.int .i32,1,4,.int .i32 0⟩
theorem aau:bL P 251 Ks:=cI (by kernel_rfl) (by kernel_rfl) (by kernel_rfl)
abbrev Qm:TI:=⟨.int .i32,1,4,.int .i32 0⟩
theorem ahh:bL P 252 Qm:=cI (by kernel_rfl) (by kernel_rfl) (by kernel_rfl)
abbrev Jb:TI:=⟨.struct #[{name:= "Size_",type:=12,offset:=0,embedded:=false,tag:= "",pkgPath:= "",byteOffset:=0},{name:= "PtrBytes",type:=12,offset:=1,embedded:=false,tag:= "",pkgPath:= "",byteOffset:=8},{name:= "Hash",type:=194,offset:=2,embedded:=false,tag:= "",pkgPath:= "",byteOffset:=16},{name:= "TFlag",type:=247,offset:=3,embedded:=false,tag:= "",pkgPath:= "",byteOffset:=20},{name:= "Align_",type:=5,offset:=4,embedded:=false,tag:= "",pkgPath:= "",byteOffset:=21},{name:= "FieldAlign_",type:=5,offset:=5,embedded:=false,tag:= "",pkgPath:= "",byteOffset:=22},{name:= "Kind_",type:=248,offset:=6,embedded:=false,tag:= "",pkgPath:= "",byteOffset:=23},{name:= "Equal",type:=249,offset:=7,embedded:=false,tag:= "",pkgPath:= "",byteOffset:=24},{name:= "GCData",type:=250,offset:=8,embedded:=false,tag:= "",pkgPath:= "",byteOffset:=32},{name:= "Str",type:=251,offset:=9,embedded:=false,tag:= "",pkgPath:= "",byteOffset:=40},{name:= "PtrToThis",type:=252,offset:=10,embedded:=false,tag:= "",pkgPath:= "",byteOffset:=44}],11,48,.tuple []⟩
theorem abk:bL P 253 Jb:=iK (by kernel_rfl) (by kernel_rfl) rfl
abbrev LO:TI:=⟨.struct #[{name:= "Size_",type:=12,offset:=0,embedded:=false,tag:= "",pkgPath:= "",byteOffset:=0},{name:= "PtrBytes",type:=12,offset:=1,embedded:=false,tag:= "",pkgPath:= "",byteOffset:=8},{name:= "Hash",type:=194,offset:=2,embedded:=false,tag:= "",pkgPath:= "",byteOffset:=16},{name:= "TFlag",type:=247,offset:=3,embedded:=false,tag:= "",pkgPath:= "",byteOffset:=20},{name:= "Align_",type:=5,offset:=4,embedded:=false,tag:= "",pkgPath:= "",byteOffset:=21},{name:= "FieldAlign_",type:=5,offset:=5,embedded:=false,tag:= "",pkgPath:= "",byteOffset:=22},{name:= "Kind_",type:=248,offset:=6,embedded:=false,tag:= "",pkgPath:= "",byteOffset:=23},{name:= "Equal",type:=249,offset:=7,embedded:=false,tag:= "",pkgPath:= "",byteOffset:=24},{name:= "GCData",type:=250,offset:=8,embedded:=false,tag:= "",pkgPath:= "",byteOffset:=32},{name:= "Str",type:=251,offset:=9,embedded:=false,tag:= "",pkgPath:= "",byteOffset:=40},{name:= "PtrToThis",type:=252,offset:=10,embedded:=false,tag:= "",pkgPath:= "",byteOffset:=44}],11,48,.tuple []⟩
theorem agt:bL P 254 LO:=iK (by kernel_rfl) (by kernel_rfl) rfl
abbrev T:Types:=[(2,Nv),(3,Jt),(4,JQ),(5,MX),(6,LK),(7,KV),(8,P2),(9,Ja),(10,PF),(11,P7),(12,Oo),(13,Nu),(14,LV),(15,JY),(16,Ni),(17,IY),(18,Kk),(19,NB),(21,Ke),(22,Ob),(25,KR),(26,Pa),(27,Oa),(28,Jx),(30,NQ),(31,MH),(32,Mn),(33,Pv),(34,PX),(40,Jc),(41,K6),(42,PZ),(45,IX),(46,OC),(47,OF),(63,KP),(64,P3),(69,Kw),(73,Ml),(75,JV),(76,Kc),(77,MA),(93,Om),(94,LX),(95,PB),(98,PD),(99,NX),(138,Kb),(139,Qe),(143,MQ),(172,Ol),(186,NT),(189,Nn),(194,Ou),(210,N6),(213,NL),(232,PN),(241,Nz),(242,NO),(247,Qq),(248,J1),(250,NC),(251,Ks),(252,Qm),(253,Jb),(254,LO)]
theorem hT:ec P T:=bS ok2 (bS Yx (bS Zq (bS Rc (bS WW (bS ok7 (bS ok8 (bS ok9 (bS Xo (bS ahl (bS abW (bS aeH (bS adp (bS aia (bS ahr (bS ajT (bS aav (bS aiX (bS ahn (bS ahK (bS S2 (bS agw (bS ajt (bS ajz (bS agX (bS Zh (bS Tc (bS TM (bS UB (bS RT (bS SK (bS aaI (bS adB (bS ai6 (bS adg (bS Ry (bS ahT (bS ZM (bS YR (bS WU (bS agE (bS ac6 (bS XO (bS V8 (bS Zr (bS acQ (bS aho (bS UH (bS abH (bS ab3 (bS SQ (bS aaL (bS Te (bS Sh (bS afP (bS aak (bS Sb (bS agl (bS ajU (bS SF (bS afg (bS ZW (bS aau (bS ahh (bS abk (bS agt (adb))))))))))))))))))))))))))))))))))))))))))))))))))))))))))))))))))
end Go.Am.N
