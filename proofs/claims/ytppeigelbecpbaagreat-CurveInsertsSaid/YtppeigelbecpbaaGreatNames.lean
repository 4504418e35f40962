/- The seat's names: the numbers of functions, the types. Written by a program. -/
import Derived.Test.YtppeigelbecpbaaGreatZ2
import Derived.Test.YtppeigelbecpbaaGreatProg
import Derived.KernelRfl
set_option linter.unusedVariables false
namespace Go.Am.N
open Go.Proofs
noncomputable abbrev P:Program:=Tryz.prog
theorem hm:P.follows .mixedOrders=true:=by kernel_rfl
abbrev FH:FuncId:=4
noncomputable abbrev j7:Func:=Tryz.f4
theorem akl:P.funcs[FH]?=some j7:=Tryz.func4
abbrev Bm:FuncId:=9
noncomputable abbrev yc:Func:=Tryz.f9
theorem adH:P.funcs[Bm]?=some yc:=Tryz.func9
abbrev Gp:FuncId:=13
noncomputable abbrev D0:Func:=Tryz.f13
theorem adh:P.funcs[Gp]?=some D0:=Tryz.func13
abbrev rQ:FuncId:=14
noncomputable abbrev AB:Func:=Tryz.f14
theorem Sq:P.funcs[rQ]?=some AB:=Tryz.func14
abbrev NU:FuncId:=23
noncomputable abbrev Kf:Func:=Tryz.f23
theorem Wj:P.funcs[NU]?=some Kf:=Tryz.func23
abbrev BJ:FuncId:=24
noncomputable abbrev yz:Func:=Tryz.f24
theorem adM:P.funcs[BJ]?=some yz:=Tryz.func24
abbrev z7:FuncId:=26
noncomputable abbrev v7:Func:=Tryz.f26
theorem VX:P.funcs[z7]?=some v7:=Tryz.func26
abbrev JY:FuncId:=27
noncomputable abbrev OI:Func:=Tryz.f27
theorem aiS:P.funcs[JY]?=some OI:=Tryz.func27
abbrev LA:FuncId:=28
noncomputable abbrev J1:Func:=Tryz.f28
theorem TL:P.funcs[LA]?=some J1:=Tryz.func28
abbrev o5:FuncId:=29
noncomputable abbrev u5:Func:=Tryz.f29
theorem Vc:P.funcs[o5]?=some u5:=Tryz.func29
abbrev ue:FuncId:=30
noncomputable abbrev xD:Func:=Tryz.f30
theorem ag2:P.funcs[ue]?=some xD:=Tryz.func30
abbrev AQ:FuncId:=31
noncomputable abbrev ql:Func:=Tryz.f31
theorem TK:P.funcs[AQ]?=some ql:=Tryz.func31
abbrev vX:FuncId:=32
noncomputable abbrev yu:Func:=Tryz.f32
theorem ab3:P.funcs[vX]?=some yu:=Tryz.func32
abbrev xY:FuncId:=33
noncomputable abbrev rH:Func:=Tryz.f33
theorem Ri:P.funcs[xY]?=some rH:=Tryz.func33
abbrev C4:FuncId:=34
noncomputable abbrev AR:Func:=Tryz.f34
theorem YI:P.funcs[C4]?=some AR:=Tryz.func34
abbrev zC:FuncId:=35
noncomputable abbrev l6:Func:=Tryz.f35
theorem ace:P.funcs[zC]?=some l6:=Tryz.func35
abbrev nu:FuncId:=36
noncomputable abbrev xq:Func:=Tryz.f36
theorem TB:P.funcs[nu]?=some xq:=Tryz.func36
abbrev pO:FuncId:=37
noncomputable abbrev wP:Func:=Tryz.f37
theorem Uf:P.funcs[pO]?=some wP:=Tryz.func37
abbrev Bo:FuncId:=39
noncomputable abbrev yo:Func:=Tryz.f39
theorem aeE:P.funcs[Bo]?=some yo:=Tryz.func39
abbrev Bt:FuncId:=40
noncomputable abbrev Bq:Func:=Tryz.f40
theorem aiR:P.funcs[Bt]?=some Bq:=Tryz.func40
abbrev Ag:FuncId:=41
noncomputable abbrev zJ:Func:=Tryz.f41
theorem ajo:P.funcs[Ag]?=some zJ:=Tryz.func41
abbrev BO:FuncId:=56
noncomputable abbrev xS:Func:=Tryz.f56
theorem WL:P.funcs[BO]?=some xS:=Tryz.func56
abbrev xb:FuncId:=61
noncomputable abbrev lG:Func:=Tryz.f61
theorem adm:P.funcs[xb]?=some lG:=Tryz.func61
abbrev rB:FuncId:=63
noncomputable abbrev uW:Func:=Tryz.f63
theorem ai3:P.funcs[rB]?=some uW:=Tryz.func63
abbrev vW:FuncId:=64
noncomputable abbrev Ar:Func:=Tryz.f64
theorem adL:P.funcs[vW]?=some Ar:=Tryz.func64
abbrev Cc:FuncId:=65
noncomputable abbrev A1:Func:=Tryz.f65
theorem aao:P.funcs[Cc]?=some A1:=Tryz.func65
abbrev Bg:FuncId:=66
noncomputable abbrev yd:Func:=Tryz.f66
theorem ag1:P.funcs[Bg]?=some yd:=Tryz.func66
abbrev vE:FuncId:=68
noncomputable abbrev qn:Func:=Tryz.f68
theorem abX:P.funcs[vE]?=some qn:=Tryz.func68
abbrev rm:FuncId:=69
noncomputable abbrev yV:Func:=Tryz.f69
theorem VH:P.funcs[rm]?=some yV:=Tryz.func69
abbrev yM:FuncId:=71
noncomputable abbrev x4:Func:=Tryz.f71
theorem aba:P.funcs[yM]?=some x4:=Tryz.func71
abbrev Av:FuncId:=74
noncomputable abbrev Ba:Func:=Tryz.f74
theorem ahj:P.funcs[Av]?=some Ba:=Tryz.func74
abbrev wj:FuncId:=75
noncomputable abbrev vp:Func:=Tryz.f75
theorem acp:P.funcs[wj]?=some vp:=Tryz.func75
abbrev z4:FuncId:=79
noncomputable abbrev A5:Func:=Tryz.f79
theorem Xm:P.funcs[z4]?=some A5:=Tryz.func79
abbrev wD:FuncId:=80
noncomputable abbrev xJ:Func:=Tryz.f80
theorem UE:P.funcs[wD]?=some xJ:=Tryz.func80
abbrev Ap:FuncId:=81
noncomputable abbrev wR:Func:=Tryz.f81
theorem ahX:P.funcs[Ap]?=some wR:=Tryz.func81
abbrev KQ:FuncId:=82
noncomputable abbrev KU:Func:=Tryz.f82
theorem Vw:P.funcs[KQ]?=some KU:=Tryz.func82
abbrev wG:FuncId:=83
noncomputable abbrev Bc:Func:=Tryz.f83
theorem Yz:P.funcs[wG]?=some Bc:=Tryz.func83
abbrev rP:FuncId:=84
noncomputable abbrev zV:Func:=Tryz.f84
theorem ajK:P.funcs[rP]?=some zV:=Tryz.func84
abbrev pT:FuncId:=85
noncomputable abbrev v8:Func:=Tryz.f85
theorem Zo:P.funcs[pT]?=some v8:=Tryz.func85
abbrev nJ:FuncId:=86
noncomputable abbrev Ai:Func:=Tryz.f86
theorem acW:P.funcs[nJ]?=some Ai:=Tryz.func86
abbrev Dp:FuncId:=87
noncomputable abbrev AX:Func:=Tryz.f87
theorem adj:P.funcs[Dp]?=some AX:=Tryz.func87
abbrev wk:FuncId:=88
noncomputable abbrev AD:Func:=Tryz.f88
theorem TM:P.funcs[wk]?=some AD:=Tryz.func88
abbrev qe:FuncId:=89
noncomputable abbrev vM:Func:=Tryz.f89
theorem XW:P.funcs[qe]?=some vM:=Tryz.func89
abbrev sC:FuncId:=90
noncomputable abbrev yb:Func:=Tryz.f90
theorem aeY:P.funcs[sC]?=some yb:=Tryz.func90
abbrev vr:FuncId:=91
noncomputable abbrev nM:Func:=Tryz.f91
theorem agj:P.funcs[vr]?=some nM:=Tryz.func91
abbrev Bf:FuncId:=92
noncomputable abbrev xl:Func:=Tryz.f92
theorem Y4:P.funcs[Bf]?=some xl:=Tryz.func92
abbrev CT:FuncId:=93
noncomputable abbrev Ah:Func:=Tryz.f93
theorem aeO:P.funcs[CT]?=some Ah:=Tryz.func93
abbrev wW:FuncId:=94
noncomputable abbrev z5:Func:=Tryz.f94
theorem aaR:P.funcs[wW]?=some z5:=Tryz.func94
abbrev Au:FuncId:=95
noncomputable abbrev A9:Func:=Tryz.f95
theorem aab:P.funcs[Au]?=some A9:=Tryz.func95
abbrev AG:FuncId:=96
noncomputable abbrev vZ:Func:=Tryz.f96
theorem agk:P.funcs[AG]?=some vZ:=Tryz.func96
abbrev DU:FuncId:=97
noncomputable abbrev wB:Func:=Tryz.f97
theorem Rl:P.funcs[DU]?=some wB:=Tryz.func97
abbrev x3:FuncId:=99
noncomputable abbrev AU:Func:=Tryz.f99
theorem aj2:P.funcs[x3]?=some AU:=Tryz.func99
abbrev Ec:FuncId:=100
noncomputable abbrev wQ:Func:=Tryz.f100
theorem aiO:P.funcs[Ec]?=some wQ:=Tryz.func100
abbrev iA:FuncId:=101
noncomputable abbrev xo:Func:=Tryz.f101
theorem Z4:P.funcs[iA]?=some xo:=Tryz.func101
abbrev vH:FuncId:=102
noncomputable abbrev vw:Func:=Tryz.f102
theorem QT:P.funcs[vH]?=some vw:=Tryz.func102
abbrev uh:FuncId:=103
noncomputable abbrev rG:Func:=Tryz.f103
theorem aak:P.funcs[uh]?=some rG:=Tryz.func103
abbrev qW:FuncId:=104
noncomputable abbrev Ao:Func:=Tryz.f104
theorem SD:P.funcs[qW]?=some Ao:=Tryz.func104
abbrev Cv:FuncId:=105
noncomputable abbrev vP:Func:=Tryz.f105
theorem abP:P.funcs[Cv]?=some vP:=Tryz.func105
abbrev gl:FuncId:=106
noncomputable abbrev y8:Func:=Tryz.f106
theorem SM:P.funcs[gl]?=some y8:=Tryz.func106
abbrev qq:FuncId:=107
noncomputable abbrev AW:Func:=Tryz.f107
theorem afC:P.funcs[qq]?=some AW:=Tryz.func107
abbrev ij:FuncId:=108
noncomputable abbrev vh:Func:=Tryz.f108
theorem ab8:P.funcs[ij]?=some vh:=Tryz.func108
abbrev wm:FuncId:=109
noncomputable abbrev zm:Func:=Tryz.f109
theorem ad9:P.funcs[wm]?=some zm:=Tryz.func109
abbrev oE:FuncId:=110
noncomputable abbrev xR:Func:=Tryz.f110
theorem ZI:P.funcs[oE]?=some xR:=Tryz.func110
abbrev yB:FuncId:=111
noncomputable abbrev wK:Func:=Tryz.f111
theorem XM:P.funcs[yB]?=some wK:=Tryz.func111
abbrev BC:FuncId:=112
noncomputable abbrev AA:Func:=Tryz.f112
theorem Xb:P.funcs[BC]?=some AA:=Tryz.func112
abbrev CO:FuncId:=116
noncomputable abbrev yW:Func:=Tryz.f116
theorem adS:P.funcs[CO]?=some yW:=Tryz.func116
abbrev Aa:FuncId:=119
noncomputable abbrev vg:Func:=Tryz.f119
theorem aeF:P.funcs[Aa]?=some vg:=Tryz.func119
abbrev xF:FuncId:=120
noncomputable abbrev vj:Func:=Tryz.f120
theorem V7:P.funcs[xF]?=some vj:=Tryz.func120
abbrev s9:FuncId:=121
noncomputable abbrev yO:Func:=Tryz.f121
theorem T0:P.funcs[s9]?=some yO:=Tryz.func121
abbrev ze:FuncId:=123
noncomputable abbrev yC:Func:=Tryz.f123
theorem Rx:P.funcs[ze]?=some yC:=Tryz.func123
abbrev tF:FuncId:=125
noncomputable abbrev AZ:Func:=Tryz.f125
theorem Q8:P.funcs[tF]?=some AZ:=Tryz.func125
abbrev fY:FuncId:=137
noncomputable abbrev xC:Func:=Tryz.f137
theorem U7:P.funcs[fY]?=some xC:=Tryz.func137
abbrev xU:FuncId:=145
noncomputable abbrev jL:Func:=Tryz.f145
theorem Sk:P.funcs[xU]?=some jL:=Tryz.func145
abbrev uj:FuncId:=146
noncomputable abbrev kQ:Func:=Tryz.f146
theorem ahF:P.funcs[uj]?=some kQ:=Tryz.func146
abbrev A8:FuncId:=147
noncomputable abbrev uY:Func:=Tryz.f147
theorem ahL:P.funcs[A8]?=some uY:=Tryz.func147
abbrev AE:FuncId:=148
noncomputable abbrev vS:Func:=Tryz.f148
theorem acX:P.funcs[AE]?=some vS:=Tryz.func148
abbrev vJ:FuncId:=149
noncomputable abbrev gu:Func:=Tryz.f149
theorem To:P.funcs[vJ]?=some gu:=Tryz.func149
abbrev pg:FuncId:=150
noncomputable abbrev oL:Func:=Tryz.f150
theorem TR:P.funcs[pg]?=some oL:=Tryz.func150
abbrev vi:FuncId:=151
noncomputable abbrev zW:Func:=Tryz.f151
theorem SZ:P.funcs[vi]?=some zW:=Tryz.func151
abbrev uV:FuncId:=152
noncomputable abbrev Az:Func:=Tryz.f152
theorem XQ:P.funcs[uV]?=some Az:=Tryz.func152
abbrev Be:FuncId:=155
noncomputable abbrev tV:Func:=Tryz.f155
theorem Xf:P.funcs[Be]?=some tV:=Tryz.func155
abbrev DS:FuncId:=161
noncomputable abbrev wI:Func:=Tryz.f161
theorem aii:P.funcs[DS]?=some wI:=Tryz.func161
abbrev Gh:FuncId:=163
noncomputable abbrev BK:Func:=Tryz.f163
theorem QL:P.funcs[Gh]?=some BK:=Tryz.func163
abbrev js:FuncId:=164
noncomputable abbrev xe:Func:=Tryz.f164
theorem Uc:P.funcs[js]?=some xe:=Tryz.func164
abbrev HO:FuncId:=165
noncomputable abbrev DV:Func:=Tryz.f165
theorem ZM:P.funcs[HO]?=some DV:=Tryz.func165
abbrev uF:FuncId:=166
noncomputable abbrev xA:Func:=Tryz.f166
theorem aa1:P.funcs[uF]?=some xA:=Tryz.func166
abbrev p8:FuncId:=167
noncomputable abbrev yh:Func:=Tryz.f167
theorem Xd:P.funcs[p8]?=some yh:=Tryz.func167
abbrev za:FuncId:=168
noncomputable abbrev zI:Func:=Tryz.f168
theorem adQ:P.funcs[za]?=some zI:=Tryz.func168
abbrev Qm:FuncId:=169
noncomputable abbrev Nm:Func:=Tryz.f169
theorem Ra:P.funcs[Qm]?=some Nm:=Tryz.func169
abbrev mK:FuncId:=170
noncomputable abbrev mQ:Func:=Tryz.f170
theorem Ja:P.funcs[mK]?=some mQ:=Tryz.func170
abbrev ot:FuncId:=171
noncomputable abbrev z9:Func:=Tryz.f171
theorem ahv:P.funcs[ot]?=some z9:=Tryz.func171
abbrev oT:FuncId:=172
noncomputable abbrev yF:Func:=Tryz.f172
theorem ait:P.funcs[oT]?=some yF:=Tryz.func172
abbrev p9:FuncId:=173
noncomputable abbrev zq:Func:=Tryz.f173
theorem agD:P.funcs[p9]?=some zq:=Tryz.func173
abbrev oI:FuncId:=174
noncomputable abbrev AM:Func:=Tryz.f174
theorem X2:P.funcs[oI]?=some AM:=Tryz.func174
abbrev Dy:FuncId:=175
noncomputable abbrev Bz:Func:=Tryz.f175
theorem aff:P.funcs[Dy]?=some Bz:=Tryz.func175
abbrev pJ:FuncId:=176
noncomputable abbrev A4:Func:=Tryz.f176
theorem Ws:P.funcs[pJ]?=some A4:=Tryz.func176
abbrev tn:FuncId:=178
noncomputable abbrev AL:Func:=Tryz.f178
theorem aeN:P.funcs[tn]?=some AL:=Tryz.func178
abbrev zx:FuncId:=179
noncomputable abbrev wC:Func:=Tryz.f179
theorem acf:P.funcs[zx]?=some wC:=Tryz.func179
abbrev Ac:FuncId:=180
noncomputable abbrev ng:Func:=Tryz.f180
theorem aio:P.funcs[Ac]?=some ng:=Tryz.func180
abbrev sZ:FuncId:=182
noncomputable abbrev DF:Func:=Tryz.f182
theorem Up:P.funcs[sZ]?=some DF:=Tryz.func182
abbrev AF:FuncId:=183
noncomputable abbrev xx:Func:=Tryz.f183
theorem UH:P.funcs[AF]?=some xx:=Tryz.func183
abbrev uD:FuncId:=184
noncomputable abbrev wv:Func:=Tryz.f184
theorem ab1:P.funcs[uD]?=some wv:=Tryz.func184
abbrev s6:FuncId:=185
noncomputable abbrev gN:Func:=Tryz.f185
theorem T3:P.funcs[s6]?=some gN:=Tryz.func185
abbrev z6:FuncId:=186
noncomputable abbrev xd:Func:=Tryz.f186
theorem ac2:P.funcs[z6]?=some xd:=Tryz.func186
abbrev ye:FuncId:=187
noncomputable abbrev A0:Func:=Tryz.f187
theorem Y1:P.funcs[ye]?=some A0:=Tryz.func187
abbrev tS:FuncId:=188
noncomputable abbrev zR:Func:=Tryz.f188
theorem Yr:P.funcs[tS]?=some zR:=Tryz.func188
abbrev zg:FuncId:=189
noncomputable abbrev As:Func:=Tryz.f189
theorem aaS:P.funcs[zg]?=some As:=Tryz.func189
abbrev rq:FuncId:=190
noncomputable abbrev zM:Func:=Tryz.f190
theorem Q1:P.funcs[rq]?=some zM:=Tryz.func190
abbrev vR:FuncId:=191
noncomputable abbrev eG:Func:=Tryz.f191
theorem VG:P.funcs[vR]?=some eG:=Tryz.func191
abbrev y9:FuncId:=192
noncomputable abbrev xM:Func:=Tryz.f192
theorem agG:P.funcs[y9]?=some xM:=Tryz.func192
abbrev tR:FuncId:=193
noncomputable abbrev ym:Func:=Tryz.f193
theorem akd:P.funcs[tR]?=some ym:=Tryz.func193
abbrev su:FuncId:=194
noncomputable abbrev dx:Func:=Tryz.f194
theorem TW:P.funcs[su]?=some dx:=Tryz.func194
abbrev yw:FuncId:=195
noncomputable abbrev iD:Func:=Tryz.f195
theorem af9:P.funcs[yw]?=some iD:=Tryz.func195
abbrev D4:FuncId:=197
noncomputable abbrev xy:Func:=Tryz.f197
theorem Q4:P.funcs[D4]?=some xy:=Tryz.func197
abbrev BV:FuncId:=201
noncomputable abbrev vK:Func:=Tryz.f201
theorem ahT:P.funcs[BV]?=some vK:=Tryz.func201
abbrev BP:FuncId:=202
noncomputable abbrev vm:Func:=Tryz.f202
theorem agp:P.funcs[BP]?=some vm:=Tryz.func202
abbrev tW:FuncId:=204
noncomputable abbrev oc:Func:=Tryz.f204
theorem ahd:P.funcs[tW]?=some oc:=Tryz.func204
abbrev ug:FuncId:=207
noncomputable abbrev rE:Func:=Tryz.f207
theorem ajw:P.funcs[ug]?=some rE:=Tryz.func207
abbrev nK:FuncId:=208
noncomputable abbrev lz:Func:=Tryz.f208
theorem aaP:P.funcs[nK]?=some lz:=Tryz.func208
abbrev zk:FuncId:=209
noncomputable abbrev jr:Func:=Tryz.f209
theorem Va:P.funcs[zk]?=some jr:=Tryz.func209
abbrev s5:FuncId:=210
noncomputable abbrev fG:Func:=Tryz.f210
theorem abK:P.funcs[s5]?=some fG:=Tryz.func210
abbrev yS:FuncId:=211
noncomputable abbrev qT:Func:=Tryz.f211
theorem Q2:P.funcs[yS]?=some qT:=Tryz.func211
abbrev yt:FuncId:=212
noncomputable abbrev u9:Func:=Tryz.f212
theorem adW:P.funcs[yt]?=some u9:=Tryz.func212
abbrev rU:FuncId:=215
noncomputable abbrev ow:Func:=Tryz.f215
theorem Vx:P.funcs[rU]?=some ow:=Tryz.func215
abbrev IX:FuncId:=216
noncomputable abbrev P3:Func:=Tryz.f216
theorem aiL:P.funcs[IX]?=some P3:=Tryz.func216
abbrev y6:FuncId:=217
noncomputable abbrev vC:Func:=Tryz.f217
theorem Rc:P.funcs[y6]?=some vC:=Tryz.func217
abbrev D9:FuncId:=218
noncomputable abbrev kz:Func:=Tryz.f218
theorem abv:P.funcs[D9]?=some kz:=Tryz.func218
abbrev rN:FuncId:=219
noncomputable abbrev gI:Func:=Tryz.f219
theorem adP:P.funcs[rN]?=some gI:=Tryz.func219
abbrev uv:FuncId:=220
noncomputable abbrev Ae:Func:=Tryz.f220
theorem Ug:P.funcs[uv]?=some Ae:=Tryz.func220
abbrev rO:FuncId:=221
noncomputable abbrev wF:Func:=Tryz.f221
theorem ahI:P.funcs[rO]?=some wF:=Tryz.func221
abbrev tY:FuncId:=222
noncomputable abbrev dD:Func:=Tryz.f222
theorem WW:P.funcs[tY]?=some dD:=Tryz.func222
abbrev xu:FuncId:=223
noncomputable abbrev pG:Func:=Tryz.f223
theorem ajq:P.funcs[xu]?=some pG:=Tryz.func223
abbrev sM:FuncId:=224
noncomputable abbrev xP:Func:=Tryz.f224
theorem acI:P.funcs[sM]?=some xP:=Tryz.func224
abbrev uG:FuncId:=225
noncomputable abbrev vO:Func:=Tryz.f225
theorem abI:P.funcs[uG]?=some vO:=Tryz.func225
abbrev HD:FuncId:=226
noncomputable abbrev S6:Func:=Tryz.f226
theorem Rr:P.funcs[HD]?=some S6:=Tryz.func226
abbrev ud:FuncId:=227
noncomputable abbrev ig:Func:=Tryz.f227
theorem adx:P.funcs[ud]?=some ig:=Tryz.func227
abbrev xK:FuncId:=228
noncomputable abbrev kX:Func:=Tryz.f228
theorem aep:P.funcs[xK]?=some kX:=Tryz.func228
abbrev AT:FuncId:=229
noncomputable abbrev pA:Func:=Tryz.f229
theorem Uy:P.funcs[AT]?=some pA:=Tryz.func229
abbrev xQ:FuncId:=230
noncomputable abbrev oJ:Func:=Tryz.f230
theorem afl:P.funcs[xQ]?=some oJ:=Tryz.func230
abbrev wM:FuncId:=231
noncomputable abbrev qz:Func:=Tryz.f231
theorem Rq:P.funcs[wM]?=some qz:=Tryz.func231
abbrev zB:FuncId:=235
noncomputable abbrev vI:Func:=Tryz.f235
theorem XV:P.funcs[zB]?=some vI:=Tryz.func235
abbrev th:FuncId:=237
noncomputable abbrev wz:Func:=Tryz.f237
theorem Ur:P.funcs[th]?=some wz:=Tryz.func237
abbrev Ay:FuncId:=238
noncomputable abbrev ou:Func:=Tryz.f238
theorem aaI:P.funcs[Ay]?=some ou:=Tryz.func238
abbrev AO:FuncId:=239
noncomputable abbrev ny:Func:=Tryz.f239
theorem aby:P.funcs[AO]?=some ny:=Tryz.func239
abbrev Ak:FuncId:=240
noncomputable abbrev yR:Func:=Tryz.f240
theorem TD:P.funcs[Ak]?=some yR:=Tryz.func240
abbrev ya:FuncId:=241
noncomputable abbrev x5:Func:=Tryz.f241
theorem akk:P.funcs[ya]?=some x5:=Tryz.func241
abbrev zS:FuncId:=242
noncomputable abbrev mP:Func:=Tryz.f242
theorem ZK:P.funcs[zS]?=some mP:=Tryz.func242
abbrev uZ:FuncId:=246
noncomputable abbrev o9:Func:=Tryz.f246
theorem VS:P.funcs[uZ]?=some o9:=Tryz.func246
abbrev vF:FuncId:=247
noncomputable abbrev Bh:Func:=Tryz.f247
theorem afE:P.funcs[vF]?=some Bh:=Tryz.func247
abbrev yP:FuncId:=248
noncomputable abbrev k7:Func:=Tryz.f248
theorem VY:P.funcs[yP]?=some k7:=Tryz.func248
abbrev MR:TI:=⟨.int .i64,1,8,.int .i64 0⟩
theorem Zv:bL P 2 MR:=cJ (by kernel_rfl) (by kernel_rfl) (by kernel_rfl)
abbrev Ml:TI:=⟨.int .i64,1,8,.int .i64 0⟩
theorem ok3:bL P 3 Ml:=cJ (by kernel_rfl) (by kernel_rfl) (by kernel_rfl)
abbrev Qt:TI:=⟨.bool,1,1,.bool false⟩
theorem Wx:bL P 4 Qt:=cJ (by kernel_rfl) (by kernel_rfl) (by kernel_rfl)
abbrev J6:TI:=⟨.int .u8,1,1,.int .u8 0⟩
theorem ok5:bL P 5 J6:=cJ (by kernel_rfl) (by kernel_rfl) (by kernel_rfl)
abbrev JO:TI:=⟨.int .u8,1,1,.int .u8 0⟩
theorem Wc:bL P 6 JO:=cJ (by kernel_rfl) (by kernel_rfl) (by kernel_rfl)
abbrev Ov:TI:=⟨.struct #[{name:= "x",type:=2,offset:=0,embedded:=false,tag:= "",pkgPath:= "runtime",byteOffset:=0},{name:= "y",type:=3,offset:=1,embedded:=false,tag:= "",pkgPath:= "runtime",byteOffset:=8},{name:= "signed",type:=4,offset:=2,embedded:=false,tag:= "",pkgPath:= "runtime",byteOffset:=16},{name:= "code",type:=6,offset:=3,embedded:=false,tag:= "",pkgPath:= "runtime",byteOffset:=17}],4,24,.agg [.int .i64 0,.int .i64 0,.bool false,.int .u8 0]⟩
theorem ok7:bL P 7 Ov:=cJ (by kernel_rfl) (by kernel_rfl) (by kernel_rfl)
abbrev N4:TI:=⟨.struct #[{name:= "x",type:=2,offset:=0,embedded:=false,tag:= "",pkgPath:= "runtime",byteOffset:=0},{name:= "y",type:=3,offset:=1,embedded:=false,tag:= "",pkgPath:= "runtime",byteOffset:=8},{name:= "signed",type:=4,offset:=2,embedded:=false,tag:= "",pkgPath:= "runtime",byteOffset:=16},{name:= "code",type:=6,offset:=3,embedded:=false,tag:= "",pkgPath:= "runtime",byteOffset:=17}],4,24,.agg [.int .i64 0,.int .i64 0,.bool false,.int .u8 0]⟩
theorem Sm:bL P 8 N4:=cJ (by kernel_rfl) (by kernel_rfl) (by kernel_rfl)
abbrev Mh:TI:=⟨.string,1,16,.tuple []⟩
theorem ok9:bL P 9 Mh:=iE (by kernel_rfl) (by kernel_rfl) rfl
abbrev JW:TI:=⟨.string,1,16,.tuple []⟩
theorem akj:bL P 10 JW:=iE (by kernel_rfl) (by kernel_rfl) rfl
abbrev Nw:TI:=⟨.string,1,16,.tuple []⟩
theorem Zi:bL P 11 Nw:=iE (by kernel_rfl) (by kernel_rfl) rfl
abbrev Qs:TI:=⟨.int .u64,1,8,.int .u64 0⟩
theorem ad8:bL P 12 Qs:=cJ (by kernel_rfl) (by kernel_rfl) (by kernel_rfl)
abbrev Pk:TI:=⟨.struct #[{name:= "msg",type:=9,offset:=0,embedded:=false,tag:= "",pkgPath:= "runtime",byteOffset:=0},{name:= "addr",type:=12,offset:=1,embedded:=false,tag:= "",pkgPath:= "runtime",byteOffset:=16}],2,24,.tuple []⟩
theorem afj:bL P 13 Pk:=iE (by kernel_rfl) (by kernel_rfl) rfl
abbrev OJ:TI:=⟨.struct #[{name:= "msg",type:=9,offset:=0,embedded:=false,tag:= "",pkgPath:= "runtime",byteOffset:=0},{name:= "addr",type:=12,offset:=1,embedded:=false,tag:= "",pkgPath:= "runtime",byteOffset:=16}],2,24,.tuple []⟩
theorem aj3:bL P 14 OJ:=iE (by kernel_rfl) (by kernel_rfl) rfl
abbrev Lp:TI:=⟨.pointer 242,1,8,.tuple []⟩
theorem Ud:bL P 15 Lp:=iE (by kernel_rfl) (by kernel_rfl) rfl
abbrev KY:TI:=⟨.pointer 245,1,8,.tuple []⟩
theorem Tv:bL P 16 KY:=iE (by kernel_rfl) (by kernel_rfl) rfl
abbrev Jo:TI:=⟨.pointer 254,1,8,.tuple []⟩
theorem RF:bL P 17 Jo:=iE (by kernel_rfl) (by kernel_rfl) rfl
abbrev PZ:TI:=⟨.struct #[{name:= "typ",type:=17,offset:=0,embedded:=false,tag:= "",pkgPath:= "internal/runtime/maps",byteOffset:=0}],1,8,.tuple []⟩
theorem ZC:bL P 18 PZ:=iE (by kernel_rfl) (by kernel_rfl) rfl
abbrev Ql:TI:=⟨.struct #[{name:= "typ",type:=17,offset:=0,embedded:=false,tag:= "",pkgPath:= "internal/runtime/maps",byteOffset:=0}],1,8,.tuple []⟩
theorem XB:bL P 19 Ql:=iE (by kernel_rfl) (by kernel_rfl) rfl
abbrev OB:TI:=⟨.int .i32,1,4,.int .i32 0⟩
theorem SH:bL P 21 OB:=cJ (by kernel_rfl) (by kernel_rfl) (by kernel_rfl)
abbrev PB:TI:=⟨.slice 3,1,24,.nil⟩
theorem S8:bL P 22 PB:=cJ (by kernel_rfl) (by kernel_rfl) (by kernel_rfl)
abbrev Me:TI:=⟨.slice 32,1,24,.nil⟩
theorem aaY:bL P 25 Me:=cJ (by kernel_rfl) (by kernel_rfl) (by kernel_rfl)
abbrev MC:TI:=⟨.slice 45,1,24,.nil⟩
theorem Sd:bL P 26 MC:=cJ (by kernel_rfl) (by kernel_rfl) (by kernel_rfl)
abbrev P5:TI:=⟨.struct #[{name:= "U",type:=3,offset:=0,embedded:=false,tag:= "",pkgPath:= "",byteOffset:=0},{name:= "V",type:=3,offset:=1,embedded:=false,tag:= "",pkgPath:= "",byteOffset:=8},{name:= "KnotsU",type:=25,offset:=2,embedded:=false,tag:= "",pkgPath:= "",byteOffset:=16},{name:= "KnotsV",type:=25,offset:=3,embedded:=false,tag:= "",pkgPath:= "",byteOffset:=40},{name:= "Poles",type:=26,offset:=4,embedded:=false,tag:= "",pkgPath:= "",byteOffset:=64}],5,88,.agg [.int .i64 0,.int .i64 0,.nil,.nil,.nil]⟩
theorem T8:bL P 27 P5:=cJ (by kernel_rfl) (by kernel_rfl) (by kernel_rfl)
abbrev K3:TI:=⟨.struct #[{name:= "U",type:=3,offset:=0,embedded:=false,tag:= "",pkgPath:= "",byteOffset:=0},{name:= "V",type:=3,offset:=1,embedded:=false,tag:= "",pkgPath:= "",byteOffset:=8},{name:= "KnotsU",type:=25,offset:=2,embedded:=false,tag:= "",pkgPath:= "",byteOffset:=16},{name:= "KnotsV",type:=25,offset:=3,embedded:=false,tag:= "",pkgPath:= "",byteOffset:=40},{name:= "Poles",type:=26,offset:=4,embedded:=false,tag:= "",pkgPath:= "",byteOffset:=64}],5,88,.agg [.int .i64 0,.int .i64 0,.nil,.nil,.nil]⟩
theorem acy:bL P 28 K3:=cJ (by kernel_rfl) (by kernel_rfl) (by kernel_rfl)
abbrev N3:TI:=⟨.slice 194,1,24,.nil⟩
theorem ZL:bL P 30 N3:=cJ (by kernel_rfl) (by kernel_rfl) (by kernel_rfl)
abbrev LX:TI:=⟨.struct #[{name:= "Neg",type:=4,offset:=0,embedded:=false,tag:= "",pkgPath:= "",byteOffset:=0},{name:= "Num",type:=30,offset:=1,embedded:=false,tag:= "",pkgPath:= "",byteOffset:=8},{name:= "Den",type:=30,offset:=2,embedded:=false,tag:= "",pkgPath:= "",byteOffset:=32}],3,56,.agg [.bool false,.nil,.nil]⟩
theorem agC:bL P 31 LX:=cJ (by kernel_rfl) (by kernel_rfl) (by kernel_rfl)
abbrev Mx:TI:=⟨.struct #[{name:= "Neg",type:=4,offset:=0,embedded:=false,tag:= "",pkgPath:= "",byteOffset:=0},{name:= "Num",type:=30,offset:=1,embedded:=false,tag:= "",pkgPath:= "",byteOffset:=8},{name:= "Den",type:=30,offset:=2,embedded:=false,tag:= "",pkgPath:= "",byteOffset:=32}],3,56,.rat 0 1⟩
theorem WK:bL P 32 Mx:=cJ (by kernel_rfl) (by kernel_rfl) (by kernel_rfl)
abbrev OC:TI:=⟨.struct #[{name:= "Lo",type:=32,offset:=0,embedded:=false,tag:= "",pkgPath:= "",byteOffset:=0},{name:= "Hi",type:=32,offset:=3,embedded:=false,tag:= "",pkgPath:= "",byteOffset:=56}],6,112,.agg [.rat 0 1,.rat 0 1]⟩
theorem agq:bL P 33 OC:=cJ (by kernel_rfl) (by kernel_rfl) (by kernel_rfl)
abbrev QA:TI:=⟨.struct #[{name:= "Lo",type:=32,offset:=0,embedded:=false,tag:= "",pkgPath:= "",byteOffset:=0},{name:= "Hi",type:=32,offset:=3,embedded:=false,tag:= "",pkgPath:= "",byteOffset:=56}],6,112,.agg [.rat 0 1,.rat 0 1]⟩
theorem afI:bL P 34 QA:=cJ (by kernel_rfl) (by kernel_rfl) (by kernel_rfl)
abbrev Qq:TI:=⟨.array 3 32,9,168,.agg [.rat 0 1,.rat 0 1,.rat 0 1]⟩
theorem YA:bL P 40 Qq:=cJ (by kernel_rfl) (by kernel_rfl) (by kernel_rfl)
abbrev I0:TI:=⟨.array 3 32,9,168,.agg [.rat 0 1,.rat 0 1,.rat 0 1]⟩
theorem XD:bL P 41 I0:=cJ (by kernel_rfl) (by kernel_rfl) (by kernel_rfl)
abbrev PJ:TI:=⟨.int .i64,1,8,.int .i64 0⟩
theorem XL:bL P 42 PJ:=cJ (by kernel_rfl) (by kernel_rfl) (by kernel_rfl)
abbrev Ko:TI:=⟨.slice 64,1,24,.nil⟩
theorem aei:bL P 45 Ko:=cJ (by kernel_rfl) (by kernel_rfl) (by kernel_rfl)
abbrev MT:TI:=⟨.struct #[{name:= "Degree",type:=3,offset:=0,embedded:=false,tag:= "",pkgPath:= "",byteOffset:=0},{name:= "Knots",type:=25,offset:=1,embedded:=false,tag:= "",pkgPath:= "",byteOffset:=8},{name:= "Poles",type:=45,offset:=2,embedded:=false,tag:= "",pkgPath:= "",byteOffset:=32}],3,56,.agg [.int .i64 0,.nil,.nil]⟩
theorem ajD:bL P 46 MT:=cJ (by kernel_rfl) (by kernel_rfl) (by kernel_rfl)
abbrev Np:TI:=⟨.struct #[{name:= "Degree",type:=3,offset:=0,embedded:=false,tag:= "",pkgPath:= "",byteOffset:=0},{name:= "Knots",type:=25,offset:=1,embedded:=false,tag:= "",pkgPath:= "",byteOffset:=8},{name:= "Poles",type:=45,offset:=2,embedded:=false,tag:= "",pkgPath:= "",byteOffset:=32}],3,56,.agg [.int .i64 0,.nil,.nil]⟩
theorem Sc:bL P 47 Np:=cJ (by kernel_rfl) (by kernel_rfl) (by kernel_rfl)
abbrev OW:TI:=⟨.struct #[{name:= "P",type:=41,offset:=0,embedded:=false,tag:= "",pkgPath:= "",byteOffset:=0},{name:= "W",type:=32,offset:=9,embedded:=false,tag:= "",pkgPath:= "",byteOffset:=168}],12,224,.agg [.agg [.rat 0 1,.rat 0 1,.rat 0 1],.rat 0 1]⟩
theorem afW:bL P 63 OW:=cJ (by kernel_rfl) (by kernel_rfl) (by kernel_rfl)
abbrev M0:TI:=⟨.struct #[{name:= "P",type:=41,offset:=0,embedded:=false,tag:= "",pkgPath:= "",byteOffset:=0},{name:= "W",type:=32,offset:=9,embedded:=false,tag:= "",pkgPath:= "",byteOffset:=168}],12,224,.agg [.agg [.rat 0 1,.rat 0 1,.rat 0 1],.rat 0 1]⟩
theorem aiT:bL P 64 M0:=cJ (by kernel_rfl) (by kernel_rfl) (by kernel_rfl)
abbrev NI:TI:=⟨.pointer 139,1,8,.tuple []⟩
theorem XE:bL P 69 NI:=iE (by kernel_rfl) (by kernel_rfl) rfl
abbrev LF:TI:=⟨.slice 47,1,24,.nil⟩
theorem ahK:bL P 73 LF:=cJ (by kernel_rfl) (by kernel_rfl) (by kernel_rfl)
abbrev KE:TI:=⟨.array 3 41,27,504,.agg [.agg [.rat 0 1,.rat 0 1,.rat 0 1],.agg [.rat 0 1,.rat 0 1,.rat 0 1],.agg [.rat 0 1,.rat 0 1,.rat 0 1]]⟩
theorem Zp:bL P 75 KE:=cJ (by kernel_rfl) (by kernel_rfl) (by kernel_rfl)
abbrev JU:TI:=⟨.struct #[{name:= "M",type:=75,offset:=0,embedded:=false,tag:= "",pkgPath:= "",byteOffset:=0},{name:= "T",type:=41,offset:=27,embedded:=false,tag:= "",pkgPath:= "",byteOffset:=504}],36,672,.agg [.agg [.agg [.rat 0 1,.rat 0 1,.rat 0 1],.agg [.rat 0 1,.rat 0 1,.rat 0 1],.agg [.rat 0 1,.rat 0 1,.rat 0 1]],.agg [.rat 0 1,.rat 0 1,.rat 0 1]]⟩
theorem acM:bL P 76 JU:=cJ (by kernel_rfl) (by kernel_rfl) (by kernel_rfl)
abbrev Kv:TI:=⟨.struct #[{name:= "M",type:=75,offset:=0,embedded:=false,tag:= "",pkgPath:= "",byteOffset:=0},{name:= "T",type:=41,offset:=27,embedded:=false,tag:= "",pkgPath:= "",byteOffset:=504}],36,672,.agg [.agg [.agg [.rat 0 1,.rat 0 1,.rat 0 1],.agg [.rat 0 1,.rat 0 1,.rat 0 1],.agg [.rat 0 1,.rat 0 1,.rat 0 1]],.agg [.rat 0 1,.rat 0 1,.rat 0 1]]⟩
theorem ajj:bL P 77 Kv:=cJ (by kernel_rfl) (by kernel_rfl) (by kernel_rfl)
abbrev Ms:TI:=⟨.slice 99,1,24,.nil⟩
theorem QK:bL P 93 Ms:=cJ (by kernel_rfl) (by kernel_rfl) (by kernel_rfl)
abbrev J9:TI:=⟨.struct #[{name:= "Degree",type:=3,offset:=0,embedded:=false,tag:= "",pkgPath:= "",byteOffset:=0},{name:= "Knots",type:=25,offset:=1,embedded:=false,tag:= "",pkgPath:= "",byteOffset:=8},{name:= "C",type:=93,offset:=2,embedded:=false,tag:= "",pkgPath:= "",byteOffset:=32}],3,56,.agg [.int .i64 0,.nil,.nil]⟩
theorem abc:bL P 94 J9:=cJ (by kernel_rfl) (by kernel_rfl) (by kernel_rfl)
abbrev OZ:TI:=⟨.struct #[{name:= "Degree",type:=3,offset:=0,embedded:=false,tag:= "",pkgPath:= "",byteOffset:=0},{name:= "Knots",type:=25,offset:=1,embedded:=false,tag:= "",pkgPath:= "",byteOffset:=8},{name:= "C",type:=93,offset:=2,embedded:=false,tag:= "",pkgPath:= "",byteOffset:=32}],3,56,.agg [.int .i64 0,.nil,.nil]⟩
theorem Uw:bL P 95 OZ:=cJ (by kernel_rfl) (by kernel_rfl) (by kernel_rfl)
abbrev Lr:TI:=⟨.array 4 32,12,224,.agg [.rat 0 1,.rat 0 1,.rat 0 1,.rat 0 1]⟩
theorem ai1:bL P 98 Lr:=cJ (by kernel_rfl) (by kernel_rfl) (by kernel_rfl)
abbrev P9:TI:=⟨.array 4 32,12,224,.agg [.rat 0 1,.rat 0 1,.rat 0 1,.rat 0 1]⟩
theorem Xi:bL P 99 P9:=cJ (by kernel_rfl) (by kernel_rfl) (by kernel_rfl)
abbrev LZ:TI:=⟨.struct #[{name:= "L",type:=22,offset:=0,embedded:=false,tag:= "",pkgPath:= "",byteOffset:=0},{name:= "At",type:=3,offset:=1,embedded:=false,tag:= "",pkgPath:= "",byteOffset:=24}],2,32,.agg [.nil,.int .i64 0]⟩
theorem afA:bL P 138 LZ:=cJ (by kernel_rfl) (by kernel_rfl) (by kernel_rfl)
abbrev O7:TI:=⟨.struct #[{name:= "L",type:=22,offset:=0,embedded:=false,tag:= "",pkgPath:= "",byteOffset:=0},{name:= "At",type:=3,offset:=1,embedded:=false,tag:= "",pkgPath:= "",byteOffset:=24}],2,32,.agg [.nil,.int .i64 0]⟩
theorem ab7:bL P 139 O7:=cJ (by kernel_rfl) (by kernel_rfl) (by kernel_rfl)
abbrev KW:TI:=⟨.array 4 25,4,96,.agg [.nil,.nil,.nil,.nil]⟩
theorem aiD:bL P 143 KW:=cJ (by kernel_rfl) (by kernel_rfl) (by kernel_rfl)
abbrev KS:TI:=⟨.slice 95,1,24,.nil⟩
theorem abx:bL P 172 KS:=cJ (by kernel_rfl) (by kernel_rfl) (by kernel_rfl)
abbrev Kl:TI:=⟨.array 2 32,6,112,.agg [.rat 0 1,.rat 0 1]⟩
theorem ah2:bL P 186 Kl:=cJ (by kernel_rfl) (by kernel_rfl) (by kernel_rfl)
abbrev Pd:TI:=⟨.int .u64,1,8,.int .u64 0⟩
theorem abe:bL P 189 Pd:=cJ (by kernel_rfl) (by kernel_rfl) (by kernel_rfl)
abbrev Jg:TI:=⟨.int .u32,1,4,.int .u32 0⟩
theorem acz:bL P 194 Jg:=cJ (by kernel_rfl) (by kernel_rfl) (by kernel_rfl)
abbrev KA:TI:=⟨.slice 5,1,24,.nil⟩
theorem abz:bL P 210 KA:=cJ (by kernel_rfl) (by kernel_rfl) (by kernel_rfl)
abbrev Kk:TI:=⟨.int .u64,1,8,.int .u64 0⟩
theorem W1:bL P 213 Kk:=cJ (by kernel_rfl) (by kernel_rfl) (by kernel_rfl)
abbrev JS:TI:=⟨.slice 25,1,24,.nil⟩
theorem aag:bL P 232 JS:=cJ (by kernel_rfl) (by kernel_rfl) (by kernel_rfl)
abbrev Jp:TI:=⟨.struct #[{name:= "_interface",type:=17,offset:=0,embedded:=false,tag:= "",pkgPath:= "runtime",byteOffset:=0},{name:= "concrete",type:=17,offset:=1,embedded:=false,tag:= "",pkgPath:= "runtime",byteOffset:=8},{name:= "asserted",type:=17,offset:=2,embedded:=false,tag:= "",pkgPath:= "runtime",byteOffset:=16},{name:= "missingMethod",type:=9,offset:=3,embedded:=false,tag:= "",pkgPath:= "runtime",byteOffset:=24}],4,40,.tuple []⟩
theorem Sw:bL P 241 Jp:=iE (by kernel_rfl) (by kernel_rfl) rfl
abbrev M4:TI:=⟨.struct #[{name:= "_interface",type:=17,offset:=0,embedded:=false,tag:= "",pkgPath:= "runtime",byteOffset:=0},{name:= "concrete",type:=17,offset:=1,embedded:=false,tag:= "",pkgPath:= "runtime",byteOffset:=8},{name:= "asserted",type:=17,offset:=2,embedded:=false,tag:= "",pkgPath:= "runtime",byteOffset:=16},{name:= "missingMethod",type:=9,offset:=3,embedded:=false,tag:= "",pkgPath:= "runtime",byteOffset:=24}],4,40,.tuple []⟩
theorem aet:bL P 242 M4:=iE (by kernel_rfl) (by kernel_rfl) rfl
abbrev Jy:TI:=⟨.int .u8,1,1,.int .u8 0⟩
theorem ahr:bL P 247 Jy:=cJ (by kernel_rfl) (by kernel_rfl) (by kernel_rfl)
abbrev Qh:TI:=⟨.int .u8,1,1,.int .u8 0⟩
theorem VL:bL P 248 Qh:=cJ (by kernel_rfl) (by kernel_rfl) (by kernel_rfl)
abbrev QB:TI:=⟨.pointer 5,1,8,.tuple []⟩
theorem aaQ:bL P 250 QB:=iE (by kernel_rfl) (by kernel_rfl) rfl
abbrev MO:TI:=⟨.int .i32,1,4,.int .i32 0⟩
theorem agc:bL P 251 MO:=cJ (by kernel_rfl) (by kernel_rfl) (by kernel_rfl)
abbrev MB:TI:=⟨.int .i32,1,4,.int .i32 0⟩
theorem Wr:bL P 252 MB:=cJ (by kernel_rfl) (by kernel_rfl) (by kernel_rfl)
abbrev JZ:TI:=⟨.struct #[{name:= "Size_",type:=12,offset:=0,embedded:=false,tag:= "",pkgPath:= "",byteOffset:=0},{name:= "PtrBytes",type:=12,offset:=1,embedded:=false,tag:= "",pkgPath:= "",byteOffset:=8},{name:= "Hash",type:=194,offset:=2,embedded:=false,tag:= "",pkgPath:= "",byteOffset:=16},{name:= "TFlag",type:=247,offset:=3,embedded:=false,tag:= "",pkgPath:= "",byteOffset:=20},{name:= "Align_",type:=5,offset:=4,embedded:=false,tag:= "",pkgPath:= "",byteOffset:=21},{name:= "FieldAlign_",type:=5,offset:=5,embedded:=false,tag:= "",pkgPath:= "",byteOffset:=22},{name:= "Kind_",type:=248,offset:=6,embedded:=false,tag:= "",pkgPath:= "",byteOffset:=23},{name:= "Equal",type:=249,offset:=7,embedded:=false,tag:= "",pkgPath:= "",byteOffset:=24},{name:= "GCData",type:=250,offset:=8,embedded:=false,tag:= "",pkgPath:= "",byteOffset:=32},{name:= "Str",type:=251,offset:=9,embedded:=false,tag:= "",pkgPath:= "",byteOffset:=40},{name:= "PtrToThis",type:=252,offset:=10,embedded:=false,tag:= "",pkgPath:= "",byteOffset:=44}],11,48,.tuple []⟩
theorem WQ:bL P 253 JZ:=iE (by kernel_rfl) (by kernel_rfl) rfl
abbrev OH:TI:=⟨.struct #[{name:= "Size_",type:=12,offset:=0,embedded:=false,tag:= "",pkgPath:= "",byteOffset:=0},{name:= "PtrBytes",type:=12,offset:=1,embedded:=false,tag:= "",pkgPath:= "",byteOffset:=8},{name:= "Hash",type:=194,offset:=2,embedded:=false,tag:= "",pkgPath:= "",byteOffset:=16},{name:= "TFlag",type:=247,offset:=3,embedded:=false,tag:= "",pkgPath:= "",byteOffset:=20},{name:= "Align_",type:=5,offset:=4,embedded:=false,tag:= "",pkgPath:= "",byteOffset:=21},{name:= "FieldAlign_",type:=5,offset:=5,embedded:=false,tag:= "",pkgPath:= "",byteOffset:=22},{name:= "Kind_",type:=248,offset:=6,embedded:=false,tag:= "",pkgPath:= "",byteOffset:=23},{name:= "Equal",type:=249,offset:=7,embedded:=false,tag:= "",pkgPath:= "",byteOffset:=24},{name:= "GCData",type:=250,offset:=8,embedded:=false,tag:= "",pkgPath:= "",byteOffset:=32},{name:= "Str",type:=251,offset:=9,embedded:=false,tag:= "",pkgPath:= "",byteOffset:=40},{name:= "PtrToThis",type:=252,offset:=10,embedded:=false,tag:= "",pkgPath:= "",byteOffset:=44}],11,48,.tuple []⟩
theorem VU:bL P 254 OH:=iE (by kernel_rfl) (by kernel_rfl) rfl
abbrev T:Types:=[(2,MR),(3,Ml),(4,Qt),(5,J6),(6,JO),(7,Ov),(8,N4),(9,Mh),(10,JW),(11,Nw),(12,Qs),(13,Pk),(14,OJ),(15,Lp),(16,KY),(17,Jo),(18,PZ),(19,Ql),(21,OB),(22,PB),(25,Me),(26,MC),(27,P5),(28,K3),(30,N3),(31,LX),(32,Mx),(33,OC),(34,QA),(40,Qq),(41,I0),(42,PJ),(45,Ko),(46,MT),(47,Np),(63,OW),(64,M0),(69,NI),(73,LF),(75,KE),(76,JU),(77,Kv),(93,Ms),(94,J9),(95,OZ),(98,Lr),(99,P9),(138,LZ),(139,O7),(143,KW),(172,KS),(186,Kl),(189,Pd),(194,Jg),(210,KA),(213,Kk),(232,JS),(241,Jp),(242,M4),(247,Jy),(248,Qh),(250,QB),(251,MO),(252,MB),(253,JZ),(254,OH)]
theorem hT:dQ P T:=bS Zv (bS ok3 (bS Wx (bS ok5 (bS Wc (bS ok7 (bS Sm (bS ok9 (bS akj (bS Zi (bS ad8 (bS afj (bS aj3 (bS Ud (bS Tv (bS RF (bS ZC (bS XB (bS SH (bS S8 (bS aaY (bS Sd (bS T8 (bS acy (bS ZL (bS agC (bS WK (bS agq (bS afI (bS YA (bS XD (bS XL (bS aei (bS ajD (bS Sc (bS afW (bS aiT (bS XE (bS ahK (bS Zp (bS acM (bS ajj (bS QK (bS abc (bS Uw (bS ai1 (bS Xi (bS afA (bS ab7 (bS aiD (bS abx (bS ah2 (bS abe (bS acz (bS abz (bS W1 (bS aag (bS Sw (bS aet (bS ahr (bS VL (bS aaQ (bS agc (bS Wr (bS WQ (bS VU (RV))))))))))))))))))))))))))))))))))))))))))))))))))))))))))))))))))
end Go.Am.N
