/- The seat's names: the numbers of functions, the types. Written by a program. -/
import Derived.Test.YtppeigelbecpbaaGreatZ2
import Derived.Test.YtppeigelbecpbaaGreatProg
import Derived.KernelRfl
set_option linter.unusedVariables false
namespace Go.Am.N
open Go.Proofs
noncomputable abbrev P:Program:=Tryz.prog
theorem hm:P.follows .mixedOrders=true:=by kernel_rfl
abbrev Ge:FuncId:=8
noncomputable abbrev oH:Func:=Tryz.f8
theorem X1:P.funcs[Ge]?=some oH:=Tryz.func8
abbrev Db:FuncId:=9
noncomputable abbrev xD:Func:=Tryz.f9
theorem abm:P.funcs[Db]?=some xD:=Tryz.func9
abbrev EC:FuncId:=13
noncomputable abbrev Br:Func:=Tryz.f13
theorem WG:P.funcs[EC]?=some Br:=Tryz.func13
abbrev sZ:FuncId:=14
noncomputable abbrev xk:Func:=Tryz.f14
theorem Rw:P.funcs[sZ]?=some xk:=Tryz.func14
abbrev LC:FuncId:=23
noncomputable abbrev Ks:Func:=Tryz.f23
theorem acf:P.funcs[LC]?=some Ks:=Tryz.func23
abbrev yw:FuncId:=26
noncomputable abbrev zc:Func:=Tryz.f26
theorem ac2:P.funcs[yw]?=some zc:=Tryz.func26
abbrev uY:FuncId:=29
noncomputable abbrev zN:Func:=Tryz.f29
theorem YB:P.funcs[uY]?=some zN:=Tryz.func29
abbrev m9:FuncId:=36
noncomputable abbrev Ah:Func:=Tryz.f36
theorem acU:P.funcs[m9]?=some Ah:=Tryz.func36
abbrev oK:FuncId:=37
noncomputable abbrev Ba:Func:=Tryz.f37
theorem T4:P.funcs[oK]?=some Ba:=Tryz.func37
abbrev BS:FuncId:=38
noncomputable abbrev yF:Func:=Tryz.f38
theorem Up:P.funcs[BS]?=some yF:=Tryz.func38
abbrev Bt:FuncId:=39
noncomputable abbrev zI:Func:=Tryz.f39
theorem ac6:P.funcs[Bt]?=some zI:=Tryz.func39
abbrev DV:FuncId:=40
noncomputable abbrev Cx:Func:=Tryz.f40
theorem WJ:P.funcs[DV]?=some Cx:=Tryz.func40
abbrev zm:FuncId:=41
noncomputable abbrev Bd:Func:=Tryz.f41
theorem ah8:P.funcs[zm]?=some Bd:=Tryz.func41
abbrev CX:FuncId:=46
noncomputable abbrev yT:Func:=Tryz.f46
theorem Yi:P.funcs[CX]?=some yT:=Tryz.func46
abbrev z9:FuncId:=51
noncomputable abbrev yC:Func:=Tryz.f51
theorem aeU:P.funcs[z9]?=some yC:=Tryz.func51
abbrev uR:FuncId:=53
noncomputable abbrev A1:Func:=Tryz.f53
theorem akw:P.funcs[uR]?=some A1:=Tryz.func53
abbrev Kj:FuncId:=55
noncomputable abbrev Qv:Func:=Tryz.f55
theorem SN:P.funcs[Kj]?=some Qv:=Tryz.func55
abbrev yh:FuncId:=56
noncomputable abbrev zJ:Func:=Tryz.f56
theorem VU:P.funcs[yh]?=some zJ:=Tryz.func56
abbrev NB:FuncId:=57
noncomputable abbrev OB:Func:=Tryz.f57
theorem TR:P.funcs[NB]?=some OB:=Tryz.func57
abbrev Dk:FuncId:=58
noncomputable abbrev xS:Func:=Tryz.f58
theorem agi:P.funcs[Dk]?=some xS:=Tryz.func58
abbrev wZ:FuncId:=61
noncomputable abbrev lG:Func:=Tryz.f61
theorem UH:P.funcs[wZ]?=some lG:=Tryz.func61
abbrev qe:FuncId:=63
noncomputable abbrev zM:Func:=Tryz.f63
theorem YU:P.funcs[qe]?=some zM:=Tryz.func63
abbrev yu:FuncId:=64
noncomputable abbrev yd:Func:=Tryz.f64
theorem akj:P.funcs[yu]?=some yd:=Tryz.func64
abbrev CG:FuncId:=65
noncomputable abbrev x4:Func:=Tryz.f65
theorem UJ:P.funcs[CG]?=some x4:=Tryz.func65
abbrev yP:FuncId:=66
noncomputable abbrev xy:Func:=Tryz.f66
theorem YP:P.funcs[yP]?=some xy:=Tryz.func66
abbrev xV:FuncId:=68
noncomputable abbrev qw:Func:=Tryz.f68
theorem R7:P.funcs[xV]?=some qw:=Tryz.func68
abbrev nY:FuncId:=69
noncomputable abbrev yq:Func:=Tryz.f69
theorem adu:P.funcs[nY]?=some yq:=Tryz.func69
abbrev rz:FuncId:=71
noncomputable abbrev AU:Func:=Tryz.f71
theorem X5:P.funcs[rz]?=some AU:=Tryz.func71
abbrev y9:FuncId:=79
noncomputable abbrev vH:Func:=Tryz.f79
theorem agf:P.funcs[y9]?=some vH:=Tryz.func79
abbrev JC:FuncId:=82
noncomputable abbrev QJ:Func:=Tryz.f82
theorem Va:P.funcs[JC]?=some QJ:=Tryz.func82
abbrev Cs:FuncId:=83
noncomputable abbrev wJ:Func:=Tryz.f83
theorem ajt:P.funcs[Cs]?=some wJ:=Tryz.func83
abbrev sj:FuncId:=84
noncomputable abbrev AB:Func:=Tryz.f84
theorem aeu:P.funcs[sj]?=some AB:=Tryz.func84
abbrev pe:FuncId:=85
noncomputable abbrev uH:Func:=Tryz.f85
theorem ZS:P.funcs[pe]?=some uH:=Tryz.func85
abbrev ot:FuncId:=86
noncomputable abbrev wF:Func:=Tryz.f86
theorem aiF:P.funcs[ot]?=some wF:=Tryz.func86
abbrev Ck:FuncId:=87
noncomputable abbrev vO:Func:=Tryz.f87
theorem S6:P.funcs[Ck]?=some vO:=Tryz.func87
abbrev AD:FuncId:=92
noncomputable abbrev xP:Func:=Tryz.f92
theorem TL:P.funcs[AD]?=some xP:=Tryz.func92
abbrev zg:FuncId:=94
noncomputable abbrev xu:Func:=Tryz.f94
theorem acJ:P.funcs[zg]?=some xu:=Tryz.func94
abbrev Bf:FuncId:=95
noncomputable abbrev xK:Func:=Tryz.f95
theorem abr:P.funcs[Bf]?=some xK:=Tryz.func95
abbrev vf:FuncId:=96
noncomputable abbrev yx:Func:=Tryz.f96
theorem SV:P.funcs[vf]?=some yx:=Tryz.func96
abbrev AE:FuncId:=97
noncomputable abbrev vC:Func:=Tryz.f97
theorem agH:P.funcs[AE]?=some vC:=Tryz.func97
abbrev zx:FuncId:=98
noncomputable abbrev o5:Func:=Tryz.f98
theorem ak5:P.funcs[zx]?=some o5:=Tryz.func98
abbrev zE:FuncId:=99
noncomputable abbrev xd:Func:=Tryz.f99
theorem XI:P.funcs[zE]?=some xd:=Tryz.func99
abbrev CW:FuncId:=100
noncomputable abbrev As:Func:=Tryz.f100
theorem Yw:P.funcs[CW]?=some As:=Tryz.func100
abbrev iU:FuncId:=101
noncomputable abbrev z7:Func:=Tryz.f101
theorem Tt:P.funcs[iU]?=some z7:=Tryz.func101
abbrev AP:FuncId:=102
noncomputable abbrev Ae:Func:=Tryz.f102
theorem So:P.funcs[AP]?=some Ae:=Tryz.func102
abbrev tC:FuncId:=103
noncomputable abbrev ri:Func:=Tryz.f103
theorem agE:P.funcs[tC]?=some ri:=Tryz.func103
abbrev pJ:FuncId:=104
noncomputable abbrev w7:Func:=Tryz.f104
theorem Sl:P.funcs[pJ]?=some w7:=Tryz.func104
abbrev Dm:FuncId:=105
noncomputable abbrev vW:Func:=Tryz.f105
theorem Xj:P.funcs[Dm]?=some vW:=Tryz.func105
abbrev gv:FuncId:=106
noncomputable abbrev yt:Func:=Tryz.f106
theorem WH:P.funcs[gv]?=some yt:=Tryz.func106
abbrev qj:FuncId:=107
noncomputable abbrev vp:Func:=Tryz.f107
theorem akq:P.funcs[qj]?=some vp:=Tryz.func107
abbrev iy:FuncId:=108
noncomputable abbrev wP:Func:=Tryz.f108
theorem ad7:P.funcs[iy]?=some wP:=Tryz.func108
abbrev y6:FuncId:=109
noncomputable abbrev wz:Func:=Tryz.f109
theorem ajz:P.funcs[y6]?=some wz:=Tryz.func109
abbrev oL:FuncId:=110
noncomputable abbrev wD:Func:=Tryz.f110
theorem af6:P.funcs[oL]?=some wD:=Tryz.func110
abbrev Bb:FuncId:=111
noncomputable abbrev wm:Func:=Tryz.f111
theorem aeX:P.funcs[Bb]?=some wm:=Tryz.func111
abbrev De:FuncId:=112
noncomputable abbrev vX:Func:=Tryz.f112
theorem afm:P.funcs[De]?=some vX:=Tryz.func112
abbrev y8:FuncId:=116
noncomputable abbrev zG:Func:=Tryz.f116
theorem TJ:P.funcs[y8]?=some zG:=Tryz.func116
abbrev JF:FuncId:=117
noncomputable abbrev PE:Func:=Tryz.f117
theorem akP:P.funcs[JF]?=some PE:=Tryz.func117
abbrev xL:FuncId:=119
noncomputable abbrev Au:Func:=Tryz.f119
theorem agl:P.funcs[xL]?=some Au:=Tryz.func119
abbrev wu:FuncId:=120
noncomputable abbrev zk:Func:=Tryz.f120
theorem UG:P.funcs[wu]?=some zk:=Tryz.func120
abbrev sn:FuncId:=121
noncomputable abbrev xW:Func:=Tryz.f121
theorem Zx:P.funcs[sn]?=some xW:=Tryz.func121
abbrev NI:FuncId:=122
noncomputable abbrev Kw:Func:=Tryz.f122
theorem aje:P.funcs[NI]?=some Kw:=Tryz.func122
abbrev z8:FuncId:=123
noncomputable abbrev xZ:Func:=Tryz.f123
theorem aae:P.funcs[z8]?=some xZ:=Tryz.func123
abbrev Al:FuncId:=128
noncomputable abbrev wI:Func:=Tryz.f128
theorem S7:P.funcs[Al]?=some wI:=Tryz.func128
abbrev JW:FuncId:=129
noncomputable abbrev Dh:Func:=Tryz.f129
theorem XN:P.funcs[JW]?=some Dh:=Tryz.func129
abbrev LL:FuncId:=131
noncomputable abbrev QH:Func:=Tryz.f131
theorem agj:P.funcs[LL]?=some QH:=Tryz.func131
abbrev Na:FuncId:=133
noncomputable abbrev OC:Func:=Tryz.f133
theorem akN:P.funcs[Na]?=some OC:=Tryz.func133
abbrev NV:FuncId:=134
noncomputable abbrev Q8:Func:=Tryz.f134
theorem ako:P.funcs[NV]?=some Q8:=Tryz.func134
abbrev Mo:FuncId:=135
noncomputable abbrev Lx:Func:=Tryz.f135
theorem akk:P.funcs[Mo]?=some Lx:=Tryz.func135
abbrev Qw:FuncId:=136
noncomputable abbrev Oi:Func:=Tryz.f136
theorem ae5:P.funcs[Qw]?=some Oi:=Tryz.func136
abbrev fu:FuncId:=137
noncomputable abbrev yS:Func:=Tryz.f137
theorem agV:P.funcs[fu]?=some yS:=Tryz.func137
abbrev KH:FuncId:=138
noncomputable abbrev QD:Func:=Tryz.f138
theorem U3:P.funcs[KH]?=some QD:=Tryz.func138
abbrev nE:FuncId:=139
noncomputable abbrev Cq:Func:=Tryz.f139
theorem aaB:P.funcs[nE]?=some Cq:=Tryz.func139
abbrev yJ:FuncId:=145
noncomputable abbrev ki:Func:=Tryz.f145
theorem Vk:P.funcs[yJ]?=some ki:=Tryz.func145
abbrev tA:FuncId:=146
noncomputable abbrev lg:Func:=Tryz.f146
theorem Wq:P.funcs[tA]?=some lg:=Tryz.func146
abbrev Bh:FuncId:=147
noncomputable abbrev Aw:Func:=Tryz.f147
theorem ahY:P.funcs[Bh]?=some Aw:=Tryz.func147
abbrev yO:FuncId:=148
noncomputable abbrev wh:Func:=Tryz.f148
theorem aap:P.funcs[yO]?=some wh:=Tryz.func148
abbrev wT:FuncId:=149
noncomputable abbrev gF:Func:=Tryz.f149
theorem acK:P.funcs[wT]?=some gF:=Tryz.func149
abbrev oo:FuncId:=150
noncomputable abbrev o4:Func:=Tryz.f150
theorem abZ:P.funcs[oo]?=some o4:=Tryz.func150
abbrev vE:FuncId:=151
noncomputable abbrev Be:Func:=Tryz.f151
theorem ade:P.funcs[vE]?=some Be:=Tryz.func151
abbrev sW:FuncId:=152
noncomputable abbrev xz:Func:=Tryz.f152
theorem Zv:P.funcs[sW]?=some xz:=Tryz.func152
abbrev zh:FuncId:=155
noncomputable abbrev uO:Func:=Tryz.f155
theorem Z6:P.funcs[zh]?=some uO:=Tryz.func155
abbrev jB:FuncId:=164
noncomputable abbrev vQ:Func:=Tryz.f164
theorem ack:P.funcs[jB]?=some vQ:=Tryz.func164
abbrev EV:FuncId:=165
noncomputable abbrev Bu:Func:=Tryz.f165
theorem abS:P.funcs[EV]?=some Bu:=Tryz.func165
abbrev x6:FuncId:=166
noncomputable abbrev xJ:Func:=Tryz.f166
theorem aaa:P.funcs[x6]?=some xJ:=Tryz.func166
abbrev xo:FuncId:=167
noncomputable abbrev xm:Func:=Tryz.f167
theorem Uk:P.funcs[xo]?=some xm:=Tryz.func167
abbrev zP:FuncId:=170
noncomputable abbrev v7:Func:=Tryz.f170
theorem SR:P.funcs[zP]?=some v7:=Tryz.func170
abbrev qf:FuncId:=173
noncomputable abbrev yl:Func:=Tryz.f173
theorem ahl:P.funcs[qf]?=some yl:=Tryz.func173
abbrev pP:FuncId:=174
noncomputable abbrev vJ:Func:=Tryz.f174
theorem agS:P.funcs[pP]?=some vJ:=Tryz.func174
abbrev CO:FuncId:=175
noncomputable abbrev B5:Func:=Tryz.f175
theorem aax:P.funcs[CO]?=some B5:=Tryz.func175
abbrev ou:FuncId:=176
noncomputable abbrev za:Func:=Tryz.f176
theorem afL:P.funcs[ou]?=some za:=Tryz.func176
abbrev wN:FuncId:=177
noncomputable abbrev yI:Func:=Tryz.f177
theorem RF:P.funcs[wN]?=some yI:=Tryz.func177
abbrev qQ:FuncId:=178
noncomputable abbrev yc:Func:=Tryz.f178
theorem ag8:P.funcs[qQ]?=some yc:=Tryz.func178
abbrev u9:FuncId:=179
noncomputable abbrev yR:Func:=Tryz.f179
theorem aiJ:P.funcs[u9]?=some yR:=Tryz.func179
abbrev uQ:FuncId:=180
noncomputable abbrev nw:Func:=Tryz.f180
theorem afV:P.funcs[uQ]?=some nw:=Tryz.func180
abbrev x8:FuncId:=181
noncomputable abbrev Co:Func:=Tryz.f181
theorem UB:P.funcs[x8]?=some Co:=Tryz.func181
abbrev p9:FuncId:=182
noncomputable abbrev Bo:Func:=Tryz.f182
theorem To:P.funcs[p9]?=some Bo:=Tryz.func182
abbrev xC:FuncId:=183
noncomputable abbrev wB:Func:=Tryz.f183
theorem Sx:P.funcs[xC]?=some wB:=Tryz.func183
abbrev uu:FuncId:=184
noncomputable abbrev AH:Func:=Tryz.f184
theorem Rs:P.funcs[uu]?=some AH:=Tryz.func184
abbrev s7:FuncId:=185
noncomputable abbrev ic:Func:=Tryz.f185
theorem aeb:P.funcs[s7]?=some ic:=Tryz.func185
abbrev wg:FuncId:=186
noncomputable abbrev x5:Func:=Tryz.f186
theorem ad9:P.funcs[wg]?=some x5:=Tryz.func186
abbrev zT:FuncId:=187
noncomputable abbrev x3:Func:=Tryz.f187
theorem UT:P.funcs[zT]?=some x3:=Tryz.func187
abbrev uV:FuncId:=188
noncomputable abbrev wo:Func:=Tryz.f188
theorem acp:P.funcs[uV]?=some wo:=Tryz.func188
abbrev An:FuncId:=189
noncomputable abbrev vL:Func:=Tryz.f189
theorem SQ:P.funcs[An]?=some vL:=Tryz.func189
abbrev qx:FuncId:=190
noncomputable abbrev ya:Func:=Tryz.f190
theorem ai8:P.funcs[qx]?=some ya:=Tryz.func190
abbrev vq:FuncId:=191
noncomputable abbrev eO:Func:=Tryz.f191
theorem RH:P.funcs[vq]?=some eO:=Tryz.func191
abbrev Bc:FuncId:=192
noncomputable abbrev vM:Func:=Tryz.f192
theorem acI:P.funcs[Bc]?=some vM:=Tryz.func192
abbrev tJ:FuncId:=193
noncomputable abbrev wj:Func:=Tryz.f193
theorem abu:P.funcs[tJ]?=some wj:=Tryz.func193
abbrev tD:FuncId:=194
noncomputable abbrev dH:Func:=Tryz.f194
theorem TX:P.funcs[tD]?=some dH:=Tryz.func194
abbrev AY:FuncId:=195
noncomputable abbrev iO:Func:=Tryz.f195
theorem ahX:P.funcs[AY]?=some iO:=Tryz.func195
abbrev Gk:FuncId:=196
noncomputable abbrev HT:Func:=Tryz.f196
theorem Mm:P.funcs[Gk]?=some HT:=Tryz.func196
abbrev OJ:FuncId:=198
noncomputable abbrev CP:Func:=Tryz.f198
theorem aak:P.funcs[OJ]?=some CP:=Tryz.func198
abbrev wO:FuncId:=199
noncomputable abbrev F5:Func:=Tryz.f199
theorem ahU:P.funcs[wO]?=some F5:=Tryz.func199
abbrev I8:FuncId:=200
noncomputable abbrev Lp:Func:=Tryz.f200
theorem XP:P.funcs[I8]?=some Lp:=Tryz.func200
abbrev DD:FuncId:=201
noncomputable abbrev AG:Func:=Tryz.f201
theorem Xu:P.funcs[DD]?=some AG:=Tryz.func201
abbrev CY:FuncId:=202
noncomputable abbrev xH:Func:=Tryz.f202
theorem ae7:P.funcs[CY]?=some xH:=Tryz.func202
abbrev Oq:FuncId:=203
noncomputable abbrev MW:Func:=Tryz.f203
theorem ak9:P.funcs[Oq]?=some MW:=Tryz.func203
abbrev sY:FuncId:=204
noncomputable abbrev o7:Func:=Tryz.f204
theorem afZ:P.funcs[sY]?=some o7:=Tryz.func204
abbrev tv:FuncId:=207
noncomputable abbrev rV:Func:=Tryz.f207
theorem Vt:P.funcs[tv]?=some rV:=Tryz.func207
abbrev nL:FuncId:=208
noncomputable abbrev lK:Func:=Tryz.f208
theorem X2:P.funcs[nL]?=some lK:=Tryz.func208
abbrev wE:FuncId:=209
noncomputable abbrev jI:Func:=Tryz.f209
theorem ZO:P.funcs[wE]?=some jI:=Tryz.func209
abbrev sU:FuncId:=210
noncomputable abbrev fL:Func:=Tryz.f210
theorem UW:P.funcs[sU]?=some fL:=Tryz.func210
abbrev A2:FuncId:=211
noncomputable abbrev qC:Func:=Tryz.f211
theorem akH:P.funcs[A2]?=some qC:=Tryz.func211
abbrev z6:FuncId:=212
noncomputable abbrev xY:Func:=Tryz.f212
theorem S1:P.funcs[z6]?=some xY:=Tryz.func212
abbrev rE:FuncId:=215
noncomputable abbrev oB:Func:=Tryz.f215
theorem YR:P.funcs[rE]?=some oB:=Tryz.func215
abbrev MO:FuncId:=216
noncomputable abbrev QU:Func:=Tryz.f216
theorem Uv:P.funcs[MO]?=some QU:=Tryz.func216
abbrev yp:FuncId:=217
noncomputable abbrev zy:Func:=Tryz.f217
theorem acQ:P.funcs[yp]?=some zy:=Tryz.func217
abbrev BD:FuncId:=218
noncomputable abbrev lp:Func:=Tryz.f218
theorem Vr:P.funcs[BD]?=some lp:=Tryz.func218
abbrev rD:FuncId:=219
noncomputable abbrev gM:Func:=Tryz.f219
theorem RM:P.funcs[rD]?=some gM:=Tryz.func219
abbrev tV:FuncId:=220
noncomputable abbrev A8:Func:=Tryz.f220
theorem Wk:P.funcs[tV]?=some A8:=Tryz.func220
abbrev qD:FuncId:=221
noncomputable abbrev A7:Func:=Tryz.f221
theorem YT:P.funcs[qD]?=some A7:=Tryz.func221
abbrev sr:FuncId:=222
noncomputable abbrev dI:Func:=Tryz.f222
theorem agp:P.funcs[sr]?=some dI:=Tryz.func222
abbrev v5:FuncId:=223
noncomputable abbrev pM:Func:=Tryz.f223
theorem ahD:P.funcs[v5]?=some pM:=Tryz.func223
abbrev sw:FuncId:=224
noncomputable abbrev yQ:Func:=Tryz.f224
theorem aj3:P.funcs[sw]?=some yQ:=Tryz.func224
abbrev uK:FuncId:=225
noncomputable abbrev zY:Func:=Tryz.f225
theorem ak3:P.funcs[uK]?=some zY:=Tryz.func225
abbrev HP:FuncId:=226
noncomputable abbrev ac4:Func:=Tryz.f226
theorem abT:P.funcs[HP]?=some ac4:=Tryz.func226
abbrev uw:FuncId:=227
noncomputable abbrev iE:Func:=Tryz.f227
theorem af9:P.funcs[uw]?=some iE:=Tryz.func227
abbrev zK:FuncId:=228
noncomputable abbrev lP:Func:=Tryz.f228
theorem Yf:P.funcs[zK]?=some lP:=Tryz.func228
abbrev yo:FuncId:=229
noncomputable abbrev oN:Func:=Tryz.f229
theorem akX:P.funcs[yo]?=some oN:=Tryz.func229
abbrev AX:FuncId:=230
noncomputable abbrev oD:Func:=Tryz.f230
theorem abH:P.funcs[AX]?=some oD:=Tryz.func230
abbrev AR:FuncId:=231
noncomputable abbrev ql:Func:=Tryz.f231
theorem XZ:P.funcs[AR]?=some ql:=Tryz.func231
abbrev GZ:FuncId:=232
noncomputable abbrev Gr:Func:=Tryz.f232
theorem Jh:P.funcs[GZ]?=some Gr:=Tryz.func232
abbrev xj:FuncId:=233
noncomputable abbrev FZ:Func:=Tryz.f233
theorem aad:P.funcs[xj]?=some FZ:=Tryz.func233
abbrev L8:FuncId:=234
noncomputable abbrev JY:Func:=Tryz.f234
theorem afP:P.funcs[L8]?=some JY:=Tryz.func234
abbrev AZ:FuncId:=235
noncomputable abbrev Ag:Func:=Tryz.f235
theorem Uz:P.funcs[AZ]?=some Ag:=Tryz.func235
abbrev sR:FuncId:=237
noncomputable abbrev zR:Func:=Tryz.f237
theorem Wc:P.funcs[sR]?=some zR:=Tryz.func237
abbrev zV:FuncId:=238
noncomputable abbrev pD:Func:=Tryz.f238
theorem Sn:P.funcs[zV]?=some pD:=Tryz.func238
abbrev xp:FuncId:=239
noncomputable abbrev nv:Func:=Tryz.f239
theorem ai9:P.funcs[xp]?=some nv:=Tryz.func239
abbrev v9:FuncId:=240
noncomputable abbrev Ap:Func:=Tryz.f240
theorem ahP:P.funcs[v9]?=some Ap:=Tryz.func240
abbrev wk:FuncId:=241
noncomputable abbrev AA:Func:=Tryz.f241
theorem acD:P.funcs[wk]?=some AA:=Tryz.func241
abbrev xM:FuncId:=242
noncomputable abbrev nZ:Func:=Tryz.f242
theorem ahN:P.funcs[xM]?=some nZ:=Tryz.func242
abbrev zu:FuncId:=246
noncomputable abbrev pC:Func:=Tryz.f246
theorem Tb:P.funcs[zu]?=some pC:=Tryz.func246
abbrev zA:FuncId:=247
noncomputable abbrev AK:Func:=Tryz.f247
theorem ZI:P.funcs[zA]?=some AK:=Tryz.func247
abbrev wV:FuncId:=248
noncomputable abbrev l5:Func:=Tryz.f248
theorem agu:P.funcs[wV]?=some l5:=Tryz.func248
abbrev LQ:TI:=⟨.int .i64,1,8,.int .i64 0⟩
theorem ok2:bH P 2 LQ:=cB (by kernel_rfl) (by kernel_rfl) (by kernel_rfl)
abbrev Ky:TI:=⟨.int .i64,1,8,.int .i64 0⟩
theorem ok3:bH P 3 Ky:=cB (by kernel_rfl) (by kernel_rfl) (by kernel_rfl)
abbrev I5:TI:=⟨.bool,1,1,.bool false⟩
theorem Za:bH P 4 I5:=cB (by kernel_rfl) (by kernel_rfl) (by kernel_rfl)
abbrev Jc:TI:=⟨.int .u8,1,1,.int .u8 0⟩
theorem ok5:bH P 5 Jc:=cB (by kernel_rfl) (by kernel_rfl) (by kernel_rfl)
abbrev NM:TI:=⟨.int .u8,1,1,.int .u8 0⟩
theorem Se:bH P 6 NM:=cB (by kernel_rfl) (by kernel_rfl) (by kernel_rfl)
abbrev KO:TI:=⟨.struct #[{name:= "x",type:=2,offset:=0,embedded:=false,tag:= "",pkgPath:= "runtime",byteOffset:=0},{name:= "y",type:=3,offset:=1,embedded:=false,tag:= "",pkgPath:= "runtime",byteOffset:=8},{name:= "signed",type:=4,offset:=2,embedded:=false,tag:= "",pkgPath:= "runtime",byteOffset:=16},{name:= "code",type:=6,offset:=3,embedded:=false,tag:= "",pkgPath:= "runtime",byteOffset:=17}],4,24,.agg [.int .i64 0,.int .i64 0,.bool false,.int .u8 0]⟩
theorem ok7:bH P 7 KO:=cB (by kernel_rfl) (by kernel_rfl) (by kernel_rfl)
abbrev Og:TI:=⟨.struct #[{name:= "x",type:=2,offset:=0,embedded:=false,tag:= "",pkgPath:= "runtime",byteOffset:=0},{name:= "y",type:=3,offset:=1,embedded:=false,tag:= "",pkgPath:= "runtime",byteOffset:=8},{name:= "signed",type:=4,offset:=2,embedded:=false,tag:= "",pkgPath:= "runtime",byteOffset:=16},{name:= "code",type:=6,offset:=3,embedded:=false,tag:= "",pkgPath:= "runtime",byteOffset:=17}],4,24,.agg [.int .i64 0,.int .i64 0,.bool false,.int .u8 0]⟩
theorem ok8:bH P 8 Og:=cB (by kernel_rfl) (by kernel_rfl) (by kernel_rfl)
abbrev Lu:TI:=⟨.string,1,16,.tuple []⟩
theorem ok9:bH P 9 Lu:=iQ (by kernel_rfl) (by kernel_rfl) rfl
abbrev Rd:TI:=⟨.string,1,16,.tuple []⟩
theorem XG:bH P 10 Rd:=iQ (by kernel_rfl) (by kernel_rfl) rfl
abbrev NS:TI:=⟨.string,1,16,.tuple []⟩
theorem Ry:bH P 11 NS:=iQ (by kernel_rfl) (by kernel_rfl) rfl
abbrev Ov:TI:=⟨.int .u64,1,8,.int .u64 0⟩
theorem abD:bH P 12 Ov:=cB (by kernel_rfl) (by kernel_rfl) (by kernel_rfl)
abbrev Ly:TI:=⟨.struct #[{name:= "msg",type:=9,offset:=0,embedded:=false,tag:= "",pkgPath:= "runtime",byteOffset:=0},{name:= "addr",type:=12,offset:=1,embedded:=false,tag:= "",pkgPath:= "runtime",byteOffset:=16}],2,24,.tuple []⟩
theorem abQ:bH P 13 Ly:=iQ (by kernel_rfl) (by kernel_rfl) rfl
abbrev NO:TI:=⟨.struct #[{name:= "msg",type:=9,offset:=0,embedded:=false,tag:= "",pkgPath:= "runtime",byteOffset:=0},{name:= "addr",type:=12,offset:=1,embedded:=false,tag:= "",pkgPath:= "runtime",byteOffset:=16}],2,24,.tuple []⟩
theorem akQ:bH P 14 NO:=iQ (by kernel_rfl) (by kernel_rfl) rfl
abbrev Oj:TI:=⟨.pointer 242,1,8,.tuple []⟩
theorem ahJ:bH P 15 Oj:=iQ (by kernel_rfl) (by kernel_rfl) rfl
abbrev Ni:TI:=⟨.pointer 245,1,8,.tuple []⟩
theorem aeN:bH P 16 Ni:=iQ (by kernel_rfl) (by kernel_rfl) rfl
abbrev KV:TI:=⟨.pointer 254,1,8,.tuple []⟩
theorem aar:bH P 17 KV:=iQ (by kernel_rfl) (by kernel_rfl) rfl
abbrev JZ:TI:=⟨.struct #[{name:= "typ",type:=17,offset:=0,embedded:=false,tag:= "",pkgPath:= "internal/runtime/maps",byteOffset:=0}],1,8,.tuple []⟩
theorem Vb:bH P 18 JZ:=iQ (by kernel_rfl) (by kernel_rfl) rfl
abbrev Jd:TI:=⟨.struct #[{name:= "typ",type:=17,offset:=0,embedded:=false,tag:= "",pkgPath:= "internal/runtime/maps",byteOffset:=0}],1,8,.tuple []⟩
theorem akI:bH P 19 Jd:=iQ (by kernel_rfl) (by kernel_rfl) rfl
abbrev Ra:TI:=⟨.int .i32,1,4,.int .i32 0⟩
theorem ac1:bH P 21 Ra:=cB (by kernel_rfl) (by kernel_rfl) (by kernel_rfl)
abbrev Pq:TI:=⟨.slice 3,1,24,.nil⟩
theorem ai0:bH P 22 Pq:=cB (by kernel_rfl) (by kernel_rfl) (by kernel_rfl)
abbrev LP:TI:=⟨.slice 32,1,24,.nil⟩
theorem aa0:bH P 25 LP:=cB (by kernel_rfl) (by kernel_rfl) (by kernel_rfl)
abbrev PA:TI:=⟨.slice 45,1,24,.nil⟩
theorem Wy:bH P 26 PA:=cB (by kernel_rfl) (by kernel_rfl) (by kernel_rfl)
abbrev Qh:TI:=⟨.struct #[{name:= "U",type:=3,offset:=0,embedded:=false,tag:= "",pkgPath:= "",byteOffset:=0},{name:= "V",type:=3,offset:=1,embedded:=false,tag:= "",pkgPath:= "",byteOffset:=8},{name:= "KnotsU",type:=25,offset:=2,embedded:=false,tag:= "",pkgPath:= "",byteOffset:=16},{name:= "KnotsV",type:=25,offset:=3,embedded:=false,tag:= "",pkgPath:= "",byteOffset:=40},{name:= "Poles",type:=26,offset:=4,embedded:=false,tag:= "",pkgPath:= "",byteOffset:=64}],5,88,.agg [.int .i64 0,.int .i64 0,.nil,.nil,.nil]⟩
theorem aiV:bH P 27 Qh:=cB (by kernel_rfl) (by kernel_rfl) (by kernel_rfl)
abbrev MK:TI:=⟨.struct #[{name:= "U",type:=3,offset:=0,embedded:=false,tag:= "",pkgPath:= "",byteOffset:=0},{name:= "V",type:=3,offset:=1,embedded:=false,tag:= "",pkgPath:= "",byteOffset:=8},{name:= "KnotsU",type:=25,offset:=2,embedded:=false,tag:= "",pkgPath:= "",byteOffset:=16},{name:= "KnotsV",type:=25,offset:=3,embedded:=false,tag:= "",pkgPath:= "",byteOffset:=40},{name:= "Poles",type:=26,offset:=4,embedded:=false,tag:= "",pkgPath:= "",byteOffset:=64}],5,88,.agg [.int .i64 0,.int .i64 0,.nil,.nil,.nil]⟩
theorem abC:bH P 28 MK:=cB (by kernel_rfl) (by kernel_rfl) (by kernel_rfl)
abbrev Ng:TI:=⟨.slice 194,1,24,.nil⟩
theorem XW:bH P 30 Ng:=cB (by kernel_rfl) (by kernel_rfl) (by kernel_rfl)
abbrev JI:TI:=⟨.struct #[{name:= "Neg",type:=4,offset:=0,embedded:=false,tag:= "",pkgPath:= "",byteOffset:=0},{name:= "Num",type:=30,offset:=1,embedded:=false,tag:= "",pkgPath:= "",byteOffset:=8},{name:= "Den",type:=30,offset:=2,embedded:=false,tag:= "",pkgPath:= "",byteOffset:=32}],3,56,.agg [.bool false,.nil,.nil]⟩
theorem afv:bH P 31 JI:=cB (by kernel_rfl) (by kernel_rfl) (by kernel_rfl)
abbrev JL:TI:=⟨.struct #[{name:= "Neg",type:=4,offset:=0,embedded:=false,tag:= "",pkgPath:= "",byteOffset:=0},{name:= "Num",type:=30,offset:=1,embedded:=false,tag:= "",pkgPath:= "",byteOffset:=8},{name:= "Den",type:=30,offset:=2,embedded:=false,tag:= "",pkgPath:= "",byteOffset:=32}],3,56,.rat 0 1⟩
theorem ajN:bH P 32 JL:=cB (by kernel_rfl) (by kernel_rfl) (by kernel_rfl)
abbrev Kz:TI:=⟨.struct #[{name:= "Lo",type:=32,offset:=0,embedded:=false,tag:= "",pkgPath:= "",byteOffset:=0},{name:= "Hi",type:=32,offset:=3,embedded:=false,tag:= "",pkgPath:= "",byteOffset:=56}],6,112,.agg [.rat 0 1,.rat 0 1]⟩
theorem aiA:bH P 33 Kz:=cB (by kernel_rfl) (by kernel_rfl) (by kernel_rfl)
abbrev Q5:TI:=⟨.struct #[{name:= "Lo",type:=32,offset:=0,embedded:=false,tag:= "",pkgPath:= "",byteOffset:=0},{name:= "Hi",type:=32,offset:=3,embedded:=false,tag:= "",pkgPath:= "",byteOffset:=56}],6,112,.agg [.rat 0 1,.rat 0 1]⟩
theorem ajA:bH P 34 Q5:=cB (by kernel_rfl) (by kernel_rfl) (by kernel_rfl)
abbrev Mr:TI:=⟨.array 3 32,9,168,.agg [.rat 0 1,.rat 0 1,.rat 0 1]⟩
theorem afM:bH P 40 Mr:=cB (by kernel_rfl) (by kernel_rfl) (by kernel_rfl)
abbrev J7:TI:=⟨.array 3 32,9,168,.agg [.rat 0 1,.rat 0 1,.rat 0 1]⟩
theorem aiq:bH P 41 J7:=cB (by kernel_rfl) (by kernel_rfl) (by kernel_rfl)
abbrev Qp:TI:=⟨.int .i64,1,8,.int .i64 0⟩
theorem Ru:bH P 42 Qp:=cB (by kernel_rfl) (by kernel_rfl) (by kernel_rfl)
abbrev LV:TI:=⟨.slice 64,1,24,.nil⟩
theorem ac0:bH P 45 LV:=cB (by kernel_rfl) (by kernel_rfl) (by kernel_rfl)
abbrev Q9:TI:=⟨.struct #[{name:= "Degree",type:=3,offset:=0,embedded:=false,tag:= "",pkgPath:= "",byteOffset:=0},{name:= "Knots",type:=25,offset:=1,embedded:=false,tag:= "",pkgPath:= "",byteOffset:=8},{name:= "Poles",type:=45,offset:=2,embedded:=false,tag:= "",pkgPath:= "",byteOffset:=32}],3,56,.agg [.int .i64 0,.nil,.nil]⟩
theorem aa3:bH P 46 Q9:=cB (by kernel_rfl) (by kernel_rfl) (by kernel_rfl)
abbrev Mq:TI:=⟨.struct #[{name:= "Degree",type:=3,offset:=0,embedded:=false,tag:= "",pkgPath:= "",byteOffset:=0},{name:= "Knots",type:=25,offset:=1,embedded:=false,tag:= "",pkgPath:= "",byteOffset:=8},{name:= "Poles",type:=45,offset:=2,embedded:=false,tag:= "",pkgPath:= "",byteOffset:=32}],3,56,.agg [.int .i64 0,.nil,.nil]⟩
theorem Wu:bH P 47 Mq:=cB (by kernel_rfl) (by kernel_rfl) (by kernel_rfl)
abbrev Jx:TI:=⟨.struct #[{name:= "P",type:=41,offset:=0,embedded:=false,tag:= "",pkgPath:= "",byteOffset:=0},{name:= "W",type:=32,offset:=9,embedded:=false,tag:= "",pkgPath:= "",byteOffset:=168}],12,224,.agg [.agg [.rat 0 1,.rat 0 1,.rat 0 1],.rat 0 1]⟩
theorem ahj:bH P 63 Jx:=cB (by kernel_rfl) (by kernel_rfl) (by kernel_rfl)
abbrev IV:TI:=⟨.struct #[{name:= "P",type:=41,offset:=0,embedded:=false,tag:= "",pkgPath:= "",byteOffset:=0},{name:= "W",type:=32,offset:=9,embedded:=false,tag:= "",pkgPath:= "",byteOffset:=168}],12,224,.agg [.agg [.rat 0 1,.rat 0 1,.rat 0 1],.rat 0 1]⟩
theorem ad1:bH P 64 IV:=cB (by kernel_rfl) (by kernel_rfl) (by kernel_rfl)
abbrev Nq:TI:=⟨.pointer 139,1,8,.tuple []⟩
theorem afx:bH P 69 Nq:=iQ (by kernel_rfl) (by kernel_rfl) rfl
abbrev Ox:TI:=⟨.slice 47,1,24,.nil⟩
theorem agh:bH P 73 Ox:=cB (by kernel_rfl) (by kernel_rfl) (by kernel_rfl)
abbrev Me:TI:=⟨.array 3 41,27,504,.agg [.agg [.rat 0 1,.rat 0 1,.rat 0 1],.agg [.rat 0 1,.rat 0 1,.rat 0 1],.agg [.rat 0 1,.rat 0 1,.rat 0 1]]⟩
theorem aaP:bH P 75 Me:=cB (by kernel_rfl) (by kernel_rfl) (by kernel_rfl)
abbrev PZ:TI:=⟨.struct #[{name:= "M",type:=75,offset:=0,embedded:=false,tag:= "",pkgPath:= "",byteOffset:=0},{name:= "T",type:=41,offset:=27,embedded:=false,tag:= "",pkgPath:= "",byteOffset:=504}],36,672,.agg [.agg [.agg [.rat 0 1,.rat 0 1,.rat 0 1],.agg [.rat 0 1,.rat 0 1,.rat 0 1],.agg [.rat 0 1,.rat 0 1,.rat 0 1]],.agg [.rat 0 1,.rat 0 1,.rat 0 1]]⟩
theorem aeG:bH P 76 PZ:=cB (by kernel_rfl) (by kernel_rfl) (by kernel_rfl)
abbrev Ri:TI:=⟨.struct #[{name:= "M",type:=75,offset:=0,embedded:=false,tag:= "",pkgPath:= "",byteOffset:=0},{name:= "T",type:=41,offset:=27,embedded:=false,tag:= "",pkgPath:= "",byteOffset:=504}],36,672,.agg [.agg [.agg [.rat 0 1,.rat 0 1,.rat 0 1],.agg [.rat 0 1,.rat 0 1,.rat 0 1],.agg [.rat 0 1,.rat 0 1,.rat 0 1]],.agg [.rat 0 1,.rat 0 1,.rat 0 1]]⟩
theorem air:bH P 77 Ri:=cB (by kernel_rfl) (by kernel_rfl) (by kernel_rfl)
abbrev Kt:TI:=⟨.slice 99,1,24,.nil⟩
theorem aa4:bH P 93 Kt:=cB (by kernel_rfl) (by kernel_rfl) (by kernel_rfl)
abbrev PB:TI:=⟨.struct #[{name:= "Degree",type:=3,offset:=0,embedded:=false,tag:= "",pkgPath:= "",byteOffset:=0},{name:= "Knots",type:=25,offset:=1,embedded:=false,tag:= "",pkgPath:= "",byteOffset:=8},{name:= "C",type:=93,offset:=2,embedded:=false,tag:= "",pkgPath:= "",byteOffset:=32}],3,56,.agg [.int .i64 0,.nil,.nil]⟩
theorem Sq:bH P 94 PB:=cB (by kernel_rfl) (by kernel_rfl) (by kernel_rfl)
abbrev Mx:TI:=⟨.struct #[{name:= "Degree",type:=3,offset:=0,embedded:=false,tag:= "",pkgPath:= "",byteOffset:=0},{name:= "Knots",type:=25,offset:=1,embedded:=false,tag:= "",pkgPath:= "",byteOffset:=8},{name:= "C",type:=93,offset:=2,embedded:=false,tag:= "",pkgPath:= "",byteOffset:=32}],3,56,.agg [.int .i64 0,.nil,.nil]⟩
theorem Xl:bH P 95 Mx:=cB (by kernel_rfl) (by kernel_rfl) (by kernel_rfl)
abbrev PU:TI:=⟨.array 4 32,12,224,.agg [.rat 0 1,.rat 0 1,.rat 0 1,.rat 0 1]⟩
theorem ady:bH P 98 PU:=cB (by kernel_rfl) (by kernel_rfl) (by kernel_rfl)
abbrev IQ:TI:=⟨.array 4 32,12,224,.agg [.rat 0 1,.rat 0 1,.rat 0 1,.rat 0 1]⟩
theorem Tl:bH P 99 IQ:=cB (by kernel_rfl) (by kernel_rfl) (by kernel_rfl)
abbrev O3:TI:=⟨.struct #[{name:= "L",type:=22,offset:=0,embedded:=false,tag:= "",pkgPath:= "",byteOffset:=0},{name:= "At",type:=3,offset:=1,embedded:=false,tag:= "",pkgPath:= "",byteOffset:=24}],2,32,.agg [.nil,.int .i64 0]⟩
theorem abU:bH P 138 O3:=cB (by kernel_rfl) (by kernel_rfl) (by kernel_rfl)
abbrev Jz:TI:=⟨.struct #[{name:= "L",type:=22,offset:=0,embedded:=false,tag:= "",pkgPath:= "",byteOffset:=0},{name:= "At",type:=3,offset:=1,embedded:=false,tag:= "",pkgPath:= "",byteOffset:=24}],2,32,.agg [.nil,.int .i64 0]⟩
theorem Rr:bH P 139 Jz:=cB (by kernel_rfl) (by kernel_rfl) (by kernel_rfl)
abbrev NU:TI:=⟨.array 4 25,4,96,.agg [.nil,.nil,.nil,.nil]⟩
theorem ajk:bH P 143 NU:=cB (by kernel_rfl) (by kernel_rfl) (by kernel_rfl)
abbrev N5:TI:=⟨.slice 95,1,24,.nil⟩
theorem agy:bH P 172 N5:=cB (by kernel_rfl) (by kernel_rfl) (by kernel_rfl)
abbrev PJ:TI:=⟨.array 2 32,6,112,.agg [.rat 0 1,.rat 0 1]⟩
theorem abX:bH P 186 PJ:=cB (by kernel_rfl) (by kernel_rfl) (by kernel_rfl)
abbrev PG:TI:=⟨.int .u64,1,8,.int .u64 0⟩
theorem ajO:bH P 189 PG:=cB (by kernel_rfl) (by kernel_rfl) (by kernel_rfl)
abbrev JR:TI:=⟨.int .u32,1,4,.int .u32 0⟩
theorem Zi:bH P 194 JR:=cB (by kernel_rfl) (by kernel_rfl) (by kernel_rfl)
abbrev ME:TI:=⟨.slice 5,1,24,.nil⟩
theorem V6:bH P 210 ME:=cB (by kernel_rfl) (by kernel_rfl) (by kernel_rfl)
abbrev MG:TI:=⟨.int .u64,1,8,.int .u64 0⟩
theorem adx:bH P 213 MG:=cB (by kernel_rfl) (by kernel_rfl) (by kernel_rfl)
abbrev LS:TI:=⟨.slice 25,1,24,.nil⟩
theorem ahk:bH P 232 LS:=cB (by kernel_rfl) (by kernel_rfl) (by kernel_rfl)
abbrev OU:TI:=⟨.struct #[{name:= "_interface",type:=17,offset:=0,embedded:=false,tag:= "",pkgPath:= "runtime",byteOffset:=0},{name:= "concrete",type:=17,offset:=1,embedded:=false,tag:= "",pkgPath:= "runtime",byteOffset:=8},{name:= "asserted",type:=17,offset:=2,embedded:=false,tag:= "",pkgPath:= "runtime",byteOffset:=16},{name:= "missingMethod",type:=9,offset:=3,embedded:=false,tag:= "",pkgPath:= "runtime",byteOffset:=24}],4,40,.tuple []⟩
theorem W4:bH P 241 OU:=iQ (by kernel_rfl) (by kernel_rfl) rfl
abbrev K3:TI:=⟨.struct #[{name:= "_interface",type:=17,offset:=0,embedded:=false,tag:= "",pkgPath:= "runtime",byteOffset:=0},{name:= "concrete",type:=17,offset:=1,embedded:=false,tag:= "",pkgPath:= "runtime",byteOffset:=8},{name:= "asserted",type:=17,offset:=2,embedded:=false,tag:= "",pkgPath:= "runtime",byteOffset:=16},{name:= "missingMethod",type:=9,offset:=3,embedded:=false,tag:= "",pkgPath:= "runtime",byteOffset:=24}],4,40,.tuple []⟩
theorem adv:bH P 242 K3:=iQ (by kernel_rfl) (by kernel_rfl) rfl
abbrev MA:TI:=⟨.int .u8,1,1,.int .u8 0⟩
theorem aiC:bH P 247 MA:=cB (by kernel_rfl) (by kernel_rfl) (by kernel_rfl)
abbrev M6:TI:=⟨.int .u8,1,1,.int .u8 0⟩
theorem ajB:bH P 248 M6:=cB (by kernel_rfl) (by kernel_rfl) (by kernel_rfl)
abbrev OP:TI:=⟨.pointer 5,1,8,.tuple []⟩
theorem Uu:bH P 250 OP:=iQ (by kernel_rfl) (by kernel_rfl) rfl
abbrev KQ:TI:=⟨.int .i32,1,4,.int .i32 0⟩
theorem ag7:bH P 251 KQ:=cB (by kernel_rfl) (by kernel_rfl) (by kernel_rfl)
abbrev Jw:TI:=⟨.int .i32,1,4,.int .i32 0⟩
theorem TQ:bH P 252 Jw:=cB (by kernel_rfl) (by kernel_rfl) (by kernel_rfl)
abbrev Kk:TI:=⟨.struct #[{name:= "Size_",type:=12,offset:=0,embedded:=false,tag:= "",pkgPath:= "",byteOffset:=0},{name:= "PtrBytes",type:=12,offset:=1,embedded:=false,tag:= "",pkgPath:= "",byteOffset:=8},{name:= "Hash",type:=194,offset:=2,embedded:=false,tag:= "",pkgPath:= "",byteOffset:=16},{name:= "TFlag",type:=247,offset:=3,embedded:=false,tag:= "",pkgPath:= "",byteOffset:=20},{name:= "Align_",type:=5,offset:=4,embedded:=false,tag:= "",pkgPath:= "",byteOffset:=21},{name:= "FieldAlign_",type:=5,offset:=5,embedded:=false,tag:= "",pkgPath:= "",byteOffset:=22},{name:= "Kind_",type:=248,offset:=6,embedded:=false,tag:= "",pkgPath:= "",byteOffset:=23},{name:= "Equal",type:=249,offset:=7,embedded:=false,tag:= "",pkgPath:= "",byteOffset:=24},{name:= "GCData",type:=250,offset:=8,embedded:=false,tag:= "",pkgPath:= "",byteOffset:=32},{name:= "Str",type:=251,offset:=9,embedded:=false,tag:= "",pkgPath:= "",byteOffset:=40},{name:= "PtrToThis",type:=252,offset:=10,embedded:=false,tag:= "",pkgPath:= "",byteOffset:=44}],11,48,.tuple []⟩
theorem abL:bH P 253 Kk:=iQ (by kernel_rfl) (by kernel_rfl) rfl
abbrev Kb:TI:=⟨.struct #[{name:= "Size_",type:=12,offset:=0,embedded:=false,tag:= "",pkgPath:= "",byteOffset:=0},{name:= "PtrBytes",type:=12,offset:=1,embedded:=false,tag:= "",pkgPath:= "",byteOffset:=8},{name:= "Hash",type:=194,offset:=2,embedded:=false,tag:= "",pkgPath:= "",byteOffset:=16},{name:= "TFlag",type:=247,offset:=3,embedded:=false,tag:= "",pkgPath:= "",byteOffset:=20},{name:= "Align_",type:=5,offset:=4,embedded:=false,tag:= "",pkgPath:= "",byteOffset:=21},{name:= "FieldAlign_",type:=5,offset:=5,embedded:=false,tag:= "",pkgPath:= "",byteOffset:=22},{name:= "Kind_",type:=248,offset:=6,embedded:=false,tag:= "",pkgPath:= "",byteOffset:=23},{name:= "Equal",type:=249,offset:=7,embedded:=false,tag:= "",pkgPath:= "",byteOffset:=24},{name:= "GCData",type:=250,offset:=8,embedded:=false,tag:= "",pkgPath:= "",byteOffset:=32},{name:= "Str",type:=251,offset:=9,embedded:=false,tag:= "",pkgPath:= "",byteOffset:=40},{name:= "PtrToThis",type:=252,offset:=10,embedded:=false,tag:= "",pkgPath:= "",byteOffset:=44}],11,48,.tuple []⟩
theorem SO:bH P 254 Kb:=iQ (by kernel_rfl) (by kernel_rfl) rfl
abbrev T:Types:=[(2,LQ),(3,Ky),(4,I5),(5,Jc),(6,NM),(7,KO),(8,Og),(9,Lu),(10,Rd),(11,NS),(12,Ov),(13,Ly),(14,NO),(15,Oj),(16,Ni),(17,KV),(18,JZ),(19,Jd),(21,Ra),(22,Pq),(25,LP),(26,PA),(27,Qh),(28,MK),(30,Ng),(31,JI),(32,JL),(33,Kz),(34,Q5),(40,Mr),(41,J7),(42,Qp),(45,LV),(46,Q9),(47,Mq),(63,Jx),(64,IV),(69,Nq),(73,Ox),(75,Me),(76,PZ),(77,Ri),(93,Kt),(94,PB),(95,Mx),(98,PU),(99,IQ),(138,O3),(139,Jz),(143,NU),(172,N5),(186,PJ),(189,PG),(194,JR),(210,ME),(213,MG),(232,LS),(241,OU),(242,K3),(247,MA),(248,M6),(250,OP),(251,KQ),(252,Jw),(253,Kk),(254,Kb)]
theorem hT:cY P T:=bO ok2 (bO ok3 (bO Za (bO ok5 (bO Se (bO ok7 (bO ok8 (bO ok9 (bO XG (bO Ry (bO abD (bO abQ (bO akQ (bO ahJ (bO aeN (bO aar (bO Vb (bO akI (bO ac1 (bO ai0 (bO aa0 (bO Wy (bO aiV (bO abC (bO XW (bO afv (bO ajN (bO aiA (bO ajA (bO afM (bO aiq (bO Ru (bO ac0 (bO aa3 (bO Wu (bO ahj (bO ad1 (bO afx (bO agh (bO aaP (bO aeG (bO air (bO aa4 (bO Sq (bO Xl (bO ady (bO Tl (bO abU (bO Rr (bO ajk (bO agy (bO abX (bO ajO (bO Zi (bO V6 (bO adx (bO ahk (bO W4 (bO adv (bO aiC (bO ajB (bO Uu (bO ag7 (bO TQ (bO abL (bO SO (XF))))))))))))))))))))))))))))))))))))))))))))))))))))))))))))))))))
end Go.Am.N
