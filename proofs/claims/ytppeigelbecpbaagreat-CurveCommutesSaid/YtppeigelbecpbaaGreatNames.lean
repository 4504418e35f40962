/- The seat's names: the numbers of functions, the types. Written by a program. -/
import Derived.Test.YtppeigelbecpbaaGreatZ2
import Derived.Test.YtppeigelbecpbaaGreatProg
import Derived.KernelRfl
set_option linter.unusedVariables false
namespace Go.Am.N
open Go.Proofs
noncomputable abbrev P:Program:=Tryz.prog
theorem hm:P.follows .mixedOrders=true:=by kernel_rfl
abbrev Iy:FuncId:=8
noncomputable abbrev pN:Func:=Tryz.f8
theorem abx:P.funcs[Iy]?=some pN:=Tryz.func8
abbrev Di:FuncId:=9
noncomputable abbrev Ac:Func:=Tryz.f9
theorem afu:P.funcs[Di]?=some Ac:=Tryz.func9
abbrev H6:FuncId:=13
noncomputable abbrev CC:Func:=Tryz.f13
theorem ab8:P.funcs[H6]?=some CC:=Tryz.func13
abbrev uh:FuncId:=14
noncomputable abbrev wZ:Func:=Tryz.f14
theorem Rq:P.funcs[uh]?=some wZ:=Tryz.func14
abbrev Lc:FuncId:=23
noncomputable abbrev MN:Func:=Tryz.f23
theorem Vp:P.funcs[Lc]?=some MN:=Tryz.func23
abbrev zR:FuncId:=26
noncomputable abbrev y7:Func:=Tryz.f26
theorem UC:P.funcs[zR]?=some y7:=Tryz.func26
abbrev sU:FuncId:=29
noncomputable abbrev vO:Func:=Tryz.f29
theorem ahi:P.funcs[sU]?=some vO:=Tryz.func29
abbrev od:FuncId:=36
noncomputable abbrev xe:Func:=Tryz.f36
theorem W7:P.funcs[od]?=some xe:=Tryz.func36
abbrev oT:FuncId:=37
noncomputable abbrev AL:Func:=Tryz.f37
theorem YK:P.funcs[oT]?=some AL:=Tryz.func37
abbrev BF:FuncId:=38
noncomputable abbrev wk:Func:=Tryz.f38
theorem akg:P.funcs[BF]?=some wk:=Tryz.func38
abbrev BJ:FuncId:=39
noncomputable abbrev xy:Func:=Tryz.f39
theorem VS:P.funcs[BJ]?=some xy:=Tryz.func39
abbrev DZ:FuncId:=40
noncomputable abbrev Bp:Func:=Tryz.f40
theorem VM:P.funcs[DZ]?=some Bp:=Tryz.func40
abbrev yT:FuncId:=41
noncomputable abbrev AN:Func:=Tryz.f41
theorem aai:P.funcs[yT]?=some AN:=Tryz.func41
abbrev DM:FuncId:=46
noncomputable abbrev Ax:Func:=Tryz.f46
theorem ajL:P.funcs[DM]?=some Ax:=Tryz.func46
abbrev yd:FuncId:=51
noncomputable abbrev A0:Func:=Tryz.f51
theorem WY:P.funcs[yd]?=some A0:=Tryz.func51
abbrev vf:FuncId:=53
noncomputable abbrev AS:Func:=Tryz.f53
theorem adg:P.funcs[vf]?=some AS:=Tryz.func53
abbrev Kk:FuncId:=55
noncomputable abbrev KO:Func:=Tryz.f55
theorem aay:P.funcs[Kk]?=some KO:=Tryz.func55
abbrev Ar:FuncId:=56
noncomputable abbrev yX:Func:=Tryz.f56
theorem acB:P.funcs[Ar]?=some yX:=Tryz.func56
abbrev Kj:FuncId:=57
noncomputable abbrev Q7:Func:=Tryz.f57
theorem RR:P.funcs[Kj]?=some Q7:=Tryz.func57
abbrev DN:FuncId:=58
noncomputable abbrev w7:Func:=Tryz.f58
theorem aih:P.funcs[DN]?=some w7:=Tryz.func58
abbrev Bb:FuncId:=61
noncomputable abbrev lO:Func:=Tryz.f61
theorem acO:P.funcs[Bb]?=some lO:=Tryz.func61
abbrev qH:FuncId:=63
noncomputable abbrev yz:Func:=Tryz.f63
theorem Xh:P.funcs[qH]?=some yz:=Tryz.func63
abbrev wU:FuncId:=64
noncomputable abbrev yQ:Func:=Tryz.f64
theorem acy:P.funcs[wU]?=some yQ:=Tryz.func64
abbrev DA:FuncId:=65
noncomputable abbrev A3:Func:=Tryz.f65
theorem Zt:P.funcs[DA]?=some A3:=Tryz.func65
abbrev z7:FuncId:=66
noncomputable abbrev xQ:Func:=Tryz.f66
theorem akB:P.funcs[z7]?=some xQ:=Tryz.func66
abbrev zM:FuncId:=68
noncomputable abbrev qe:Func:=Tryz.f68
theorem ajR:P.funcs[zM]?=some qe:=Tryz.func68
abbrev nk:FuncId:=69
noncomputable abbrev xU:Func:=Tryz.f69
theorem SF:P.funcs[nk]?=some xU:=Tryz.func69
abbrev qv:FuncId:=71
noncomputable abbrev A9:Func:=Tryz.f71
theorem ah2:P.funcs[qv]?=some A9:=Tryz.func71
abbrev zW:FuncId:=79
noncomputable abbrev AD:Func:=Tryz.f79
theorem Tk:P.funcs[zW]?=some AD:=Tryz.func79
abbrev QH:FuncId:=82
noncomputable abbrev Mz:Func:=Tryz.f82
theorem ab9:P.funcs[QH]?=some Mz:=Tryz.func82
abbrev Cd:FuncId:=83
noncomputable abbrev zJ:Func:=Tryz.f83
theorem agQ:P.funcs[Cd]?=some zJ:=Tryz.func83
abbrev uf:FuncId:=84
noncomputable abbrev xl:Func:=Tryz.f84
theorem UA:P.funcs[uf]?=some xl:=Tryz.func84
abbrev oP:FuncId:=85
noncomputable abbrev tv:Func:=Tryz.f85
theorem Xs:P.funcs[oP]?=some tv:=Tryz.func85
abbrev oV:FuncId:=86
noncomputable abbrev AK:Func:=Tryz.f86
theorem aee:P.funcs[oV]?=some AK:=Tryz.func86
abbrev CK:FuncId:=87
noncomputable abbrev wm:Func:=Tryz.f87
theorem akT:P.funcs[CK]?=some wm:=Tryz.func87
abbrev AM:FuncId:=92
noncomputable abbrev zu:Func:=Tryz.f92
theorem ak9:P.funcs[AM]?=some zu:=Tryz.func92
abbrev zL:FuncId:=94
noncomputable abbrev wG:Func:=Tryz.f94
theorem aiy:P.funcs[zL]?=some wG:=Tryz.func94
abbrev xW:FuncId:=95
noncomputable abbrev A6:Func:=Tryz.f95
theorem akz:P.funcs[xW]?=some A6:=Tryz.func95
abbrev tw:FuncId:=96
noncomputable abbrev vW:Func:=Tryz.f96
theorem aeq:P.funcs[tw]?=some vW:=Tryz.func96
abbrev xm:FuncId:=97
noncomputable abbrev yC:Func:=Tryz.f97
theorem af7:P.funcs[xm]?=some yC:=Tryz.func97
abbrev xo:FuncId:=98
noncomputable abbrev pX:Func:=Tryz.f98
theorem Xm:P.funcs[xo]?=some pX:=Tryz.func98
abbrev AG:FuncId:=99
noncomputable abbrev Al:Func:=Tryz.f99
theorem ahJ:P.funcs[AG]?=some Al:=Tryz.func99
abbrev DB:FuncId:=100
noncomputable abbrev xd:Func:=Tryz.f100
theorem V5:P.funcs[DB]?=some xd:=Tryz.func100
abbrev iR:FuncId:=101
noncomputable abbrev vC:Func:=Tryz.f101
theorem adk:P.funcs[iR]?=some vC:=Tryz.func101
abbrev wX:FuncId:=102
noncomputable abbrev zq:Func:=Tryz.f102
theorem Xx:P.funcs[wX]?=some zq:=Tryz.func102
abbrev tB:FuncId:=103
noncomputable abbrev qn:Func:=Tryz.f103
theorem Wy:P.funcs[tB]?=some qn:=Tryz.func103
abbrev ov:FuncId:=104
noncomputable abbrev wH:Func:=Tryz.f104
theorem SJ:P.funcs[ov]?=some wH:=Tryz.func104
abbrev Dj:FuncId:=105
noncomputable abbrev xB:Func:=Tryz.f105
theorem aa7:P.funcs[Dj]?=some xB:=Tryz.func105
abbrev gx:FuncId:=106
noncomputable abbrev xk:Func:=Tryz.f106
theorem VX:P.funcs[gx]?=some xk:=Tryz.func106
abbrev p8:FuncId:=107
noncomputable abbrev we:Func:=Tryz.f107
theorem SE:P.funcs[p8]?=some we:=Tryz.func107
abbrev iD:FuncId:=108
noncomputable abbrev AY:Func:=Tryz.f108
theorem ZK:P.funcs[iD]?=some AY:=Tryz.func108
abbrev x9:FuncId:=109
noncomputable abbrev wh:Func:=Tryz.f109
theorem RF:P.funcs[x9]?=some wh:=Tryz.func109
abbrev oB:FuncId:=110
noncomputable abbrev xE:Func:=Tryz.f110
theorem akF:P.funcs[oB]?=some xE:=Tryz.func110
abbrev Bg:FuncId:=111
noncomputable abbrev Ay:Func:=Tryz.f111
theorem UQ:P.funcs[Bg]?=some Ay:=Tryz.func111
abbrev Du:FuncId:=112
noncomputable abbrev yy:Func:=Tryz.f112
theorem akk:P.funcs[Du]?=some yy:=Tryz.func112
abbrev An:FuncId:=116
noncomputable abbrev Bd:Func:=Tryz.f116
theorem Sv:P.funcs[An]?=some Bd:=Tryz.func116
abbrev QX:FuncId:=117
noncomputable abbrev PD:Func:=Tryz.f117
theorem YN:P.funcs[QX]?=some PD:=Tryz.func117
abbrev AW:FuncId:=119
noncomputable abbrev Bh:Func:=Tryz.f119
theorem VI:P.funcs[AW]?=some Bh:=Tryz.func119
abbrev wM:FuncId:=120
noncomputable abbrev yI:Func:=Tryz.f120
theorem XX:P.funcs[wM]?=some yI:=Tryz.func120
abbrev uX:FuncId:=121
noncomputable abbrev y8:Func:=Tryz.f121
theorem V0:P.funcs[uX]?=some y8:=Tryz.func121
abbrev Pe:FuncId:=122
noncomputable abbrev Ml:Func:=Tryz.f122
theorem Yq:P.funcs[Pe]?=some Ml:=Tryz.func122
abbrev ze:FuncId:=123
noncomputable abbrev x4:Func:=Tryz.f123
theorem YF:P.funcs[ze]?=some x4:=Tryz.func123
abbrev yb:FuncId:=128
noncomputable abbrev wP:Func:=Tryz.f128
theorem akX:P.funcs[yb]?=some wP:=Tryz.func128
abbrev QW:FuncId:=129
noncomputable abbrev De:Func:=Tryz.f129
theorem Z9:P.funcs[QW]?=some De:=Tryz.func129
abbrev O7:FuncId:=131
noncomputable abbrev Oy:Func:=Tryz.f131
theorem Xj:P.funcs[O7]?=some Oy:=Tryz.func131
abbrev PO:FuncId:=133
noncomputable abbrev Ph:Func:=Tryz.f133
theorem Sg:P.funcs[PO]?=some Ph:=Tryz.func133
abbrev Oh:FuncId:=134
noncomputable abbrev Lw:Func:=Tryz.f134
theorem SA:P.funcs[Oh]?=some Lw:=Tryz.func134
abbrev Pd:FuncId:=135
noncomputable abbrev JJ:Func:=Tryz.f135
theorem Th:P.funcs[Pd]?=some JJ:=Tryz.func135
abbrev Km:FuncId:=136
noncomputable abbrev PJ:Func:=Tryz.f136
theorem aau:P.funcs[Km]?=some PJ:=Tryz.func136
abbrev fq:FuncId:=137
noncomputable abbrev zE:Func:=Tryz.f137
theorem agM:P.funcs[fq]?=some zE:=Tryz.func137
abbrev PT:FuncId:=138
noncomputable abbrev OG:Func:=Tryz.f138
theorem afx:P.funcs[PT]?=some OG:=Tryz.func138
abbrev m8:FuncId:=139
noncomputable abbrev D4:Func:=Tryz.f139
theorem ahc:P.funcs[m8]?=some D4:=Tryz.func139
abbrev x5:FuncId:=145
noncomputable abbrev jW:Func:=Tryz.f145
theorem ZD:P.funcs[x5]?=some jW:=Tryz.func145
abbrev uR:FuncId:=146
noncomputable abbrev lf:Func:=Tryz.f146
theorem ac9:P.funcs[uR]?=some lf:=Tryz.func146
abbrev zh:FuncId:=147
noncomputable abbrev zl:Func:=Tryz.f147
theorem ack:P.funcs[zh]?=some zl:=Tryz.func147
abbrev zX:FuncId:=148
noncomputable abbrev zx:Func:=Tryz.f148
theorem acV:P.funcs[zX]?=some zx:=Tryz.func148
abbrev Au:FuncId:=149
noncomputable abbrev gC:Func:=Tryz.f149
theorem agh:P.funcs[Au]?=some gC:=Tryz.func149
abbrev pZ:FuncId:=150
noncomputable abbrev pq:Func:=Tryz.f150
theorem aae:P.funcs[pZ]?=some pq:=Tryz.func150
abbrev AB:FuncId:=151
noncomputable abbrev zK:Func:=Tryz.f151
theorem UL:P.funcs[AB]?=some zK:=Tryz.func151
abbrev ua:FuncId:=152
noncomputable abbrev Ah:Func:=Tryz.f152
theorem agL:P.funcs[ua]?=some Ah:=Tryz.func152
abbrev wg:FuncId:=155
noncomputable abbrev sq:Func:=Tryz.f155
theorem ajG:P.funcs[wg]?=some sq:=Tryz.func155
abbrev jC:FuncId:=164
noncomputable abbrev xO:Func:=Tryz.f164
theorem ajw:P.funcs[jC]?=some xO:=Tryz.func164
abbrev HK:FuncId:=165
noncomputable abbrev Dg:Func:=Tryz.f165
theorem Wu:P.funcs[HK]?=some Dg:=Tryz.func165
abbrev zf:FuncId:=166
noncomputable abbrev AX:Func:=Tryz.f166
theorem X6:P.funcs[zf]?=some AX:=Tryz.func166
abbrev xH:FuncId:=167
noncomputable abbrev wD:Func:=Tryz.f167
theorem ag8:P.funcs[xH]?=some wD:=Tryz.func167
abbrev z9:FuncId:=170
noncomputable abbrev w8:Func:=Tryz.f170
theorem SR:P.funcs[z9]?=some w8:=Tryz.func170
abbrev rS:FuncId:=173
noncomputable abbrev Bk:Func:=Tryz.f173
theorem abh:P.funcs[rS]?=some Bk:=Tryz.func173
abbrev pS:FuncId:=174
noncomputable abbrev xZ:Func:=Tryz.f174
theorem Yt:P.funcs[pS]?=some xZ:=Tryz.func174
abbrev Cx:FuncId:=175
noncomputable abbrev Dl:Func:=Tryz.f175
theorem SL:P.funcs[Cx]?=some Dl:=Tryz.func175
abbrev pB:FuncId:=176
noncomputable abbrev zN:Func:=Tryz.f176
theorem af0:P.funcs[pB]?=some zN:=Tryz.func176
abbrev xx:FuncId:=177
noncomputable abbrev xV:Func:=Tryz.f177
theorem ZG:P.funcs[xx]?=some xV:=Tryz.func177
abbrev rY:FuncId:=178
noncomputable abbrev yp:Func:=Tryz.f178
theorem SH:P.funcs[rY]?=some yp:=Tryz.func178
abbrev ux:FuncId:=179
noncomputable abbrev vu:Func:=Tryz.f179
theorem akD:P.funcs[ux]?=some vu:=Tryz.func179
abbrev sS:FuncId:=180
noncomputable abbrev nj:Func:=Tryz.f180
theorem ahx:P.funcs[sS]?=some nj:=Tryz.func180
abbrev vm:FuncId:=181
noncomputable abbrev DL:Func:=Tryz.f181
theorem ahH:P.funcs[vm]?=some DL:=Tryz.func181
abbrev rG:FuncId:=182
noncomputable abbrev C7:Func:=Tryz.f182
theorem Vt:P.funcs[rG]?=some C7:=Tryz.func182
abbrev yF:FuncId:=183
noncomputable abbrev zV:Func:=Tryz.f183
theorem adI:P.funcs[yF]?=some zV:=Tryz.func183
abbrev s9:FuncId:=184
noncomputable abbrev AP:Func:=Tryz.f184
theorem aiV:P.funcs[s9]?=some AP:=Tryz.func184
abbrev ve:FuncId:=185
noncomputable abbrev gV:Func:=Tryz.f185
theorem W5:P.funcs[ve]?=some gV:=Tryz.func185
abbrev xw:FuncId:=186
noncomputable abbrev zG:Func:=Tryz.f186
theorem ak1:P.funcs[xw]?=some zG:=Tryz.func186
abbrev vw:FuncId:=187
noncomputable abbrev wT:Func:=Tryz.f187
theorem akp:P.funcs[vw]?=some wT:=Tryz.func187
abbrev tG:FuncId:=188
noncomputable abbrev yY:Func:=Tryz.f188
theorem WX:P.funcs[tG]?=some yY:=Tryz.func188
abbrev AH:FuncId:=189
noncomputable abbrev vT:Func:=Tryz.f189
theorem Ua:P.funcs[AH]?=some vT:=Tryz.func189
abbrev ql:FuncId:=190
noncomputable abbrev vH:Func:=Tryz.f190
theorem Tg:P.funcs[ql]?=some vH:=Tryz.func190
abbrev vK:FuncId:=191
noncomputable abbrev eW:Func:=Tryz.f191
theorem afA:P.funcs[vK]?=some eW:=Tryz.func191
abbrev xp:FuncId:=192
noncomputable abbrev yc:Func:=Tryz.f192
theorem Vu:P.funcs[xp]?=some yc:=Tryz.func192
abbrev sL:FuncId:=193
noncomputable abbrev zk:Func:=Tryz.f193
theorem akb:P.funcs[sL]?=some zk:=Tryz.func193
abbrev uj:FuncId:=194
noncomputable abbrev dF:Func:=Tryz.f194
theorem aa4:P.funcs[uj]?=some dF:=Tryz.func194
abbrev z8:FuncId:=195
noncomputable abbrev iN:Func:=Tryz.f195
theorem YP:P.funcs[z8]?=some iN:=Tryz.func195
abbrev II:FuncId:=196
noncomputable abbrev Gt:Func:=Tryz.f196
theorem OY:P.funcs[II]?=some Gt:=Tryz.func196
abbrev Mh:FuncId:=198
noncomputable abbrev Db:Func:=Tryz.f198
theorem akJ:P.funcs[Mh]?=some Db:=Tryz.func198
abbrev wV:FuncId:=199
noncomputable abbrev Hq:Func:=Tryz.f199
theorem afU:P.funcs[wV]?=some Hq:=Tryz.func199
abbrev Pv:FuncId:=200
noncomputable abbrev Ji:Func:=Tryz.f200
theorem aeg:P.funcs[Pv]?=some Ji:=Tryz.func200
abbrev Dz:FuncId:=201
noncomputable abbrev A7:Func:=Tryz.f201
theorem U6:P.funcs[Dz]?=some A7:=Tryz.func201
abbrev BW:FuncId:=202
noncomputable abbrev za:Func:=Tryz.f202
theorem Xp:P.funcs[BW]?=some za:=Tryz.func202
abbrev MM:FuncId:=203
noncomputable abbrev Lf:Func:=Tryz.f203
theorem abz:P.funcs[MM]?=some Lf:=Tryz.func203
abbrev ur:FuncId:=204
noncomputable abbrev pW:Func:=Tryz.f204
theorem afO:P.funcs[ur]?=some pW:=Tryz.func204
abbrev tu:FuncId:=207
noncomputable abbrev qD:Func:=Tryz.f207
theorem agk:P.funcs[tu]?=some qD:=Tryz.func207
abbrev nJ:FuncId:=208
noncomputable abbrev lY:Func:=Tryz.f208
theorem RK:P.funcs[nJ]?=some lY:=Tryz.func208
abbrev AT:FuncId:=209
noncomputable abbrev jB:Func:=Tryz.f209
theorem aaF:P.funcs[AT]?=some jB:=Tryz.func209
abbrev tK:FuncId:=210
noncomputable abbrev fO:Func:=Tryz.f210
theorem afB:P.funcs[tK]?=some fO:=Tryz.func210
abbrev xb:FuncId:=211
noncomputable abbrev qo:Func:=Tryz.f211
theorem Zz:P.funcs[xb]?=some qo:=Tryz.func211
abbrev yh:FuncId:=212
noncomputable abbrev AJ:Func:=Tryz.f212
theorem ZU:P.funcs[yh]?=some AJ:=Tryz.func212
abbrev qT:FuncId:=215
noncomputable abbrev oU:Func:=Tryz.f215
theorem Y6:P.funcs[qT]?=some oU:=Tryz.func215
abbrev Jo:FuncId:=216
noncomputable abbrev Jz:Func:=Tryz.f216
theorem ady:P.funcs[Jo]?=some Jz:=Tryz.func216
abbrev xT:FuncId:=217
noncomputable abbrev vQ:Func:=Tryz.f217
theorem Vy:P.funcs[xT]?=some vQ:=Tryz.func217
abbrev B0:FuncId:=218
noncomputable abbrev k8:Func:=Tryz.f218
theorem U3:P.funcs[B0]?=some k8:=Tryz.func218
abbrev qK:FuncId:=219
noncomputable abbrev gP:Func:=Tryz.f219
theorem aj3:P.funcs[qK]?=some gP:=Tryz.func219
abbrev uc:FuncId:=220
noncomputable abbrev yO:Func:=Tryz.f220
theorem W8:P.funcs[uc]?=some yO:=Tryz.func220
abbrev rK:FuncId:=221
noncomputable abbrev vt:Func:=Tryz.f221
theorem agv:P.funcs[rK]?=some vt:=Tryz.func221
abbrev tM:FuncId:=222
noncomputable abbrev dJ:Func:=Tryz.f222
theorem aa2:P.funcs[tM]?=some dJ:=Tryz.func222
abbrev x6:FuncId:=223
noncomputable abbrev oq:Func:=Tryz.f223
theorem Wt:P.funcs[x6]?=some oq:=Tryz.func223
abbrev uo:FuncId:=224
noncomputable abbrev wJ:Func:=Tryz.f224
theorem Ys:P.funcs[uo]?=some wJ:=Tryz.func224
abbrev vg:FuncId:=225
noncomputable abbrev ye:Func:=Tryz.f225
theorem acs:P.funcs[vg]?=some ye:=Tryz.func225
abbrev HR:FuncId:=226
noncomputable abbrev Um:Func:=Tryz.f226
theorem ajy:P.funcs[HR]?=some Um:=Tryz.func226
abbrev tL:FuncId:=227
noncomputable abbrev iA:Func:=Tryz.f227
theorem Wv:P.funcs[tL]?=some iA:=Tryz.func227
abbrev yJ:FuncId:=228
noncomputable abbrev lE:Func:=Tryz.f228
theorem Sr:P.funcs[yJ]?=some lE:=Tryz.func228
abbrev xj:FuncId:=229
noncomputable abbrev pH:Func:=Tryz.f229
theorem WJ:P.funcs[xj]?=some pH:=Tryz.func229
abbrev yZ:FuncId:=230
noncomputable abbrev oK:Func:=Tryz.f230
theorem Ve:P.funcs[yZ]?=some oK:=Tryz.func230
abbrev xu:FuncId:=231
noncomputable abbrev rZ:Func:=Tryz.f231
theorem Wp:P.funcs[xu]?=some rZ:=Tryz.func231
abbrev Gj:FuncId:=232
noncomputable abbrev Fx:Func:=Tryz.f232
theorem Pr:P.funcs[Gj]?=some Fx:=Tryz.func232
abbrev yP:FuncId:=233
noncomputable abbrev G4:Func:=Tryz.f233
theorem akq:P.funcs[yP]?=some G4:=Tryz.func233
abbrev Nf:FuncId:=234
noncomputable abbrev OJ:Func:=Tryz.f234
theorem UE:P.funcs[Nf]?=some OJ:=Tryz.func234
abbrev z6:FuncId:=235
noncomputable abbrev zB:Func:=Tryz.f235
theorem aaW:P.funcs[z6]?=some zB:=Tryz.func235
abbrev sn:FuncId:=237
noncomputable abbrev v5:Func:=Tryz.f237
theorem ZC:P.funcs[sn]?=some v5:=Tryz.func237
abbrev zA:FuncId:=238
noncomputable abbrev pL:Func:=Tryz.f238
theorem aeD:P.funcs[zA]?=some pL:=Tryz.func238
abbrev wj:FuncId:=239
noncomputable abbrev oe:Func:=Tryz.f239
theorem akR:P.funcs[wj]?=some oe:=Tryz.func239
abbrev vq:FuncId:=240
noncomputable abbrev vv:Func:=Tryz.f240
theorem afJ:P.funcs[vq]?=some vv:=Tryz.func240
abbrev AI:FuncId:=241
noncomputable abbrev ya:Func:=Tryz.f241
theorem ahC:P.funcs[AI]?=some ya:=Tryz.func241
abbrev Ai:FuncId:=242
noncomputable abbrev nY:Func:=Tryz.f242
theorem aef:P.funcs[Ai]?=some nY:=Tryz.func242
abbrev vp:FuncId:=246
noncomputable abbrev pF:Func:=Tryz.f246
theorem Yz:P.funcs[vp]?=some pF:=Tryz.func246
abbrev wK:FuncId:=247
noncomputable abbrev vr:Func:=Tryz.f247
theorem ag2:P.funcs[wK]?=some vr:=Tryz.func247
abbrev vU:FuncId:=248
noncomputable abbrev lK:Func:=Tryz.f248
theorem TA:P.funcs[vU]?=some lK:=Tryz.func248
abbrev Kv:TI:=⟨.int .i64,1,8,.int .i64 0⟩
theorem ok2:bH P 2 Kv:=cD (by kernel_rfl) (by kernel_rfl) (by kernel_rfl)
abbrev La:TI:=⟨.int .i64,1,8,.int .i64 0⟩
theorem ok3:bH P 3 La:=cD (by kernel_rfl) (by kernel_rfl) (by kernel_rfl)
abbrev OQ:TI:=⟨.bool,1,1,.bool false⟩
theorem ok4:bH P 4 OQ:=cD (by kernel_rfl) (by kernel_rfl) (by kernel_rfl)
abbrev KB:TI:=⟨.int .u8,1,1,.int .u8 0⟩
theorem ok5:bH P 5 KB:=cD (by kernel_rfl) (by kernel_rfl) (by kernel_rfl)
abbrev Kb:TI:=⟨.int .u8,1,1,.int .u8 0⟩
theorem ok6:bH P 6 Kb:=cD (by kernel_rfl) (by kernel_rfl) (by kernel_rfl)
abbrev KY:TI:=⟨.struct #[{name:= "x",type:=2,offset:=0,embedded:=false,tag:= "",pkgPath:= "runtime",byteOffset:=0},{name:= "y",type:=3,offset:=1,embedded:=false,tag:= "",pkgPath:= "runtime",byteOffset:=8},{name:= "signed",type:=4,offset:=2,embedded:=false,tag:= "",pkgPath:= "runtime",byteOffset:=16},{name:= "code",type:=6,offset:=3,embedded:=false,tag:= "",pkgPath:= "runtime",byteOffset:=17}],4,24,.agg [.int .i64 0,.int .i64 0,.bool false,.int .u8 0]⟩
theorem Vz:bH P 7 KY:=cD (by kernel_rfl) (by kernel_rfl) (by kernel_rfl)
abbrev KK:TI:=⟨.struct #[{name:= "x",type:=2,offset:=0,embedded:=false,tag:= "",pkgPath:= "runtime",byteOffset:=0},{name:= "y",type:=3,offset:=1,embedded:=false,tag:= "",pkgPath:= "runtime",byteOffset:=8},{name:= "signed",type:=4,offset:=2,embedded:=false,tag:= "",pkgPath:= "runtime",byteOffset:=16},{name:= "code",type:=6,offset:=3,embedded:=false,tag:= "",pkgPath:= "runtime",byteOffset:=17}],4,24,.agg [.int .i64 0,.int .i64 0,.bool false,.int .u8 0]⟩
theorem Xe:bH P 8 KK:=cD (by kernel_rfl) (by kernel_rfl) (by kernel_rfl)
abbrev Rf:TI:=⟨.string,1,16,.tuple []⟩
theorem ok9:bH P 9 Rf:=jc (by kernel_rfl) (by kernel_rfl) rfl
abbrev Qn:TI:=⟨.string,1,16,.tuple []⟩
theorem ajp:bH P 10 Qn:=jc (by kernel_rfl) (by kernel_rfl) rfl
abbrev L9:TI:=⟨.string,1,16,.tuple []⟩
theorem aft:bH P 11 L9:=jc (by kernel_rfl) (by kernel_rfl) rfl
abbrev KI:TI:=⟨.int .u64,1,8,.int .u64 0⟩
theorem abi:bH P 12 KI:=cD (by kernel_rfl) (by kernel_rfl) (by kernel_rfl)
abbrev Pz:TI:=⟨.struct #[{name:= "msg",type:=9,offset:=0,embedded:=false,tag:= "",pkgPath:= "runtime",byteOffset:=0},{name:= "addr",type:=12,offset:=1,embedded:=false,tag:= "",pkgPath:= "runtime",byteOffset:=16}],2,24,.tuple []⟩
theorem Uq:bH P 13 Pz:=jc (by kernel_rfl) (by kernel_rfl) rfl
abbrev JY:TI:=⟨.struct #[{name:= "msg",type:=9,offset:=0,embedded:=false,tag:= "",pkgPath:= "runtime",byteOffset:=0},{name:= "addr",type:=12,offset:=1,embedded:=false,tag:= "",pkgPath:= "runtime",byteOffset:=16}],2,24,.tuple []⟩
theorem Tl:bH P 14 JY:=jc (by kernel_rfl) (by kernel_rfl) rfl
abbrev Pu:TI:=⟨.pointer 242,1,8,.tuple []⟩
theorem ak7:bH P 15 Pu:=jc (by kernel_rfl) (by kernel_rfl) rfl
abbrev L5:TI:=⟨.pointer 245,1,8,.tuple []⟩
theorem Yl:bH P 16 L5:=jc (by kernel_rfl) (by kernel_rfl) rfl
abbrev NF:TI:=⟨.pointer 254,1,8,.tuple []⟩
theorem RB:bH P 17 NF:=jc (by kernel_rfl) (by kernel_rfl) rfl
abbrev Jy:TI:=⟨.struct #[{name:= "typ",type:=17,offset:=0,embedded:=false,tag:= "",pkgPath:= "internal/runtime/maps",byteOffset:=0}],1,8,.tuple []⟩
theorem afZ:bH P 18 Jy:=jc (by kernel_rfl) (by kernel_rfl) rfl
abbrev Qz:TI:=⟨.struct #[{name:= "typ",type:=17,offset:=0,embedded:=false,tag:= "",pkgPath:= "internal/runtime/maps",byteOffset:=0}],1,8,.tuple []⟩
theorem ais:bH P 19 Qz:=jc (by kernel_rfl) (by kernel_rfl) rfl
abbrev JF:TI:=⟨.int .i32,1,4,.int .i32 0⟩
theorem aaU:bH P 21 JF:=cD (by kernel_rfl) (by kernel_rfl) (by kernel_rfl)
abbrev JW:TI:=⟨.slice 3,1,24,.nil⟩
theorem ah1:bH P 22 JW:=cD (by kernel_rfl) (by kernel_rfl) (by kernel_rfl)
abbrev JL:TI:=⟨.slice 32,1,24,.nil⟩
theorem UO:bH P 25 JL:=cD (by kernel_rfl) (by kernel_rfl) (by kernel_rfl)
abbrev KQ:TI:=⟨.slice 45,1,24,.nil⟩
theorem XR:bH P 26 KQ:=cD (by kernel_rfl) (by kernel_rfl) (by kernel_rfl)
abbrev Mm:TI:=⟨.struct #[{name:= "U",type:=3,offset:=0,embedded:=false,tag:= "",pkgPath:= "",byteOffset:=0},{name:= "V",type:=3,offset:=1,embedded:=false,tag:= "",pkgPath:= "",byteOffset:=8},{name:= "KnotsU",type:=25,offset:=2,embedded:=false,tag:= "",pkgPath:= "",byteOffset:=16},{name:= "KnotsV",type:=25,offset:=3,embedded:=false,tag:= "",pkgPath:= "",byteOffset:=40},{name:= "Poles",type:=26,offset:=4,embedded:=false,tag:= "",pkgPath:= "",byteOffset:=64}],5,88,.agg [.int .i64 0,.int .i64 0,.nil,.nil,.nil]⟩
theorem Sl:bH P 27 Mm:=cD (by kernel_rfl) (by kernel_rfl) (by kernel_rfl)
abbrev P8:TI:=⟨.struct #[{name:= "U",type:=3,offset:=0,embedded:=false,tag:= "",pkgPath:= "",byteOffset:=0},{name:= "V",type:=3,offset:=1,embedded:=false,tag:= "",pkgPath:= "",byteOffset:=8},{name:= "KnotsU",type:=25,offset:=2,embedded:=false,tag:= "",pkgPath:= "",byteOffset:=16},{name:= "KnotsV",type:=25,offset:=3,embedded:=false,tag:= "",pkgPath:= "",byteOffset:=40},{name:= "Poles",type:=26,offset:=4,embedded:=false,tag:= "",pkgPath:= "",byteOffset:=64}],5,88,.agg [.int .i64 0,.int .i64 0,.nil,.nil,.nil]⟩
theorem ag6:bH P 28 P8:=cD (by kernel_rfl) (by kernel_rfl) (by kernel_rfl)
abbrev Ka:TI:=⟨.slice 194,1,24,.nil⟩
theorem XN:bH P 30 Ka:=cD (by kernel_rfl) (by kernel_rfl) (by kernel_rfl)
abbrev NU:TI:=⟨.struct #[{name:= "Neg",type:=4,offset:=0,embedded:=false,tag:= "",pkgPath:= "",byteOffset:=0},{name:= "Num",type:=30,offset:=1,embedded:=false,tag:= "",pkgPath:= "",byteOffset:=8},{name:= "Den",type:=30,offset:=2,embedded:=false,tag:= "",pkgPath:= "",byteOffset:=32}],3,56,.agg [.bool false,.nil,.nil]⟩
theorem aiF:bH P 31 NU:=cD (by kernel_rfl) (by kernel_rfl) (by kernel_rfl)
abbrev Mu:TI:=⟨.struct #[{name:= "Neg",type:=4,offset:=0,embedded:=false,tag:= "",pkgPath:= "",byteOffset:=0},{name:= "Num",type:=30,offset:=1,embedded:=false,tag:= "",pkgPath:= "",byteOffset:=8},{name:= "Den",type:=30,offset:=2,embedded:=false,tag:= "",pkgPath:= "",byteOffset:=32}],3,56,.rat 0 1⟩
theorem St:bH P 32 Mu:=cD (by kernel_rfl) (by kernel_rfl) (by kernel_rfl)
abbrev Pf:TI:=⟨.struct #[{name:= "Lo",type:=32,offset:=0,embedded:=false,tag:= "",pkgPath:= "",byteOffset:=0},{name:= "Hi",type:=32,offset:=3,embedded:=false,tag:= "",pkgPath:= "",byteOffset:=56}],6,112,.agg [.rat 0 1,.rat 0 1]⟩
theorem aeF:bH P 33 Pf:=cD (by kernel_rfl) (by kernel_rfl) (by kernel_rfl)
abbrev J9:TI:=⟨.struct #[{name:= "Lo",type:=32,offset:=0,embedded:=false,tag:= "",pkgPath:= "",byteOffset:=0},{name:= "Hi",type:=32,offset:=3,embedded:=false,tag:= "",pkgPath:= "",byteOffset:=56}],6,112,.agg [.rat 0 1,.rat 0 1]⟩
theorem T2:bH P 34 J9:=cD (by kernel_rfl) (by kernel_rfl) (by kernel_rfl)
abbrev MY:TI:=⟨.array 3 32,9,168,.agg [.rat 0 1,.rat 0 1,.rat 0 1]⟩
theorem Vk:bH P 40 MY:=cD (by kernel_rfl) (by kernel_rfl) (by kernel_rfl)
abbrev Rb:TI:=⟨.array 3 32,9,168,.agg [.rat 0 1,.rat 0 1,.rat 0 1]⟩
theorem TJ:bH P 41 Rb:=cD (by kernel_rfl) (by kernel_rfl) (by kernel_rfl)
abbrev Q9:TI:=⟨.int .i64,1,8,.int .i64 0⟩
theorem U5:bH P 42 Q9:=cD (by kernel_rfl) (by kernel_rfl) (by kernel_rfl)
abbrev OS:TI:=⟨.slice 64,1,24,.nil⟩
theorem Yu:bH P 45 OS:=cD (by kernel_rfl) (by kernel_rfl) (by kernel_rfl)
abbrev QE:TI:=⟨.struct #[{name:= "Degree",type:=3,offset:=0,embedded:=false,tag:= "",pkgPath:= "",byteOffset:=0},{name:= "Knots",type:=25,offset:=1,embedded:=false,tag:= "",pkgPath:= "",byteOffset:=8},{name:= "Poles",type:=45,offset:=2,embedded:=false,tag:= "",pkgPath:= "",byteOffset:=32}],3,56,.agg [.int .i64 0,.nil,.nil]⟩
theorem Ur:bH P 46 QE:=cD (by kernel_rfl) (by kernel_rfl) (by kernel_rfl)
abbrev Ko:TI:=⟨.struct #[{name:= "Degree",type:=3,offset:=0,embedded:=false,tag:= "",pkgPath:= "",byteOffset:=0},{name:= "Knots",type:=25,offset:=1,embedded:=false,tag:= "",pkgPath:= "",byteOffset:=8},{name:= "Poles",type:=45,offset:=2,embedded:=false,tag:= "",pkgPath:= "",byteOffset:=32}],3,56,.agg [.int .i64 0,.nil,.nil]⟩
theorem aiR:bH P 47 Ko:=cD (by kernel_rfl) (by kernel_rfl) (by kernel_rfl)
abbrev Qe:TI:=⟨.struct #[{name:= "P",type:=41,offset:=0,embedded:=false,tag:= "",pkgPath:= "",byteOffset:=0},{name:= "W",type:=32,offset:=9,embedded:=false,tag:= "",pkgPath:= "",byteOffset:=168}],12,224,.agg [.agg [.rat 0 1,.rat 0 1,.rat 0 1],.rat 0 1]⟩
theorem Sw:bH P 63 Qe:=cD (by kernel_rfl) (by kernel_rfl) (by kernel_rfl)
abbrev QK:TI:=⟨.struct #[{name:= "P",type:=41,offset:=0,embedded:=false,tag:= "",pkgPath:= "",byteOffset:=0},{name:= "W",type:=32,offset:=9,embedded:=false,tag:= "",pkgPath:= "",byteOffset:=168}],12,224,.agg [.agg [.rat 0 1,.rat 0 1,.rat 0 1],.rat 0 1]⟩
theorem abT:bH P 64 QK:=cD (by kernel_rfl) (by kernel_rfl) (by kernel_rfl)
abbrev ND:TI:=⟨.pointer 139,1,8,.tuple []⟩
theorem U8:bH P 69 ND:=jc (by kernel_rfl) (by kernel_rfl) rfl
abbrev Ny:TI:=⟨.slice 47,1,24,.nil⟩
theorem SV:bH P 73 Ny:=cD (by kernel_rfl) (by kernel_rfl) (by kernel_rfl)
abbrev Qb:TI:=⟨.array 3 41,27,504,.agg [.agg [.rat 0 1,.rat 0 1,.rat 0 1],.agg [.rat 0 1,.rat 0 1,.rat 0 1],.agg [.rat 0 1,.rat 0 1,.rat 0 1]]⟩
theorem TZ:bH P 75 Qb:=cD (by kernel_rfl) (by kernel_rfl) (by kernel_rfl)
abbrev P4:TI:=⟨.struct #[{name:= "M",type:=75,offset:=0,embedded:=false,tag:= "",pkgPath:= "",byteOffset:=0},{name:= "T",type:=41,offset:=27,embedded:=false,tag:= "",pkgPath:= "",byteOffset:=504}],36,672,.agg [.agg [.agg [.rat 0 1,.rat 0 1,.rat 0 1],.agg [.rat 0 1,.rat 0 1,.rat 0 1],.agg [.rat 0 1,.rat 0 1,.rat 0 1]],.agg [.rat 0 1,.rat 0 1,.rat 0 1]]⟩
theorem afa:bH P 76 P4:=cD (by kernel_rfl) (by kernel_rfl) (by kernel_rfl)
abbrev KC:TI:=⟨.struct #[{name:= "M",type:=75,offset:=0,embedded:=false,tag:= "",pkgPath:= "",byteOffset:=0},{name:= "T",type:=41,offset:=27,embedded:=false,tag:= "",pkgPath:= "",byteOffset:=504}],36,672,.agg [.agg [.agg [.rat 0 1,.rat 0 1,.rat 0 1],.agg [.rat 0 1,.rat 0 1,.rat 0 1],.agg [.rat 0 1,.rat 0 1,.rat 0 1]],.agg [.rat 0 1,.rat 0 1,.rat 0 1]]⟩
theorem af3:bH P 77 KC:=cD (by kernel_rfl) (by kernel_rfl) (by kernel_rfl)
abbrev I3:TI:=⟨.slice 99,1,24,.nil⟩
theorem ajn:bH P 93 I3:=cD (by kernel_rfl) (by kernel_rfl) (by kernel_rfl)
abbrev Ma:TI:=⟨.struct #[{name:= "Degree",type:=3,offset:=0,embedded:=false,tag:= "",pkgPath:= "",byteOffset:=0},{name:= "Knots",type:=25,offset:=1,embedded:=false,tag:= "",pkgPath:= "",byteOffset:=8},{name:= "C",type:=93,offset:=2,embedded:=false,tag:= "",pkgPath:= "",byteOffset:=32}],3,56,.agg [.int .i64 0,.nil,.nil]⟩
theorem aiP:bH P 94 Ma:=cD (by kernel_rfl) (by kernel_rfl) (by kernel_rfl)
abbrev Lq:TI:=⟨.struct #[{name:= "Degree",type:=3,offset:=0,embedded:=false,tag:= "",pkgPath:= "",byteOffset:=0},{name:= "Knots",type:=25,offset:=1,embedded:=false,tag:= "",pkgPath:= "",byteOffset:=8},{name:= "C",type:=93,offset:=2,embedded:=false,tag:= "",pkgPath:= "",byteOffset:=32}],3,56,.agg [.int .i64 0,.nil,.nil]⟩
theorem SC:bH P 95 Lq:=cD (by kernel_rfl) (by kernel_rfl) (by kernel_rfl)
abbrev QS:TI:=⟨.array 4 32,12,224,.agg [.rat 0 1,.rat 0 1,.rat 0 1,.rat 0 1]⟩
theorem ait:bH P 98 QS:=cD (by kernel_rfl) (by kernel_rfl) (by kernel_rfl)
abbrev Rg:TI:=⟨.array 4 32,12,224,.agg [.rat 0 1,.rat 0 1,.rat 0 1,.rat 0 1]⟩
theorem akK:bH P 99 Rg:=cD (by kernel_rfl) (by kernel_rfl) (by kernel_rfl)
abbrev P1:TI:=⟨.struct #[{name:= "L",type:=22,offset:=0,embedded:=false,tag:= "",pkgPath:= "",byteOffset:=0},{name:= "At",type:=3,offset:=1,embedded:=false,tag:= "",pkgPath:= "",byteOffset:=24}],2,32,.agg [.nil,.int .i64 0]⟩
theorem VQ:bH P 138 P1:=cD (by kernel_rfl) (by kernel_rfl) (by kernel_rfl)
abbrev LG:TI:=⟨.struct #[{name:= "L",type:=22,offset:=0,embedded:=false,tag:= "",pkgPath:= "",byteOffset:=0},{name:= "At",type:=3,offset:=1,embedded:=false,tag:= "",pkgPath:= "",byteOffset:=24}],2,32,.agg [.nil,.int .i64 0]⟩
theorem adz:bH P 139 LG:=cD (by kernel_rfl) (by kernel_rfl) (by kernel_rfl)
abbrev JR:TI:=⟨.array 4 25,4,96,.agg [.nil,.nil,.nil,.nil]⟩
theorem Ux:bH P 143 JR:=cD (by kernel_rfl) (by kernel_rfl) (by kernel_rfl)
abbrev Md:TI:=⟨.slice 95,1,24,.nil⟩
theorem abr:bH P 172 Md:=cD (by kernel_rfl) (by kernel_rfl) (by kernel_rfl)
abbrev NN:TI:=⟨.array 2 32,6,112,.agg [.rat 0 1,.rat 0 1]⟩
theorem ZH:bH P 186 NN:=cD (by kernel_rfl) (by kernel_rfl) (by kernel_rfl)
abbrev J4:TI:=⟨.int .u64,1,8,.int .u64 0⟩
theorem afV:bH P 189 J4:=cD (by kernel_rfl) (by kernel_rfl) (by kernel_rfl)
abbrev N6:TI:=⟨.int .u32,1,4,.int .u32 0⟩
theorem akm:bH P 194 N6:=cD (by kernel_rfl) (by kernel_rfl) (by kernel_rfl)
abbrev Ot:TI:=⟨.slice 5,1,24,.nil⟩
theorem Tq:bH P 210 Ot:=cD (by kernel_rfl) (by kernel_rfl) (by kernel_rfl)
abbrev Nq:TI:=⟨.int .u64,1,8,.int .u64 0⟩
theorem abo:bH P 213 Nq:=cD (by kernel_rfl) (by kernel_rfl) (by kernel_rfl)
abbrev Rn:TI:=⟨.slice 25,1,24,.nil⟩
theorem adt:bH P 232 Rn:=cD (by kernel_rfl) (by kernel_rfl) (by kernel_rfl)
abbrev NX:TI:=⟨.struct #[{name:= "_interface",type:=17,offset:=0,embedded:=false,tag:= "",pkgPath:= "runtime",byteOffset:=0},{name:= "concrete",type:=17,offset:=1,embedded:=false,tag:= "",pkgPath:= "runtime",byteOffset:=8},{name:= "asserted",type:=17,offset:=2,embedded:=false,tag:= "",pkgPath:= "runtime",byteOffset:=16},{name:= "missingMethod",type:=9,offset:=3,embedded:=false,tag:= "",pkgPath:= "runtime",byteOffset:=24}],4,40,.tuple []⟩
theorem TB:bH P 241 NX:=jc (by kernel_rfl) (by kernel_rfl) rfl
abbrev Jq:TI:=⟨.struct #[{name:= "_interface",type:=17,offset:=0,embedded:=false,tag:= "",pkgPath:= "runtime",byteOffset:=0},{name:= "concrete",type:=17,offset:=1,embedded:=false,tag:= "",pkgPath:= "runtime",byteOffset:=8},{name:= "asserted",type:=17,offset:=2,embedded:=false,tag:= "",pkgPath:= "runtime",byteOffset:=16},{name:= "missingMethod",type:=9,offset:=3,embedded:=false,tag:= "",pkgPath:= "runtime",byteOffset:=24}],4,40,.tuple []⟩
theorem akN:bH P 242 Jq:=jc (by kernel_rfl) (by kernel_rfl) rfl
abbrev L4:TI:=⟨.int .u8,1,1,.int .u8 0⟩
theorem ajz:bH P 247 L4:=cD (by kernel_rfl) (by kernel_rfl) (by kernel_rfl)
abbrev Kt:TI:=⟨.int .u8,1,1,.int .u8 0⟩
theorem ahz:bH P 248 Kt:=cD (by kernel_rfl) (by kernel_rfl) (by kernel_rfl)
abbrev Kc:TI:=⟨.pointer 5,1,8,.tuple []⟩
theorem ajd:bH P 250 Kc:=jc (by kernel_rfl) (by kernel_rfl) rfl
abbrev Jx:TI:=⟨.int .i32,1,4,.int .i32 0⟩
theorem aaM:bH P 251 Jx:=cD (by kernel_rfl) (by kernel_rfl) (by kernel_rfl)
abbrev MH:TI:=⟨.int .i32,1,4,.int .i32 0⟩
theorem aiu:bH P 252 MH:=cD (by kernel_rfl) (by kernel_rfl) (by kernel_rfl)
abbrev Qx:TI:=⟨.struct #[{name:= "Size_",type:=12,offset:=0,embedded:=false,tag:= "",pkgPath:= "",byteOffset:=0},{name:= "PtrBytes",type:=12,offset:=1,embedded:=false,tag:= "",pkgPath:= "",byteOffset:=8},{name:= "Hash",type:=194,offset:=2,embedded:=false,tag:= "",pkgPath:= "",byteOffset:=16},{name:= "TFlag",type:=247,offset:=3,embedded:=false,tag:= "",pkgPath:= "",byteOffset:=20},{name:= "Align_",type:=5,offset:=4,embedded:=false,tag:= "",pkgPath:= "",byteOffset:=21},{name:= "FieldAlign_",type:=5,offset:=5,embedded:=false,tag:= "",pkgPath:= "",byteOffset:=22},{name:= "Kind_",type:=248,offset:=6,embedded:=false,tag:= "",pkgPath:= "",byteOffset:=23},{name:= "Equal",type:=249,offset:=7,embedded:=false,tag:= "",pkgPath:= "",byteOffset:=24},{name:= "GCData",type:=250,offset:=8,embedded:=false,tag:= "",pkgPath:= "",byteOffset:=32},{name:= "Str",type:=251,offset:=9,embedded:=false,tag:= "",pkgPath:= "",byteOffset:=40},{name:= "PtrToThis",type:=252,offset:=10,embedded:=false,tag:= "",pkgPath:= "",byteOffset:=44}],11,48,.tuple []⟩
theorem akv:bH P 253 Qx:=jc (by kernel_rfl) (by kernel_rfl) rfl
abbrev Rh:TI:=⟨.struct #[{name:= "Size_",type:=12,offset:=0,embedded:=false,tag:= "",pkgPath:= "",byteOffset:=0},{name:= "PtrBytes",type:=12,offset:=1,embedded:=false,tag:= "",pkgPath:= "",byteOffset:=8},{name:= "Hash",type:=194,offset:=2,embedded:=false,tag:= "",pkgPath:= "",byteOffset:=16},{name:= "TFlag",type:=247,offset:=3,embedded:=false,tag:= "",pkgPath:= "",byteOffset:=20},{name:= "Align_",type:=5,offset:=4,embedded:=false,tag:= "",pkgPath:= "",byteOffset:=21},{name:= "FieldAlign_",type:=5,offset:=5,embedded:=false,tag:= "",pkgPath:= "",byteOffset:=22},{name:= "Kind_",type:=248,offset:=6,embedded:=false,tag:= "",pkgPath:= "",byteOffset:=23},{name:= "Equal",type:=249,offset:=7,embedded:=false,tag:= "",pkgPath:= "",byteOffset:=24},{name:= "GCData",type:=250,offset:=8,embedded:=false,tag:= "",pkgPath:= "",byteOffset:=32},{name:= "Str",type:=251,offset:=9,embedded:=false,tag:= "",pkgPath:= "",byteOffset:=40},{name:= "PtrToThis",type:=252,offset:=10,embedded:=false,tag:= "",pkgPath:= "",byteOffset:=44}],11,48,.tuple []⟩
theorem WO:bH P 254 Rh:=jc (by kernel_rfl) (by kernel_rfl) rfl
abbrev T:Types:=[(2,Kv),(3,La),(4,OQ),(5,KB),(6,Kb),(7,KY),(8,KK),(9,Rf),(10,Qn),(11,L9),(12,KI),(13,Pz),(14,JY),(15,Pu),(16,L5),(17,NF),(18,Jy),(19,Qz),(21,JF),(22,JW),(25,JL),(26,KQ),(27,Mm),(28,P8),(30,Ka),(31,NU),(32,Mu),(33,Pf),(34,J9),(40,MY),(41,Rb),(42,Q9),(45,OS),(46,QE),(47,Ko),(63,Qe),(64,QK),(69,ND),(73,Ny),(75,Qb),(76,P4),(77,KC),(93,I3),(94,Ma),(95,Lq),(98,QS),(99,Rg),(138,P1),(139,LG),(143,JR),(172,Md),(186,NN),(189,J4),(194,N6),(210,Ot),(213,Nq),(232,Rn),(241,NX),(242,Jq),(247,L4),(248,Kt),(250,Kc),(251,Jx),(252,MH),(253,Qx),(254,Rh)]
theorem hT:cY P T:=bO ok2 (bO ok3 (bO ok4 (bO ok5 (bO ok6 (bO Vz (bO Xe (bO ok9 (bO ajp (bO aft (bO abi (bO Uq (bO Tl (bO ak7 (bO Yl (bO RB (bO afZ (bO ais (bO aaU (bO ah1 (bO UO (bO XR (bO Sl (bO ag6 (bO XN (bO aiF (bO St (bO aeF (bO T2 (bO Vk (bO TJ (bO U5 (bO Yu (bO Ur (bO aiR (bO Sw (bO abT (bO U8 (bO SV (bO TZ (bO afa (bO af3 (bO ajn (bO aiP (bO SC (bO ait (bO akK (bO VQ (bO adz (bO Ux (bO abr (bO ZH (bO afV (bO akm (bO Tq (bO abo (bO adt (bO TB (bO akN (bO ajz (bO ahz (bO ajd (bO aaM (bO aiu (bO akv (bO WO (akO))))))))))))))))))))))))))))))))))))))))))))))))))))))))))))))))))
end Go.Am.N
