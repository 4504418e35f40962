/- The seat's names: the numbers of functions, the types. Written by a program. -/
import Derived.Test.YtolopdkjjlfgjaaGreatZ2
import Derived.Test.YtolopdkjjlfgjaaGreatProg
import Derived.KernelRfl
set_option linter.unusedVariables false
namespace Go.Am.N
open Go.Proofs
theorem ah.{u} {α:Sort u} {a b:α} (h:a=b:=by kernel_rfl):a=b:=h
theorem br {p:Prop} [Decidable p] (h:decide p=true:=by kernel_rfl):p:=of_decide_eq_true h
noncomputable abbrev P:Program:=Tryz.prog
abbrev bC (f:FuncId) (fn:Func):Prop:=kM P f fn (aJ fn)
theorem bD {f:FuncId} {fn:Func} (h:P.funcs[f]?=some fn) (h1:fn.body.isSome=true:=by kernel_rfl) (h2:(fn.name== "runtime.NumGoroutine")=false:=by kernel_rfl) (h3:cE fn.ntmps (aJ fn)=true:=by kernel_rfl):bC f fn:=TW h h1 h2 h3
theorem hm:P.follows .mixedOrders=true:=by kernel_rfl
abbrev OU:TI:=⟨.int .i64,1,8,.int .i64 0⟩
theorem WA:cO P 2 OU:=fA ah ah ah
abbrev Lg:TI:=⟨.int .i64,1,8,.int .i64 0⟩
theorem U7:cO P 3 Lg:=fA ah ah ah
abbrev Lj:TI:=⟨.bool,1,1,.bool false⟩
theorem XE:cO P 4 Lj:=fA ah ah ah
abbrev JN:TI:=⟨.int .u8,1,1,.int .u8 0⟩
theorem ok5:cO P 5 JN:=fA ah ah ah
abbrev Nq:TI:=⟨.int .u8,1,1,.int .u8 0⟩
theorem Rc:cO P 6 Nq:=fA ah ah ah
abbrev JS:TI:=⟨.struct #[⟨ "x",2,0,false, "", "runtime",0⟩,⟨ "y",3,1,false, "", "runtime",8⟩,⟨ "signed",4,2,false, "", "runtime",16⟩,⟨ "code",6,3,false, "", "runtime",17⟩],4,24,.agg [.int .i64 0,.int .i64 0,.bool false,.int .u8 0]⟩
theorem TH:cO P 7 JS:=fA ah ah ah
abbrev Li:TI:=⟨.struct #[⟨ "x",2,0,false, "", "runtime",0⟩,⟨ "y",3,1,false, "", "runtime",8⟩,⟨ "signed",4,2,false, "", "runtime",16⟩,⟨ "code",6,3,false, "", "runtime",17⟩],4,24,.agg [.int .i64 0,.int .i64 0,.bool false,.int .u8 0]⟩
theorem W5:cO P 8 Li:=fA ah ah ah
abbrev Kr:TI:=⟨.string,1,16,.tuple []⟩
theorem ZU:cO P 9 Kr:=kF ah ah rfl
abbrev La:TI:=⟨.string,1,16,.tuple []⟩
theorem Rl:cO P 10 La:=kF ah ah rfl
abbrev O6:TI:=⟨.string,1,16,.tuple []⟩
theorem ZQ:cO P 11 O6:=kF ah ah rfl
abbrev Mj:TI:=⟨.int .u64,1,8,.int .u64 0⟩
theorem Tf:cO P 12 Mj:=fA ah ah ah
abbrev Ib:TI:=⟨.struct #[⟨ "msg",9,0,false, "", "runtime",0⟩,⟨ "addr",12,1,false, "", "runtime",16⟩],2,24,.tuple []⟩
theorem Va:cO P 13 Ib:=kF ah ah rfl
abbrev Pz:TI:=⟨.struct #[⟨ "msg",9,0,false, "", "runtime",0⟩,⟨ "addr",12,1,false, "", "runtime",16⟩],2,24,.tuple []⟩
theorem Zh:cO P 14 Pz:=kF ah ah rfl
abbrev LB:TI:=⟨.pointer 181,1,8,.tuple []⟩
theorem abn:cO P 15 LB:=kF ah ah rfl
abbrev KU:TI:=⟨.pointer 184,1,8,.tuple []⟩
theorem U1:cO P 16 KU:=kF ah ah rfl
abbrev HF:TI:=⟨.pointer 193,1,8,.tuple []⟩
theorem Z7:cO P 17 HF:=kF ah ah rfl
abbrev OL:TI:=⟨.struct #[⟨ "typ",17,0,false, "", "internal/runtime/maps",0⟩],1,8,.tuple []⟩
theorem XI:cO P 18 OL:=kF ah ah rfl
abbrev My:TI:=⟨.struct #[⟨ "typ",17,0,false, "", "internal/runtime/maps",0⟩],1,8,.tuple []⟩
theorem RE:cO P 19 My:=kF ah ah rfl
abbrev OS:TI:=⟨.int .i32,1,4,.int .i32 0⟩
theorem adi:cO P 21 OS:=fA ah ah ah
abbrev Jc:TI:=⟨.slice 3,1,24,.nil⟩
theorem Wy:cO P 22 Jc:=fA ah ah ah
abbrev MU:TI:=⟨.slice 32,1,24,.nil⟩
theorem S6:cO P 25 MU:=fA ah ah ah
abbrev Mg:TI:=⟨.slice 32,1,24,.nil⟩
theorem aaU:cO P 26 Mg:=fA ah ah ah
abbrev HV:TI:=⟨.pointer 84,1,8,.tuple []⟩
theorem aas:cO P 28 HV:=kF ah ah rfl
abbrev Nu:TI:=⟨.slice 138,1,24,.nil⟩
theorem RA:cO P 30 Nu:=fA ah ah ah
abbrev HX:TI:=⟨.struct #[⟨ "Neg",4,0,false, "", "",0⟩,⟨ "Num",30,1,false, "", "",8⟩,⟨ "Den",30,2,false, "", "",32⟩],3,56,.agg [.bool false,.nil,.nil]⟩
theorem aet:cO P 31 HX:=fA ah ah ah
abbrev KB:TI:=⟨.struct #[⟨ "Neg",4,0,false, "", "",0⟩,⟨ "Num",30,1,false, "", "",8⟩,⟨ "Den",30,2,false, "", "",32⟩],3,56,.rat 0 1⟩
theorem Q2:cO P 32 KB:=fA ah ah ah
abbrev HH:TI:=⟨.int .i64,1,8,.int .i64 0⟩
theorem ZX:cO P 34 HH:=fA ah ah ah
abbrev NM:TI:=⟨.slice 49,1,24,.nil⟩
theorem ac7:cO P 38 NM:=fA ah ah ah
abbrev Py:TI:=⟨.struct #[⟨ "Lo",32,0,false, "", "",0⟩,⟨ "Hi",32,3,false, "", "",56⟩],6,112,.agg [.rat 0 1,.rat 0 1]⟩
theorem aa1:cO P 46 Py:=fA ah ah ah
abbrev JQ:TI:=⟨.struct #[⟨ "Lo",32,0,false, "", "",0⟩,⟨ "Hi",32,3,false, "", "",56⟩],6,112,.agg [.rat 0 1,.rat 0 1]⟩
theorem XN:cO P 47 JQ:=fA ah ah ah
abbrev Lk:TI:=⟨.struct #[⟨ "In",47,0,false, "", "",0⟩,⟨ "Times",3,6,false, "", "",112⟩],7,120,.agg [.agg [.rat 0 1,.rat 0 1],.int .i64 0]⟩
theorem TD:cO P 48 Lk:=fA ah ah ah
abbrev MQ:TI:=⟨.struct #[⟨ "In",47,0,false, "", "",0⟩,⟨ "Times",3,6,false, "", "",112⟩],7,120,.agg [.agg [.rat 0 1,.rat 0 1],.int .i64 0]⟩
theorem abo:cO P 49 MQ:=fA ah ah ah
abbrev Jr:TI:=⟨.slice 26,1,24,.nil⟩
theorem acV:cO P 61 Jr:=fA ah ah ah
abbrev LC:TI:=⟨.slice 2,1,24,.nil⟩
theorem Zu:cO P 81 LC:=fA ah ah ah
abbrev Ml:TI:=⟨.struct #[⟨ "L",22,0,false, "", "",0⟩,⟨ "At",3,1,false, "", "",24⟩],2,32,.agg [.nil,.int .i64 0]⟩
theorem Qm:cO P 83 Ml:=fA ah ah ah
abbrev Ic:TI:=⟨.struct #[⟨ "L",22,0,false, "", "",0⟩,⟨ "At",3,1,false, "", "",24⟩],2,32,.agg [.nil,.int .i64 0]⟩
theorem ac0:cO P 84 Ic:=fA ah ah ah
abbrev Oy:TI:=⟨.slice 32,1,24,.nil⟩
theorem QH:cO P 85 Oy:=fA ah ah ah
abbrev NO:TI:=⟨.slice 85,1,24,.nil⟩
theorem Vw:cO P 87 NO:=fA ah ah ah
abbrev LH:TI:=⟨.slice 85,1,24,.nil⟩
theorem Y2:cO P 88 LH:=fA ah ah ah
abbrev Hp:TI:=⟨.slice 25,1,24,.nil⟩
theorem acy:cO P 92 Hp:=fA ah ah ah
abbrev ME:TI:=⟨.slice 47,1,24,.nil⟩
theorem We:cO P 94 ME:=fA ah ah ah
abbrev Ko:TI:=⟨.func #[32] #[4] false,1,8,.void⟩
theorem adP:cO P 95 Ko:=MM ah ah rfl
abbrev O8:TI:=⟨.func #[32,32] #[] false,1,8,.void⟩
theorem aeG:cO P 96 O8:=MM ah ah rfl
abbrev On:TI:=⟨.int .u64,1,8,.int .u64 0⟩
theorem VM:cO P 134 On:=fA ah ah ah
abbrev IF:TI:=⟨.int .u32,1,4,.int .u32 0⟩
theorem Ss:cO P 138 IF:=fA ah ah ah
abbrev O0:TI:=⟨.int .u64,1,8,.int .u64 0⟩
theorem Ye:cO P 150 O0:=fA ah ah ah
abbrev OI:TI:=⟨.slice 5,1,24,.nil⟩
theorem ae3:cO P 158 OI:=fA ah ah ah
abbrev KR:TI:=⟨.struct #[⟨ "_interface",17,0,false, "", "runtime",0⟩,⟨ "concrete",17,1,false, "", "runtime",8⟩,⟨ "asserted",17,2,false, "", "runtime",16⟩,⟨ "missingMethod",9,3,false, "", "runtime",24⟩],4,40,.tuple []⟩
theorem QU:cO P 180 KR:=kF ah ah rfl
abbrev KC:TI:=⟨.struct #[⟨ "_interface",17,0,false, "", "runtime",0⟩,⟨ "concrete",17,1,false, "", "runtime",8⟩,⟨ "asserted",17,2,false, "", "runtime",16⟩,⟨ "missingMethod",9,3,false, "", "runtime",24⟩],4,40,.tuple []⟩
theorem abO:cO P 181 KC:=kF ah ah rfl
abbrev Ns:TI:=⟨.int .u8,1,1,.int .u8 0⟩
theorem UI:cO P 186 Ns:=fA ah ah ah
abbrev Kh:TI:=⟨.int .u8,1,1,.int .u8 0⟩
theorem X3:cO P 187 Kh:=fA ah ah ah
abbrev Io:TI:=⟨.pointer 5,1,8,.tuple []⟩
theorem acD:cO P 189 Io:=kF ah ah rfl
abbrev NK:TI:=⟨.int .i32,1,4,.int .i32 0⟩
theorem Xg:cO P 190 NK:=fA ah ah ah
abbrev Mm:TI:=⟨.int .i32,1,4,.int .i32 0⟩
theorem WJ:cO P 191 Mm:=fA ah ah ah
abbrev IA:TI:=⟨.struct #[⟨ "Size_",12,0,false, "", "",0⟩,⟨ "PtrBytes",12,1,false, "", "",8⟩,⟨ "Hash",138,2,false, "", "",16⟩,⟨ "TFlag",186,3,false, "", "",20⟩,⟨ "Align_",5,4,false, "", "",21⟩,⟨ "FieldAlign_",5,5,false, "", "",22⟩,⟨ "Kind_",187,6,false, "", "",23⟩,⟨ "Equal",188,7,false, "", "",24⟩,⟨ "GCData",189,8,false, "", "",32⟩,⟨ "Str",190,9,false, "", "",40⟩,⟨ "PtrToThis",191,10,false, "", "",44⟩],11,48,.tuple []⟩
theorem S8:cO P 192 IA:=kF ah ah rfl
abbrev LI:TI:=⟨.struct #[⟨ "Size_",12,0,false, "", "",0⟩,⟨ "PtrBytes",12,1,false, "", "",8⟩,⟨ "Hash",138,2,false, "", "",16⟩,⟨ "TFlag",186,3,false, "", "",20⟩,⟨ "Align_",5,4,false, "", "",21⟩,⟨ "FieldAlign_",5,5,false, "", "",22⟩,⟨ "Kind_",187,6,false, "", "",23⟩,⟨ "Equal",188,7,false, "", "",24⟩,⟨ "GCData",189,8,false, "", "",32⟩,⟨ "Str",190,9,false, "", "",40⟩,⟨ "PtrToThis",191,10,false, "", "",44⟩],11,48,.tuple []⟩
theorem WY:cO P 193 LI:=kF ah ah rfl
abbrev T:Types:=[(2,OU),(3,Lg),(4,Lj),(5,JN),(6,Nq),(7,JS),(8,Li),(9,Kr),(10,La),(11,O6),(12,Mj),(13,Ib),(14,Pz),(15,LB),(16,KU),(17,HF),(18,OL),(19,My),(21,OS),(22,Jc),(25,MU),(26,Mg),(28,HV),(30,Nu),(31,HX),(32,KB),(34,HH),(38,NM),(46,Py),(47,JQ),(48,Lk),(49,MQ),(61,Jr),(81,LC),(83,Ml),(84,Ic),(85,Oy),(87,NO),(88,LH),(92,Hp),(94,ME),(95,Ko),(96,O8),(134,On),(138,IF),(150,O0),(158,OI),(180,KR),(181,KC),(186,Ns),(187,Kh),(189,Io),(190,NK),(191,Mm),(192,IA),(193,LI)]
theorem hT:eW P T:=dh WA (dh U7 (dh XE (dh ok5 (dh Rc (dh TH (dh W5 (dh ZU (dh Rl (dh ZQ (dh Tf (dh Va (dh Zh (dh abn (dh U1 (dh Z7 (dh XI (dh RE (dh adi (dh Wy (dh S6 (dh aaU (dh aas (dh RA (dh aet (dh Q2 (dh ZX (dh ac7 (dh aa1 (dh XN (dh TD (dh abo (dh acV (dh Zu (dh Qm (dh ac0 (dh QH (dh Vw (dh Y2 (dh acy (dh We (dh adP (dh aeG (dh VM (dh Ss (dh Ye (dh ae3 (dh QU (dh abO (dh UI (dh X3 (dh acD (dh Xg (dh WJ (dh S8 (dh WY (Ql))))))))))))))))))))))))))))))))))))))))))))))))))))))))
end Go.Am.N
