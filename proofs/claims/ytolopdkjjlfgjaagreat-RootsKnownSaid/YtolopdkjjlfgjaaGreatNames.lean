/- The seat's names: the numbers of functions, the types. Written by a program. -/
import Derived.Test.YtolopdkjjlfgjaaGreatZ2
import Derived.Test.YtolopdkjjlfgjaaGreatProg
import Derived.KernelRfl
set_option linter.unusedVariables false
namespace Go.Am.N
open Go.Proofs
theorem ah.{u} {α:Sort u} {a b:α} (h:a=b:=by kernel_rfl):a=b:=h
theorem br {p:Prop} [Decidable p] (h:decide p=true:=by kernel_rfl):p:=of_decide_eq_true h
noncomputable abbrev P:Program:=Tryz.prog
abbrev bC (f:FuncId) (fn:Func):Prop:=kS P f fn (aJ fn)
theorem bD {f:FuncId} {fn:Func} (h:P.funcs[f]?=some fn) (h1:fn.body.isSome=true:=by kernel_rfl) (h2:(fn.name== "runtime.NumGoroutine")=false:=by kernel_rfl) (h3:cG fn.ntmps (aJ fn)=true:=by kernel_rfl):bC f fn:=afB h h1 h2 h3
theorem hm:P.follows .mixedOrders=true:=by kernel_rfl
abbrev JS:TI:=⟨.int .i64,1,8,.int .i64 0⟩
theorem ok2:cO P 2 JS:=fA ah ah ah
abbrev Ib:TI:=⟨.int .i64,1,8,.int .i64 0⟩
theorem Zp:cO P 3 Ib:=fA ah ah ah
abbrev KJ:TI:=⟨.bool,1,1,.bool false⟩
theorem Zu:cO P 4 KJ:=fA ah ah ah
abbrev OR:TI:=⟨.int .u8,1,1,.int .u8 0⟩
theorem ok5:cO P 5 OR:=fA ah ah ah
abbrev MO:TI:=⟨.int .u8,1,1,.int .u8 0⟩
theorem Ri:cO P 6 MO:=fA ah ah ah
abbrev JD:TI:=⟨.struct #[⟨ "x",2,0,false, "", "runtime",0⟩,⟨ "y",3,1,false, "", "runtime",8⟩,⟨ "signed",4,2,false, "", "runtime",16⟩,⟨ "code",6,3,false, "", "runtime",17⟩],4,24,.agg [.int .i64 0,.int .i64 0,.bool false,.int .u8 0]⟩
theorem ok7:cO P 7 JD:=fA ah ah ah
abbrev Lf:TI:=⟨.struct #[⟨ "x",2,0,false, "", "runtime",0⟩,⟨ "y",3,1,false, "", "runtime",8⟩,⟨ "signed",4,2,false, "", "runtime",16⟩,⟨ "code",6,3,false, "", "runtime",17⟩],4,24,.agg [.int .i64 0,.int .i64 0,.bool false,.int .u8 0]⟩
theorem SK:cO P 8 Lf:=fA ah ah ah
abbrev IJ:TI:=⟨.string,1,16,.tuple []⟩
theorem Vv:cO P 9 IJ:=kG ah ah rfl
abbrev PB:TI:=⟨.string,1,16,.tuple []⟩
theorem aeA:cO P 10 PB:=kG ah ah rfl
abbrev IT:TI:=⟨.string,1,16,.tuple []⟩
theorem aeW:cO P 11 IT:=kG ah ah rfl
abbrev Mc:TI:=⟨.int .u64,1,8,.int .u64 0⟩
theorem Zg:cO P 12 Mc:=fA ah ah ah
abbrev Ie:TI:=⟨.struct #[⟨ "msg",9,0,false, "", "runtime",0⟩,⟨ "addr",12,1,false, "", "runtime",16⟩],2,24,.tuple []⟩
theorem afh:cO P 13 Ie:=kG ah ah rfl
abbrev Kq:TI:=⟨.struct #[⟨ "msg",9,0,false, "", "runtime",0⟩,⟨ "addr",12,1,false, "", "runtime",16⟩],2,24,.tuple []⟩
theorem Qg:cO P 14 Kq:=kG ah ah rfl
abbrev NB:TI:=⟨.pointer 181,1,8,.tuple []⟩
theorem YQ:cO P 15 NB:=kG ah ah rfl
abbrev H6:TI:=⟨.pointer 184,1,8,.tuple []⟩
theorem Xc:cO P 16 H6:=kG ah ah rfl
abbrev JZ:TI:=⟨.pointer 193,1,8,.tuple []⟩
theorem ZE:cO P 17 JZ:=kG ah ah rfl
abbrev Ko:TI:=⟨.struct #[⟨ "typ",17,0,false, "", "internal/runtime/maps",0⟩],1,8,.tuple []⟩
theorem P4:cO P 18 Ko:=kG ah ah rfl
abbrev N4:TI:=⟨.struct #[⟨ "typ",17,0,false, "", "internal/runtime/maps",0⟩],1,8,.tuple []⟩
theorem abD:cO P 19 N4:=kG ah ah rfl
abbrev MV:TI:=⟨.int .i32,1,4,.int .i32 0⟩
theorem acQ:cO P 21 MV:=fA ah ah ah
abbrev Jp:TI:=⟨.slice 3,1,24,.nil⟩
theorem Zb:cO P 22 Jp:=fA ah ah ah
abbrev Ht:TI:=⟨.slice 32,1,24,.nil⟩
theorem TC:cO P 25 Ht:=fA ah ah ah
abbrev Kn:TI:=⟨.slice 32,1,24,.nil⟩
theorem Uc:cO P 26 Kn:=fA ah ah ah
abbrev My:TI:=⟨.pointer 84,1,8,.tuple []⟩
theorem XK:cO P 28 My:=kG ah ah rfl
abbrev N5:TI:=⟨.slice 138,1,24,.nil⟩
theorem acB:cO P 30 N5:=fA ah ah ah
abbrev Ik:TI:=⟨.struct #[⟨ "Neg",4,0,false, "", "",0⟩,⟨ "Num",30,1,false, "", "",8⟩,⟨ "Den",30,2,false, "", "",32⟩],3,56,.agg [.bool false,.nil,.nil]⟩
theorem acW:cO P 31 Ik:=fA ah ah ah
abbrev ML:TI:=⟨.struct #[⟨ "Neg",4,0,false, "", "",0⟩,⟨ "Num",30,1,false, "", "",8⟩,⟨ "Den",30,2,false, "", "",32⟩],3,56,.rat 0 1⟩
theorem aag:cO P 32 ML:=fA ah ah ah
abbrev I9:TI:=⟨.int .i64,1,8,.int .i64 0⟩
theorem acw:cO P 34 I9:=fA ah ah ah
abbrev JG:TI:=⟨.slice 49,1,24,.nil⟩
theorem SA:cO P 38 JG:=fA ah ah ah
abbrev Pb:TI:=⟨.struct #[⟨ "Lo",32,0,false, "", "",0⟩,⟨ "Hi",32,3,false, "", "",56⟩],6,112,.agg [.rat 0 1,.rat 0 1]⟩
theorem aec:cO P 46 Pb:=fA ah ah ah
abbrev Lg:TI:=⟨.struct #[⟨ "Lo",32,0,false, "", "",0⟩,⟨ "Hi",32,3,false, "", "",56⟩],6,112,.agg [.rat 0 1,.rat 0 1]⟩
theorem ac4:cO P 47 Lg:=fA ah ah ah
abbrev H7:TI:=⟨.struct #[⟨ "In",47,0,false, "", "",0⟩,⟨ "Times",3,6,false, "", "",112⟩],7,120,.agg [.agg [.rat 0 1,.rat 0 1],.int .i64 0]⟩
theorem aal:cO P 48 H7:=fA ah ah ah
abbrev N9:TI:=⟨.struct #[⟨ "In",47,0,false, "", "",0⟩,⟨ "Times",3,6,false, "", "",112⟩],7,120,.agg [.agg [.rat 0 1,.rat 0 1],.int .i64 0]⟩
theorem Rj:cO P 49 N9:=fA ah ah ah
abbrev M4:TI:=⟨.slice 26,1,24,.nil⟩
theorem VI:cO P 61 M4:=fA ah ah ah
abbrev NX:TI:=⟨.slice 2,1,24,.nil⟩
theorem Q4:cO P 81 NX:=fA ah ah ah
abbrev HR:TI:=⟨.struct #[⟨ "L",22,0,false, "", "",0⟩,⟨ "At",3,1,false, "", "",24⟩],2,32,.agg [.nil,.int .i64 0]⟩
theorem SN:cO P 83 HR:=fA ah ah ah
abbrev Mg:TI:=⟨.struct #[⟨ "L",22,0,false, "", "",0⟩,⟨ "At",3,1,false, "", "",24⟩],2,32,.agg [.nil,.int .i64 0]⟩
theorem WQ:cO P 84 Mg:=fA ah ah ah
abbrev Mu:TI:=⟨.slice 32,1,24,.nil⟩
theorem ad0:cO P 85 Mu:=fA ah ah ah
abbrev HV:TI:=⟨.slice 85,1,24,.nil⟩
theorem Yz:cO P 87 HV:=fA ah ah ah
abbrev Iu:TI:=⟨.slice 85,1,24,.nil⟩
theorem ab3:cO P 88 Iu:=fA ah ah ah
abbrev OD:TI:=⟨.slice 25,1,24,.nil⟩
theorem WV:cO P 92 OD:=fA ah ah ah
abbrev Nb:TI:=⟨.slice 47,1,24,.nil⟩
theorem QA:cO P 94 Nb:=fA ah ah ah
abbrev Lh:TI:=⟨.func #[32] #[4] false,1,8,.void⟩
theorem Vb:cO P 95 Lh:=Jb ah ah rfl
abbrev Nf:TI:=⟨.func #[32,32] #[] false,1,8,.void⟩
theorem aeN:cO P 96 Nf:=Jb ah ah rfl
abbrev H9:TI:=⟨.int .u64,1,8,.int .u64 0⟩
theorem PO:cO P 134 H9:=fA ah ah ah
abbrev LW:TI:=⟨.int .u32,1,4,.int .u32 0⟩
theorem aaS:cO P 138 LW:=fA ah ah ah
abbrev MZ:TI:=⟨.int .u64,1,8,.int .u64 0⟩
theorem abK:cO P 150 MZ:=fA ah ah ah
abbrev HX:TI:=⟨.slice 5,1,24,.nil⟩
theorem abM:cO P 158 HX:=fA ah ah ah
abbrev Iw:TI:=⟨.struct #[⟨ "_interface",17,0,false, "", "runtime",0⟩,⟨ "concrete",17,1,false, "", "runtime",8⟩,⟨ "asserted",17,2,false, "", "runtime",16⟩,⟨ "missingMethod",9,3,false, "", "runtime",24⟩],4,40,.tuple []⟩
theorem Yj:cO P 180 Iw:=kG ah ah rfl
abbrev JV:TI:=⟨.struct #[⟨ "_interface",17,0,false, "", "runtime",0⟩,⟨ "concrete",17,1,false, "", "runtime",8⟩,⟨ "asserted",17,2,false, "", "runtime",16⟩,⟨ "missingMethod",9,3,false, "", "runtime",24⟩],4,40,.tuple []⟩
theorem afi:cO P 181 JV:=kG ah ah rfl
abbrev OP:TI:=⟨.int .u8,1,1,.int .u8 0⟩
theorem ads:cO P 186 OP:=fA ah ah ah
abbrev Jr:TI:=⟨.int .u8,1,1,.int .u8 0⟩
theorem SD:cO P 187 Jr:=fA ah ah ah
abbrev Nw:TI:=⟨.pointer 5,1,8,.tuple []⟩
theorem PT:cO P 189 Nw:=kG ah ah rfl
abbrev NL:TI:=⟨.int .i32,1,4,.int .i32 0⟩
theorem abt:cO P 190 NL:=fA ah ah ah
abbrev H8:TI:=⟨.int .i32,1,4,.int .i32 0⟩
theorem UQ:cO P 191 H8:=fA ah ah ah
abbrev MX:TI:=⟨.struct #[⟨ "Size_",12,0,false, "", "",0⟩,⟨ "PtrBytes",12,1,false, "", "",8⟩,⟨ "Hash",138,2,false, "", "",16⟩,⟨ "TFlag",186,3,false, "", "",20⟩,⟨ "Align_",5,4,false, "", "",21⟩,⟨ "FieldAlign_",5,5,false, "", "",22⟩,⟨ "Kind_",187,6,false, "", "",23⟩,⟨ "Equal",188,7,false, "", "",24⟩,⟨ "GCData",189,8,false, "", "",32⟩,⟨ "Str",190,9,false, "", "",40⟩,⟨ "PtrToThis",191,10,false, "", "",44⟩],11,48,.tuple []⟩
theorem RP:cO P 192 MX:=kG ah ah rfl
abbrev NG:TI:=⟨.struct #[⟨ "Size_",12,0,false, "", "",0⟩,⟨ "PtrBytes",12,1,false, "", "",8⟩,⟨ "Hash",138,2,false, "", "",16⟩,⟨ "TFlag",186,3,false, "", "",20⟩,⟨ "Align_",5,4,false, "", "",21⟩,⟨ "FieldAlign_",5,5,false, "", "",22⟩,⟨ "Kind_",187,6,false, "", "",23⟩,⟨ "Equal",188,7,false, "", "",24⟩,⟨ "GCData",189,8,false, "", "",32⟩,⟨ "Str",190,9,false, "", "",40⟩,⟨ "PtrToThis",191,10,false, "", "",44⟩],11,48,.tuple []⟩
theorem adx:cO P 193 NG:=kG ah ah rfl
abbrev T:Types:=[(2,JS),(3,Ib),(4,KJ),(5,OR),(6,MO),(7,JD),(8,Lf),(9,IJ),(10,PB),(11,IT),(12,Mc),(13,Ie),(14,Kq),(15,NB),(16,H6),(17,JZ),(18,Ko),(19,N4),(21,MV),(22,Jp),(25,Ht),(26,Kn),(28,My),(30,N5),(31,Ik),(32,ML),(34,I9),(38,JG),(46,Pb),(47,Lg),(48,H7),(49,N9),(61,M4),(81,NX),(83,HR),(84,Mg),(85,Mu),(87,HV),(88,Iu),(92,OD),(94,Nb),(95,Lh),(96,Nf),(134,H9),(138,LW),(150,MZ),(158,HX),(180,Iw),(181,JV),(186,OP),(187,Jr),(189,Nw),(190,NL),(191,H8),(192,MX),(193,NG)]
theorem hT:eV P T:=dh ok2 (dh Zp (dh Zu (dh ok5 (dh Ri (dh ok7 (dh SK (dh Vv (dh aeA (dh aeW (dh Zg (dh afh (dh Qg (dh YQ (dh Xc (dh ZE (dh P4 (dh abD (dh acQ (dh Zb (dh TC (dh Uc (dh XK (dh acB (dh acW (dh aag (dh acw (dh SA (dh aec (dh ac4 (dh aal (dh Rj (dh VI (dh Q4 (dh SN (dh WQ (dh ad0 (dh Yz (dh ab3 (dh WV (dh QA (dh Vb (dh aeN (dh PO (dh aaS (dh abK (dh abM (dh Yj (dh afi (dh ads (dh SD (dh PT (dh abt (dh UQ (dh RP (dh adx (QS))))))))))))))))))))))))))))))))))))))))))))))))))))))))
end Go.Am.N
