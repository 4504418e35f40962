/- The seat's names: the numbers of functions, the types. Written by a program. -/
import Derived.Test.YtolopdkjjlfgjaaGreatZ2
import Derived.Test.YtolopdkjjlfgjaaGreatProg
import Derived.KernelRfl
set_option linter.unusedVariables false
namespace Go.Am.N
open Go.Proofs
theorem ah.{u} {α:Sort u} {a b:α} (h:a=b:=by kernel_rfl):a=b:=h
theorem aW {p:Prop} [Decidable p] (h:decide p=true:=by kernel_rfl):p:=of_decide_eq_true h
noncomputable abbrev P:Program:=Tryz.prog
abbrev aX (f:FuncId) (fn:Func):Prop:=iq P f fn (aH fn)
theorem aZ {f:FuncId} {fn:Func} (h:P.funcs[f]?=some fn) (h1:fn.body.isSome=true:=by kernel_rfl) (h2:(fn.name== "runtime.NumGoroutine")=false:=by kernel_rfl) (h3:bW fn.ntmps (aH fn)=true:=by kernel_rfl):aX f fn:=aew h h1 h2 h3
theorem hm:P.follows .mixedOrders=true:=by kernel_rfl
abbrev JY:TI:=⟨.int .i64,1,8,.int .i64 0⟩
theorem Ys:ct P 2 JY:=ek ah ah ah
abbrev FX:TI:=⟨.int .i64,1,8,.int .i64 0⟩
theorem UM:ct P 3 FX:=ek ah ah ah
abbrev Mz:TI:=⟨.bool,1,1,.bool false⟩
theorem Re:ct P 4 Mz:=ek ah ah ah
abbrev FK:TI:=⟨.int .u8,1,1,.int .u8 0⟩
theorem NH:ct P 5 FK:=ek ah ah ah
abbrev LD:TI:=⟨.int .u8,1,1,.int .u8 0⟩
theorem UU:ct P 6 LD:=ek ah ah ah
abbrev FF:TI:=⟨.struct #[⟨ "x",2,0,false, "", "runtime",0⟩,⟨ "y",3,1,false, "", "runtime",8⟩,⟨ "signed",4,2,false, "", "runtime",16⟩,⟨ "code",6,3,false, "", "runtime",17⟩],4,24,.agg [.int .i64 0,.int .i64 0,.bool false,.int .u8 0]⟩
theorem Xi:ct P 7 FF:=ek ah ah ah
abbrev MG:TI:=⟨.struct #[⟨ "x",2,0,false, "", "runtime",0⟩,⟨ "y",3,1,false, "", "runtime",8⟩,⟨ "signed",4,2,false, "", "runtime",16⟩,⟨ "code",6,3,false, "", "runtime",17⟩],4,24,.agg [.int .i64 0,.int .i64 0,.bool false,.int .u8 0]⟩
theorem Zp:ct P 8 MG:=ek ah ah ah
abbrev J7:TI:=⟨.string,1,16,.tuple []⟩
theorem Tq:ct P 9 J7:=jg ah ah rfl
abbrev HL:TI:=⟨.string,1,16,.tuple []⟩
theorem Y2:ct P 10 HL:=jg ah ah rfl
abbrev Fy:TI:=⟨.string,1,16,.tuple []⟩
theorem Tp:ct P 11 Fy:=jg ah ah rfl
abbrev I3:TI:=⟨.int .u64,1,8,.int .u64 0⟩
theorem aeL:ct P 12 I3:=ek ah ah ah
abbrev Fe:TI:=⟨.struct #[⟨ "msg",9,0,false, "", "runtime",0⟩,⟨ "addr",12,1,false, "", "runtime",16⟩],2,24,.tuple []⟩
theorem adF:ct P 13 Fe:=jg ah ah rfl
abbrev MO:TI:=⟨.struct #[⟨ "msg",9,0,false, "", "runtime",0⟩,⟨ "addr",12,1,false, "", "runtime",16⟩],2,24,.tuple []⟩
theorem adQ:ct P 14 MO:=jg ah ah rfl
abbrev Jx:TI:=⟨.pointer 181,1,8,.tuple []⟩
theorem TO:ct P 15 Jx:=jg ah ah rfl
abbrev Fi:TI:=⟨.pointer 184,1,8,.tuple []⟩
theorem aco:ct P 16 Fi:=jg ah ah rfl
abbrev K9:TI:=⟨.pointer 193,1,8,.tuple []⟩
theorem WM:ct P 17 K9:=jg ah ah rfl
abbrev Jj:TI:=⟨.struct #[⟨ "typ",17,0,false, "", "internal/runtime/maps",0⟩],1,8,.tuple []⟩
theorem adt:ct P 18 Jj:=jg ah ah rfl
abbrev Jb:TI:=⟨.struct #[⟨ "typ",17,0,false, "", "internal/runtime/maps",0⟩],1,8,.tuple []⟩
theorem P4:ct P 19 Jb:=jg ah ah rfl
abbrev Lv:TI:=⟨.int .i32,1,4,.int .i32 0⟩
theorem TV:ct P 21 Lv:=ek ah ah ah
abbrev II:TI:=⟨.slice 3,1,24,.nil⟩
theorem Tn:ct P 22 II:=ek ah ah ah
abbrev Lj:TI:=⟨.slice 32,1,24,.nil⟩
theorem ael:ct P 25 Lj:=ek ah ah ah
abbrev H7:TI:=⟨.slice 32,1,24,.nil⟩
theorem abv:ct P 26 H7:=ek ah ah ah
abbrev Lf:TI:=⟨.pointer 84,1,8,.tuple []⟩
theorem aax:ct P 28 Lf:=jg ah ah rfl
abbrev G8:TI:=⟨.slice 138,1,24,.nil⟩
theorem NZ:ct P 30 G8:=ek ah ah ah
abbrev Lp:TI:=⟨.struct #[⟨ "Neg",4,0,false, "", "",0⟩,⟨ "Num",30,1,false, "", "",8⟩,⟨ "Den",30,2,false, "", "",32⟩],3,56,.agg [.bool false,.nil,.nil]⟩
theorem Wj:ct P 31 Lp:=ek ah ah ah
abbrev M0:TI:=⟨.struct #[⟨ "Neg",4,0,false, "", "",0⟩,⟨ "Num",30,1,false, "", "",8⟩,⟨ "Den",30,2,false, "", "",32⟩],3,56,.rat 0 1⟩
theorem Oo:ct P 32 M0:=ek ah ah ah
abbrev Im:TI:=⟨.int .i64,1,8,.int .i64 0⟩
theorem RA:ct P 34 Im:=ek ah ah ah
abbrev Hy:TI:=⟨.slice 49,1,24,.nil⟩
theorem adu:ct P 38 Hy:=ek ah ah ah
abbrev GY:TI:=⟨.struct #[⟨ "Lo",32,0,false, "", "",0⟩,⟨ "Hi",32,3,false, "", "",56⟩],6,112,.agg [.rat 0 1,.rat 0 1]⟩
theorem NQ:ct P 46 GY:=ek ah ah ah
abbrev MS:TI:=⟨.struct #[⟨ "Lo",32,0,false, "", "",0⟩,⟨ "Hi",32,3,false, "", "",56⟩],6,112,.agg [.rat 0 1,.rat 0 1]⟩
theorem V8:ct P 47 MS:=ek ah ah ah
abbrev LW:TI:=⟨.struct #[⟨ "In",47,0,false, "", "",0⟩,⟨ "Times",3,6,false, "", "",112⟩],7,120,.agg [.agg [.rat 0 1,.rat 0 1],.int .i64 0]⟩
theorem Xw:ct P 48 LW:=ek ah ah ah
abbrev Hq:TI:=⟨.struct #[⟨ "In",47,0,false, "", "",0⟩,⟨ "Times",3,6,false, "", "",112⟩],7,120,.agg [.agg [.rat 0 1,.rat 0 1],.int .i64 0]⟩
theorem X8:ct P 49 Hq:=ek ah ah ah
abbrev Mk:TI:=⟨.slice 26,1,24,.nil⟩
theorem XR:ct P 61 Mk:=ek ah ah ah
abbrev KT:TI:=⟨.slice 2,1,24,.nil⟩
theorem PO:ct P 81 KT:=ek ah ah ah
abbrev Gt:TI:=⟨.struct #[⟨ "L",22,0,false, "", "",0⟩,⟨ "At",3,1,false, "", "",24⟩],2,32,.agg [.nil,.int .i64 0]⟩
theorem ZJ:ct P 83 Gt:=ek ah ah ah
abbrev MM:TI:=⟨.struct #[⟨ "L",22,0,false, "", "",0⟩,⟨ "At",3,1,false, "", "",24⟩],2,32,.agg [.nil,.int .i64 0]⟩
theorem Ph:ct P 84 MM:=ek ah ah ah
abbrev JL:TI:=⟨.slice 32,1,24,.nil⟩
theorem WI:ct P 85 JL:=ek ah ah ah
abbrev Kg:TI:=⟨.slice 85,1,24,.nil⟩
theorem Vq:ct P 87 Kg:=ek ah ah ah
abbrev G5:TI:=⟨.slice 85,1,24,.nil⟩
theorem YA:ct P 88 G5:=ek ah ah ah
abbrev Kp:TI:=⟨.slice 25,1,24,.nil⟩
theorem Oj:ct P 92 Kp:=ek ah ah ah
abbrev MT:TI:=⟨.slice 47,1,24,.nil⟩
theorem Vn:ct P 94 MT:=ek ah ah ah
abbrev KU:TI:=⟨.func #[32] #[4] false,1,8,.void⟩
theorem YH:ct P 95 KU:=FL ah ah rfl
abbrev Li:TI:=⟨.func #[32,32] #[] false,1,8,.void⟩
theorem Sw:ct P 96 Li:=FL ah ah rfl
abbrev LJ:TI:=⟨.int .u64,1,8,.int .u64 0⟩
theorem aen:ct P 134 LJ:=ek ah ah ah
abbrev HX:TI:=⟨.int .u32,1,4,.int .u32 0⟩
theorem adG:ct P 138 HX:=ek ah ah ah
abbrev JH:TI:=⟨.int .u64,1,8,.int .u64 0⟩
theorem VV:ct P 150 JH:=ek ah ah ah
abbrev IY:TI:=⟨.slice 5,1,24,.nil⟩
theorem Sv:ct P 158 IY:=ek ah ah ah
abbrev GF:TI:=⟨.struct #[⟨ "_interface",17,0,false, "", "runtime",0⟩,⟨ "concrete",17,1,false, "", "runtime",8⟩,⟨ "asserted",17,2,false, "", "runtime",16⟩,⟨ "missingMethod",9,3,false, "", "runtime",24⟩],4,40,.tuple []⟩
theorem SM:ct P 180 GF:=jg ah ah rfl
abbrev F7:TI:=⟨.struct #[⟨ "_interface",17,0,false, "", "runtime",0⟩,⟨ "concrete",17,1,false, "", "runtime",8⟩,⟨ "asserted",17,2,false, "", "runtime",16⟩,⟨ "missingMethod",9,3,false, "", "runtime",24⟩],4,40,.tuple []⟩
theorem acd:ct P 181 F7:=jg ah ah rfl
abbrev KP:TI:=⟨.int .u8,1,1,.int .u8 0⟩
theorem adO:ct P 186 KP:=ek ah ah ah
abbrev Jw:TI:=⟨.int .u8,1,1,.int .u8 0⟩
theorem ac2:ct P 187 Jw:=ek ah ah ah
abbrev Mt:TI:=⟨.pointer 5,1,8,.tuple []⟩
theorem ZW:ct P 189 Mt:=jg ah ah rfl
abbrev LK:TI:=⟨.int .i32,1,4,.int .i32 0⟩
theorem abR:ct P 190 LK:=ek ah ah ah
abbrev IP:TI:=⟨.int .i32,1,4,.int .i32 0⟩
theorem QK:ct P 191 IP:=ek ah ah ah
abbrev Iv:TI:=⟨.struct #[⟨ "Size_",12,0,false, "", "",0⟩,⟨ "PtrBytes",12,1,false, "", "",8⟩,⟨ "Hash",138,2,false, "", "",16⟩,⟨ "TFlag",186,3,false, "", "",20⟩,⟨ "Align_",5,4,false, "", "",21⟩,⟨ "FieldAlign_",5,5,false, "", "",22⟩,⟨ "Kind_",187,6,false, "", "",23⟩,⟨ "Equal",188,7,false, "", "",24⟩,⟨ "GCData",189,8,false, "", "",32⟩,⟨ "Str",190,9,false, "", "",40⟩,⟨ "PtrToThis",191,10,false, "", "",44⟩],11,48,.tuple []⟩
theorem UR:ct P 192 Iv:=jg ah ah rfl
abbrev G7:TI:=⟨.struct #[⟨ "Size_",12,0,false, "", "",0⟩,⟨ "PtrBytes",12,1,false, "", "",8⟩,⟨ "Hash",138,2,false, "", "",16⟩,⟨ "TFlag",186,3,false, "", "",20⟩,⟨ "Align_",5,4,false, "", "",21⟩,⟨ "FieldAlign_",5,5,false, "", "",22⟩,⟨ "Kind_",187,6,false, "", "",23⟩,⟨ "Equal",188,7,false, "", "",24⟩,⟨ "GCData",189,8,false, "", "",32⟩,⟨ "Str",190,9,false, "", "",40⟩,⟨ "PtrToThis",191,10,false, "", "",44⟩],11,48,.tuple []⟩
theorem aal:ct P 193 G7:=jg ah ah rfl
abbrev T:Types:=[(2,JY),(3,FX),(4,Mz),(5,FK),(6,LD),(7,FF),(8,MG),(9,J7),(10,HL),(11,Fy),(12,I3),(13,Fe),(14,MO),(15,Jx),(16,Fi),(17,K9),(18,Jj),(19,Jb),(21,Lv),(22,II),(25,Lj),(26,H7),(28,Lf),(30,G8),(31,Lp),(32,M0),(34,Im),(38,Hy),(46,GY),(47,MS),(48,LW),(49,Hq),(61,Mk),(81,KT),(83,Gt),(84,MM),(85,JL),(87,Kg),(88,G5),(92,Kp),(94,MT),(95,KU),(96,Li),(134,LJ),(138,HX),(150,JH),(158,IY),(180,GF),(181,F7),(186,KP),(187,Jw),(189,Mt),(190,LK),(191,IP),(192,Iv),(193,G7)]
theorem hT:dM P T:=cO Ys (cO UM (cO Re (cO NH (cO UU (cO Xi (cO Zp (cO Tq (cO Y2 (cO Tp (cO aeL (cO adF (cO adQ (cO TO (cO aco (cO WM (cO adt (cO P4 (cO TV (cO Tn (cO ael (cO abv (cO aax (cO NZ (cO Wj (cO Oo (cO RA (cO adu (cO NQ (cO V8 (cO Xw (cO X8 (cO XR (cO PO (cO ZJ (cO Ph (cO WI (cO Vq (cO YA (cO Oj (cO Vn (cO YH (cO Sw (cO aen (cO adG (cO VV (cO Sv (cO SM (cO acd (cO adO (cO ac2 (cO ZW (cO abR (cO QK (cO UR (cO aal (OW))))))))))))))))))))))))))))))))))))))))))))))))))))))))
end Go.Am.N
