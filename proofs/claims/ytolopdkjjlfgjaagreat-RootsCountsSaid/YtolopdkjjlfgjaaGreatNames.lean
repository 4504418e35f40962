/- The seat's names: the numbers of functions, the types. Written by a program. -/
import Derived.Test.YtolopdkjjlfgjaaGreatZ2
import Derived.Test.YtolopdkjjlfgjaaGreatProg
import Derived.KernelRfl
set_option linter.unusedVariables false
namespace Go.Am.N
open Go.Proofs
theorem ah.{u} {α:Sort u} {a b:α} (h:a=b:=by kernel_rfl):a=b:=h
theorem aX {p:Prop} [Decidable p] (h:decide p=true:=by kernel_rfl):p:=of_decide_eq_true h
noncomputable abbrev P:Program:=Tryz.prog
abbrev aZ (f:FuncId) (fn:Func):Prop:=ij P f fn (aG fn)
theorem bf {f:FuncId} {fn:Func} (h:P.funcs[f]?=some fn) (h1:fn.body.isSome=true:=by kernel_rfl) (h2:(fn.name== "runtime.NumGoroutine")=false:=by kernel_rfl) (h3:bV fn.ntmps (aG fn)=true:=by kernel_rfl):aZ f fn:=P2 h h1 h2 h3
theorem hm:P.follows .mixedOrders=true:=by kernel_rfl
abbrev Mb:TI:=⟨.int .i64,1,8,.int .i64 0⟩
theorem O3:cq P 2 Mb:=ec ah ah ah
abbrev F6:TI:=⟨.int .i64,1,8,.int .i64 0⟩
theorem WW:cq P 3 F6:=ec ah ah ah
abbrev Hs:TI:=⟨.bool,1,1,.bool false⟩
theorem Wp:cq P 4 Hs:=ec ah ah ah
abbrev HQ:TI:=⟨.int .u8,1,1,.int .u8 0⟩
theorem Ws:cq P 5 HQ:=ec ah ah ah
abbrev LR:TI:=⟨.int .u8,1,1,.int .u8 0⟩
theorem Ye:cq P 6 LR:=ec ah ah ah
abbrev Kq:TI:=⟨.struct #[⟨ "x",2,0,false, "", "runtime",0⟩,⟨ "y",3,1,false, "", "runtime",8⟩,⟨ "signed",4,2,false, "", "runtime",16⟩,⟨ "code",6,3,false, "", "runtime",17⟩],4,24,.agg [.int .i64 0,.int .i64 0,.bool false,.int .u8 0]⟩
theorem Ud:cq P 7 Kq:=ec ah ah ah
abbrev Gl:TI:=⟨.struct #[⟨ "x",2,0,false, "", "runtime",0⟩,⟨ "y",3,1,false, "", "runtime",8⟩,⟨ "signed",4,2,false, "", "runtime",16⟩,⟨ "code",6,3,false, "", "runtime",17⟩],4,24,.agg [.int .i64 0,.int .i64 0,.bool false,.int .u8 0]⟩
theorem Zd:cq P 8 Gl:=ec ah ah ah
abbrev Hx:TI:=⟨.string,1,16,.tuple []⟩
theorem ok9:cq P 9 Hx:=jd ah ah rfl
abbrev KM:TI:=⟨.string,1,16,.tuple []⟩
theorem MZ:cq P 10 KM:=jd ah ah rfl
abbrev JI:TI:=⟨.string,1,16,.tuple []⟩
theorem aaa:cq P 11 JI:=jd ah ah rfl
abbrev KP:TI:=⟨.int .u64,1,8,.int .u64 0⟩
theorem RO:cq P 12 KP:=ec ah ah ah
abbrev Jj:TI:=⟨.struct #[⟨ "msg",9,0,false, "", "runtime",0⟩,⟨ "addr",12,1,false, "", "runtime",16⟩],2,24,.tuple []⟩
theorem U7:cq P 13 Jj:=jd ah ah rfl
abbrev FD:TI:=⟨.struct #[⟨ "msg",9,0,false, "", "runtime",0⟩,⟨ "addr",12,1,false, "", "runtime",16⟩],2,24,.tuple []⟩
theorem abO:cq P 14 FD:=jd ah ah rfl
abbrev FM:TI:=⟨.pointer 181,1,8,.tuple []⟩
theorem RW:cq P 15 FM:=jd ah ah rfl
abbrev Lg:TI:=⟨.pointer 184,1,8,.tuple []⟩
theorem XZ:cq P 16 Lg:=jd ah ah rfl
abbrev JB:TI:=⟨.pointer 193,1,8,.tuple []⟩
theorem Wj:cq P 17 JB:=jd ah ah rfl
abbrev HN:TI:=⟨.struct #[⟨ "typ",17,0,false, "", "internal/runtime/maps",0⟩],1,8,.tuple []⟩
theorem OK:cq P 18 HN:=jd ah ah rfl
abbrev EV:TI:=⟨.struct #[⟨ "typ",17,0,false, "", "internal/runtime/maps",0⟩],1,8,.tuple []⟩
theorem Ou:cq P 19 EV:=jd ah ah rfl
abbrev GU:TI:=⟨.int .i32,1,4,.int .i32 0⟩
theorem acS:cq P 21 GU:=ec ah ah ah
abbrev L5:TI:=⟨.slice 3,1,24,.nil⟩
theorem VL:cq P 22 L5:=ec ah ah ah
abbrev Is:TI:=⟨.slice 32,1,24,.nil⟩
theorem Yo:cq P 25 Is:=ec ah ah ah
abbrev I5:TI:=⟨.slice 32,1,24,.nil⟩
theorem RU:cq P 26 I5:=ec ah ah ah
abbrev JS:TI:=⟨.pointer 84,1,8,.tuple []⟩
theorem SD:cq P 28 JS:=jd ah ah rfl
abbrev EB:TI:=⟨.slice 138,1,24,.nil⟩
theorem SG:cq P 30 EB:=ec ah ah ah
abbrev FF:TI:=⟨.struct #[⟨ "Neg",4,0,false, "", "",0⟩,⟨ "Num",30,1,false, "", "",8⟩,⟨ "Den",30,2,false, "", "",32⟩],3,56,.agg [.bool false,.nil,.nil]⟩
theorem Um:cq P 31 FF:=ec ah ah ah
abbrev Gf:TI:=⟨.struct #[⟨ "Neg",4,0,false, "", "",0⟩,⟨ "Num",30,1,false, "", "",8⟩,⟨ "Den",30,2,false, "", "",32⟩],3,56,.rat 0 1⟩
theorem Y1:cq P 32 Gf:=ec ah ah ah
abbrev Ip:TI:=⟨.int .i64,1,8,.int .i64 0⟩
theorem acY:cq P 34 Ip:=ec ah ah ah
abbrev E5:TI:=⟨.slice 49,1,24,.nil⟩
theorem RD:cq P 38 E5:=ec ah ah ah
abbrev Fl:TI:=⟨.struct #[⟨ "Lo",32,0,false, "", "",0⟩,⟨ "Hi",32,3,false, "", "",56⟩],6,112,.agg [.rat 0 1,.rat 0 1]⟩
theorem Q7:cq P 46 Fl:=ec ah ah ah
abbrev I4:TI:=⟨.struct #[⟨ "Lo",32,0,false, "", "",0⟩,⟨ "Hi",32,3,false, "", "",56⟩],6,112,.agg [.rat 0 1,.rat 0 1]⟩
theorem abG:cq P 47 I4:=ec ah ah ah
abbrev IN:TI:=⟨.struct #[⟨ "In",47,0,false, "", "",0⟩,⟨ "Times",3,6,false, "", "",112⟩],7,120,.agg [.agg [.rat 0 1,.rat 0 1],.int .i64 0]⟩
theorem Vs:cq P 48 IN:=ec ah ah ah
abbrev Kj:TI:=⟨.struct #[⟨ "In",47,0,false, "", "",0⟩,⟨ "Times",3,6,false, "", "",112⟩],7,120,.agg [.agg [.rat 0 1,.rat 0 1],.int .i64 0]⟩
theorem Oe:cq P 49 Kj:=ec ah ah ah
abbrev EC:TI:=⟨.slice 26,1,24,.nil⟩
theorem ZJ:cq P 61 EC:=ec ah ah ah
abbrev EH:TI:=⟨.slice 2,1,24,.nil⟩
theorem aaW:cq P 81 EH:=ec ah ah ah
abbrev Ey:TI:=⟨.struct #[⟨ "L",22,0,false, "", "",0⟩,⟨ "At",3,1,false, "", "",24⟩],2,32,.agg [.nil,.int .i64 0]⟩
theorem aa4:cq P 83 Ey:=ec ah ah ah
abbrev Hh:TI:=⟨.struct #[⟨ "L",22,0,false, "", "",0⟩,⟨ "At",3,1,false, "", "",24⟩],2,32,.agg [.nil,.int .i64 0]⟩
theorem UO:cq P 84 Hh:=ec ah ah ah
abbrev Gs:TI:=⟨.slice 32,1,24,.nil⟩
theorem ac4:cq P 85 Gs:=ec ah ah ah
abbrev Gq:TI:=⟨.slice 85,1,24,.nil⟩
theorem Sh:cq P 87 Gq:=ec ah ah ah
abbrev HB:TI:=⟨.slice 85,1,24,.nil⟩
theorem abk:cq P 88 HB:=ec ah ah ah
abbrev Iv:TI:=⟨.slice 25,1,24,.nil⟩
theorem PF:cq P 92 Iv:=ec ah ah ah
abbrev K7:TI:=⟨.slice 47,1,24,.nil⟩
theorem Nx:cq P 94 K7:=ec ah ah ah
abbrev I7:TI:=⟨.func #[32] #[4] false,1,8,.void⟩
theorem SK:cq P 95 I7:=I9 ah ah rfl
abbrev Ks:TI:=⟨.func #[32,32] #[] false,1,8,.void⟩
theorem aa7:cq P 96 Ks:=I9 ah ah rfl
abbrev Ex:TI:=⟨.int .u64,1,8,.int .u64 0⟩
theorem YI:cq P 134 Ex:=ec ah ah ah
abbrev ER:TI:=⟨.int .u32,1,4,.int .u32 0⟩
theorem Yd:cq P 138 ER:=ec ah ah ah
abbrev IT:TI:=⟨.int .u64,1,8,.int .u64 0⟩
theorem adl:cq P 150 IT:=ec ah ah ah
abbrev Gx:TI:=⟨.slice 5,1,24,.nil⟩
theorem Xu:cq P 158 Gx:=ec ah ah ah
abbrev KN:TI:=⟨.struct #[⟨ "_interface",17,0,false, "", "runtime",0⟩,⟨ "concrete",17,1,false, "", "runtime",8⟩,⟨ "asserted",17,2,false, "", "runtime",16⟩,⟨ "missingMethod",9,3,false, "", "runtime",24⟩],4,40,.tuple []⟩
theorem T3:cq P 180 KN:=jd ah ah rfl
abbrev JF:TI:=⟨.struct #[⟨ "_interface",17,0,false, "", "runtime",0⟩,⟨ "concrete",17,1,false, "", "runtime",8⟩,⟨ "asserted",17,2,false, "", "runtime",16⟩,⟨ "missingMethod",9,3,false, "", "runtime",24⟩],4,40,.tuple []⟩
theorem aaO:cq P 181 JF:=jd ah ah rfl
abbrev LP:TI:=⟨.int .u8,1,1,.int .u8 0⟩
theorem SX:cq P 186 LP:=ec ah ah ah
abbrev Jg:TI:=⟨.int .u8,1,1,.int .u8 0⟩
theorem abT:cq P 187 Jg:=ec ah ah ah
abbrev FH:TI:=⟨.pointer 5,1,8,.tuple []⟩
theorem YD:cq P 189 FH:=jd ah ah rfl
abbrev Md:TI:=⟨.int .i32,1,4,.int .i32 0⟩
theorem MQ:cq P 190 Md:=ec ah ah ah
abbrev Gt:TI:=⟨.int .i32,1,4,.int .i32 0⟩
theorem S1:cq P 191 Gt:=ec ah ah ah
abbrev Jm:TI:=⟨.struct #[⟨ "Size_",12,0,false, "", "",0⟩,⟨ "PtrBytes",12,1,false, "", "",8⟩,⟨ "Hash",138,2,false, "", "",16⟩,⟨ "TFlag",186,3,false, "", "",20⟩,⟨ "Align_",5,4,false, "", "",21⟩,⟨ "FieldAlign_",5,5,false, "", "",22⟩,⟨ "Kind_",187,6,false, "", "",23⟩,⟨ "Equal",188,7,false, "", "",24⟩,⟨ "GCData",189,8,false, "", "",32⟩,⟨ "Str",190,9,false, "", "",40⟩,⟨ "PtrToThis",191,10,false, "", "",44⟩],11,48,.tuple []⟩
theorem Vr:cq P 192 Jm:=jd ah ah rfl
abbrev Jd:TI:=⟨.struct #[⟨ "Size_",12,0,false, "", "",0⟩,⟨ "PtrBytes",12,1,false, "", "",8⟩,⟨ "Hash",138,2,false, "", "",16⟩,⟨ "TFlag",186,3,false, "", "",20⟩,⟨ "Align_",5,4,false, "", "",21⟩,⟨ "FieldAlign_",5,5,false, "", "",22⟩,⟨ "Kind_",187,6,false, "", "",23⟩,⟨ "Equal",188,7,false, "", "",24⟩,⟨ "GCData",189,8,false, "", "",32⟩,⟨ "Str",190,9,false, "", "",40⟩,⟨ "PtrToThis",191,10,false, "", "",44⟩],11,48,.tuple []⟩
theorem Uk:cq P 193 Jd:=jd ah ah rfl
abbrev T:Types:=[(2,Mb),(3,F6),(4,Hs),(5,HQ),(6,LR),(7,Kq),(8,Gl),(9,Hx),(10,KM),(11,JI),(12,KP),(13,Jj),(14,FD),(15,FM),(16,Lg),(17,JB),(18,HN),(19,EV),(21,GU),(22,L5),(25,Is),(26,I5),(28,JS),(30,EB),(31,FF),(32,Gf),(34,Ip),(38,E5),(46,Fl),(47,I4),(48,IN),(49,Kj),(61,EC),(81,EH),(83,Ey),(84,Hh),(85,Gs),(87,Gq),(88,HB),(92,Iv),(94,K7),(95,I7),(96,Ks),(134,Ex),(138,ER),(150,IT),(158,Gx),(180,KN),(181,JF),(186,LP),(187,Jg),(189,FH),(190,Md),(191,Gt),(192,Jm),(193,Jd)]
theorem hT:dJ P T:=cJ O3 (cJ WW (cJ Wp (cJ Ws (cJ Ye (cJ Ud (cJ Zd (cJ ok9 (cJ MZ (cJ aaa (cJ RO (cJ U7 (cJ abO (cJ RW (cJ XZ (cJ Wj (cJ OK (cJ Ou (cJ acS (cJ VL (cJ Yo (cJ RU (cJ SD (cJ SG (cJ Um (cJ Y1 (cJ acY (cJ RD (cJ Q7 (cJ abG (cJ Vs (cJ Oe (cJ ZJ (cJ aaW (cJ aa4 (cJ UO (cJ ac4 (cJ Sh (cJ abk (cJ PF (cJ Nx (cJ SK (cJ aa7 (cJ YI (cJ Yd (cJ adl (cJ Xu (cJ T3 (cJ aaO (cJ SX (cJ abT (cJ YD (cJ MQ (cJ S1 (cJ Vr (cJ Uk (XB))))))))))))))))))))))))))))))))))))))))))))))))))))))))
end Go.Am.N
