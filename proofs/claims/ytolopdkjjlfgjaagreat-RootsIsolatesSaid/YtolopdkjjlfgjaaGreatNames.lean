/- The seat's names: the numbers of functions, the types. Written by a program. -/
import Derived.Test.YtolopdkjjlfgjaaGreatZ2
import Derived.Test.YtolopdkjjlfgjaaGreatProg
import Derived.KernelRfl
set_option linter.unusedVariables false
namespace Go.Am.N
open Go.Proofs
theorem ah.{u} {α:Sort u} {a b:α} (h:a=b:=by kernel_rfl):a=b:=h
theorem aZ {p:Prop} [Decidable p] (h:decide p=true:=by kernel_rfl):p:=of_decide_eq_true h
noncomputable abbrev P:Program:=Tryz.prog
abbrev br (f:FuncId) (fn:Func):Prop:=ji P f fn (aI fn)
theorem bu {f:FuncId} {fn:Func} (h:P.funcs[f]?=some fn) (h1:fn.body.isSome=true:=by kernel_rfl) (h2:(fn.name== "runtime.NumGoroutine")=false:=by kernel_rfl) (h3:cD fn.ntmps (aI fn)=true:=by kernel_rfl):br f fn:=Wu h h1 h2 h3
theorem hm:P.follows .mixedOrders=true:=by kernel_rfl
abbrev Mp:TI:=⟨.int .i64,1,8,.int .i64 0⟩
theorem ok2:cP P 2 Mp:=e9 ah ah ah
abbrev OM:TI:=⟨.int .i64,1,8,.int .i64 0⟩
theorem Uw:cP P 3 OM:=e9 ah ah ah
abbrev L7:TI:=⟨.bool,1,1,.bool false⟩
theorem UG:cP P 4 L7:=e9 ah ah ah
abbrev HW:TI:=⟨.int .u8,1,1,.int .u8 0⟩
theorem YQ:cP P 5 HW:=e9 ah ah ah
abbrev OK:TI:=⟨.int .u8,1,1,.int .u8 0⟩
theorem ok6:cP P 6 OK:=e9 ah ah ah
abbrev Nw:TI:=⟨.struct #[⟨ "x",2,0,false, "", "runtime",0⟩,⟨ "y",3,1,false, "", "runtime",8⟩,⟨ "signed",4,2,false, "", "runtime",16⟩,⟨ "code",6,3,false, "", "runtime",17⟩],4,24,.agg [.int .i64 0,.int .i64 0,.bool false,.int .u8 0]⟩
theorem ok7:cP P 7 Nw:=e9 ah ah ah
abbrev K8:TI:=⟨.struct #[⟨ "x",2,0,false, "", "runtime",0⟩,⟨ "y",3,1,false, "", "runtime",8⟩,⟨ "signed",4,2,false, "", "runtime",16⟩,⟨ "code",6,3,false, "", "runtime",17⟩],4,24,.agg [.int .i64 0,.int .i64 0,.bool false,.int .u8 0]⟩
theorem VX:cP P 8 K8:=e9 ah ah ah
abbrev P8:TI:=⟨.string,1,16,.tuple []⟩
theorem ok9:cP P 9 P8:=jY ah ah rfl
abbrev L8:TI:=⟨.string,1,16,.tuple []⟩
theorem RU:cP P 10 L8:=jY ah ah rfl
abbrev Jv:TI:=⟨.string,1,16,.tuple []⟩
theorem agh:cP P 11 Jv:=jY ah ah rfl
abbrev Po:TI:=⟨.int .u64,1,8,.int .u64 0⟩
theorem X9:cP P 12 Po:=e9 ah ah ah
abbrev OW:TI:=⟨.struct #[⟨ "msg",9,0,false, "", "runtime",0⟩,⟨ "addr",12,1,false, "", "runtime",16⟩],2,24,.tuple []⟩
theorem Tr:cP P 13 OW:=jY ah ah rfl
abbrev LR:TI:=⟨.struct #[⟨ "msg",9,0,false, "", "runtime",0⟩,⟨ "addr",12,1,false, "", "runtime",16⟩],2,24,.tuple []⟩
theorem agT:cP P 14 LR:=jY ah ah rfl
abbrev Nt:TI:=⟨.pointer 181,1,8,.tuple []⟩
theorem XE:cP P 15 Nt:=jY ah ah rfl
abbrev K6:TI:=⟨.pointer 184,1,8,.tuple []⟩
theorem Zw:cP P 16 K6:=jY ah ah rfl
abbrev MG:TI:=⟨.pointer 193,1,8,.tuple []⟩
theorem aad:cP P 17 MG:=jY ah ah rfl
abbrev KE:TI:=⟨.struct #[⟨ "typ",17,0,false, "", "internal/runtime/maps",0⟩],1,8,.tuple []⟩
theorem QU:cP P 18 KE:=jY ah ah rfl
abbrev I3:TI:=⟨.struct #[⟨ "typ",17,0,false, "", "internal/runtime/maps",0⟩],1,8,.tuple []⟩
theorem adr:cP P 19 I3:=jY ah ah rfl
abbrev N6:TI:=⟨.int .i32,1,4,.int .i32 0⟩
theorem RE:cP P 21 N6:=e9 ah ah ah
abbrev PA:TI:=⟨.slice 3,1,24,.nil⟩
theorem adk:cP P 22 PA:=e9 ah ah ah
abbrev I4:TI:=⟨.slice 32,1,24,.nil⟩
theorem SY:cP P 25 I4:=e9 ah ah ah
abbrev NU:TI:=⟨.slice 32,1,24,.nil⟩
theorem abW:cP P 26 NU:=e9 ah ah ah
abbrev K3:TI:=⟨.pointer 84,1,8,.tuple []⟩
theorem acA:cP P 28 K3:=jY ah ah rfl
abbrev Im:TI:=⟨.slice 138,1,24,.nil⟩
theorem aeh:cP P 30 Im:=e9 ah ah ah
abbrev Ji:TI:=⟨.struct #[⟨ "Neg",4,0,false, "", "",0⟩,⟨ "Num",30,1,false, "", "",8⟩,⟨ "Den",30,2,false, "", "",32⟩],3,56,.agg [.bool false,.nil,.nil]⟩
theorem V0:cP P 31 Ji:=e9 ah ah ah
abbrev OP:TI:=⟨.struct #[⟨ "Neg",4,0,false, "", "",0⟩,⟨ "Num",30,1,false, "", "",8⟩,⟨ "Den",30,2,false, "", "",32⟩],3,56,.rat 0 1⟩
theorem SG:cP P 32 OP:=e9 ah ah ah
abbrev Kg:TI:=⟨.int .i64,1,8,.int .i64 0⟩
theorem Vw:cP P 34 Kg:=e9 ah ah ah
abbrev Mu:TI:=⟨.slice 49,1,24,.nil⟩
theorem afM:cP P 38 Mu:=e9 ah ah ah
abbrev KY:TI:=⟨.struct #[⟨ "Lo",32,0,false, "", "",0⟩,⟨ "Hi",32,3,false, "", "",56⟩],6,112,.agg [.rat 0 1,.rat 0 1]⟩
theorem Xk:cP P 46 KY:=e9 ah ah ah
abbrev P5:TI:=⟨.struct #[⟨ "Lo",32,0,false, "", "",0⟩,⟨ "Hi",32,3,false, "", "",56⟩],6,112,.agg [.rat 0 1,.rat 0 1]⟩
theorem aa6:cP P 47 P5:=e9 ah ah ah
abbrev MI:TI:=⟨.struct #[⟨ "In",47,0,false, "", "",0⟩,⟨ "Times",3,6,false, "", "",112⟩],7,120,.agg [.agg [.rat 0 1,.rat 0 1],.int .i64 0]⟩
theorem abq:cP P 48 MI:=e9 ah ah ah
abbrev OV:TI:=⟨.struct #[⟨ "In",47,0,false, "", "",0⟩,⟨ "Times",3,6,false, "", "",112⟩],7,120,.agg [.agg [.rat 0 1,.rat 0 1],.int .i64 0]⟩
theorem abd:cP P 49 OV:=e9 ah ah ah
abbrev IP:TI:=⟨.slice 26,1,24,.nil⟩
theorem YH:cP P 61 IP:=e9 ah ah ah
abbrev Kf:TI:=⟨.slice 2,1,24,.nil⟩
theorem Sr:cP P 81 Kf:=e9 ah ah ah
abbrev IT:TI:=⟨.struct #[⟨ "L",22,0,false, "", "",0⟩,⟨ "At",3,1,false, "", "",24⟩],2,32,.agg [.nil,.int .i64 0]⟩
theorem adb:cP P 83 IT:=e9 ah ah ah
abbrev Ks:TI:=⟨.struct #[⟨ "L",22,0,false, "", "",0⟩,⟨ "At",3,1,false, "", "",24⟩],2,32,.agg [.nil,.int .i64 0]⟩
theorem aeV:cP P 84 Ks:=e9 ah ah ah
abbrev JL:TI:=⟨.slice 32,1,24,.nil⟩
theorem SS:cP P 85 JL:=e9 ah ah ah
abbrev Mt:TI:=⟨.slice 85,1,24,.nil⟩
theorem abG:cP P 87 Mt:=e9 ah ah ah
abbrev Pp:TI:=⟨.slice 85,1,24,.nil⟩
theorem Z7:cP P 88 Pp:=e9 ah ah ah
abbrev PE:TI:=⟨.slice 25,1,24,.nil⟩
theorem abO:cP P 92 PE:=e9 ah ah ah
abbrev IY:TI:=⟨.slice 47,1,24,.nil⟩
theorem ahK:cP P 94 IY:=e9 ah ah ah
abbrev Pw:TI:=⟨.func #[32] #[4] false,1,8,.void⟩
theorem agl:cP P 95 Pw:=Mg ah ah rfl
abbrev Ly:TI:=⟨.func #[32,32] #[] false,1,8,.void⟩
theorem Sq:cP P 96 Ly:=Mg ah ah rfl
abbrev PG:TI:=⟨.int .u64,1,8,.int .u64 0⟩
theorem ZV:cP P 134 PG:=e9 ah ah ah
abbrev K4:TI:=⟨.int .u32,1,4,.int .u32 0⟩
theorem X6:cP P 138 K4:=e9 ah ah ah
abbrev HV:TI:=⟨.int .u64,1,8,.int .u64 0⟩
theorem WI:cP P 150 HV:=e9 ah ah ah
abbrev Np:TI:=⟨.slice 5,1,24,.nil⟩
theorem Xf:cP P 158 Np:=e9 ah ah ah
abbrev PL:TI:=⟨.struct #[⟨ "_interface",17,0,false, "", "runtime",0⟩,⟨ "concrete",17,1,false, "", "runtime",8⟩,⟨ "asserted",17,2,false, "", "runtime",16⟩,⟨ "missingMethod",9,3,false, "", "runtime",24⟩],4,40,.tuple []⟩
theorem Vi:cP P 180 PL:=jY ah ah rfl
abbrev Lj:TI:=⟨.struct #[⟨ "_interface",17,0,false, "", "runtime",0⟩,⟨ "concrete",17,1,false, "", "runtime",8⟩,⟨ "asserted",17,2,false, "", "runtime",16⟩,⟨ "missingMethod",9,3,false, "", "runtime",24⟩],4,40,.tuple []⟩
theorem WT:cP P 181 Lj:=jY ah ah rfl
abbrev N5:TI:=⟨.int .u8,1,1,.int .u8 0⟩
theorem Sa:cP P 186 N5:=e9 ah ah ah
abbrev Ke:TI:=⟨.int .u8,1,1,.int .u8 0⟩
theorem ahy:cP P 187 Ke:=e9 ah ah ah
abbrev ML:TI:=⟨.pointer 5,1,8,.tuple []⟩
theorem X8:cP P 189 ML:=jY ah ah rfl
abbrev Ii:TI:=⟨.int .i32,1,4,.int .i32 0⟩
theorem VO:cP P 190 Ii:=e9 ah ah ah
abbrev It:TI:=⟨.int .i32,1,4,.int .i32 0⟩
theorem QN:cP P 191 It:=e9 ah ah ah
abbrev JT:TI:=⟨.struct #[⟨ "Size_",12,0,false, "", "",0⟩,⟨ "PtrBytes",12,1,false, "", "",8⟩,⟨ "Hash",138,2,false, "", "",16⟩,⟨ "TFlag",186,3,false, "", "",20⟩,⟨ "Align_",5,4,false, "", "",21⟩,⟨ "FieldAlign_",5,5,false, "", "",22⟩,⟨ "Kind_",187,6,false, "", "",23⟩,⟨ "Equal",188,7,false, "", "",24⟩,⟨ "GCData",189,8,false, "", "",32⟩,⟨ "Str",190,9,false, "", "",40⟩,⟨ "PtrToThis",191,10,false, "", "",44⟩],11,48,.tuple []⟩
theorem Q1:cP P 192 JT:=jY ah ah rfl
abbrev Ij:TI:=⟨.struct #[⟨ "Size_",12,0,false, "", "",0⟩,⟨ "PtrBytes",12,1,false, "", "",8⟩,⟨ "Hash",138,2,false, "", "",16⟩,⟨ "TFlag",186,3,false, "", "",20⟩,⟨ "Align_",5,4,false, "", "",21⟩,⟨ "FieldAlign_",5,5,false, "", "",22⟩,⟨ "Kind_",187,6,false, "", "",23⟩,⟨ "Equal",188,7,false, "", "",24⟩,⟨ "GCData",189,8,false, "", "",32⟩,⟨ "Str",190,9,false, "", "",40⟩,⟨ "PtrToThis",191,10,false, "", "",44⟩],11,48,.tuple []⟩
theorem abj:cP P 193 Ij:=jY ah ah rfl
abbrev T:Types:=[(2,Mp),(3,OM),(4,L7),(5,HW),(6,OK),(7,Nw),(8,K8),(9,P8),(10,L8),(11,Jv),(12,Po),(13,OW),(14,LR),(15,Nt),(16,K6),(17,MG),(18,KE),(19,I3),(21,N6),(22,PA),(25,I4),(26,NU),(28,K3),(30,Im),(31,Ji),(32,OP),(34,Kg),(38,Mu),(46,KY),(47,P5),(48,MI),(49,OV),(61,IP),(81,Kf),(83,IT),(84,Ks),(85,JL),(87,Mt),(88,Pp),(92,PE),(94,IY),(95,Pw),(96,Ly),(134,PG),(138,K4),(150,HV),(158,Np),(180,PL),(181,Lj),(186,N5),(187,Ke),(189,ML),(190,Ii),(191,It),(192,JT),(193,Ij)]
theorem hT:eE P T:=dr ok2 (dr Uw (dr UG (dr YQ (dr ok6 (dr ok7 (dr VX (dr ok9 (dr RU (dr agh (dr X9 (dr Tr (dr agT (dr XE (dr Zw (dr aad (dr QU (dr adr (dr RE (dr adk (dr SY (dr abW (dr acA (dr aeh (dr V0 (dr SG (dr Vw (dr afM (dr Xk (dr aa6 (dr abq (dr abd (dr YH (dr Sr (dr adb (dr aeV (dr SS (dr abG (dr Z7 (dr abO (dr ahK (dr agl (dr Sq (dr ZV (dr X6 (dr WI (dr Xf (dr Vi (dr WT (dr Sa (dr ahy (dr X8 (dr VO (dr QN (dr Q1 (dr abj (Tx))))))))))))))))))))))))))))))))))))))))))))))))))))))))
end Go.Am.N
