/- The seat's names: the numbers of functions, the types. Written by a program. -/
import Derived.Test.YtolopdkjjlfgjaaGreatZ2
import Derived.Test.YtolopdkjjlfgjaaGreatProg
import Derived.KernelRfl
set_option linter.unusedVariables false
namespace Go.Am.N
open Go.Proofs
theorem ah.{u} {α:Sort u} {a b:α} (h:a=b:=by kernel_rfl):a=b:=h
theorem aX {p:Prop} [Decidable p] (h:decide p=true:=by kernel_rfl):p:=of_decide_eq_true h
noncomputable abbrev P:Program:=Tryz.prog
abbrev bf (f:FuncId) (fn:Func):Prop:=jo P f fn (aH fn)
theorem bg {f:FuncId} {fn:Func} (h:P.funcs[f]?=some fn) (h1:fn.body.isSome=true:=by kernel_rfl) (h2:(fn.name== "runtime.NumGoroutine")=false:=by kernel_rfl) (h3:cE fn.ntmps (aH fn)=true:=by kernel_rfl):bf f fn:=acM h h1 h2 h3
theorem hm:P.follows .mixedOrders=true:=by kernel_rfl
abbrev NR:TI:=⟨.int .i64,1,8,.int .i64 0⟩
theorem Tj:cU P 2 NR:=fq ah ah ah
abbrev Qy:TI:=⟨.int .i64,1,8,.int .i64 0⟩
theorem Uy:cU P 3 Qy:=fq ah ah ah
abbrev Nb:TI:=⟨.bool,1,1,.bool false⟩
theorem UD:cU P 4 Nb:=fq ah ah ah
abbrev KI:TI:=⟨.int .u8,1,1,.int .u8 0⟩
theorem ok5:cU P 5 KI:=fq ah ah ah
abbrev JB:TI:=⟨.int .u8,1,1,.int .u8 0⟩
theorem Y5:cU P 6 JB:=fq ah ah ah
abbrev Qo:TI:=⟨.struct #[⟨ "x",2,0,false, "", "runtime",0⟩,⟨ "y",3,1,false, "", "runtime",8⟩,⟨ "signed",4,2,false, "", "runtime",16⟩,⟨ "code",6,3,false, "", "runtime",17⟩],4,24,.agg [.int .i64 0,.int .i64 0,.bool false,.int .u8 0]⟩
theorem ok7:cU P 7 Qo:=fq ah ah ah
abbrev JV:TI:=⟨.struct #[⟨ "x",2,0,false, "", "runtime",0⟩,⟨ "y",3,1,false, "", "runtime",8⟩,⟨ "signed",4,2,false, "", "runtime",16⟩,⟨ "code",6,3,false, "", "runtime",17⟩],4,24,.agg [.int .i64 0,.int .i64 0,.bool false,.int .u8 0]⟩
theorem ok8:cU P 8 JV:=fq ah ah ah
abbrev KO:TI:=⟨.string,1,16,.tuple []⟩
theorem ok9:cU P 9 KO:=j8 ah ah rfl
abbrev Q8:TI:=⟨.string,1,16,.tuple []⟩
theorem V6:cU P 10 Q8:=j8 ah ah rfl
abbrev Ow:TI:=⟨.string,1,16,.tuple []⟩
theorem Zt:cU P 11 Ow:=j8 ah ah rfl
abbrev NO:TI:=⟨.int .u64,1,8,.int .u64 0⟩
theorem aj9:cU P 12 NO:=fq ah ah ah
abbrev Ke:TI:=⟨.struct #[⟨ "msg",9,0,false, "", "runtime",0⟩,⟨ "addr",12,1,false, "", "runtime",16⟩],2,24,.tuple []⟩
theorem ahf:cU P 13 Ke:=j8 ah ah rfl
abbrev ML:TI:=⟨.struct #[⟨ "msg",9,0,false, "", "runtime",0⟩,⟨ "addr",12,1,false, "", "runtime",16⟩],2,24,.tuple []⟩
theorem abz:cU P 14 ML:=j8 ah ah rfl
abbrev Qr:TI:=⟨.pointer 181,1,8,.tuple []⟩
theorem TC:cU P 15 Qr:=j8 ah ah rfl
abbrev J3:TI:=⟨.pointer 184,1,8,.tuple []⟩
theorem agG:cU P 16 J3:=j8 ah ah rfl
abbrev NK:TI:=⟨.pointer 193,1,8,.tuple []⟩
theorem akb:cU P 17 NK:=j8 ah ah rfl
abbrev Rd:TI:=⟨.struct #[⟨ "typ",17,0,false, "", "internal/runtime/maps",0⟩],1,8,.tuple []⟩
theorem agC:cU P 18 Rd:=j8 ah ah rfl
abbrev J9:TI:=⟨.struct #[⟨ "typ",17,0,false, "", "internal/runtime/maps",0⟩],1,8,.tuple []⟩
theorem aii:cU P 19 J9:=j8 ah ah rfl
abbrev RA:TI:=⟨.int .i32,1,4,.int .i32 0⟩
theorem W9:cU P 21 RA:=fq ah ah ah
abbrev P6:TI:=⟨.slice 3,1,24,.nil⟩
theorem aaR:cU P 22 P6:=fq ah ah ah
abbrev JL:TI:=⟨.slice 32,1,24,.nil⟩
theorem air:cU P 25 JL:=fq ah ah ah
abbrev Mh:TI:=⟨.slice 32,1,24,.nil⟩
theorem W5:cU P 26 Mh:=fq ah ah ah
abbrev Mt:TI:=⟨.pointer 84,1,8,.tuple []⟩
theorem Yl:cU P 28 Mt:=j8 ah ah rfl
abbrev Jn:TI:=⟨.slice 138,1,24,.nil⟩
theorem adq:cU P 30 Jn:=fq ah ah ah
abbrev OZ:TI:=⟨.struct #[⟨ "Neg",4,0,false, "", "",0⟩,⟨ "Num",30,1,false, "", "",8⟩,⟨ "Den",30,2,false, "", "",32⟩],3,56,.agg [.bool false,.nil,.nil]⟩
theorem Xw:cU P 31 OZ:=fq ah ah ah
abbrev LJ:TI:=⟨.struct #[⟨ "Neg",4,0,false, "", "",0⟩,⟨ "Num",30,1,false, "", "",8⟩,⟨ "Den",30,2,false, "", "",32⟩],3,56,.rat 0 1⟩
theorem VW:cU P 32 LJ:=fq ah ah ah
abbrev P5:TI:=⟨.int .i64,1,8,.int .i64 0⟩
theorem VM:cU P 34 P5:=fq ah ah ah
abbrev Qq:TI:=⟨.slice 49,1,24,.nil⟩
theorem aa6:cU P 38 Qq:=fq ah ah ah
abbrev Rj:TI:=⟨.struct #[⟨ "Lo",32,0,false, "", "",0⟩,⟨ "Hi",32,3,false, "", "",56⟩],6,112,.agg [.rat 0 1,.rat 0 1]⟩
theorem Uj:cU P 46 Rj:=fq ah ah ah
abbrev Pb:TI:=⟨.struct #[⟨ "Lo",32,0,false, "", "",0⟩,⟨ "Hi",32,3,false, "", "",56⟩],6,112,.agg [.rat 0 1,.rat 0 1]⟩
theorem ajb:cU P 47 Pb:=fq ah ah ah
abbrev Rv:TI:=⟨.struct #[⟨ "In",47,0,false, "", "",0⟩,⟨ "Times",3,6,false, "", "",112⟩],7,120,.agg [.agg [.rat 0 1,.rat 0 1],.int .i64 0]⟩
theorem WU:cU P 48 Rv:=fq ah ah ah
abbrev Jj:TI:=⟨.struct #[⟨ "In",47,0,false, "", "",0⟩,⟨ "Times",3,6,false, "", "",112⟩],7,120,.agg [.agg [.rat 0 1,.rat 0 1],.int .i64 0]⟩
theorem abM:cU P 49 Jj:=fq ah ah ah
abbrev OB:TI:=⟨.slice 26,1,24,.nil⟩
theorem abR:cU P 61 OB:=fq ah ah ah
abbrev LD:TI:=⟨.slice 2,1,24,.nil⟩
theorem ai5:cU P 81 LD:=fq ah ah ah
abbrev Qk:TI:=⟨.struct #[⟨ "L",22,0,false, "", "",0⟩,⟨ "At",3,1,false, "", "",24⟩],2,32,.agg [.nil,.int .i64 0]⟩
theorem ahL:cU P 83 Qk:=fq ah ah ah
abbrev OD:TI:=⟨.struct #[⟨ "L",22,0,false, "", "",0⟩,⟨ "At",3,1,false, "", "",24⟩],2,32,.agg [.nil,.int .i64 0]⟩
theorem WX:cU P 84 OD:=fq ah ah ah
abbrev Lu:TI:=⟨.slice 32,1,24,.nil⟩
theorem SE:cU P 85 Lu:=fq ah ah ah
abbrev Ol:TI:=⟨.slice 85,1,24,.nil⟩
theorem XW:cU P 87 Ol:=fq ah ah ah
abbrev Kf:TI:=⟨.slice 85,1,24,.nil⟩
theorem UF:cU P 88 Kf:=fq ah ah ah
abbrev QM:TI:=⟨.slice 25,1,24,.nil⟩
theorem afe:cU P 92 QM:=fq ah ah ah
abbrev J5:TI:=⟨.slice 47,1,24,.nil⟩
theorem aeg:cU P 94 J5:=fq ah ah ah
abbrev L7:TI:=⟨.func #[32] #[4] false,1,8,.void⟩
theorem ajr:cU P 95 L7:=LO ah ah rfl
abbrev Lr:TI:=⟨.func #[32,32] #[] false,1,8,.void⟩
theorem aaD:cU P 96 Lr:=LO ah ah rfl
abbrev QE:TI:=⟨.int .u64,1,8,.int .u64 0⟩
theorem Yx:cU P 134 QE:=fq ah ah ah
abbrev Ri:TI:=⟨.int .u32,1,4,.int .u32 0⟩
theorem aeH:cU P 138 Ri:=fq ah ah ah
abbrev QA:TI:=⟨.int .u64,1,8,.int .u64 0⟩
theorem afU:cU P 150 QA:=fq ah ah ah
abbrev I0:TI:=⟨.slice 5,1,24,.nil⟩
theorem aep:cU P 158 I0:=fq ah ah ah
abbrev Rz:TI:=⟨.struct #[⟨ "_interface",17,0,false, "", "runtime",0⟩,⟨ "concrete",17,1,false, "", "runtime",8⟩,⟨ "asserted",17,2,false, "", "runtime",16⟩,⟨ "missingMethod",9,3,false, "", "runtime",24⟩],4,40,.tuple []⟩
theorem SM:cU P 180 Rz:=j8 ah ah rfl
abbrev Pj:TI:=⟨.struct #[⟨ "_interface",17,0,false, "", "runtime",0⟩,⟨ "concrete",17,1,false, "", "runtime",8⟩,⟨ "asserted",17,2,false, "", "runtime",16⟩,⟨ "missingMethod",9,3,false, "", "runtime",24⟩],4,40,.tuple []⟩
theorem WH:cU P 181 Pj:=j8 ah ah rfl
abbrev Kq:TI:=⟨.int .u8,1,1,.int .u8 0⟩
theorem V0:cU P 186 Kq:=fq ah ah ah
abbrev Ro:TI:=⟨.int .u8,1,1,.int .u8 0⟩
theorem YL:cU P 187 Ro:=fq ah ah ah
abbrev PB:TI:=⟨.pointer 5,1,8,.tuple []⟩
theorem Xy:cU P 189 PB:=j8 ah ah rfl
abbrev Pk:TI:=⟨.int .i32,1,4,.int .i32 0⟩
theorem aak:cU P 190 Pk:=fq ah ah ah
abbrev LH:TI:=⟨.int .i32,1,4,.int .i32 0⟩
theorem ae7:cU P 191 LH:=fq ah ah ah
abbrev PZ:TI:=⟨.struct #[⟨ "Size_",12,0,false, "", "",0⟩,⟨ "PtrBytes",12,1,false, "", "",8⟩,⟨ "Hash",138,2,false, "", "",16⟩,⟨ "TFlag",186,3,false, "", "",20⟩,⟨ "Align_",5,4,false, "", "",21⟩,⟨ "FieldAlign_",5,5,false, "", "",22⟩,⟨ "Kind_",187,6,false, "", "",23⟩,⟨ "Equal",188,7,false, "", "",24⟩,⟨ "GCData",189,8,false, "", "",32⟩,⟨ "Str",190,9,false, "", "",40⟩,⟨ "PtrToThis",191,10,false, "", "",44⟩],11,48,.tuple []⟩
theorem adn:cU P 192 PZ:=j8 ah ah rfl
abbrev L4:TI:=⟨.struct #[⟨ "Size_",12,0,false, "", "",0⟩,⟨ "PtrBytes",12,1,false, "", "",8⟩,⟨ "Hash",138,2,false, "", "",16⟩,⟨ "TFlag",186,3,false, "", "",20⟩,⟨ "Align_",5,4,false, "", "",21⟩,⟨ "FieldAlign_",5,5,false, "", "",22⟩,⟨ "Kind_",187,6,false, "", "",23⟩,⟨ "Equal",188,7,false, "", "",24⟩,⟨ "GCData",189,8,false, "", "",32⟩,⟨ "Str",190,9,false, "", "",40⟩,⟨ "PtrToThis",191,10,false, "", "",44⟩],11,48,.tuple []⟩
theorem aiQ:cU P 193 L4:=j8 ah ah rfl
abbrev T:Types:=[(2,NR),(3,Qy),(4,Nb),(5,KI),(6,JB),(7,Qo),(8,JV),(9,KO),(10,Q8),(11,Ow),(12,NO),(13,Ke),(14,ML),(15,Qr),(16,J3),(17,NK),(18,Rd),(19,J9),(21,RA),(22,P6),(25,JL),(26,Mh),(28,Mt),(30,Jn),(31,OZ),(32,LJ),(34,P5),(38,Qq),(46,Rj),(47,Pb),(48,Rv),(49,Jj),(61,OB),(81,LD),(83,Qk),(84,OD),(85,Lu),(87,Ol),(88,Kf),(92,QM),(94,J5),(95,L7),(96,Lr),(134,QE),(138,Ri),(150,QA),(158,I0),(180,Rz),(181,Pj),(186,Kq),(187,Ro),(189,PB),(190,Pk),(191,LH),(192,PZ),(193,L4)]
theorem hT:eV P T:=dB Tj (dB Uy (dB UD (dB ok5 (dB Y5 (dB ok7 (dB ok8 (dB ok9 (dB V6 (dB Zt (dB aj9 (dB ahf (dB abz (dB TC (dB agG (dB akb (dB agC (dB aii (dB W9 (dB aaR (dB air (dB W5 (dB Yl (dB adq (dB Xw (dB VW (dB VM (dB aa6 (dB Uj (dB ajb (dB WU (dB abM (dB abR (dB ai5 (dB ahL (dB WX (dB SE (dB XW (dB UF (dB afe (dB aeg (dB ajr (dB aaD (dB Yx (dB aeH (dB afU (dB aep (dB SM (dB WH (dB V0 (dB YL (dB Xy (dB aak (dB ae7 (dB adn (dB aiQ (Vf))))))))))))))))))))))))))))))))))))))))))))))))))))))))
end Go.Am.N
