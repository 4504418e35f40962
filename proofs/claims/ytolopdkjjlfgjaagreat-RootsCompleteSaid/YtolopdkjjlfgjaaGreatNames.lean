/- The seat's names: the numbers of functions, the types. Written by a program. -/
import Derived.Test.YtolopdkjjlfgjaaGreatZ2
import Derived.Test.YtolopdkjjlfgjaaGreatProg
import Derived.KernelRfl
set_option linter.unusedVariables false
namespace Go.Am.N
open Go.Proofs
theorem ag.{u} {α:Sort u} {a b:α} (h:a=b:=by kernel_rfl):a=b:=h
theorem bp {p:Prop} [Decidable p] (h:decide p=true:=by kernel_rfl):p:=of_decide_eq_true h
noncomputable abbrev P:Program:=Tryz.prog
abbrev bu (f:FuncId) (fn:Func):Prop:=jj P f fn (aG fn)
theorem bz {f:FuncId} {fn:Func} (h:P.funcs[f]?=some fn) (h1:fn.body.isSome=true:=by kernel_rfl) (h2:(fn.name== "runtime.NumGoroutine")=false:=by kernel_rfl) (h3:cr fn.ntmps (aG fn)=true:=by kernel_rfl):bu f fn:=PO h h1 h2 h3
theorem hm:P.follows .mixedOrders=true:=by kernel_rfl
abbrev F7:TI:=⟨.int .i64,1,8,.int .i64 0⟩
theorem Uw:cG P 2 F7:=eR ag ag ag
abbrev MX:TI:=⟨.int .i64,1,8,.int .i64 0⟩
theorem Qk:cG P 3 MX:=eR ag ag ag
abbrev Md:TI:=⟨.bool,1,1,.bool false⟩
theorem Z5:cG P 4 Md:=eR ag ag ag
abbrev HM:TI:=⟨.int .u8,1,1,.int .u8 0⟩
theorem Rq:cG P 5 HM:=eR ag ag ag
abbrev KJ:TI:=⟨.int .u8,1,1,.int .u8 0⟩
theorem ok6:cG P 6 KJ:=eR ag ag ag
abbrev IX:TI:=⟨.struct #[⟨ "x",2,0,false, "", "runtime",0⟩,⟨ "y",3,1,false, "", "runtime",8⟩,⟨ "signed",4,2,false, "", "runtime",16⟩,⟨ "code",6,3,false, "", "runtime",17⟩],4,24,.agg [.int .i64 0,.int .i64 0,.bool false,.int .u8 0]⟩
theorem ok7:cG P 7 IX:=eR ag ag ag
abbrev Mo:TI:=⟨.struct #[⟨ "x",2,0,false, "", "runtime",0⟩,⟨ "y",3,1,false, "", "runtime",8⟩,⟨ "signed",4,2,false, "", "runtime",16⟩,⟨ "code",6,3,false, "", "runtime",17⟩],4,24,.agg [.int .i64 0,.int .i64 0,.bool false,.int .u8 0]⟩
theorem Vx:cG P 8 Mo:=eR ag ag ag
abbrev GY:TI:=⟨.string,1,16,.tuple []⟩
theorem YQ:cG P 9 GY:=jO ag ag rfl
abbrev Jb:TI:=⟨.string,1,16,.tuple []⟩
theorem Vu:cG P 10 Jb:=jO ag ag rfl
abbrev IL:TI:=⟨.string,1,16,.tuple []⟩
theorem ade:cG P 11 IL:=jO ag ag rfl
abbrev La:TI:=⟨.int .u64,1,8,.int .u64 0⟩
theorem Vw:cG P 12 La:=eR ag ag ag
abbrev Iw:TI:=⟨.struct #[⟨ "msg",9,0,false, "", "runtime",0⟩,⟨ "addr",12,1,false, "", "runtime",16⟩],2,24,.tuple []⟩
theorem UC:cG P 13 Iw:=jO ag ag rfl
abbrev Gy:TI:=⟨.struct #[⟨ "msg",9,0,false, "", "runtime",0⟩,⟨ "addr",12,1,false, "", "runtime",16⟩],2,24,.tuple []⟩
theorem UU:cG P 14 Gy:=jO ag ag rfl
abbrev Kh:TI:=⟨.pointer 181,1,8,.tuple []⟩
theorem aal:cG P 15 Kh:=jO ag ag rfl
abbrev Iv:TI:=⟨.pointer 184,1,8,.tuple []⟩
theorem Sy:cG P 16 Iv:=jO ag ag rfl
abbrev LY:TI:=⟨.pointer 193,1,8,.tuple []⟩
theorem aaY:cG P 17 LY:=jO ag ag rfl
abbrev HB:TI:=⟨.struct #[⟨ "typ",17,0,false, "", "internal/runtime/maps",0⟩],1,8,.tuple []⟩
theorem Pk:cG P 18 HB:=jO ag ag rfl
abbrev Nn:TI:=⟨.struct #[⟨ "typ",17,0,false, "", "internal/runtime/maps",0⟩],1,8,.tuple []⟩
theorem SF:cG P 19 Nn:=jO ag ag rfl
abbrev Ob:TI:=⟨.int .i32,1,4,.int .i32 0⟩
theorem Zy:cG P 21 Ob:=eR ag ag ag
abbrev HS:TI:=⟨.slice 3,1,24,.nil⟩
theorem Zh:cG P 22 HS:=eR ag ag ag
abbrev Ng:TI:=⟨.slice 32,1,24,.nil⟩
theorem abN:cG P 25 Ng:=eR ag ag ag
abbrev JK:TI:=⟨.slice 32,1,24,.nil⟩
theorem Tx:cG P 26 JK:=eR ag ag ag
abbrev OD:TI:=⟨.pointer 84,1,8,.tuple []⟩
theorem Y6:cG P 28 OD:=jO ag ag rfl
abbrev GH:TI:=⟨.slice 138,1,24,.nil⟩
theorem Um:cG P 30 GH:=eR ag ag ag
abbrev Jo:TI:=⟨.struct #[⟨ "Neg",4,0,false, "", "",0⟩,⟨ "Num",30,1,false, "", "",8⟩,⟨ "Den",30,2,false, "", "",32⟩],3,56,.agg [.bool false,.nil,.nil]⟩
theorem U2:cG P 31 Jo:=eR ag ag ag
abbrev Np:TI:=⟨.struct #[⟨ "Neg",4,0,false, "", "",0⟩,⟨ "Num",30,1,false, "", "",8⟩,⟨ "Den",30,2,false, "", "",32⟩],3,56,.rat 0 1⟩
theorem aee:cG P 32 Np:=eR ag ag ag
abbrev Li:TI:=⟨.int .i64,1,8,.int .i64 0⟩
theorem SZ:cG P 34 Li:=eR ag ag ag
abbrev Kb:TI:=⟨.slice 49,1,24,.nil⟩
theorem Zj:cG P 38 Kb:=eR ag ag ag
abbrev Hx:TI:=⟨.struct #[⟨ "Lo",32,0,false, "", "",0⟩,⟨ "Hi",32,3,false, "", "",56⟩],6,112,.agg [.rat 0 1,.rat 0 1]⟩
theorem Q2:cG P 46 Hx:=eR ag ag ag
abbrev JG:TI:=⟨.struct #[⟨ "Lo",32,0,false, "", "",0⟩,⟨ "Hi",32,3,false, "", "",56⟩],6,112,.agg [.rat 0 1,.rat 0 1]⟩
theorem Xe:cG P 47 JG:=eR ag ag ag
abbrev Mm:TI:=⟨.struct #[⟨ "In",47,0,false, "", "",0⟩,⟨ "Times",3,6,false, "", "",112⟩],7,120,.agg [.agg [.rat 0 1,.rat 0 1],.int .i64 0]⟩
theorem Vh:cG P 48 Mm:=eR ag ag ag
abbrev Oi:TI:=⟨.struct #[⟨ "In",47,0,false, "", "",0⟩,⟨ "Times",3,6,false, "", "",112⟩],7,120,.agg [.agg [.rat 0 1,.rat 0 1],.int .i64 0]⟩
theorem aaI:cG P 49 Oi:=eR ag ag ag
abbrev IM:TI:=⟨.slice 26,1,24,.nil⟩
theorem Zq:cG P 61 IM:=eR ag ag ag
abbrev LJ:TI:=⟨.slice 2,1,24,.nil⟩
theorem Uz:cG P 81 LJ:=eR ag ag ag
abbrev Gp:TI:=⟨.struct #[⟨ "L",22,0,false, "", "",0⟩,⟨ "At",3,1,false, "", "",24⟩],2,32,.agg [.nil,.int .i64 0]⟩
theorem Yh:cG P 83 Gp:=eR ag ag ag
abbrev Ht:TI:=⟨.struct #[⟨ "L",22,0,false, "", "",0⟩,⟨ "At",3,1,false, "", "",24⟩],2,32,.agg [.nil,.int .i64 0]⟩
theorem ON:cG P 84 Ht:=eR ag ag ag
abbrev M8:TI:=⟨.slice 32,1,24,.nil⟩
theorem We:cG P 85 M8:=eR ag ag ag
abbrev GO:TI:=⟨.slice 85,1,24,.nil⟩
theorem UZ:cG P 87 GO:=eR ag ag ag
abbrev Kr:TI:=⟨.slice 85,1,24,.nil⟩
theorem Ud:cG P 88 Kr:=eR ag ag ag
abbrev Kj:TI:=⟨.slice 25,1,24,.nil⟩
theorem P2:cG P 92 Kj:=eR ag ag ag
abbrev J7:TI:=⟨.slice 47,1,24,.nil⟩
theorem RC:cG P 94 J7:=eR ag ag ag
abbrev Nm:TI:=⟨.func #[32] #[4] false,1,8,.void⟩
theorem adi:cG P 95 Nm:=I3 ag ag rfl
abbrev M9:TI:=⟨.func #[32,32] #[] false,1,8,.void⟩
theorem aaf:cG P 96 M9:=I3 ag ag rfl
abbrev Kt:TI:=⟨.int .u64,1,8,.int .u64 0⟩
theorem Ql:cG P 134 Kt:=eR ag ag ag
abbrev G4:TI:=⟨.int .u32,1,4,.int .u32 0⟩
theorem abt:cG P 138 G4:=eR ag ag ag
abbrev Ij:TI:=⟨.int .u64,1,8,.int .u64 0⟩
theorem Pg:cG P 150 Ij:=eR ag ag ag
abbrev MQ:TI:=⟨.slice 5,1,24,.nil⟩
theorem YR:cG P 158 MQ:=eR ag ag ag
abbrev Ow:TI:=⟨.struct #[⟨ "_interface",17,0,false, "", "runtime",0⟩,⟨ "concrete",17,1,false, "", "runtime",8⟩,⟨ "asserted",17,2,false, "", "runtime",16⟩,⟨ "missingMethod",9,3,false, "", "runtime",24⟩],4,40,.tuple []⟩
theorem aeT:cG P 180 Ow:=jO ag ag rfl
abbrev NX:TI:=⟨.struct #[⟨ "_interface",17,0,false, "", "runtime",0⟩,⟨ "concrete",17,1,false, "", "runtime",8⟩,⟨ "asserted",17,2,false, "", "runtime",16⟩,⟨ "missingMethod",9,3,false, "", "runtime",24⟩],4,40,.tuple []⟩
theorem adX:cG P 181 NX:=jO ag ag rfl
abbrev Io:TI:=⟨.int .u8,1,1,.int .u8 0⟩
theorem aeo:cG P 186 Io:=eR ag ag ag
abbrev M6:TI:=⟨.int .u8,1,1,.int .u8 0⟩
theorem abR:cG P 187 M6:=eR ag ag ag
abbrev LU:TI:=⟨.pointer 5,1,8,.tuple []⟩
theorem abL:cG P 189 LU:=jO ag ag rfl
abbrev Nq:TI:=⟨.int .i32,1,4,.int .i32 0⟩
theorem ad1:cG P 190 Nq:=eR ag ag ag
abbrev MU:TI:=⟨.int .i32,1,4,.int .i32 0⟩
theorem ZK:cG P 191 MU:=eR ag ag ag
abbrev Ml:TI:=⟨.struct #[⟨ "Size_",12,0,false, "", "",0⟩,⟨ "PtrBytes",12,1,false, "", "",8⟩,⟨ "Hash",138,2,false, "", "",16⟩,⟨ "TFlag",186,3,false, "", "",20⟩,⟨ "Align_",5,4,false, "", "",21⟩,⟨ "FieldAlign_",5,5,false, "", "",22⟩,⟨ "Kind_",187,6,false, "", "",23⟩,⟨ "Equal",188,7,false, "", "",24⟩,⟨ "GCData",189,8,false, "", "",32⟩,⟨ "Str",190,9,false, "", "",40⟩,⟨ "PtrToThis",191,10,false, "", "",44⟩],11,48,.tuple []⟩
theorem QL:cG P 192 Ml:=jO ag ag rfl
abbrev Ic:TI:=⟨.struct #[⟨ "Size_",12,0,false, "", "",0⟩,⟨ "PtrBytes",12,1,false, "", "",8⟩,⟨ "Hash",138,2,false, "", "",16⟩,⟨ "TFlag",186,3,false, "", "",20⟩,⟨ "Align_",5,4,false, "", "",21⟩,⟨ "FieldAlign_",5,5,false, "", "",22⟩,⟨ "Kind_",187,6,false, "", "",23⟩,⟨ "Equal",188,7,false, "", "",24⟩,⟨ "GCData",189,8,false, "", "",32⟩,⟨ "Str",190,9,false, "", "",40⟩,⟨ "PtrToThis",191,10,false, "", "",44⟩],11,48,.tuple []⟩
theorem Ti:cG P 193 Ic:=jO ag ag rfl
abbrev T:Types:=[(2,F7),(3,MX),(4,Md),(5,HM),(6,KJ),(7,IX),(8,Mo),(9,GY),(10,Jb),(11,IL),(12,La),(13,Iw),(14,Gy),(15,Kh),(16,Iv),(17,LY),(18,HB),(19,Nn),(21,Ob),(22,HS),(25,Ng),(26,JK),(28,OD),(30,GH),(31,Jo),(32,Np),(34,Li),(38,Kb),(46,Hx),(47,JG),(48,Mm),(49,Oi),(61,IM),(81,LJ),(83,Gp),(84,Ht),(85,M8),(87,GO),(88,Kr),(92,Kj),(94,J7),(95,Nm),(96,M9),(134,Kt),(138,G4),(150,Ij),(158,MQ),(180,Ow),(181,NX),(186,Io),(187,M6),(189,LU),(190,Nq),(191,MU),(192,Ml),(193,Ic)]
theorem hT:ep P T:=cU Uw (cU Qk (cU Z5 (cU Rq (cU ok6 (cU ok7 (cU Vx (cU YQ (cU Vu (cU ade (cU Vw (cU UC (cU UU (cU aal (cU Sy (cU aaY (cU Pk (cU SF (cU Zy (cU Zh (cU abN (cU Tx (cU Y6 (cU Um (cU U2 (cU aee (cU SZ (cU Zj (cU Q2 (cU Xe (cU Vh (cU aaI (cU Zq (cU Uz (cU Yh (cU ON (cU We (cU UZ (cU Ud (cU P2 (cU RC (cU adi (cU aaf (cU Ql (cU abt (cU Pg (cU YR (cU aeT (cU adX (cU aeo (cU abR (cU abL (cU ad1 (cU ZK (cU QL (cU Ti (abp))))))))))))))))))))))))))))))))))))))))))))))))))))))))
end Go.Am.N
