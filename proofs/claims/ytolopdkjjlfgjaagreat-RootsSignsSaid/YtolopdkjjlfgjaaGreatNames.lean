/- The seat's names: the numbers of functions, the types. Written by a program. -/
import Derived.Test.YtolopdkjjlfgjaaGreatZ2
import Derived.Test.YtolopdkjjlfgjaaGreatProg
import Derived.KernelRfl
set_option linter.unusedVariables false
namespace Go.Am.N
open Go.Proofs
theorem ah.{u} {α:Sort u} {a b:α} (h:a=b:=by kernel_rfl):a=b:=h
theorem bh {p:Prop} [Decidable p] (h:decide p=true:=by kernel_rfl):p:=of_decide_eq_true h
noncomputable abbrev P:Program:=Tryz.prog
abbrev bu (f:FuncId) (fn:Func):Prop:=jP P f fn (aK fn)
theorem bC {f:FuncId} {fn:Func} (h:P.funcs[f]?=some fn) (h1:fn.body.isSome=true:=by kernel_rfl) (h2:(fn.name== "runtime.NumGoroutine")=false:=by kernel_rfl) (h3:cO fn.ntmps (aK fn)=true:=by kernel_rfl):bu f fn:=XP h h1 h2 h3
theorem hm:P.follows .mixedOrders=true:=by kernel_rfl
abbrev M7:TI:=⟨.int .i64,1,8,.int .i64 0⟩
theorem ok2:cY P 2 M7:=fM ah ah ah
abbrev Ju:TI:=⟨.int .i64,1,8,.int .i64 0⟩
theorem ok3:cY P 3 Ju:=fM ah ah ah
abbrev O3:TI:=⟨.bool,1,1,.bool false⟩
theorem ok4:cY P 4 O3:=fM ah ah ah
abbrev OG:TI:=⟨.int .u8,1,1,.int .u8 0⟩
theorem ok5:cY P 5 OG:=fM ah ah ah
abbrev MZ:TI:=⟨.int .u8,1,1,.int .u8 0⟩
theorem ok6:cY P 6 MZ:=fM ah ah ah
abbrev Q3:TI:=⟨.struct #[⟨ "x",2,0,false, "", "runtime",0⟩,⟨ "y",3,1,false, "", "runtime",8⟩,⟨ "signed",4,2,false, "", "runtime",16⟩,⟨ "code",6,3,false, "", "runtime",17⟩],4,24,.agg [.int .i64 0,.int .i64 0,.bool false,.int .u8 0]⟩
theorem Yj:cY P 7 Q3:=fM ah ah ah
abbrev Lm:TI:=⟨.struct #[⟨ "x",2,0,false, "", "runtime",0⟩,⟨ "y",3,1,false, "", "runtime",8⟩,⟨ "signed",4,2,false, "", "runtime",16⟩,⟨ "code",6,3,false, "", "runtime",17⟩],4,24,.agg [.int .i64 0,.int .i64 0,.bool false,.int .u8 0]⟩
theorem ok8:cY P 8 Lm:=fM ah ah ah
abbrev Rz:TI:=⟨.string,1,16,.tuple []⟩
theorem ok9:cY P 9 Rz:=kP ah ah rfl
abbrev ME:TI:=⟨.string,1,16,.tuple []⟩
theorem ajv:cY P 10 ME:=kP ah ah rfl
abbrev Mk:TI:=⟨.string,1,16,.tuple []⟩
theorem TA:cY P 11 Mk:=kP ah ah rfl
abbrev MH:TI:=⟨.int .u64,1,8,.int .u64 0⟩
theorem Zd:cY P 12 MH:=fM ah ah ah
abbrev NT:TI:=⟨.struct #[⟨ "msg",9,0,false, "", "runtime",0⟩,⟨ "addr",12,1,false, "", "runtime",16⟩],2,24,.tuple []⟩
theorem Y5:cY P 13 NT:=kP ah ah rfl
abbrev JU:TI:=⟨.struct #[⟨ "msg",9,0,false, "", "runtime",0⟩,⟨ "addr",12,1,false, "", "runtime",16⟩],2,24,.tuple []⟩
theorem ajf:cY P 14 JU:=kP ah ah rfl
abbrev Q8:TI:=⟨.pointer 181,1,8,.tuple []⟩
theorem ab1:cY P 15 Q8:=kP ah ah rfl
abbrev PV:TI:=⟨.pointer 184,1,8,.tuple []⟩
theorem X4:cY P 16 PV:=kP ah ah rfl
abbrev MK:TI:=⟨.pointer 193,1,8,.tuple []⟩
theorem XL:cY P 17 MK:=kP ah ah rfl
abbrev OL:TI:=⟨.struct #[⟨ "typ",17,0,false, "", "internal/runtime/maps",0⟩],1,8,.tuple []⟩
theorem Xa:cY P 18 OL:=kP ah ah rfl
abbrev KT:TI:=⟨.struct #[⟨ "typ",17,0,false, "", "internal/runtime/maps",0⟩],1,8,.tuple []⟩
theorem Zu:cY P 19 KT:=kP ah ah rfl
abbrev Qy:TI:=⟨.int .i32,1,4,.int .i32 0⟩
theorem Sq:cY P 21 Qy:=fM ah ah ah
abbrev Lj:TI:=⟨.slice 3,1,24,.nil⟩
theorem T3:cY P 22 Lj:=fM ah ah ah
abbrev Qh:TI:=⟨.slice 32,1,24,.nil⟩
theorem T9:cY P 25 Qh:=fM ah ah ah
abbrev L6:TI:=⟨.slice 32,1,24,.nil⟩
theorem aib:cY P 26 L6:=fM ah ah ah
abbrev JY:TI:=⟨.pointer 84,1,8,.tuple []⟩
theorem aeo:cY P 28 JY:=kP ah ah rfl
abbrev NY:TI:=⟨.slice 138,1,24,.nil⟩
theorem TN:cY P 30 NY:=fM ah ah ah
abbrev Pk:TI:=⟨.struct #[⟨ "Neg",4,0,false, "", "",0⟩,⟨ "Num",30,1,false, "", "",8⟩,⟨ "Den",30,2,false, "", "",32⟩],3,56,.agg [.bool false,.nil,.nil]⟩
theorem ajq:cY P 31 Pk:=fM ah ah ah
abbrev Jy:TI:=⟨.struct #[⟨ "Neg",4,0,false, "", "",0⟩,⟨ "Num",30,1,false, "", "",8⟩,⟨ "Den",30,2,false, "", "",32⟩],3,56,.rat 0 1⟩
theorem Wr:cY P 32 Jy:=fM ah ah ah
abbrev MQ:TI:=⟨.int .i64,1,8,.int .i64 0⟩
theorem ajO:cY P 34 MQ:=fM ah ah ah
abbrev Kl:TI:=⟨.slice 49,1,24,.nil⟩
theorem Zp:cY P 38 Kl:=fM ah ah ah
abbrev JQ:TI:=⟨.struct #[⟨ "Lo",32,0,false, "", "",0⟩,⟨ "Hi",32,3,false, "", "",56⟩],6,112,.agg [.rat 0 1,.rat 0 1]⟩
theorem ZS:cY P 46 JQ:=fM ah ah ah
abbrev Qi:TI:=⟨.struct #[⟨ "Lo",32,0,false, "", "",0⟩,⟨ "Hi",32,3,false, "", "",56⟩],6,112,.agg [.rat 0 1,.rat 0 1]⟩
theorem XB:cY P 47 Qi:=fM ah ah ah
abbrev LI:TI:=⟨.struct #[⟨ "In",47,0,false, "", "",0⟩,⟨ "Times",3,6,false, "", "",112⟩],7,120,.agg [.agg [.rat 0 1,.rat 0 1],.int .i64 0]⟩
theorem ajU:cY P 48 LI:=fM ah ah ah
abbrev JV:TI:=⟨.struct #[⟨ "In",47,0,false, "", "",0⟩,⟨ "Times",3,6,false, "", "",112⟩],7,120,.agg [.agg [.rat 0 1,.rat 0 1],.int .i64 0]⟩
theorem ado:cY P 49 JV:=fM ah ah ah
abbrev RF:TI:=⟨.slice 26,1,24,.nil⟩
theorem Uk:cY P 61 RF:=fM ah ah ah
abbrev ML:TI:=⟨.slice 2,1,24,.nil⟩
theorem adJ:cY P 81 ML:=fM ah ah ah
abbrev Jz:TI:=⟨.struct #[⟨ "L",22,0,false, "", "",0⟩,⟨ "At",3,1,false, "", "",24⟩],2,32,.agg [.nil,.int .i64 0]⟩
theorem UH:cY P 83 Jz:=fM ah ah ah
abbrev L8:TI:=⟨.struct #[⟨ "L",22,0,false, "", "",0⟩,⟨ "At",3,1,false, "", "",24⟩],2,32,.agg [.nil,.int .i64 0]⟩
theorem TM:cY P 84 L8:=fM ah ah ah
abbrev NL:TI:=⟨.slice 32,1,24,.nil⟩
theorem adr:cY P 85 NL:=fM ah ah ah
abbrev Rj:TI:=⟨.slice 85,1,24,.nil⟩
theorem XK:cY P 87 Rj:=fM ah ah ah
abbrev Mu:TI:=⟨.slice 85,1,24,.nil⟩
theorem XS:cY P 88 Mu:=fM ah ah ah
abbrev Ng:TI:=⟨.slice 25,1,24,.nil⟩
theorem ahz:cY P 92 Ng:=fM ah ah ah
abbrev Pp:TI:=⟨.slice 47,1,24,.nil⟩
theorem VZ:cY P 94 Pp:=fM ah ah ah
abbrev MY:TI:=⟨.func #[32] #[4] false,1,8,.void⟩
theorem WL:cY P 95 MY:=KJ ah ah rfl
abbrev Lc:TI:=⟨.func #[32,32] #[] false,1,8,.void⟩
theorem Xu:cY P 96 Lc:=KJ ah ah rfl
abbrev PX:TI:=⟨.int .u64,1,8,.int .u64 0⟩
theorem aim:cY P 134 PX:=fM ah ah ah
abbrev Nz:TI:=⟨.int .u32,1,4,.int .u32 0⟩
theorem XY:cY P 138 Nz:=fM ah ah ah
abbrev JG:TI:=⟨.int .u64,1,8,.int .u64 0⟩
theorem YU:cY P 150 JG:=fM ah ah ah
abbrev MG:TI:=⟨.slice 5,1,24,.nil⟩
theorem Ys:cY P 158 MG:=fM ah ah ah
abbrev QI:TI:=⟨.struct #[⟨ "_interface",17,0,false, "", "runtime",0⟩,⟨ "concrete",17,1,false, "", "runtime",8⟩,⟨ "asserted",17,2,false, "", "runtime",16⟩,⟨ "missingMethod",9,3,false, "", "runtime",24⟩],4,40,.tuple []⟩
theorem XN:cY P 180 QI:=kP ah ah rfl
abbrev Lt:TI:=⟨.struct #[⟨ "_interface",17,0,false, "", "runtime",0⟩,⟨ "concrete",17,1,false, "", "runtime",8⟩,⟨ "asserted",17,2,false, "", "runtime",16⟩,⟨ "missingMethod",9,3,false, "", "runtime",24⟩],4,40,.tuple []⟩
theorem adD:cY P 181 Lt:=kP ah ah rfl
abbrev PB:TI:=⟨.int .u8,1,1,.int .u8 0⟩
theorem acW:cY P 186 PB:=fM ah ah ah
abbrev K6:TI:=⟨.int .u8,1,1,.int .u8 0⟩
theorem U0:cY P 187 K6:=fM ah ah ah
abbrev N4:TI:=⟨.pointer 5,1,8,.tuple []⟩
theorem Zb:cY P 189 N4:=kP ah ah rfl
abbrev MS:TI:=⟨.int .i32,1,4,.int .i32 0⟩
theorem Vk:cY P 190 MS:=fM ah ah ah
abbrev KH:TI:=⟨.int .i32,1,4,.int .i32 0⟩
theorem Yu:cY P 191 KH:=fM ah ah ah
abbrev Qe:TI:=⟨.struct #[⟨ "Size_",12,0,false, "", "",0⟩,⟨ "PtrBytes",12,1,false, "", "",8⟩,⟨ "Hash",138,2,false, "", "",16⟩,⟨ "TFlag",186,3,false, "", "",20⟩,⟨ "Align_",5,4,false, "", "",21⟩,⟨ "FieldAlign_",5,5,false, "", "",22⟩,⟨ "Kind_",187,6,false, "", "",23⟩,⟨ "Equal",188,7,false, "", "",24⟩,⟨ "GCData",189,8,false, "", "",32⟩,⟨ "Str",190,9,false, "", "",40⟩,⟨ "PtrToThis",191,10,false, "", "",44⟩],11,48,.tuple []⟩
theorem abz:cY P 192 Qe:=kP ah ah rfl
abbrev MU:TI:=⟨.struct #[⟨ "Size_",12,0,false, "", "",0⟩,⟨ "PtrBytes",12,1,false, "", "",8⟩,⟨ "Hash",138,2,false, "", "",16⟩,⟨ "TFlag",186,3,false, "", "",20⟩,⟨ "Align_",5,4,false, "", "",21⟩,⟨ "FieldAlign_",5,5,false, "", "",22⟩,⟨ "Kind_",187,6,false, "", "",23⟩,⟨ "Equal",188,7,false, "", "",24⟩,⟨ "GCData",189,8,false, "", "",32⟩,⟨ "Str",190,9,false, "", "",40⟩,⟨ "PtrToThis",191,10,false, "", "",44⟩],11,48,.tuple []⟩
theorem Wc:cY P 193 MU:=kP ah ah rfl
abbrev T:Types:=[(2,M7),(3,Ju),(4,O3),(5,OG),(6,MZ),(7,Q3),(8,Lm),(9,Rz),(10,ME),(11,Mk),(12,MH),(13,NT),(14,JU),(15,Q8),(16,PV),(17,MK),(18,OL),(19,KT),(21,Qy),(22,Lj),(25,Qh),(26,L6),(28,JY),(30,NY),(31,Pk),(32,Jy),(34,MQ),(38,Kl),(46,JQ),(47,Qi),(48,LI),(49,JV),(61,RF),(81,ML),(83,Jz),(84,L8),(85,NL),(87,Rj),(88,Mu),(92,Ng),(94,Pp),(95,MY),(96,Lc),(134,PX),(138,Nz),(150,JG),(158,MG),(180,QI),(181,Lt),(186,PB),(187,K6),(189,N4),(190,MS),(191,KH),(192,Qe),(193,MU)]
theorem hT:fm P T:=dN ok2 (dN ok3 (dN ok4 (dN ok5 (dN ok6 (dN Yj (dN ok8 (dN ok9 (dN ajv (dN TA (dN Zd (dN Y5 (dN ajf (dN ab1 (dN X4 (dN XL (dN Xa (dN Zu (dN Sq (dN T3 (dN T9 (dN aib (dN aeo (dN TN (dN ajq (dN Wr (dN ajO (dN Zp (dN ZS (dN XB (dN ajU (dN ado (dN Uk (dN adJ (dN UH (dN TM (dN adr (dN XK (dN XS (dN ahz (dN VZ (dN WL (dN Xu (dN aim (dN XY (dN YU (dN Ys (dN XN (dN adD (dN acW (dN U0 (dN Zb (dN Vk (dN Yu (dN abz (dN Wc (WJ))))))))))))))))))))))))))))))))))))))))))))))))))))))))
end Go.Am.N
