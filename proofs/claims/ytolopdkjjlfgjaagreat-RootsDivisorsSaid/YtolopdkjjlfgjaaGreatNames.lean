/- The seat's names: the numbers of functions, the types. Written by a program. -/
import Derived.Test.YtolopdkjjlfgjaaGreatZ2
import Derived.Test.YtolopdkjjlfgjaaGreatProg
import Derived.KernelRfl
set_option linter.unusedVariables false
namespace Go.Am.N
open Go.Proofs
theorem ag.{u} {α:Sort u} {a b:α} (h:a=b:=by kernel_rfl):a=b:=h
theorem aW {p:Prop} [Decidable p] (h:decide p=true:=by kernel_rfl):p:=of_decide_eq_true h
noncomputable abbrev P:Program:=Tryz.prog
abbrev aX (f:FuncId) (fn:Func):Prop:=iO P f fn (aG fn)
theorem aY {f:FuncId} {fn:Func} (h:P.funcs[f]?=some fn) (h1:fn.body.isSome=true:=by kernel_rfl) (h2:(fn.name== "runtime.NumGoroutine")=false:=by kernel_rfl) (h3:b7 fn.ntmps (aG fn)=true:=by kernel_rfl):aX f fn:=Ph h h1 h2 h3
theorem hm:P.follows .mixedOrders=true:=by kernel_rfl
abbrev FA:TI:=⟨.int .i64,1,8,.int .i64 0⟩
theorem VX:cw P 2 FA:=eu ag ag ag
abbrev JE:TI:=⟨.int .i64,1,8,.int .i64 0⟩
theorem ok3:cw P 3 JE:=eu ag ag ag
abbrev FM:TI:=⟨.bool,1,1,.bool false⟩
theorem S8:cw P 4 FM:=eu ag ag ag
abbrev JL:TI:=⟨.int .u8,1,1,.int .u8 0⟩
theorem S2:cw P 5 JL:=eu ag ag ag
abbrev HT:TI:=⟨.int .u8,1,1,.int .u8 0⟩
theorem SV:cw P 6 HT:=eu ag ag ag
abbrev FO:TI:=⟨.struct #[⟨ "x",2,0,false, "", "runtime",0⟩,⟨ "y",3,1,false, "", "runtime",8⟩,⟨ "signed",4,2,false, "", "runtime",16⟩,⟨ "code",6,3,false, "", "runtime",17⟩],4,24,.agg [.int .i64 0,.int .i64 0,.bool false,.int .u8 0]⟩
theorem OV:cw P 7 FO:=eu ag ag ag
abbrev Ir:TI:=⟨.struct #[⟨ "x",2,0,false, "", "runtime",0⟩,⟨ "y",3,1,false, "", "runtime",8⟩,⟨ "signed",4,2,false, "", "runtime",16⟩,⟨ "code",6,3,false, "", "runtime",17⟩],4,24,.agg [.int .i64 0,.int .i64 0,.bool false,.int .u8 0]⟩
theorem ZO:cw P 8 Ir:=eu ag ag ag
abbrev E7:TI:=⟨.string,1,16,.tuple []⟩
theorem Wi:cw P 9 E7:=jA ag ag rfl
abbrev FY:TI:=⟨.string,1,16,.tuple []⟩
theorem aaQ:cw P 10 FY:=jA ag ag rfl
abbrev Mb:TI:=⟨.string,1,16,.tuple []⟩
theorem QO:cw P 11 Mb:=jA ag ag rfl
abbrev Ng:TI:=⟨.int .u64,1,8,.int .u64 0⟩
theorem QC:cw P 12 Ng:=eu ag ag ag
abbrev Lp:TI:=⟨.struct #[⟨ "msg",9,0,false, "", "runtime",0⟩,⟨ "addr",12,1,false, "", "runtime",16⟩],2,24,.tuple []⟩
theorem YE:cw P 13 Lp:=jA ag ag rfl
abbrev Hr:TI:=⟨.struct #[⟨ "msg",9,0,false, "", "runtime",0⟩,⟨ "addr",12,1,false, "", "runtime",16⟩],2,24,.tuple []⟩
theorem PR:cw P 14 Hr:=jA ag ag rfl
abbrev Nf:TI:=⟨.pointer 181,1,8,.tuple []⟩
theorem Oi:cw P 15 Nf:=jA ag ag rfl
abbrev Lh:TI:=⟨.pointer 184,1,8,.tuple []⟩
theorem aan:cw P 16 Lh:=jA ag ag rfl
abbrev MK:TI:=⟨.pointer 193,1,8,.tuple []⟩
theorem WA:cw P 17 MK:=jA ag ag rfl
abbrev GY:TI:=⟨.struct #[⟨ "typ",17,0,false, "", "internal/runtime/maps",0⟩],1,8,.tuple []⟩
theorem Vn:cw P 18 GY:=jA ag ag rfl
abbrev F8:TI:=⟨.struct #[⟨ "typ",17,0,false, "", "internal/runtime/maps",0⟩],1,8,.tuple []⟩
theorem YC:cw P 19 F8:=jA ag ag rfl
abbrev Io:TI:=⟨.int .i32,1,4,.int .i32 0⟩
theorem Sy:cw P 21 Io:=eu ag ag ag
abbrev KP:TI:=⟨.slice 3,1,24,.nil⟩
theorem Xr:cw P 22 KP:=eu ag ag ag
abbrev LX:TI:=⟨.slice 32,1,24,.nil⟩
theorem TN:cw P 25 LX:=eu ag ag ag
abbrev JU:TI:=⟨.slice 32,1,24,.nil⟩
theorem adF:cw P 26 JU:=eu ag ag ag
abbrev Ku:TI:=⟨.pointer 84,1,8,.tuple []⟩
theorem Ub:cw P 28 Ku:=jA ag ag rfl
abbrev HA:TI:=⟨.slice 138,1,24,.nil⟩
theorem RT:cw P 30 HA:=eu ag ag ag
abbrev K8:TI:=⟨.struct #[⟨ "Neg",4,0,false, "", "",0⟩,⟨ "Num",30,1,false, "", "",8⟩,⟨ "Den",30,2,false, "", "",32⟩],3,56,.agg [.bool false,.nil,.nil]⟩
theorem acw:cw P 31 K8:=eu ag ag ag
abbrev Iv:TI:=⟨.struct #[⟨ "Neg",4,0,false, "", "",0⟩,⟨ "Num",30,1,false, "", "",8⟩,⟨ "Den",30,2,false, "", "",32⟩],3,56,.rat 0 1⟩
theorem abY:cw P 32 Iv:=eu ag ag ag
abbrev Fs:TI:=⟨.int .i64,1,8,.int .i64 0⟩
theorem TH:cw P 34 Fs:=eu ag ag ag
abbrev I8:TI:=⟨.slice 49,1,24,.nil⟩
theorem R9:cw P 38 I8:=eu ag ag ag
abbrev HP:TI:=⟨.struct #[⟨ "Lo",32,0,false, "", "",0⟩,⟨ "Hi",32,3,false, "", "",56⟩],6,112,.agg [.rat 0 1,.rat 0 1]⟩
theorem adZ:cw P 46 HP:=eu ag ag ag
abbrev Kb:TI:=⟨.struct #[⟨ "Lo",32,0,false, "", "",0⟩,⟨ "Hi",32,3,false, "", "",56⟩],6,112,.agg [.rat 0 1,.rat 0 1]⟩
theorem Uy:cw P 47 Kb:=eu ag ag ag
abbrev Mn:TI:=⟨.struct #[⟨ "In",47,0,false, "", "",0⟩,⟨ "Times",3,6,false, "", "",112⟩],7,120,.agg [.agg [.rat 0 1,.rat 0 1],.int .i64 0]⟩
theorem WD:cw P 48 Mn:=eu ag ag ag
abbrev Hu:TI:=⟨.struct #[⟨ "In",47,0,false, "", "",0⟩,⟨ "Times",3,6,false, "", "",112⟩],7,120,.agg [.agg [.rat 0 1,.rat 0 1],.int .i64 0]⟩
theorem abL:cw P 49 Hu:=eu ag ag ag
abbrev Fi:TI:=⟨.slice 26,1,24,.nil⟩
theorem WJ:cw P 61 Fi:=eu ag ag ag
abbrev MA:TI:=⟨.slice 2,1,24,.nil⟩
theorem adm:cw P 81 MA:=eu ag ag ag
abbrev K0:TI:=⟨.struct #[⟨ "L",22,0,false, "", "",0⟩,⟨ "At",3,1,false, "", "",24⟩],2,32,.agg [.nil,.int .i64 0]⟩
theorem Ys:cw P 83 K0:=eu ag ag ag
abbrev Mo:TI:=⟨.struct #[⟨ "L",22,0,false, "", "",0⟩,⟨ "At",3,1,false, "", "",24⟩],2,32,.agg [.nil,.int .i64 0]⟩
theorem Xw:cw P 84 Mo:=eu ag ag ag
abbrev Ij:TI:=⟨.slice 32,1,24,.nil⟩
theorem To:cw P 85 Ij:=eu ag ag ag
abbrev GL:TI:=⟨.slice 85,1,24,.nil⟩
theorem Q0:cw P 87 GL:=eu ag ag ag
abbrev HJ:TI:=⟨.slice 85,1,24,.nil⟩
theorem U5:cw P 88 HJ:=eu ag ag ag
abbrev LR:TI:=⟨.slice 25,1,24,.nil⟩
theorem NC:cw P 92 LR:=eu ag ag ag
abbrev J5:TI:=⟨.slice 47,1,24,.nil⟩
theorem SB:cw P 94 J5:=eu ag ag ag
abbrev Jy:TI:=⟨.func #[32] #[4] false,1,8,.void⟩
theorem Rn:cw P 95 Jy:=MH ag ag rfl
abbrev FH:TI:=⟨.func #[32,32] #[] false,1,8,.void⟩
theorem PM:cw P 96 FH:=MH ag ag rfl
abbrev IN:TI:=⟨.int .u64,1,8,.int .u64 0⟩
theorem Tp:cw P 134 IN:=eu ag ag ag
abbrev M6:TI:=⟨.int .u32,1,4,.int .u32 0⟩
theorem YZ:cw P 138 M6:=eu ag ag ag
abbrev LI:TI:=⟨.int .u64,1,8,.int .u64 0⟩
theorem PG:cw P 150 LI:=eu ag ag ag
abbrev JK:TI:=⟨.slice 5,1,24,.nil⟩
theorem acX:cw P 158 JK:=eu ag ag ag
abbrev FE:TI:=⟨.struct #[⟨ "_interface",17,0,false, "", "runtime",0⟩,⟨ "concrete",17,1,false, "", "runtime",8⟩,⟨ "asserted",17,2,false, "", "runtime",16⟩,⟨ "missingMethod",9,3,false, "", "runtime",24⟩],4,40,.tuple []⟩
theorem U3:cw P 180 FE:=jA ag ag rfl
abbrev KA:TI:=⟨.struct #[⟨ "_interface",17,0,false, "", "runtime",0⟩,⟨ "concrete",17,1,false, "", "runtime",8⟩,⟨ "asserted",17,2,false, "", "runtime",16⟩,⟨ "missingMethod",9,3,false, "", "runtime",24⟩],4,40,.tuple []⟩
theorem ZX:cw P 181 KA:=jA ag ag rfl
abbrev LP:TI:=⟨.int .u8,1,1,.int .u8 0⟩
theorem adJ:cw P 186 LP:=eu ag ag ag
abbrev Ib:TI:=⟨.int .u8,1,1,.int .u8 0⟩
theorem RC:cw P 187 Ib:=eu ag ag ag
abbrev Jp:TI:=⟨.pointer 5,1,8,.tuple []⟩
theorem aa2:cw P 189 Jp:=jA ag ag rfl
abbrev E1:TI:=⟨.int .i32,1,4,.int .i32 0⟩
theorem W8:cw P 190 E1:=eu ag ag ag
abbrev HO:TI:=⟨.int .i32,1,4,.int .i32 0⟩
theorem NL:cw P 191 HO:=eu ag ag ag
abbrev GI:TI:=⟨.struct #[⟨ "Size_",12,0,false, "", "",0⟩,⟨ "PtrBytes",12,1,false, "", "",8⟩,⟨ "Hash",138,2,false, "", "",16⟩,⟨ "TFlag",186,3,false, "", "",20⟩,⟨ "Align_",5,4,false, "", "",21⟩,⟨ "FieldAlign_",5,5,false, "", "",22⟩,⟨ "Kind_",187,6,false, "", "",23⟩,⟨ "Equal",188,7,false, "", "",24⟩,⟨ "GCData",189,8,false, "", "",32⟩,⟨ "Str",190,9,false, "", "",40⟩,⟨ "PtrToThis",191,10,false, "", "",44⟩],11,48,.tuple []⟩
theorem aaT:cw P 192 GI:=jA ag ag rfl
abbrev Fq:TI:=⟨.struct #[⟨ "Size_",12,0,false, "", "",0⟩,⟨ "PtrBytes",12,1,false, "", "",8⟩,⟨ "Hash",138,2,false, "", "",16⟩,⟨ "TFlag",186,3,false, "", "",20⟩,⟨ "Align_",5,4,false, "", "",21⟩,⟨ "FieldAlign_",5,5,false, "", "",22⟩,⟨ "Kind_",187,6,false, "", "",23⟩,⟨ "Equal",188,7,false, "", "",24⟩,⟨ "GCData",189,8,false, "", "",32⟩,⟨ "Str",190,9,false, "", "",40⟩,⟨ "PtrToThis",191,10,false, "", "",44⟩],11,48,.tuple []⟩
theorem Y2:cw P 193 Fq:=jA ag ag rfl
abbrev T:Types:=[(2,FA),(3,JE),(4,FM),(5,JL),(6,HT),(7,FO),(8,Ir),(9,E7),(10,FY),(11,Mb),(12,Ng),(13,Lp),(14,Hr),(15,Nf),(16,Lh),(17,MK),(18,GY),(19,F8),(21,Io),(22,KP),(25,LX),(26,JU),(28,Ku),(30,HA),(31,K8),(32,Iv),(34,Fs),(38,I8),(46,HP),(47,Kb),(48,Mn),(49,Hu),(61,Fi),(81,MA),(83,K0),(84,Mo),(85,Ij),(87,GL),(88,HJ),(92,LR),(94,J5),(95,Jy),(96,FH),(134,IN),(138,M6),(150,LI),(158,JK),(180,FE),(181,KA),(186,LP),(187,Ib),(189,Jp),(190,E1),(191,HO),(192,GI),(193,Fq)]
theorem hT:dM P T:=cJ VX (cJ ok3 (cJ S8 (cJ S2 (cJ SV (cJ OV (cJ ZO (cJ Wi (cJ aaQ (cJ QO (cJ QC (cJ YE (cJ PR (cJ Oi (cJ aan (cJ WA (cJ Vn (cJ YC (cJ Sy (cJ Xr (cJ TN (cJ adF (cJ Ub (cJ RT (cJ acw (cJ abY (cJ TH (cJ R9 (cJ adZ (cJ Uy (cJ WD (cJ abL (cJ WJ (cJ adm (cJ Ys (cJ Xw (cJ To (cJ Q0 (cJ U5 (cJ NC (cJ SB (cJ Rn (cJ PM (cJ Tp (cJ YZ (cJ PG (cJ acX (cJ U3 (cJ ZX (cJ adJ (cJ RC (cJ aa2 (cJ W8 (cJ NL (cJ aaT (cJ Y2 (adi))))))))))))))))))))))))))))))))))))))))))))))))))))))))
end Go.Am.N
