/- ref01: minus, Sub, Mul, byLimb. -/
import Derived.Test.YtppeigelbecpbaaGreatB23
set_option linter.unusedVariables false
namespace Go.Am.B
open Go Go.Am.N AV
theorem Vi:aO P uh qG (au qG):=aP SX (by kernel_rfl) (by kernel_rfl) (by kernel_rfl)
theorem ahW:aO P Ag zC (au zC):=aP aby (by kernel_rfl) (by kernel_rfl) (by kernel_rfl)
theorem ah4:aO P tv kg (au kg):=aP Xj (by kernel_rfl) (by kernel_rfl) (by kernel_rfl)
theorem Qn:aO P rU pK (au pK):=aP Rg (by kernel_rfl) (by kernel_rfl) (by kernel_rfl)
abbrev mH:List Nat:=[0,1,5,6,7]
abbrev AJ (A B c i K:Nat):List AV:=[.mag A,.mag B,.own K 1 0 (nl A),.int .u64 c,.int .i64 i]
abbrev cH (K n:Nat) (o:Nat→Nat):aC:=[(K,⟨true,true,1,n,ay o⟩)]
noncomputable abbrev KM:Code:=part (au qG) [1,1,1,0,1,0,0]
theorem aiW {A B:Nat}:aK T dN [] 60 mH (before (au qG) [1,1,1,0,1]) ⟨aN 0 [.mag A,.mag B],[],0⟩=
  let c1:Int:=(↑(nl A):Int);some (aa.ag [(0:Int)≤c1∧c1≤c1∧c1≤(2:Int)^47∧c1*(↑(4:Nat):Int)≤(2:Int)^47] (aa.leaf ak.normal ([mag A,mag B,own 12288 1 0 c1.toNat,int IntKind.u64 (0:Int),int IntKind.i64 (0:Int)],[((12288:Nat),ah.mk true true 1 c1.toNat fun x↦int IntKind.u32 (0:Int))]))):=by kernel_rfl
theorem aj2 {A B c i:Nat} {o:Nat→Nat}:aK T dN [16,23,38] 60 mH [KM] ⟨aB mH (AJ A B c i 12288),cH 12288 (nl A) o,12289⟩=
  let c13:Int:=(↑c:Int);let c8:Int:=(↑i:Int);let c5:AV:=own 12288 1 0 (nl A);let c4:List AV:=[int IntKind.i64 (IntKind.i64.wrap (c8+(1:Int)))];let c1:Nat:=c8.toNat;let c11:Prop:=(0:Int)≤c8∧c1<nl A;let c10:List AV:=mag A::mag B::c5::int IntKind.u64 (0:Int)::c4;let c9:List AV:=mag A::mag B::c5::int IntKind.u64 (1:Int)::c4;let c7:Nat:=c1+0;let c3:Int:=IntKind.u64.wrap (c13+IntKind.u64.wrap (↑(az B c1):Int));let c2:Int:=IntKind.u64.wrap (↑(az A c1):Int);let c12:Int:=IntKind.u64.wrap (c2+(4294967296:Int));let c6:List Prop:=[c11,c7<nl A];some (aa.fork (decide (c8<(↑(nl A):Int))) (aa.fork (decide (c8<(↑(nl B):Int))) (aa.ag [(0:Int)≤c8∧c1<nl B] (aa.ag [c11] (aa.fork (decide (c2<c3)) (aa.ag c6 (aa.leaf ak.normal (c9,[((12288:Nat),ah.mk true true 1 (nl A) fun j↦if(j==c7)=true then int IntKind.u32 (IntKind.u32.wrap (IntKind.u64.wrap (c12-c3)))else ay o j)]))) (aa.ag c6 (aa.leaf ak.normal (c10,[((12288:Nat),ah.mk true true 1 (nl A) fun j↦if(j==c7)=true then int IntKind.u32 (IntKind.u32.wrap (IntKind.u64.wrap (c2-c3)))else ay o j)])))))) (aa.ag [c11] (aa.fork (decide (c2<c13)) (aa.ag c6 (aa.leaf ak.normal (c9,[((12288:Nat),ah.mk true true 1 (nl A) fun j↦if(j==c7)=true then int IntKind.u32 (IntKind.u32.wrap (IntKind.u64.wrap (c12-c13)))else ay o j)]))) (aa.ag c6 (aa.leaf ak.normal (c10,[((12288:Nat),ah.mk true true 1 (nl A) fun j↦if(j==c7)=true then int IntKind.u32 (IntKind.u32.wrap (IntKind.u64.wrap (c2-c13)))else ay o j)])))))) (aa.leaf (ak.exit 0) ([mag A,mag B,c5,int IntKind.u64 c13,int IntKind.i64 c8],[((12288:Nat),ah.mk true true 1 (nl A) fun a↦int IntKind.u32 (↑(o a):Int))]))):=by kernel_rfl
theorem ago {A B c i:Nat} {o:Nat→Nat}:bW T dN [] 60 qG (behind (au qG) [1,1,1,0,1]) ⟨aB mH (AJ A B c i 12288),cH 12288 (nl A) o,12289⟩=
  some (aa.ag [de (nl A) fun i↦ay o (i+0),nl A<2^40] (aa.leaf ak.ret [mag (val (nl A) fun i↦numOf (ay o (i+0)))])):=by kernel_rfl
abbrev jK:List Nat:=[0,1,5,6]
abbrev wu (A B i K:Nat):List AV:=[.mag A,.mag B,.own K 1 0 (nl A+nl B),.int .i64 i]
abbrev qa:List Nat:=[0,1,5,6,7,8]
abbrev Cq (A B i c j K:Nat):List AV:=[.mag A,.mag B,.own K 1 0 (nl A+nl B),.int .i64 i,.int .u64 c,.int .i64 j]
noncomputable abbrev nI:Code:=part (au kg) [1,1,0,1,0,0]
noncomputable abbrev tF:Code:=part nI [1,0,0]
theorem Rq {A B:Nat}:aK T dN [] 60 jK (before (au kg) [1,1,0,1]) ⟨aN 0 [.mag A,.mag B],[],0⟩=
  let c1:Int:=IntKind.i64.wrap ((↑(nl A):Int)+(↑(nl B):Int));some (aa.ag [(0:Int)≤c1∧c1≤c1∧c1≤(2:Int)^47∧c1*(↑(4:Nat):Int)≤(2:Int)^47] (aa.leaf ak.normal ([mag A,mag B,own 24576 1 0 c1.toNat,int IntKind.i64 (0:Int)],[((24576:Nat),ah.mk true true 1 c1.toNat fun x↦int IntKind.u32 (0:Int))]))):=by kernel_rfl
theorem Z3 {A B i:Nat} {o:Nat→Nat}:aK T dN [18] 60 jK [part nI [0]] ⟨aB jK (wu A B i 24576),cH 24576 (nl A+nl B) o,24577⟩=
  let c1:List AV×aC:=([mag A,mag B,own 24576 1 0 (nl A+nl B),int IntKind.i64 (↑i:Int)],[((24576:Nat),ah.mk true true 1 (nl A+nl B) fun a↦int IntKind.u32 (↑(o a):Int))]);some (aa.fork (decide ((↑i:Int)<(↑(nl A):Int))) (aa.leaf ak.normal c1) (aa.leaf (ak.exit 0) c1)):=by kernel_rfl
theorem Q0 {A B i:Nat} {o:Nat→Nat}:aK T dN [] 60 qa (before tF [1,0,1]) ⟨aB jK (wu A B i 24576),cH 24576 (nl A+nl B) o,24577⟩=
  some (aa.leaf ak.normal ([mag A,mag B,own 24576 1 0 (nl A+nl B),int IntKind.i64 (↑i:Int),int IntKind.u64 (0:Int),int IntKind.i64 (0:Int)],[((24576:Nat),ah.mk true true 1 (nl A+nl B) fun a↦int IntKind.u32 (↑(o a):Int))])):=by kernel_rfl
theorem aeB {A B i c j:Nat} {o:Nat→Nat}:aK T dN [24] 60 qa [part tF [1,0,1,0,0]] ⟨aB qa (Cq A B i c j 24576),cH 24576 (nl A+nl B) o,24577⟩=
  let c7:Int:=(↑i:Int);let c5:Int:=(↑j:Int);let c4:Nat:=nl A+nl B;let c6:AV:=own 24576 1 0 c4;let c1:Int:=IntKind.i64.wrap (c7+c5);let c3:Nat:=c1.toNat+0;let c8:List Prop:=[(0:Int)≤c1∧c1.toNat<c4,c3<c4];let c2:Int:=IntKind.u64.wrap ((↑c:Int)+IntKind.u64.wrap (IntKind.u64.wrap (IntKind.u64.wrap (↑(az A c7.toNat):Int)*IntKind.u64.wrap (↑(az B c5.toNat):Int))+IntKind.u64.wrap (↑(o c3):Int)));some (aa.fork (decide (c5<(↑(nl B):Int))) (aa.ag (((0:Int)≤c7∧c7.toNat<nl A)::((0:Int)≤c5∧c5.toNat<nl B)::c8) (aa.ag c8 (aa.ag [(0:Int)≤(32:Int)] (aa.leaf ak.normal ([mag A,mag B,c6,int IntKind.i64 c7,int IntKind.u64 (c2.fdiv ((2:Int)^min (Int.toNat (32:Int)) IntKind.u64.bits)),int IntKind.i64 (IntKind.i64.wrap (c5+(1:Int)))],[((24576:Nat),ah.mk true true 1 c4 fun j↦if(j==c3)=true then int IntKind.u32 (IntKind.u32.wrap c2)else ay o j)]))))) (aa.leaf (ak.exit 2) ([mag A,mag B,c6,int IntKind.i64 c7,int IntKind.u64 (↑c:Int),int IntKind.i64 c5],[((24576:Nat),ah.mk true true 1 c4 fun a↦int IntKind.u32 (↑(o a):Int))]))):=by kernel_rfl
theorem ZZ {A B i c j:Nat} {o:Nat→Nat}:aK T dN [] 60 jK (behind tF [1,0,1]) ⟨aB qa (Cq A B i c j 24576),cH 24576 (nl A+nl B) o,24577⟩=
  let c3:Nat:=nl A+nl B;let c1:Int:=IntKind.i64.wrap ((↑i:Int)+(↑(nl B):Int));let c2:Nat:=c1.toNat+0;some (aa.ag [(0:Int)≤c1∧c1.toNat<c3,c2<c3] (aa.leaf ak.normal ([mag A,mag B,own 24576 1 0 c3,int IntKind.i64 (↑i:Int)],[((24576:Nat),ah.mk true true 1 c3 fun j↦if(j==c2)=true then int IntKind.u32 (IntKind.u32.wrap (↑c:Int))else ay o j)]))):=by kernel_rfl
theorem Tr {A B i:Nat} {o:Nat→Nat}:aK T dN [] 60 jK [part nI [1,1]] ⟨aB jK (wu A B i 24576),cH 24576 (nl A+nl B) o,24577⟩=
  some (aa.leaf ak.normal ([mag A,mag B,own 24576 1 0 (nl A+nl B),int IntKind.i64 (IntKind.i64.wrap ((↑i:Int)+(1:Int)))],[((24576:Nat),ah.mk true true 1 (nl A+nl B) fun a↦int IntKind.u32 (↑(o a):Int))])):=by kernel_rfl
theorem acj {A B i:Nat} {o:Nat→Nat}:bW T dN [] 60 kg (behind (au kg) [1,1,0,1]) ⟨aB jK (wu A B i 24576),cH 24576 (nl A+nl B) o,24577⟩=
  some (aa.ag [de (nl A+nl B) fun i↦ay o (i+0),nl A+nl B<2^40] (aa.leaf ak.ret [mag (val (nl A+nl B) fun i↦numOf (ay o (i+0)))])):=by kernel_rfl
abbrev pg:List Nat:=[0,1,6,7,8]
abbrev FO (A b r k K:Nat):List AV:=[.mag A,.int .u32 b,.own K 1 0 (nl A),.int .u64 r,.int .i64 ((k:Int)-1)]
noncomputable abbrev Kv:Code:=part (au pK) [1,1,1,0,1,0,0]
theorem ZY {A b:Nat}:aK T dN [] 60 pg (before (au pK) [1,1,1,0,1]) ⟨aN 0 [.mag A,.int .u32 b],[],0⟩=
  let c1:Int:=(↑(nl A):Int);some (aa.ag [(0:Int)≤c1∧c1≤c1∧c1≤(2:Int)^47∧c1*(↑(4:Nat):Int)≤(2:Int)^47] (aa.leaf ak.normal ([mag A,int IntKind.u32 (↑b:Int),own 16384 1 0 c1.toNat,int IntKind.u64 (0:Int),int IntKind.i64 (IntKind.i64.wrap (c1-(1:Int)))],[((16384:Nat),ah.mk true true 1 c1.toNat fun x↦int IntKind.u32 (0:Int))]))):=by kernel_rfl
theorem adx {A b r k:Nat} {o:Nat→Nat}:aK T dN [16] 60 pg [Kv] ⟨aB pg (FO A b r k 16384),cH 16384 (nl A) o,16385⟩=
  let c7:AV:=int IntKind.u32 (↑b:Int);let c4:AV:=own 16384 1 0 (nl A);let c3:Int:=IntKind.u64.wrap (↑b:Int);let c2:Int:=(↑k:Int)-(1:Int);let c6:Prop:=(0:Int)≤c2∧c2.toNat<nl A;let c5:Nat:=c2.toNat+0;let c1:Int:=IntKind.u64.wrap (↑(BitVec.ofInt IntKind.u64.bits (IntKind.u64.wrap ((↑r:Int)*(2:Int)^min (Int.toNat (32:Int)) IntKind.u64.bits))|||BitVec.ofInt IntKind.u64.bits (IntKind.u64.wrap (↑(az A c2.toNat):Int))).toNat:Int);some (aa.fork (decide (c2≥(0:Int))) (aa.ag [(0:Int)≤(32:Int),c6] (aa.ag [c3≠(0:Int),c6,c5<nl A] (aa.ag [c3≠(0:Int)] (aa.leaf ak.normal ([mag A,c7,c4,int IntKind.u64 (c1.tmod c3),int IntKind.i64 (IntKind.i64.wrap (c2-(1:Int)))],[((16384:Nat),ah.mk true true 1 (nl A) fun j↦if(j==c5)=true then int IntKind.u32 (IntKind.u32.wrap (IntKind.u64.wrap (c1.tdiv c3)))else ay o j)]))))) (aa.leaf (ak.exit 0) ([mag A,c7,c4,int IntKind.u64 (↑r:Int),int IntKind.i64 c2],[((16384:Nat),ah.mk true true 1 (nl A) fun a↦int IntKind.u32 (↑(o a):Int))]))):=by kernel_rfl
theorem adz {A b r k:Nat} {o:Nat→Nat}:bW T dN [] 60 pK (behind (au pK) [1,1,1,0,1]) ⟨aB pg (FO A b r k 16384),cH 16384 (nl A) o,16385⟩=
  some (aa.ag [de (nl A) fun i↦ay o (i+0),nl A<2^40] (aa.leaf ak.ret [mag (val (nl A) fun i↦numOf (ay o (i+0))),int IntKind.u32 (IntKind.u32.wrap (↑r:Int))])):=by kernel_rfl
def H6:aR:=[(nJ,uE),(uh,lI (fun A B=>.mag (A-B)) fun A B=>[B≤A,nl A<2^40])]
theorem Tn {A B:Nat}:bC T H6 [9] 60 zC (au zC) ⟨aN 0 [.mag A,.mag B],[],0⟩=
  let c1:Nat:=2^40;some (aa.ag [nl A<c1,nl B<c1] (aa.fork (decide (cw A B<(0:Int))) (aa.leaf ak.ret [nil,int IntKind.i64 (7:Int)]) (aa.ag [B≤A,nl A<c1] (aa.leaf ak.ret [mag (A-B),int IntKind.i64 (0:Int)])))):=by kernel_rfl
theorem fY {K n nx:Nat} {o:Nat→Nat} (h:K<nx):fZ nx (cH K n o):=⟨⟨h,fun _ _=>rfl⟩,trivial⟩
theorem XU {vo va vb ai x c b' un u' B:Nat} (hx:x=c+b') (hu:un+x=ai+4294967296*u') (h:va+c*B=vo+vb):va+ai*B+u'*(4294967296*B)=vo+un*B+(vb+b'*B):=by
 have e:(un+x)*B=(ai+4294967296*u')*B:=by rw[hu]
 subst hx
 grind
theorem Pq {A B:Nat} (hAB:B≤A) (hA:nl A<2^40) (K:Nat):aA P uh K [.mag A,.mag B] [] (aI (.mag (A-B)) []):=by
 have hB:nl B≤nl A:=gd hAB
 refine gz hT Vi rfl (of_decide_eq_true (by kernel_rfl)) rfl (fun _ c0 h0=>?_) K []
 refine aq.hole [1,1,1,0,1] (by kernel_rfl) (aE.bk hT dX hm 60 mH aiW (by kernel_rfl) ?_)
 simp only[aa.all,ax,Int.toNat_natCast]
 refine⟨by omega,fun s' hv=>bV ?_⟩
 refine aq.gl (i:=0) (y:=KM) (by kernel_rfl) mH 12289 (h0 _) (fun p:Nat×Nat×(Nat→Nat)=>AJ A B p.2.1 p.1 12288) (fun p=>cH 12288 (nl A) p.2.2) (fun _=>rfl) (fun _=>fY (by omega))
  (fun p=>p.1≤nl A∧p.2.1≤1∧(∀j,j<nl A→p.2.2 j<2^32)∧val p.1 (az A)+p.2.1*2^(32*p.1)=val p.1 p.2.2+val p.1 (az B))
  (fun p=>nl A-p.1) (0,0,fun _=>0) hv ⟨by simp,by simp,fun _ _=>by simp,by simp[val]⟩ ?_
 rintro⟨i,c,o⟩ ⟨hi,hc,ho,hval⟩
 simp only at hi hc ho hval
 refine aq.bk hT dX hm 60 mH aj2 (by kernel_rfl) ?_
 have la:=cR (N:=A) (i:=i)
 have lb:=cR (N:=B) (i:=i)
 have wa:IntKind.u64.wrap (az A i:Int)=((az A i:Nat):Int):=bK (by omega) (by omega)
 have wb:IntKind.u64.wrap (az B i:Int)=((az B i:Nat):Int):=bK (by omega) (by omega)
 have w1:IntKind.u64.wrap ((c:Int)+((az B i:Nat):Int))=((c+az B i:Nat):Int):=by rw[bK (by omega) (by omega)];omega
 have w2:IntKind.u64.wrap (((az A i:Nat):Int)+4294967296)=((az A i+4294967296:Nat):Int):=by rw[bK (by omega) (by omega)];omega
 have w3:IntKind.i64.wrap ((i:Int)+1)=((i+1:Nat):Int):=by rw[wrap_i64 (by omega) (by omega)];omega
 simp only[aa.all,ax,decide_eq_true_eq,decide_eq_false_iff_not,Int.toNat_natCast,Nat.add_zero,beq_iff_eq]
 rw[wa,wb,w1,w2,w3]
 -- what is put down
 have next:∀{s':aH} {x u':Nat} {v:Int},i<nl A→x=c+az B i→u'≤1→x≤az A i+4294967296*u'→az A i+4294967296*u'<x+4294967296→v=((az A i+4294967296*u'-x:Nat):Int)→
   bf mH s'=some (AJ A B u' (i+1) 12288,[(12288,⟨true,true,1,nl A,fun j=>if j=i then .int .u32 (IntKind.u32.wrap (IntKind.u64.wrap v))else ay o j⟩)])→
   ∃k:Nat×Nat×(Nat→Nat),bf mH s'=some (AJ A B k.2.1 k.1 12288,cH 12288 (nl A) k.2.2)∧(k.1≤nl A∧k.2.1≤1∧(∀j,j<nl A→k.2.2 j<2^32)∧val k.1 (az A)+k.2.1*2^(32*k.1)=val k.1 k.2.2+val k.1 (az B))∧nl A-k.1<nl A-i:=by
  intro s' x u' v hin hx hu1 h1 h2 hv1 hv
  refine⟨(i+1,u',bO o i (az A i+4294967296*u'-x)),cX hv rfl ?_,⟨by simp only;omega,hu1,gu (by omega) ho,?_⟩,by simp only;omega⟩
  ·simp only[cH]
   congr 3
   funext k
   exact fU (by rw[hv1,bK (by omega) (by omega),wrap_u32 (by omega) (by omega)]) k
  ·simp only
   rw[pq,val,val,gi]
   exact XU (b':=az B i) (x:=x) hx (by omega) hval
 refine⟨fun hb=>⟨fun hb2=>⟨by omega,by omega,fun h3=>⟨⟨by omega,by omega⟩,fun s' hv=>?_⟩,fun h3=>⟨⟨by omega,by omega⟩,fun s' hv=>?_⟩⟩,fun hb2=>⟨by omega,fun h3=>⟨⟨by omega,by omega⟩,fun s' hv=>?_⟩,fun h3=>⟨⟨by omega,by omega⟩,fun s' hv=>?_⟩⟩⟩,fun hb s' hv=>ej (bV ?_)⟩
 ·exact next (u':=1) (by omega) rfl (by omega) (by omega) (by omega) (by omega) hv
 ·exact next (u':=0) (by omega) rfl (by omega) (by omega) (by omega) (by omega) hv
 ·exact next (u':=1) (x:=c) (by omega) (by rw[ia (A:=B) (by omega)];rfl) (by omega) (by omega) (by omega) (by omega) hv
 ·exact next (u':=0) (x:=c) (by omega) (by rw[ia (A:=B) (by omega)];rfl) (by omega) (by omega) (by omega) (by omega) hv
 ·have hin:i=nl A:=by omega
  refine aE.ji hT dX hm 60 hv (h0 _) rfl (fY (by omega)) ago (by kernel_rfl) (by kernel_rfl) ?_
  simp only[aa.all,ax,Nat.add_zero,iH]
  refine⟨⟨fD ho,hA⟩,cT (congrArg AV.mag ?_)⟩
  rw[hin,fk,oz (cL.1 hB)]at hval
  have hlt:=eR ho
  have:c=0:=by
   rcases Nat.eq_zero_or_pos c with h|h
   ·exact h
   ·exfalso
    have h1:1*2^(32*nl A)≤c*2^(32*nl A):=Nat.mul_le_mul_right _ h
    omega
  rw[this]at hval
  omega
theorem aik:aX P H6:=aJ C9 (aJ (nH fun h=>Pq h.1 h.2) bn)
theorem adi {A B:Nat} (hA:nl A<2^40) (hB:nl B<2^40) (K:Nat):aA P Ag K [.mag A,.mag B] [] (aI (.tuple [.mag (A-B),.int .i64 (if A<B then 7 else 0)]) []):=by
 refine bF hT aik hm ahW rfl (of_decide_eq_true (by kernel_rfl)) rfl 60 Tn (fun _=>?_) K []
 simp only[aa.all,ax,decide_eq_true_eq,decide_eq_false_iff_not,BG]
 refine⟨⟨hA,hB⟩,fun h=>⟨?_,bt (by rw[if_pos h]),trivial⟩,fun h=>⟨⟨by omega,hA⟩,.refl _,bt (by rw[if_neg h]),trivial⟩⟩
 rw[Nat.sub_eq_zero_of_le (by omega)];exact jG
def OH:Spec:=lI (fun A B=>.tuple [.mag (A-B),.int .i64 (if A<B then 7 else 0)]) D8
theorem ajI:∀K args pre r,OH K args pre=some r→aA P Ag K args pre r:=nH fun h=>adi h.1 h.2
theorem ajL {A B:Nat} (hA:nl A<2^39) (hB:nl B<2^39) (K:Nat):aA P tv K [.mag A,.mag B] [] (aI (.mag (A*B)) []):=by
 refine gz hT ah4 rfl (of_decide_eq_true (by kernel_rfl)) rfl (fun _ c0 h0=>?_) K []
 refine aq.hole [1,1,0,1] (by kernel_rfl) (aE.bk hT dX hm 60 jK Rq (by kernel_rfl) ?_)
 have hw:IntKind.i64.wrap ((nl A:Int)+(nl B:Int))=((nl A+nl B:Nat):Int):=dD (by omega) (by omega)
 rw[hw]
 simp only[aa.all,ax,Int.toNat_natCast]
 refine⟨by omega,fun s' hv=>bV ?_⟩
 refine aq.gl (i:=0) (y:=nI) (by kernel_rfl) jK 24577 (h0 _) (fun p:Nat×(Nat→Nat)=>wu A B p.1 24576) (fun p=>cH 24576 (nl A+nl B) p.2) (fun _=>rfl) (fun _=>fY (by omega))
  (fun p=>p.1≤nl A∧(∀j,j<nl A+nl B→p.2 j<2^32)∧(∀j,p.1+nl B≤j→p.2 j=0)∧val (nl A+nl B) p.2=val p.1 (az A)*B)
  (fun p=>nl A-p.1) (0,fun _=>0) hv ⟨by simp,fun _ _=>by simp,fun _ _=>rfl,?_⟩ ?_
 ·simp only
  rw[val_zero fun _ _=>rfl]
  simp[val]
 rintro⟨i,o⟩ ⟨hi,ho,ho0,hval⟩
 simp only at hi ho ho0 hval
 refine aq.hole [0] (by kernel_rfl) (show aq P c0 kg.ntmps (part nI [0]) _ _ from aq.bk hT dX hm 60 jK Z3 (by kernel_rfl) ?_)
 simp only[aa.all,decide_eq_true_eq,decide_eq_false_iff_not]
 refine⟨fun h1 s' hv=>bV ?_,fun h1 s' hv=>pz (ej (bV ?_))⟩
 ·have hin:i<nl A:=by omega
  have la:=cR (N:=A) (i:=i)
  show aE P c0 kg.ntmps [part nI [1]] s' _
  refine aq.hole [0] (by kernel_rfl) ?_
  show aq P c0 kg.ntmps (part nI [1,0]) s' _
  refine aq.oO (i:=1) (y:=tF) (by kernel_rfl) (aq.js hv (h0 24577) rfl (fY (by omega)) ?_)
  refine aq.hole [1,0,1] (by kernel_rfl) (aE.bk hT dX hm 60 qa Q0 (by kernel_rfl) fun s' hv=>bV ?_)
  refine aq.gl (i:=2) (y:=part tF [1,0,1,0,0]) (by kernel_rfl) qa 24577 (h0 _) (fun p:Nat×Nat×(Nat→Nat)=>Cq A B i p.2.1 p.1 24576) (fun p=>cH 24576 (nl A+nl B) p.2.2) (fun _=>rfl) (fun _=>fY (by omega))
   (fun p=>p.1≤nl B∧p.2.1<2^32∧(∀j,j<nl A+nl B→p.2.2 j<2^32)∧(∀j,i+nl B≤j→p.2.2 j=0)∧val (nl A+nl B) p.2.2+p.2.1*2^(32*(i+p.1))=val i (az A)*B+az A i*val p.1 (az B)*2^(32*i))
   (fun p=>nl B-p.1) (0,0,o) hv ⟨by simp,by simp,ho,ho0,by simp[val,hval]⟩ ?_
  rintro⟨j,c,o⟩ ⟨hj,hc,ho,ho0,hval⟩
  simp only at hj hc ho ho0 hval
  refine aq.bk hT dX hm 60 qa aeB (by kernel_rfl) ?_
  have hij:IntKind.i64.wrap ((i:Int)+(j:Int))=((i+j:Nat):Int):=dD (by omega) (by omega)
  have lb:=cR (N:=B) (i:=j)
  simp only[aa.all,ax,decide_eq_true_eq,decide_eq_false_iff_not,hij,Int.toNat_natCast,Nat.add_zero,beq_iff_eq]
  refine⟨fun h2=>?_,fun h2 s' hv=>ej ?_⟩
  ·have hjm:j<nl B:=by omega
   obtain⟨m1,m2,m3⟩:=KD hc la lb (ho (i+j) (by omega))
   rw[m1]
   refine⟨⟨by omega,by omega,by omega,by omega⟩,⟨by omega,by omega⟩,by omega,fun s' hv=>⟨(j+1,(c+az A i*az B j+o (i+j))/4294967296,bO o (i+j) ((c+az A i*az B j+o (i+j))%4294967296)),cX hv ?_ ?_,⟨by simp only;omega,m3,gu (by omega) ho,fun k hk=>?_,?_⟩,by simp only;omega⟩⟩
   ·rw[jO,dD (a:=(j:Int)+1) (n:=j+1) (by omega) (by omega)]
    simp only[Cq,List.cons.injEq,AV.int.injEq,and_true,true_and]
    omega
   ·simp only[cH]
    congr 3
    funext k
    exact fU (by rw[iS]) k
   ·exact(eJ (by omega)).trans (ho0 k hk)
   ·simp only
    rw[show 32*(i+(j+1))=32*((i+j)+1) by omega,gi,val]
    have hset:=EU (o:=o) (x:=(c+az A i*az B j+o (i+j))%4294967296) (show i+j<nl A+nl B by omega)
    exact Ih rfl (Nat.div_add_mod _ _) hset (by rw[←Nat.pow_add];congr 1;omega) hval
  ·show aE P c0 kg.ntmps (behind tF [1,0,1]) s' _
   have hjm:j=nl B:=by omega
   have hib:IntKind.i64.wrap ((i:Int)+(nl B:Int))=((i+nl B:Nat):Int):=dD (by omega) (by omega)
   refine aE.ee hT dX hm 60 hv (h0 24577) rfl (fY (by omega)) jK ZZ (by kernel_rfl) (by kernel_rfl) ?_
   rw[hib]
   simp only[aa.all,ax,Int.toNat_natCast,Nat.add_zero,beq_iff_eq]
   refine⟨⟨by omega,by omega⟩,fun s' hv=>?_⟩
   have hf:(fun k=>if k=i+nl B then AV.int .u32 (IntKind.u32.wrap (c:Int))else ay o k)=ay (bO o (i+nl B) c):=by
    funext k
    exact fU (wrap_u32 (by omega) (by omega)) k
   rw[hf]at hv
   show aE P c0 kg.ntmps [part nI [1,1]] s' _
   refine aE.ee hT dX hm 60 hv (h0 24577) rfl (fY (by omega)) jK Tr (by kernel_rfl) (by kernel_rfl) fun s' hv=>bV ?_
   refine⟨(i+1,bO o (i+nl B) c),cX hv ?_ rfl,⟨by simp only;omega,gu hc ho,fun k hk=>(eJ (by simp only at hk;omega)).trans (ho0 k (by simp only at hk;omega)),?_⟩,by simp only;omega⟩
   ·rw[dD (a:=(i:Int)+1) (n:=i+1) (by omega) (by omega)]
   ·simp only
    rw[hjm,fk]at hval
    rw[pB (by omega) (ho0 _ (by omega)),hval,val,Nat.add_mul,Nat.mul_assoc,Nat.mul_assoc,Nat.mul_comm B]
 ·have hin:i=nl A:=by omega
  refine aE.ji hT dX hm 60 hv (h0 _) rfl (fY (by omega)) acj (by kernel_rfl) (by kernel_rfl) ?_
  simp only[aa.all,ax,Nat.add_zero,iH]
  refine⟨⟨fD ho,by omega⟩,cT (congrArg AV.mag ?_)⟩
  rw[hval,hin,fk]
def Gv:Spec:=lI (fun A B=>.mag (A*B)) fun A B=>[nl A<2^39,nl B<2^39]
theorem Oz:∀K args pre r,Gv K args pre=some r→aA P tv K args pre r:=nH fun h=>ajL h.1 h.2
theorem J7 {v b r A:Nat} (h:v*b+r=A) (hr:r<b):A/b=v∧A%b=r:=by
 subst h
 refine⟨?_,?_⟩
 ·rw[Nat.mul_comm,Nat.mul_add_div (by omega),Nat.div_eq_of_lt hr,Nat.add_zero]
 ·rw[Nat.mul_comm,Nat.mul_add_mod,Nat.mod_eq_of_lt hr]
theorem Q9 {A b:Nat} (hA:nl A<2^40) (hb0:0<b) (hb32:b<2^32) (K:Nat):aA P rU K [.mag A,.int .u32 b] [] (aI (.tuple [.mag (A/b),.int .u32 (A%b:Nat)]) []):=by
 refine gz hT Qn rfl (of_decide_eq_true (by kernel_rfl)) rfl (fun _ c0 h0=>?_) K []
 refine aq.hole [1,1,1,0,1] (by kernel_rfl) (aE.bk hT dX hm 60 pg ZY (by kernel_rfl) ?_)
 simp only[aa.all,ax,Int.toNat_natCast]
 refine⟨by omega,fun s' hv=>bV ?_⟩
 refine aq.gl (i:=0) (y:=Kv) (by kernel_rfl) pg 16385 (h0 _) (fun p:Nat×Nat×(Nat→Nat)=>FO A b p.2.1 p.1 16384) (fun p=>cH 16384 (nl A) p.2.2) (fun _=>rfl) (fun _=>fY (by omega))
  (fun p=>p.1≤nl A∧p.2.1<b∧(∀j,j<nl A→p.2.2 j<2^32)∧(∀j,j<p.1→p.2.2 j=0)∧val (nl A) p.2.2*b+p.2.1*2^(32*p.1)+val p.1 (az A)=A)
  (fun p=>p.1) (nl A,0,fun _=>0) (cX hv (by rw[wrap_i64 (by omega) (by omega)];rfl) rfl) ⟨by simp,hb0,fun j _=>by simp,fun j _=>rfl,?_⟩ ?_
 ·simp only
  rw[val_zero fun _ _=>rfl,fk]
  simp
 rintro⟨k,r,o⟩ ⟨hk,hr,ho,ho0,hval⟩
 simp only at hk hr ho ho0 hval
 refine aq.bk hT dX hm 60 pg adx (by kernel_rfl) ?_
 simp only[aa.all,ax,decide_eq_true_eq,decide_eq_false_iff_not,Nat.add_zero,beq_iff_eq]
 have hbw:IntKind.u64.wrap (b:Int)=(b:Int):=bK (by omega) (by omega)
 refine⟨fun hb=>?_,fun hb s' hv=>ej (bV ?_)⟩
 ·obtain⟨j,rfl⟩:∃j,k=j+1:=⟨k-1,by omega⟩
  have e:(((j+1:Nat):Int)-1).toNat=j:=by omega
  have hzj:=cR (N:=A) (i:=j)
  have hor:=rG (a:=r) (b:=az A j) (by omega) hzj
  rw[e,hor,hbw]
  have hq1:(r*4294967296+az A j)/b<2^32:=by
   rw[Nat.div_lt_iff_lt_mul hb0]
   have:(r+1)*4294967296≤b*4294967296:=Nat.mul_le_mul_right _ hr
   omega
  have hdm:=Nat.div_add_mod (r*4294967296+az A j) b
  refine⟨⟨by omega,by omega,by omega⟩,⟨by omega,⟨by omega,by omega⟩,by omega⟩,by omega,fun s' hv=>⟨(j,(r*4294967296+az A j)%b,bO o j ((r*4294967296+az A j)/b)),cX hv ?_ ?_,⟨by simp only;omega,Nat.mod_lt _ hb0,gu hq1 ho,fun i hi=>?_,?_⟩,by simp only;omega⟩⟩
  ·rw[←Int.ofNat_tmod,wrap_i64 (by omega) (by omega),show((j+1:Nat):Int)-1-1=(j:Int)-1 by omega]
  ·simp only[cH]
   congr 3
   funext i
   refine fU ?_ i
   rw[←Int.ofNat_tdiv]
   clear hdm
   generalize (r*4294967296+az A j)/b=q at hq1 ⊢
   rw[bK (by omega) (by omega),wrap_u32 (by omega) (by omega)]
  ·exact(eJ (by simp only at hi;omega)).trans (ho0 i (by simp only at hi;omega))
  ·simp only
   rw[pB (by omega) (ho0 j (by omega))]
   rw[gi,val]at hval
   exact PV hval hdm.symm
 ·have hk0:k=0:=by omega
  have hv2:val (nl A) o*b+r=A:=by rw[hk0]at hval;simpa [val]using hval
  refine aE.ji hT dX hm 60 hv (h0 _) rfl (fY (by omega)) adz (by kernel_rfl) (by kernel_rfl) ?_
  simp only[aa.all,ax,Nat.add_zero,iH]
  obtain⟨hdiv,hmod⟩:=J7 hv2 hr
  exact⟨⟨fD ho,hA⟩,cT (congrArg AV.mag hdiv.symm),bt (by rw[hmod,wrap_u32 (by omega) (by omega)]),trivial⟩
def Gk:Spec:=bB fun l=>match l with
 |[a,.int .u32 b]=>match gP a with
  |some A=>some (aI (.tuple [.mag (A/b.toNat),.int .u32 (A%b.toNat:Nat)]) [nl A<2^40,0<b,b<2^32])
  |none=>none
 |_=>none
theorem Kg:∀K args pre r,Gk K args pre=some r→aA P rU K args pre r:=by
 refine bS fun K args r hk hs _=>?_
 split at hs
 ·rename_i a b
  split at hs
  ·rename_i A hA
   simp only[Option.some.injEq]at hs
   subst hs
   intro need
   obtain⟨h1,h2,h3⟩:nl A<2^40∧0<b∧b<2^32:=need
   obtain⟨b,rfl⟩:=Int.eq_ofNat_of_zero_le (Int.le_of_lt h2)
   exact fN (Q9 h1 (by omega) (by omega) K) hk ⟨jW hA,.refl _,trivial⟩ [] trivial
  ·simp at hs
 ·simp at hs
end Go.Am.B
