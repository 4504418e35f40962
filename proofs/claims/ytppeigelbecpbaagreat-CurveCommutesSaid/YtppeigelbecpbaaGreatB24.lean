/- ref01: minus, Sub, Mul, byLimb. -/
import Derived.Test.YtppeigelbecpbaaGreatB23
set_option linter.unusedVariables false
namespace Go.Am.B
open Go Go.Am.N AV
theorem RJ:aO P A2 qC (au qC):=aQ akH (by kernel_rfl) (by kernel_rfl) (by kernel_rfl)
theorem acu:aO P vE Be (au Be):=aQ ade (by kernel_rfl) (by kernel_rfl) (by kernel_rfl)
theorem afN:aO P tA lg (au lg):=aQ Wq (by kernel_rfl) (by kernel_rfl) (by kernel_rfl)
theorem aiU:aO P tv rV (au rV):=aQ Vt (by kernel_rfl) (by kernel_rfl) (by kernel_rfl)
abbrev nK:List Nat:=[0,1,5,6,7]
abbrev yA (A B c i K:Nat):List AV:=[.mag A,.mag B,.own K 1 0 (nl A),.int .u64 c,.int .i64 i]
abbrev cR (K n:Nat) (o:Nat→Nat):aC:=[(K,⟨true,true,1,n,ay o⟩)]
noncomputable abbrev Oa:Code:=part (au qC) [1,1,1,0,1,0,0]
theorem afA {A B:Nat}:aH T eu [] 60 nK (before (au qC) [1,1,1,0,1]) ⟨aN 0 [.mag A,.mag B],[],0⟩=
  let c1:Int:=(↑(nl A):Int);some (aa.ag [(0:Int)≤c1∧c1≤c1∧c1≤(2:Int)^47∧c1*(↑(4:Nat):Int)≤(2:Int)^47] (aa.leaf aj.normal ([mag A,mag B,own 12288 1 0 c1.toNat,int IntKind.u64 (0:Int),int IntKind.i64 (0:Int)],[((12288:Nat),ah.mk true true 1 c1.toNat fun x↦int IntKind.u32 (0:Int))]))):=by kernel_rfl
theorem Vz {A B c i:Nat} {o:Nat→Nat}:aH T eu [16,23,38] 60 nK [Oa] ⟨aA nK (yA A B c i 12288),cR 12288 (nl A) o,12289⟩=
  let c13:Int:=(↑c:Int);let c8:Int:=(↑i:Int);let c5:AV:=own 12288 1 0 (nl A);let c4:List AV:=[int IntKind.i64 (IntKind.i64.wrap (c8+(1:Int)))];let c1:Nat:=c8.toNat;let c11:Prop:=(0:Int)≤c8∧c1<nl A;let c10:List AV:=mag A::mag B::c5::int IntKind.u64 (0:Int)::c4;let c9:List AV:=mag A::mag B::c5::int IntKind.u64 (1:Int)::c4;let c7:Nat:=c1+0;let c3:Int:=IntKind.u64.wrap (c13+IntKind.u64.wrap (↑(az B c1):Int));let c2:Int:=IntKind.u64.wrap (↑(az A c1):Int);let c12:Int:=IntKind.u64.wrap (c2+(4294967296:Int));let c6:List Prop:=[c11,c7<nl A];some (aa.fork (decide (c8<(↑(nl A):Int))) (aa.fork (decide (c8<(↑(nl B):Int))) (aa.ag [(0:Int)≤c8∧c1<nl B] (aa.ag [c11] (aa.fork (decide (c2<c3)) (aa.ag c6 (aa.leaf aj.normal (c9,[((12288:Nat),ah.mk true true 1 (nl A) fun j↦if(j==c7)=true then int IntKind.u32 (IntKind.u32.wrap (IntKind.u64.wrap (c12-c3)))else ay o j)]))) (aa.ag c6 (aa.leaf aj.normal (c10,[((12288:Nat),ah.mk true true 1 (nl A) fun j↦if(j==c7)=true then int IntKind.u32 (IntKind.u32.wrap (IntKind.u64.wrap (c2-c3)))else ay o j)])))))) (aa.ag [c11] (aa.fork (decide (c2<c13)) (aa.ag c6 (aa.leaf aj.normal (c9,[((12288:Nat),ah.mk true true 1 (nl A) fun j↦if(j==c7)=true then int IntKind.u32 (IntKind.u32.wrap (IntKind.u64.wrap (c12-c13)))else ay o j)]))) (aa.ag c6 (aa.leaf aj.normal (c10,[((12288:Nat),ah.mk true true 1 (nl A) fun j↦if(j==c7)=true then int IntKind.u32 (IntKind.u32.wrap (IntKind.u64.wrap (c2-c13)))else ay o j)])))))) (aa.leaf (aj.exit 0) ([mag A,mag B,c5,int IntKind.u64 c13,int IntKind.i64 c8],[((12288:Nat),ah.mk true true 1 (nl A) fun a↦int IntKind.u32 (↑(o a):Int))]))):=by kernel_rfl
theorem YM {A B c i:Nat} {o:Nat→Nat}:cm T eu [] 60 qC (behind (au qC) [1,1,1,0,1]) ⟨aA nK (yA A B c i 12288),cR 12288 (nl A) o,12289⟩=
  some (aa.ag [dB (nl A) fun i↦ay o (i+0),nl A<2^40] (aa.leaf aj.ret [mag (val (nl A) fun i↦numOf (ay o (i+0)))])):=by kernel_rfl
abbrev j8:List Nat:=[0,1,5,6]
abbrev Az (A B i K:Nat):List AV:=[.mag A,.mag B,.own K 1 0 (nl A+nl B),.int .i64 i]
abbrev qn:List Nat:=[0,1,5,6,7,8]
abbrev Cn (A B i c j K:Nat):List AV:=[.mag A,.mag B,.own K 1 0 (nl A+nl B),.int .i64 i,.int .u64 c,.int .i64 j]
noncomputable abbrev pZ:Code:=part (au lg) [1,1,0,1,0,0]
noncomputable abbrev sC:Code:=part pZ [1,0,0]
theorem ais {A B:Nat}:aH T eu [] 60 j8 (before (au lg) [1,1,0,1]) ⟨aN 0 [.mag A,.mag B],[],0⟩=
  let c1:Int:=IntKind.i64.wrap ((↑(nl A):Int)+(↑(nl B):Int));some (aa.ag [(0:Int)≤c1∧c1≤c1∧c1≤(2:Int)^47∧c1*(↑(4:Nat):Int)≤(2:Int)^47] (aa.leaf aj.normal ([mag A,mag B,own 24576 1 0 c1.toNat,int IntKind.i64 (0:Int)],[((24576:Nat),ah.mk true true 1 c1.toNat fun x↦int IntKind.u32 (0:Int))]))):=by kernel_rfl
theorem UE {A B i:Nat} {o:Nat→Nat}:aH T eu [18] 60 j8 [part pZ [0]] ⟨aA j8 (Az A B i 24576),cR 24576 (nl A+nl B) o,24577⟩=
  let c1:List AV×aC:=([mag A,mag B,own 24576 1 0 (nl A+nl B),int IntKind.i64 (↑i:Int)],[((24576:Nat),ah.mk true true 1 (nl A+nl B) fun a↦int IntKind.u32 (↑(o a):Int))]);some (aa.fork (decide ((↑i:Int)<(↑(nl A):Int))) (aa.leaf aj.normal c1) (aa.leaf (aj.exit 0) c1)):=by kernel_rfl
theorem ahO {A B i:Nat} {o:Nat→Nat}:aH T eu [] 60 qn (before sC [1,0,1]) ⟨aA j8 (Az A B i 24576),cR 24576 (nl A+nl B) o,24577⟩=
  some (aa.leaf aj.normal ([mag A,mag B,own 24576 1 0 (nl A+nl B),int IntKind.i64 (↑i:Int),int IntKind.u64 (0:Int),int IntKind.i64 (0:Int)],[((24576:Nat),ah.mk true true 1 (nl A+nl B) fun a↦int IntKind.u32 (↑(o a):Int))])):=by kernel_rfl
theorem Uy {A B i c j:Nat} {o:Nat→Nat}:aH T eu [24] 60 qn [part sC [1,0,1,0,0]] ⟨aA qn (Cn A B i c j 24576),cR 24576 (nl A+nl B) o,24577⟩=
  let c7:Int:=(↑i:Int);let c5:Int:=(↑j:Int);let c4:Nat:=nl A+nl B;let c6:AV:=own 24576 1 0 c4;let c1:Int:=IntKind.i64.wrap (c7+c5);let c3:Nat:=c1.toNat+0;let c8:List Prop:=[(0:Int)≤c1∧c1.toNat<c4,c3<c4];let c2:Int:=IntKind.u64.wrap ((↑c:Int)+IntKind.u64.wrap (IntKind.u64.wrap (IntKind.u64.wrap (↑(az A c7.toNat):Int)*IntKind.u64.wrap (↑(az B c5.toNat):Int))+IntKind.u64.wrap (↑(o c3):Int)));some (aa.fork (decide (c5<(↑(nl B):Int))) (aa.ag (((0:Int)≤c7∧c7.toNat<nl A)::((0:Int)≤c5∧c5.toNat<nl B)::c8) (aa.ag c8 (aa.ag [(0:Int)≤(32:Int)] (aa.leaf aj.normal ([mag A,mag B,c6,int IntKind.i64 c7,int IntKind.u64 (c2.fdiv ((2:Int)^min (Int.toNat (32:Int)) IntKind.u64.bits)),int IntKind.i64 (IntKind.i64.wrap (c5+(1:Int)))],[((24576:Nat),ah.mk true true 1 c4 fun j↦if(j==c3)=true then int IntKind.u32 (IntKind.u32.wrap c2)else ay o j)]))))) (aa.leaf (aj.exit 2) ([mag A,mag B,c6,int IntKind.i64 c7,int IntKind.u64 (↑c:Int),int IntKind.i64 c5],[((24576:Nat),ah.mk true true 1 c4 fun a↦int IntKind.u32 (↑(o a):Int))]))):=by kernel_rfl
theorem aeL {A B i c j:Nat} {o:Nat→Nat}:aH T eu [] 60 j8 (behind sC [1,0,1]) ⟨aA qn (Cn A B i c j 24576),cR 24576 (nl A+nl B) o,24577⟩=
  let c3:Nat:=nl A+nl B;let c1:Int:=IntKind.i64.wrap ((↑i:Int)+(↑(nl B):Int));let c2:Nat:=c1.toNat+0;some (aa.ag [(0:Int)≤c1∧c1.toNat<c3,c2<c3] (aa.leaf aj.normal ([mag A,mag B,own 24576 1 0 c3,int IntKind.i64 (↑i:Int)],[((24576:Nat),ah.mk true true 1 c3 fun j↦if(j==c2)=true then int IntKind.u32 (IntKind.u32.wrap (↑c:Int))else ay o j)]))):=by kernel_rfl
theorem Rx {A B i:Nat} {o:Nat→Nat}:aH T eu [] 60 j8 [part pZ [1,1]] ⟨aA j8 (Az A B i 24576),cR 24576 (nl A+nl B) o,24577⟩=
  some (aa.leaf aj.normal ([mag A,mag B,own 24576 1 0 (nl A+nl B),int IntKind.i64 (IntKind.i64.wrap ((↑i:Int)+(1:Int)))],[((24576:Nat),ah.mk true true 1 (nl A+nl B) fun a↦int IntKind.u32 (↑(o a):Int))])):=by kernel_rfl
theorem agR {A B i:Nat} {o:Nat→Nat}:cm T eu [] 60 lg (behind (au lg) [1,1,0,1]) ⟨aA j8 (Az A B i 24576),cR 24576 (nl A+nl B) o,24577⟩=
  some (aa.ag [dB (nl A+nl B) fun i↦ay o (i+0),nl A+nl B<2^40] (aa.leaf aj.ret [mag (val (nl A+nl B) fun i↦numOf (ay o (i+0)))])):=by kernel_rfl
abbrev qH:List Nat:=[0,1,6,7,8]
abbrev GO (A b r k K:Nat):List AV:=[.mag A,.int .u32 b,.own K 1 0 (nl A),.int .u64 r,.int .i64 ((k:Int)-1)]
noncomputable abbrev QT:Code:=part (au rV) [1,1,1,0,1,0,0]
theorem ahM {A b:Nat}:aH T eu [] 60 qH (before (au rV) [1,1,1,0,1]) ⟨aN 0 [.mag A,.int .u32 b],[],0⟩=
  let c1:Int:=(↑(nl A):Int);some (aa.ag [(0:Int)≤c1∧c1≤c1∧c1≤(2:Int)^47∧c1*(↑(4:Nat):Int)≤(2:Int)^47] (aa.leaf aj.normal ([mag A,int IntKind.u32 (↑b:Int),own 16384 1 0 c1.toNat,int IntKind.u64 (0:Int),int IntKind.i64 (IntKind.i64.wrap (c1-(1:Int)))],[((16384:Nat),ah.mk true true 1 c1.toNat fun x↦int IntKind.u32 (0:Int))]))):=by kernel_rfl
theorem af7 {A b r k:Nat} {o:Nat→Nat}:aH T eu [16] 60 qH [QT] ⟨aA qH (GO A b r k 16384),cR 16384 (nl A) o,16385⟩=
  let c7:AV:=int IntKind.u32 (↑b:Int);let c4:AV:=own 16384 1 0 (nl A);let c3:Int:=IntKind.u64.wrap (↑b:Int);let c2:Int:=(↑k:Int)-(1:Int);let c6:Prop:=(0:Int)≤c2∧c2.toNat<nl A;let c5:Nat:=c2.toNat+0;let c1:Int:=IntKind.u64.wrap (↑(BitVec.ofInt IntKind.u64.bits (IntKind.u64.wrap ((↑r:Int)*(2:Int)^min (Int.toNat (32:Int)) IntKind.u64.bits))|||BitVec.ofInt IntKind.u64.bits (IntKind.u64.wrap (↑(az A c2.toNat):Int))).toNat:Int);some (aa.fork (decide (c2≥(0:Int))) (aa.ag [(0:Int)≤(32:Int),c6] (aa.ag [c3≠(0:Int),c6,c5<nl A] (aa.ag [c3≠(0:Int)] (aa.leaf aj.normal ([mag A,c7,c4,int IntKind.u64 (c1.tmod c3),int IntKind.i64 (IntKind.i64.wrap (c2-(1:Int)))],[((16384:Nat),ah.mk true true 1 (nl A) fun j↦if(j==c5)=true then int IntKind.u32 (IntKind.u32.wrap (IntKind.u64.wrap (c1.tdiv c3)))else ay o j)]))))) (aa.leaf (aj.exit 0) ([mag A,c7,c4,int IntKind.u64 (↑r:Int),int IntKind.i64 c2],[((16384:Nat),ah.mk true true 1 (nl A) fun a↦int IntKind.u32 (↑(o a):Int))]))):=by kernel_rfl
theorem akL {A b r k:Nat} {o:Nat→Nat}:cm T eu [] 60 rV (behind (au rV) [1,1,1,0,1]) ⟨aA qH (GO A b r k 16384),cR 16384 (nl A) o,16385⟩=
  some (aa.ag [dB (nl A) fun i↦ay o (i+0),nl A<2^40] (aa.leaf aj.ret [mag (val (nl A) fun i↦numOf (ay o (i+0))),int IntKind.u32 (IntKind.u32.wrap (↑r:Int))])):=by kernel_rfl
def Kl:aR:=[(oo,A9),(A2,mL (fun A B=>.mag (A-B)) fun A B=>[B≤A,nl A<2^40])]
theorem Zh {A B:Nat}:bF T Kl [9] 60 Be (au Be) ⟨aN 0 [.mag A,.mag B],[],0⟩=
  let c1:Nat:=2^40;some (aa.ag [nl A<c1,nl B<c1] (aa.fork (decide (cA A B<(0:Int))) (aa.leaf aj.ret [nil,int IntKind.i64 (7:Int)]) (aa.ag [B≤A,nl A<c1] (aa.leaf aj.ret [mag (A-B),int IntKind.i64 (0:Int)])))):=by kernel_rfl
theorem gx {K n nx:Nat} {o:Nat→Nat} (h:K<nx):gn nx (cR K n o):=⟨⟨h,fun _ _=>rfl⟩,trivial⟩
theorem afn {vo va vb ai x c b' un u' B:Nat} (hx:x=c+b') (hu:un+x=ai+4294967296*u') (h:va+c*B=vo+vb):va+ai*B+u'*(4294967296*B)=vo+un*B+(vb+b'*B):=by
 have e:(un+x)*B=(ai+4294967296*u')*B:=by rw[hu]
 subst hx
 grind
theorem KE {A B:Nat} (hAB:B≤A) (hA:nl A<2^40) (K:Nat):aB P A2 K [.mag A,.mag B] [] (aK (.mag (A-B)) []):=by
 have hB:nl B≤nl A:=gB hAB
 refine iq hT RJ rfl (of_decide_eq_true (by kernel_rfl)) rfl (fun _ c0 h0=>?_) K []
 refine aq.hole [1,1,1,0,1] (by kernel_rfl) (aD.bf hT eA hm 60 nK afA (by kernel_rfl) ?_)
 simp only[aa.all,ax,Int.toNat_natCast]
 refine⟨by omega,fun s' hv=>bY ?_⟩
 refine aq.gC (i:=0) (y:=Oa) (by kernel_rfl) nK 12289 (h0 _) (fun p:Nat×Nat×(Nat→Nat)=>yA A B p.2.1 p.1 12288) (fun p=>cR 12288 (nl A) p.2.2) (fun _=>rfl) (fun _=>gx (by omega))
  (fun p=>p.1≤nl A∧p.2.1≤1∧(∀j,j<nl A→p.2.2 j<2^32)∧val p.1 (az A)+p.2.1*2^(32*p.1)=val p.1 p.2.2+val p.1 (az B))
  (fun p=>nl A-p.1) (0,0,fun _=>0) hv ⟨by simp,by simp,fun _ _=>by simp,by simp[val]⟩ ?_
 rintro⟨i,c,o⟩ ⟨hi,hc,ho,hval⟩
 simp only at hi hc ho hval
 refine aq.bf hT eA hm 60 nK Vz (by kernel_rfl) ?_
 have la:=de (N:=A) (i:=i)
 have lb:=de (N:=B) (i:=i)
 have wa:IntKind.u64.wrap (az A i:Int)=((az A i:Nat):Int):=bN (by omega) (by omega)
 have wb:IntKind.u64.wrap (az B i:Int)=((az B i:Nat):Int):=bN (by omega) (by omega)
 have w1:IntKind.u64.wrap ((c:Int)+((az B i:Nat):Int))=((c+az B i:Nat):Int):=by rw[bN (by omega) (by omega)];omega
 have w2:IntKind.u64.wrap (((az A i:Nat):Int)+4294967296)=((az A i+4294967296:Nat):Int):=by rw[bN (by omega) (by omega)];omega
 have w3:IntKind.i64.wrap ((i:Int)+1)=((i+1:Nat):Int):=by rw[wrap_i64 (by omega) (by omega)];omega
 simp only[aa.all,ax,decide_eq_true_eq,decide_eq_false_iff_not,Int.toNat_natCast,Nat.add_zero,beq_iff_eq]
 rw[wa,wb,w1,w2,w3]
 -- what is put down
 have next:∀{s':aF} {x u':Nat} {v:Int},i<nl A→x=c+az B i→u'≤1→x≤az A i+4294967296*u'→az A i+4294967296*u'<x+4294967296→v=((az A i+4294967296*u'-x:Nat):Int)→
   aX nK s'=some (yA A B u' (i+1) 12288,[(12288,⟨true,true,1,nl A,fun j=>if j=i then .int .u32 (IntKind.u32.wrap (IntKind.u64.wrap v))else ay o j⟩)])→
   ∃k:Nat×Nat×(Nat→Nat),aX nK s'=some (yA A B k.2.1 k.1 12288,cR 12288 (nl A) k.2.2)∧(k.1≤nl A∧k.2.1≤1∧(∀j,j<nl A→k.2.2 j<2^32)∧val k.1 (az A)+k.2.1*2^(32*k.1)=val k.1 k.2.2+val k.1 (az B))∧nl A-k.1<nl A-i:=by
  intro s' x u' v hin hx hu1 h1 h2 hv1 hv
  refine⟨(i+1,u',bU o i (az A i+4294967296*u'-x)),dm hv rfl ?_,⟨by simp only;omega,hu1,gT (by omega) ho,?_⟩,by simp only;omega⟩
  ·simp only[cR]
   congr 3
   funext k
   exact gu (by rw[hv1,bN (by omega) (by omega),wrap_u32 (by omega) (by omega)]) k
  ·simp only
   rw[qO,val,val,gz]
   exact afn (b':=az B i) (x:=x) hx (by omega) hval
 refine⟨fun hb=>⟨fun hb2=>⟨by omega,by omega,fun h3=>⟨⟨by omega,by omega⟩,fun s' hv=>?_⟩,fun h3=>⟨⟨by omega,by omega⟩,fun s' hv=>?_⟩⟩,fun hb2=>⟨by omega,fun h3=>⟨⟨by omega,by omega⟩,fun s' hv=>?_⟩,fun h3=>⟨⟨by omega,by omega⟩,fun s' hv=>?_⟩⟩⟩,fun hb s' hv=>eV (bY ?_)⟩
 ·exact next (u':=1) (by omega) rfl (by omega) (by omega) (by omega) (by omega) hv
 ·exact next (u':=0) (by omega) rfl (by omega) (by omega) (by omega) (by omega) hv
 ·exact next (u':=1) (x:=c) (by omega) (by rw[iV (A:=B) (by omega)];rfl) (by omega) (by omega) (by omega) (by omega) hv
 ·exact next (u':=0) (x:=c) (by omega) (by rw[iV (A:=B) (by omega)];rfl) (by omega) (by omega) (by omega) (by omega) hv
 ·have hin:i=nl A:=by omega
  refine aD.jz hT eA hm 60 hv (h0 _) rfl (gx (by omega)) YM (by kernel_rfl) (by kernel_rfl) ?_
  simp only[aa.all,ax,Nat.add_zero,jn]
  refine⟨⟨fR ho,hA⟩,dc (congrArg AV.mag ?_)⟩
  rw[hin,fJ,oQ (cT.1 hB)]at hval
  have hlt:=fq ho
  have:c=0:=by
   rcases Nat.eq_zero_or_pos c with h|h
   ·exact h
   ·exfalso
    have h1:1*2^(32*nl A)≤c*2^(32*nl A):=Nat.mul_le_mul_right _ h
    omega
  rw[this]at hval
  omega
theorem Yk:aY P Kl:=aG Cd (aG (oO fun h=>KE h.1 h.2) bk)
theorem afy {A B:Nat} (hA:nl A<2^40) (hB:nl B<2^40) (K:Nat):aB P vE K [.mag A,.mag B] [] (aK (.tuple [.mag (A-B),.int .i64 (if A<B then 7 else 0)]) []):=by
 refine bJ hT Yk hm acu rfl (of_decide_eq_true (by kernel_rfl)) rfl 60 Zh (fun _=>?_) K []
 simp only[aa.all,ax,decide_eq_true_eq,decide_eq_false_iff_not,Bl]
 refine⟨⟨hA,hB⟩,fun h=>⟨?_,bw (by rw[if_pos h]),trivial⟩,fun h=>⟨⟨by omega,hA⟩,.refl _,bw (by rw[if_neg h]),trivial⟩⟩
 rw[Nat.sub_eq_zero_of_le (by omega)];exact jV
def L7:Spec:=mL (fun A B=>.tuple [.mag (A-B),.int .i64 (if A<B then 7 else 0)]) FE
theorem TV:∀K args pre r,L7 K args pre=some r→aB P vE K args pre r:=oO fun h=>afy h.1 h.2
theorem YS {A B:Nat} (hA:nl A<2^39) (hB:nl B<2^39) (K:Nat):aB P tA K [.mag A,.mag B] [] (aK (.mag (A*B)) []):=by
 refine iq hT afN rfl (of_decide_eq_true (by kernel_rfl)) rfl (fun _ c0 h0=>?_) K []
 refine aq.hole [1,1,0,1] (by kernel_rfl) (aD.bf hT eA hm 60 j8 ais (by kernel_rfl) ?_)
 have hw:IntKind.i64.wrap ((nl A:Int)+(nl B:Int))=((nl A+nl B:Nat):Int):=ef (by omega) (by omega)
 rw[hw]
 simp only[aa.all,ax,Int.toNat_natCast]
 refine⟨by omega,fun s' hv=>bY ?_⟩
 refine aq.gC (i:=0) (y:=pZ) (by kernel_rfl) j8 24577 (h0 _) (fun p:Nat×(Nat→Nat)=>Az A B p.1 24576) (fun p=>cR 24576 (nl A+nl B) p.2) (fun _=>rfl) (fun _=>gx (by omega))
  (fun p=>p.1≤nl A∧(∀j,j<nl A+nl B→p.2 j<2^32)∧(∀j,p.1+nl B≤j→p.2 j=0)∧val (nl A+nl B) p.2=val p.1 (az A)*B)
  (fun p=>nl A-p.1) (0,fun _=>0) hv ⟨by simp,fun _ _=>by simp,fun _ _=>rfl,?_⟩ ?_
 ·simp only
  rw[val_zero fun _ _=>rfl]
  simp[val]
 rintro⟨i,o⟩ ⟨hi,ho,ho0,hval⟩
 simp only at hi ho ho0 hval
 refine aq.hole [0] (by kernel_rfl) (show aq P c0 lg.ntmps (part pZ [0]) _ _ from aq.bf hT eA hm 60 j8 UE (by kernel_rfl) ?_)
 simp only[aa.all,decide_eq_true_eq,decide_eq_false_iff_not]
 refine⟨fun h1 s' hv=>bY ?_,fun h1 s' hv=>rq (eV (bY ?_))⟩
 ·have hin:i<nl A:=by omega
  have la:=de (N:=A) (i:=i)
  show aD P c0 lg.ntmps [part pZ [1]] s' _
  refine aq.hole [0] (by kernel_rfl) ?_
  show aq P c0 lg.ntmps (part pZ [1,0]) s' _
  refine aq.ov (i:=1) (y:=sC) (by kernel_rfl) (aq.jD hv (h0 24577) rfl (gx (by omega)) ?_)
  refine aq.hole [1,0,1] (by kernel_rfl) (aD.bf hT eA hm 60 qn ahO (by kernel_rfl) fun s' hv=>bY ?_)
  refine aq.gC (i:=2) (y:=part sC [1,0,1,0,0]) (by kernel_rfl) qn 24577 (h0 _) (fun p:Nat×Nat×(Nat→Nat)=>Cn A B i p.2.1 p.1 24576) (fun p=>cR 24576 (nl A+nl B) p.2.2) (fun _=>rfl) (fun _=>gx (by omega))
   (fun p=>p.1≤nl B∧p.2.1<2^32∧(∀j,j<nl A+nl B→p.2.2 j<2^32)∧(∀j,i+nl B≤j→p.2.2 j=0)∧val (nl A+nl B) p.2.2+p.2.1*2^(32*(i+p.1))=val i (az A)*B+az A i*val p.1 (az B)*2^(32*i))
   (fun p=>nl B-p.1) (0,0,o) hv ⟨by simp,by simp,ho,ho0,by simp[val,hval]⟩ ?_
  rintro⟨j,c,o⟩ ⟨hj,hc,ho,ho0,hval⟩
  simp only at hj hc ho ho0 hval
  refine aq.bf hT eA hm 60 qn Uy (by kernel_rfl) ?_
  have hij:IntKind.i64.wrap ((i:Int)+(j:Int))=((i+j:Nat):Int):=ef (by omega) (by omega)
  have lb:=de (N:=B) (i:=j)
  simp only[aa.all,ax,decide_eq_true_eq,decide_eq_false_iff_not,hij,Int.toNat_natCast,Nat.add_zero,beq_iff_eq]
  refine⟨fun h2=>?_,fun h2 s' hv=>eV ?_⟩
  ·have hjm:j<nl B:=by omega
   obtain⟨m1,m2,m3⟩:=Lv hc la lb (ho (i+j) (by omega))
   rw[m1]
   refine⟨⟨by omega,by omega,by omega,by omega⟩,⟨by omega,by omega⟩,by omega,fun s' hv=>⟨(j+1,(c+az A i*az B j+o (i+j))/4294967296,bU o (i+j) ((c+az A i*az B j+o (i+j))%4294967296)),dm hv ?_ ?_,⟨by simp only;omega,m3,gT (by omega) ho,fun k hk=>?_,?_⟩,by simp only;omega⟩⟩
   ·rw[kB,ef (a:=(j:Int)+1) (n:=j+1) (by omega) (by omega)]
    simp only[Cn,List.cons.injEq,AV.int.injEq,and_true,true_and]
    omega
   ·simp only[cR]
    congr 3
    funext k
    exact gu (by rw[jr]) k
   ·exact(fm (by omega)).trans (ho0 k hk)
   ·simp only
    rw[show 32*(i+(j+1))=32*((i+j)+1) by omega,gz,val]
    have hset:=D7 (o:=o) (x:=(c+az A i*az B j+o (i+j))%4294967296) (show i+j<nl A+nl B by omega)
    exact Pb rfl (Nat.div_add_mod _ _) hset (by rw[←Nat.pow_add];congr 1;omega) hval
  ·show aD P c0 lg.ntmps (behind sC [1,0,1]) s' _
   have hjm:j=nl B:=by omega
   have hib:IntKind.i64.wrap ((i:Int)+(nl B:Int))=((i+nl B:Nat):Int):=ef (by omega) (by omega)
   refine aD.eH hT eA hm 60 hv (h0 24577) rfl (gx (by omega)) j8 aeL (by kernel_rfl) (by kernel_rfl) ?_
   rw[hib]
   simp only[aa.all,ax,Int.toNat_natCast,Nat.add_zero,beq_iff_eq]
   refine⟨⟨by omega,by omega⟩,fun s' hv=>?_⟩
   have hf:(fun k=>if k=i+nl B then AV.int .u32 (IntKind.u32.wrap (c:Int))else ay o k)=ay (bU o (i+nl B) c):=by
    funext k
    exact gu (wrap_u32 (by omega) (by omega)) k
   rw[hf]at hv
   show aD P c0 lg.ntmps [part pZ [1,1]] s' _
   refine aD.eH hT eA hm 60 hv (h0 24577) rfl (gx (by omega)) j8 Rx (by kernel_rfl) (by kernel_rfl) fun s' hv=>bY ?_
   refine⟨(i+1,bU o (i+nl B) c),dm hv ?_ rfl,⟨by simp only;omega,gT hc ho,fun k hk=>(fm (by simp only at hk;omega)).trans (ho0 k (by simp only at hk;omega)),?_⟩,by simp only;omega⟩
   ·rw[ef (a:=(i:Int)+1) (n:=i+1) (by omega) (by omega)]
   ·simp only
    rw[hjm,fJ]at hval
    rw[qB (by omega) (ho0 _ (by omega)),hval,val,Nat.add_mul,Nat.mul_assoc,Nat.mul_assoc,Nat.mul_comm B]
 ·have hin:i=nl A:=by omega
  refine aD.jz hT eA hm 60 hv (h0 _) rfl (gx (by omega)) agR (by kernel_rfl) (by kernel_rfl) ?_
  simp only[aa.all,ax,Nat.add_zero,jn]
  refine⟨⟨fR ho,by omega⟩,dc (congrArg AV.mag ?_)⟩
  rw[hval,hin,fJ]
def FJ:Spec:=mL (fun A B=>.mag (A*B)) fun A B=>[nl A<2^39,nl B<2^39]
theorem JV:∀K args pre r,FJ K args pre=some r→aB P tA K args pre r:=oO fun h=>YS h.1 h.2
theorem LW {v b r A:Nat} (h:v*b+r=A) (hr:r<b):A/b=v∧A%b=r:=by
 subst h
 refine⟨?_,?_⟩
 ·rw[Nat.mul_comm,Nat.mul_add_div (by omega),Nat.div_eq_of_lt hr,Nat.add_zero]
 ·rw[Nat.mul_comm,Nat.mul_add_mod,Nat.mod_eq_of_lt hr]
theorem agG {A b:Nat} (hA:nl A<2^40) (hb0:0<b) (hb32:b<2^32) (K:Nat):aB P tv K [.mag A,.int .u32 b] [] (aK (.tuple [.mag (A/b),.int .u32 (A%b:Nat)]) []):=by
 refine iq hT aiU rfl (of_decide_eq_true (by kernel_rfl)) rfl (fun _ c0 h0=>?_) K []
 refine aq.hole [1,1,1,0,1] (by kernel_rfl) (aD.bf hT eA hm 60 qH ahM (by kernel_rfl) ?_)
 simp only[aa.all,ax,Int.toNat_natCast]
 refine⟨by omega,fun s' hv=>bY ?_⟩
 refine aq.gC (i:=0) (y:=QT) (by kernel_rfl) qH 16385 (h0 _) (fun p:Nat×Nat×(Nat→Nat)=>GO A b p.2.1 p.1 16384) (fun p=>cR 16384 (nl A) p.2.2) (fun _=>rfl) (fun _=>gx (by omega))
  (fun p=>p.1≤nl A∧p.2.1<b∧(∀j,j<nl A→p.2.2 j<2^32)∧(∀j,j<p.1→p.2.2 j=0)∧val (nl A) p.2.2*b+p.2.1*2^(32*p.1)+val p.1 (az A)=A)
  (fun p=>p.1) (nl A,0,fun _=>0) (dm hv (by rw[wrap_i64 (by omega) (by omega)];rfl) rfl) ⟨by simp,hb0,fun j _=>by simp,fun j _=>rfl,?_⟩ ?_
 ·simp only
  rw[val_zero fun _ _=>rfl,fJ]
  simp
 rintro⟨k,r,o⟩ ⟨hk,hr,ho,ho0,hval⟩
 simp only at hk hr ho ho0 hval
 refine aq.bf hT eA hm 60 qH af7 (by kernel_rfl) ?_
 simp only[aa.all,ax,decide_eq_true_eq,decide_eq_false_iff_not,Nat.add_zero,beq_iff_eq]
 have hbw:IntKind.u64.wrap (b:Int)=(b:Int):=bN (by omega) (by omega)
 refine⟨fun hb=>?_,fun hb s' hv=>eV (bY ?_)⟩
 ·obtain⟨j,rfl⟩:∃j,k=j+1:=⟨k-1,by omega⟩
  have e:(((j+1:Nat):Int)-1).toNat=j:=by omega
  have hzj:=de (N:=A) (i:=j)
  have hor:=tq (a:=r) (b:=az A j) (by omega) hzj
  rw[e,hor,hbw]
  have hq1:(r*4294967296+az A j)/b<2^32:=by
   rw[Nat.div_lt_iff_lt_mul hb0]
   have:(r+1)*4294967296≤b*4294967296:=Nat.mul_le_mul_right _ hr
   omega
  have hdm:=Nat.div_add_mod (r*4294967296+az A j) b
  refine⟨⟨by omega,by omega,by omega⟩,⟨by omega,⟨by omega,by omega⟩,by omega⟩,by omega,fun s' hv=>⟨(j,(r*4294967296+az A j)%b,bU o j ((r*4294967296+az A j)/b)),dm hv ?_ ?_,⟨by simp only;omega,Nat.mod_lt _ hb0,gT hq1 ho,fun i hi=>?_,?_⟩,by simp only;omega⟩⟩
  ·rw[←Int.ofNat_tmod,wrap_i64 (by omega) (by omega),show((j+1:Nat):Int)-1-1=(j:Int)-1 by omega]
  ·simp only[cR]
   congr 3
   funext i
   refine gu ?_ i
   rw[←Int.ofNat_tdiv]
   clear hdm
   generalize (r*4294967296+az A j)/b=q at hq1 ⊢
   rw[bN (by omega) (by omega),wrap_u32 (by omega) (by omega)]
  ·exact(fm (by simp only at hi;omega)).trans (ho0 i (by simp only at hi;omega))
  ·simp only
   rw[qB (by omega) (ho0 j (by omega))]
   rw[gz,val]at hval
   exact I4 hval hdm.symm
 ·have hk0:k=0:=by omega
  have hv2:val (nl A) o*b+r=A:=by rw[hk0]at hval;simpa [val]using hval
  refine aD.jz hT eA hm 60 hv (h0 _) rfl (gx (by omega)) akL (by kernel_rfl) (by kernel_rfl) ?_
  simp only[aa.all,ax,Nat.add_zero,jn]
  obtain⟨hdiv,hmod⟩:=LW hv2 hr
  exact⟨⟨fR ho,hA⟩,dc (congrArg AV.mag hdiv.symm),bw (by rw[hmod,wrap_u32 (by omega) (by omega)]),trivial⟩
def Hh:Spec:=bC fun l=>match l with
 |[a,.int .u32 b]=>match iD a with
  |some A=>some (aK (.tuple [.mag (A/b.toNat),.int .u32 (A%b.toNat:Nat)]) [nl A<2^40,0<b,b<2^32])
  |none=>none
 |_=>none
theorem Jt:∀K args pre r,Hh K args pre=some r→aB P tv K args pre r:=by
 refine bV fun K args r hk hs _=>?_
 split at hs
 ·rename_i a b
  split at hs
  ·rename_i A hA
   simp only[Option.some.injEq]at hs
   subst hs
   intro need
   obtain⟨h1,h2,h3⟩:nl A<2^40∧0<b∧b<2^32:=need
   obtain⟨b,rfl⟩:=Int.eq_ofNat_of_zero_le (Int.le_of_lt h2)
   exact gb (agG h1 (by omega) (by omega) K) hk ⟨kU hA,.refl _,trivial⟩ [] trivial
  ·simp at hs
 ·simp at hs
end Go.Am.B
