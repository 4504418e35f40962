/- ref01: minus, Sub, Mul, byLimb. -/
import Derived.Test.YtppeigelbecpbaaGreatB23
set_option linter.unusedVariables false
namespace Go.Am.B
open Go Go.Am.N AV
theorem Pq:aN P sY mX (au mX):=aO Rg (by kernel_rfl) (by kernel_rfl) (by kernel_rfl)
theorem Vp:aN P vF vh (au vh):=aO Vb (by kernel_rfl) (by kernel_rfl) (by kernel_rfl)
theorem JM:aN P qc iU (au iU):=aO Rl (by kernel_rfl) (by kernel_rfl) (by kernel_rfl)
theorem Wf:aN P pE og (au og):=aO Ze (by kernel_rfl) (by kernel_rfl) (by kernel_rfl)
abbrev ki:List Nat:=[0,1,5,6,7]
abbrev rM (A B c i K:Nat):List AV:=[.mag A,.mag B,.own K 1 0 (nl A),.int .u64 c,.int .i64 i]
abbrev cm (K n:Nat) (o:Nat→Nat):aA:=[(K,⟨true,true,1,n,ax o⟩)]
noncomputable abbrev EK:Code:=part (au mX) [1,1,1,0,1,0,0]
theorem UY {A B:Nat}:aJ T dn [] 60 ki (before (au mX) [1,1,1,0,1]) ⟨aM 0 [.mag A,.mag B],[],0⟩=
  let c1:Int:=(↑(nl A):Int);some (aa.ag [(0:Int)≤c1∧c1≤c1∧c1≤(2:Int)^47∧c1*(↑(4:Nat):Int)≤(2:Int)^47] (aa.leaf ah.normal ([mag A,mag B,own 12288 1 0 c1.toNat,int IntKind.u64 (0:Int),int IntKind.i64 (0:Int)],[((12288:Nat),ak.mk true true 1 c1.toNat fun x↦int IntKind.u32 (0:Int))]))):=by kernel_rfl
theorem Lm {A B c i:Nat} {o:Nat→Nat}:aJ T dn [16,23,38] 60 ki [EK] ⟨aD ki (rM A B c i 12288),cm 12288 (nl A) o,12289⟩=
  let c13:Int:=(↑c:Int);let c8:Int:=(↑i:Int);let c5:AV:=own 12288 1 0 (nl A);let c4:List AV:=[int IntKind.i64 (IntKind.i64.wrap (c8+(1:Int)))];let c1:Nat:=c8.toNat;let c11:Prop:=(0:Int)≤c8∧c1<nl A;let c10:List AV:=mag A::mag B::c5::int IntKind.u64 (0:Int)::c4;let c9:List AV:=mag A::mag B::c5::int IntKind.u64 (1:Int)::c4;let c7:Nat:=c1+0;let c3:Int:=IntKind.u64.wrap (c13+IntKind.u64.wrap (↑(ay B c1):Int));let c2:Int:=IntKind.u64.wrap (↑(ay A c1):Int);let c12:Int:=IntKind.u64.wrap (c2+(4294967296:Int));let c6:List Prop:=[c11,c7<nl A];some (aa.fork (decide (c8<(↑(nl A):Int))) (aa.fork (decide (c8<(↑(nl B):Int))) (aa.ag [(0:Int)≤c8∧c1<nl B] (aa.ag [c11] (aa.fork (decide (c2<c3)) (aa.ag c6 (aa.leaf ah.normal (c9,[((12288:Nat),ak.mk true true 1 (nl A) fun j↦if(j==c7)=true then int IntKind.u32 (IntKind.u32.wrap (IntKind.u64.wrap (c12-c3)))else ax o j)]))) (aa.ag c6 (aa.leaf ah.normal (c10,[((12288:Nat),ak.mk true true 1 (nl A) fun j↦if(j==c7)=true then int IntKind.u32 (IntKind.u32.wrap (IntKind.u64.wrap (c2-c3)))else ax o j)])))))) (aa.ag [c11] (aa.fork (decide (c2<c13)) (aa.ag c6 (aa.leaf ah.normal (c9,[((12288:Nat),ak.mk true true 1 (nl A) fun j↦if(j==c7)=true then int IntKind.u32 (IntKind.u32.wrap (IntKind.u64.wrap (c12-c13)))else ax o j)]))) (aa.ag c6 (aa.leaf ah.normal (c10,[((12288:Nat),ak.mk true true 1 (nl A) fun j↦if(j==c7)=true then int IntKind.u32 (IntKind.u32.wrap (IntKind.u64.wrap (c2-c13)))else ax o j)])))))) (aa.leaf (ah.exit 0) ([mag A,mag B,c5,int IntKind.u64 c13,int IntKind.i64 c8],[((12288:Nat),ak.mk true true 1 (nl A) fun a↦int IntKind.u32 (↑(o a):Int))]))):=by kernel_rfl
theorem Kw {A B c i:Nat} {o:Nat→Nat}:b7 T dn [] 60 mX (behind (au mX) [1,1,1,0,1]) ⟨aD ki (rM A B c i 12288),cm 12288 (nl A) o,12289⟩=
  some (aa.ag [cJ (nl A) fun i↦ax o (i+0),nl A<2^40] (aa.leaf ah.ret [mag (val (nl A) fun i↦numOf (ax o (i+0)))])):=by kernel_rfl
abbrev iA:List Nat:=[0,1,5,6]
abbrev qz (A B i K:Nat):List AV:=[.mag A,.mag B,.own K 1 0 (nl A+nl B),.int .i64 i]
abbrev ni:List Nat:=[0,1,5,6,7,8]
abbrev yP (A B i c j K:Nat):List AV:=[.mag A,.mag B,.own K 1 0 (nl A+nl B),.int .i64 i,.int .u64 c,.int .i64 j]
noncomputable abbrev lF:Code:=part (au iU) [1,1,0,1,0,0]
noncomputable abbrev o6:Code:=part lF [1,0,0]
theorem QB {A B:Nat}:aJ T dn [] 60 iA (before (au iU) [1,1,0,1]) ⟨aM 0 [.mag A,.mag B],[],0⟩=
  let c1:Int:=IntKind.i64.wrap ((↑(nl A):Int)+(↑(nl B):Int));some (aa.ag [(0:Int)≤c1∧c1≤c1∧c1≤(2:Int)^47∧c1*(↑(4:Nat):Int)≤(2:Int)^47] (aa.leaf ah.normal ([mag A,mag B,own 24576 1 0 c1.toNat,int IntKind.i64 (0:Int)],[((24576:Nat),ak.mk true true 1 c1.toNat fun x↦int IntKind.u32 (0:Int))]))):=by kernel_rfl
theorem Pd {A B i:Nat} {o:Nat→Nat}:aJ T dn [18] 60 iA [part lF [0]] ⟨aD iA (qz A B i 24576),cm 24576 (nl A+nl B) o,24577⟩=
  let c1:List AV×aA:=([mag A,mag B,own 24576 1 0 (nl A+nl B),int IntKind.i64 (↑i:Int)],[((24576:Nat),ak.mk true true 1 (nl A+nl B) fun a↦int IntKind.u32 (↑(o a):Int))]);some (aa.fork (decide ((↑i:Int)<(↑(nl A):Int))) (aa.leaf ah.normal c1) (aa.leaf (ah.exit 0) c1)):=by kernel_rfl
theorem Yi {A B i:Nat} {o:Nat→Nat}:aJ T dn [] 60 ni (before o6 [1,0,1]) ⟨aD iA (qz A B i 24576),cm 24576 (nl A+nl B) o,24577⟩=
  some (aa.leaf ah.normal ([mag A,mag B,own 24576 1 0 (nl A+nl B),int IntKind.i64 (↑i:Int),int IntKind.u64 (0:Int),int IntKind.i64 (0:Int)],[((24576:Nat),ak.mk true true 1 (nl A+nl B) fun a↦int IntKind.u32 (↑(o a):Int))])):=by kernel_rfl
theorem JG {A B i c j:Nat} {o:Nat→Nat}:aJ T dn [24] 60 ni [part o6 [1,0,1,0,0]] ⟨aD ni (yP A B i c j 24576),cm 24576 (nl A+nl B) o,24577⟩=
  let c7:Int:=(↑i:Int);let c5:Int:=(↑j:Int);let c4:Nat:=nl A+nl B;let c6:AV:=own 24576 1 0 c4;let c1:Int:=IntKind.i64.wrap (c7+c5);let c3:Nat:=c1.toNat+0;let c8:List Prop:=[(0:Int)≤c1∧c1.toNat<c4,c3<c4];let c2:Int:=IntKind.u64.wrap ((↑c:Int)+IntKind.u64.wrap (IntKind.u64.wrap (IntKind.u64.wrap (↑(ay A c7.toNat):Int)*IntKind.u64.wrap (↑(ay B c5.toNat):Int))+IntKind.u64.wrap (↑(o c3):Int)));some (aa.fork (decide (c5<(↑(nl B):Int))) (aa.ag (((0:Int)≤c7∧c7.toNat<nl A)::((0:Int)≤c5∧c5.toNat<nl B)::c8) (aa.ag c8 (aa.ag [(0:Int)≤(32:Int)] (aa.leaf ah.normal ([mag A,mag B,c6,int IntKind.i64 c7,int IntKind.u64 (c2.fdiv ((2:Int)^min (Int.toNat (32:Int)) IntKind.u64.bits)),int IntKind.i64 (IntKind.i64.wrap (c5+(1:Int)))],[((24576:Nat),ak.mk true true 1 c4 fun j↦if(j==c3)=true then int IntKind.u32 (IntKind.u32.wrap c2)else ax o j)]))))) (aa.leaf (ah.exit 2) ([mag A,mag B,c6,int IntKind.i64 c7,int IntKind.u64 (↑c:Int),int IntKind.i64 c5],[((24576:Nat),ak.mk true true 1 c4 fun a↦int IntKind.u32 (↑(o a):Int))]))):=by kernel_rfl
theorem Uf {A B i c j:Nat} {o:Nat→Nat}:aJ T dn [] 60 iA (behind o6 [1,0,1]) ⟨aD ni (yP A B i c j 24576),cm 24576 (nl A+nl B) o,24577⟩=
  let c3:Nat:=nl A+nl B;let c1:Int:=IntKind.i64.wrap ((↑i:Int)+(↑(nl B):Int));let c2:Nat:=c1.toNat+0;some (aa.ag [(0:Int)≤c1∧c1.toNat<c3,c2<c3] (aa.leaf ah.normal ([mag A,mag B,own 24576 1 0 c3,int IntKind.i64 (↑i:Int)],[((24576:Nat),ak.mk true true 1 c3 fun j↦if(j==c2)=true then int IntKind.u32 (IntKind.u32.wrap (↑c:Int))else ax o j)]))):=by kernel_rfl
theorem Oi {A B i:Nat} {o:Nat→Nat}:aJ T dn [] 60 iA [part lF [1,1]] ⟨aD iA (qz A B i 24576),cm 24576 (nl A+nl B) o,24577⟩=
  some (aa.leaf ah.normal ([mag A,mag B,own 24576 1 0 (nl A+nl B),int IntKind.i64 (IntKind.i64.wrap ((↑i:Int)+(1:Int)))],[((24576:Nat),ak.mk true true 1 (nl A+nl B) fun a↦int IntKind.u32 (↑(o a):Int))])):=by kernel_rfl
theorem RJ {A B i:Nat} {o:Nat→Nat}:b7 T dn [] 60 iU (behind (au iU) [1,1,0,1]) ⟨aD iA (qz A B i 24576),cm 24576 (nl A+nl B) o,24577⟩=
  some (aa.ag [cJ (nl A+nl B) fun i↦ax o (i+0),nl A+nl B<2^40] (aa.leaf ah.ret [mag (val (nl A+nl B) fun i↦numOf (ax o (i+0)))])):=by kernel_rfl
abbrev oc:List Nat:=[0,1,6,7,8]
abbrev z5 (A b r k K:Nat):List AV:=[.mag A,.int .u32 b,.own K 1 0 (nl A),.int .u64 r,.int .i64 ((k:Int)-1)]
noncomputable abbrev C4:Code:=part (au og) [1,1,1,0,1,0,0]
theorem KQ {A b:Nat}:aJ T dn [] 60 oc (before (au og) [1,1,1,0,1]) ⟨aM 0 [.mag A,.int .u32 b],[],0⟩=
  let c1:Int:=(↑(nl A):Int);some (aa.ag [(0:Int)≤c1∧c1≤c1∧c1≤(2:Int)^47∧c1*(↑(4:Nat):Int)≤(2:Int)^47] (aa.leaf ah.normal ([mag A,int IntKind.u32 (↑b:Int),own 16384 1 0 c1.toNat,int IntKind.u64 (0:Int),int IntKind.i64 (IntKind.i64.wrap (c1-(1:Int)))],[((16384:Nat),ak.mk true true 1 c1.toNat fun x↦int IntKind.u32 (0:Int))]))):=by kernel_rfl
theorem X7 {A b r k:Nat} {o:Nat→Nat}:aJ T dn [16] 60 oc [C4] ⟨aD oc (z5 A b r k 16384),cm 16384 (nl A) o,16385⟩=
  let c7:AV:=int IntKind.u32 (↑b:Int);let c4:AV:=own 16384 1 0 (nl A);let c3:Int:=IntKind.u64.wrap (↑b:Int);let c2:Int:=(↑k:Int)-(1:Int);let c6:Prop:=(0:Int)≤c2∧c2.toNat<nl A;let c5:Nat:=c2.toNat+0;let c1:Int:=IntKind.u64.wrap (↑(BitVec.ofInt IntKind.u64.bits (IntKind.u64.wrap ((↑r:Int)*(2:Int)^min (Int.toNat (32:Int)) IntKind.u64.bits))|||BitVec.ofInt IntKind.u64.bits (IntKind.u64.wrap (↑(ay A c2.toNat):Int))).toNat:Int);some (aa.fork (decide (c2≥(0:Int))) (aa.ag [(0:Int)≤(32:Int),c6] (aa.ag [c3≠(0:Int),c6,c5<nl A] (aa.ag [c3≠(0:Int)] (aa.leaf ah.normal ([mag A,c7,c4,int IntKind.u64 (c1.tmod c3),int IntKind.i64 (IntKind.i64.wrap (c2-(1:Int)))],[((16384:Nat),ak.mk true true 1 (nl A) fun j↦if(j==c5)=true then int IntKind.u32 (IntKind.u32.wrap (IntKind.u64.wrap (c1.tdiv c3)))else ax o j)]))))) (aa.leaf (ah.exit 0) ([mag A,c7,c4,int IntKind.u64 (↑r:Int),int IntKind.i64 c2],[((16384:Nat),ak.mk true true 1 (nl A) fun a↦int IntKind.u32 (↑(o a):Int))]))):=by kernel_rfl
theorem Yd {A b r k:Nat} {o:Nat→Nat}:b7 T dn [] 60 og (behind (au og) [1,1,1,0,1]) ⟨aD oc (z5 A b r k 16384),cm 16384 (nl A) o,16385⟩=
  some (aa.ag [cJ (nl A) fun i↦ax o (i+0),nl A<2^40] (aa.leaf ah.ret [mag (val (nl A) fun i↦numOf (ax o (i+0))),int IntKind.u32 (IntKind.u32.wrap (↑r:Int))])):=by kernel_rfl
def GK:aT:=[(mB,qw),(sY,jQ (fun A B=>.mag (A-B)) fun A B=>[B≤A,nl A<2^40])]
theorem Pp {A B:Nat}:bu T GK [9] 60 vh (au vh) ⟨aM 0 [.mag A,.mag B],[],0⟩=
  let c1:Nat:=2^40;some (aa.ag [nl A<c1,nl B<c1] (aa.fork (decide (bY A B<(0:Int))) (aa.leaf ah.ret [nil,int IntKind.i64 (7:Int)]) (aa.ag [B≤A,nl A<c1] (aa.leaf ah.ret [mag (A-B),int IntKind.i64 (0:Int)])))):=by kernel_rfl
theorem eW {K n nx:Nat} {o:Nat→Nat} (h:K<nx):ff nx (cm K n o):=⟨⟨h,fun _ _=>rfl⟩,trivial⟩
theorem Ul {vo va vb ai x c b' un u' B:Nat} (hx:x=c+b') (hu:un+x=ai+4294967296*u') (h:va+c*B=vo+vb):va+ai*B+u'*(4294967296*B)=vo+un*B+(vb+b'*B):=by
 have e:(un+x)*B=(ai+4294967296*u')*B:=by rw[hu]
 subst hx
 grind
theorem Gg {A B:Nat} (hAB:B≤A) (hA:nl A<2^40) (K:Nat):aB P sY K [.mag A,.mag B] [] (aG (.mag (A-B)) []):=by
 have hB:nl B≤nl A:=fA hAB
 refine fZ hT Pq rfl (of_decide_eq_true (by kernel_rfl)) rfl (fun _ c0 h0=>?_) K []
 refine aj.hole [1,1,1,0,1] (by kernel_rfl) (aC.aV hT dr hm 60 ki UY (by kernel_rfl) ?_)
 simp only[aa.all,az,Int.toNat_natCast]
 refine⟨by omega,fun s' hv=>bK ?_⟩
 refine aj.fl (i:=0) (y:=EK) (by kernel_rfl) ki 12289 (h0 _) (fun p:Nat×Nat×(Nat→Nat)=>rM A B p.2.1 p.1 12288) (fun p=>cm 12288 (nl A) p.2.2) (fun _=>rfl) (fun _=>eW (by omega))
  (fun p=>p.1≤nl A∧p.2.1≤1∧(∀j,j<nl A→p.2.2 j<2^32)∧val p.1 (ay A)+p.2.1*2^(32*p.1)=val p.1 p.2.2+val p.1 (ay B))
  (fun p=>nl A-p.1) (0,0,fun _=>0) hv ⟨by simp,by simp,fun _ _=>by simp,by simp[val]⟩ ?_
 rintro⟨i,c,o⟩ ⟨hi,hc,ho,hval⟩
 simp only at hi hc ho hval
 refine aj.aV hT dr hm 60 ki Lm (by kernel_rfl) ?_
 have la:=cA (N:=A) (i:=i)
 have lb:=cA (N:=B) (i:=i)
 have wa:IntKind.u64.wrap (ay A i:Int)=((ay A i:Nat):Int):=bA (by omega) (by omega)
 have wb:IntKind.u64.wrap (ay B i:Int)=((ay B i:Nat):Int):=bA (by omega) (by omega)
 have w1:IntKind.u64.wrap ((c:Int)+((ay B i:Nat):Int))=((c+ay B i:Nat):Int):=by rw[bA (by omega) (by omega)];omega
 have w2:IntKind.u64.wrap (((ay A i:Nat):Int)+4294967296)=((ay A i+4294967296:Nat):Int):=by rw[bA (by omega) (by omega)];omega
 have w3:IntKind.i64.wrap ((i:Int)+1)=((i+1:Nat):Int):=by rw[wrap_i64 (by omega) (by omega)];omega
 simp only[aa.all,az,decide_eq_true_eq,decide_eq_false_iff_not,Int.toNat_natCast,Nat.add_zero,beq_iff_eq]
 rw[wa,wb,w1,w2,w3]
 -- what is put down
 have next:∀{s':aE} {x u':Nat} {v:Int},i<nl A→x=c+ay B i→u'≤1→x≤ay A i+4294967296*u'→ay A i+4294967296*u'<x+4294967296→v=((ay A i+4294967296*u'-x:Nat):Int)→
   aR ki s'=some (rM A B u' (i+1) 12288,[(12288,⟨true,true,1,nl A,fun j=>if j=i then .int .u32 (IntKind.u32.wrap (IntKind.u64.wrap v))else ax o j⟩)])→
   ∃k:Nat×Nat×(Nat→Nat),aR ki s'=some (rM A B k.2.1 k.1 12288,cm 12288 (nl A) k.2.2)∧(k.1≤nl A∧k.2.1≤1∧(∀j,j<nl A→k.2.2 j<2^32)∧val k.1 (ay A)+k.2.1*2^(32*k.1)=val k.1 k.2.2+val k.1 (ay B))∧nl A-k.1<nl A-i:=by
  intro s' x u' v hin hx hu1 h1 h2 hv1 hv
  refine⟨(i+1,u',bG o i (ay A i+4294967296*u'-x)),cC hv rfl ?_,⟨by simp only;omega,hu1,fJ (by omega) ho,?_⟩,by simp only;omega⟩
  ·simp only[cm]
   congr 3
   funext k
   exact e9 (by rw[hv1,bA (by omega) (by omega),wrap_u32 (by omega) (by omega)]) k
  ·simp only
   rw[mS,val,val,fm]
   exact Ul (b':=ay B i) (x:=x) hx (by omega) hval
 refine⟨fun hb=>⟨fun hb2=>⟨by omega,by omega,fun h3=>⟨⟨by omega,by omega⟩,fun s' hv=>?_⟩,fun h3=>⟨⟨by omega,by omega⟩,fun s' hv=>?_⟩⟩,fun hb2=>⟨by omega,fun h3=>⟨⟨by omega,by omega⟩,fun s' hv=>?_⟩,fun h3=>⟨⟨by omega,by omega⟩,fun s' hv=>?_⟩⟩⟩,fun hb s' hv=>dM (bK ?_)⟩
 ·exact next (u':=1) (by omega) rfl (by omega) (by omega) (by omega) (by omega) hv
 ·exact next (u':=0) (by omega) rfl (by omega) (by omega) (by omega) (by omega) hv
 ·exact next (u':=1) (x:=c) (by omega) (by rw[gB (A:=B) (by omega)];rfl) (by omega) (by omega) (by omega) (by omega) hv
 ·exact next (u':=0) (x:=c) (by omega) (by rw[gB (A:=B) (by omega)];rfl) (by omega) (by omega) (by omega) (by omega) hv
 ·have hin:i=nl A:=by omega
  refine aC.g8 hT dr hm 60 hv (h0 _) rfl (eW (by omega)) Kw (by kernel_rfl) (by kernel_rfl) ?_
  simp only[aa.all,az,Nat.add_zero,gC]
  refine⟨⟨eA ho,hA⟩,cD (congrArg AV.mag ?_)⟩
  rw[hin,ep,lW (cq.1 hB)]at hval
  have hlt:=ec ho
  have:c=0:=by
   rcases Nat.eq_zero_or_pos c with h|h
   ·exact h
   ·exfalso
    have h1:1*2^(32*nl A)≤c*2^(32*nl A):=Nat.mul_le_mul_right _ h
    omega
  rw[this]at hval
  omega
theorem NM:bp P GK:=aK xN (aK (lS fun h=>Gg h.1 h.2) br)
theorem Qq {A B:Nat} (hA:nl A<2^40) (hB:nl B<2^40) (K:Nat):aB P vF K [.mag A,.mag B] [] (aG (.tuple [.mag (A-B),.int .i64 (if A<B then 7 else 0)]) []):=by
 refine bE hT NM hm Vp rfl (of_decide_eq_true (by kernel_rfl)) rfl 60 Pp (fun _=>?_) K []
 simp only[aa.all,az,decide_eq_true_eq,decide_eq_false_iff_not,xZ]
 refine⟨⟨hA,hB⟩,fun h=>⟨?_,bh (by rw[if_pos h]),trivial⟩,fun h=>⟨⟨by omega,hA⟩,.refl _,bh (by rw[if_neg h]),trivial⟩⟩
 rw[Nat.sub_eq_zero_of_le (by omega)];exact ir
def FB:Spec:=jQ (fun A B=>.tuple [.mag (A-B),.int .i64 (if A<B then 7 else 0)]) AD
theorem J2:∀K args pre r,FB K args pre=some r→aB P vF K args pre r:=lS fun h=>Qq h.1 h.2
theorem V8 {A B:Nat} (hA:nl A<2^39) (hB:nl B<2^39) (K:Nat):aB P qc K [.mag A,.mag B] [] (aG (.mag (A*B)) []):=by
 refine fZ hT JM rfl (of_decide_eq_true (by kernel_rfl)) rfl (fun _ c0 h0=>?_) K []
 refine aj.hole [1,1,0,1] (by kernel_rfl) (aC.aV hT dr hm 60 iA QB (by kernel_rfl) ?_)
 have hw:IntKind.i64.wrap ((nl A:Int)+(nl B:Int))=((nl A+nl B:Nat):Int):=cY (by omega) (by omega)
 rw[hw]
 simp only[aa.all,az,Int.toNat_natCast]
 refine⟨by omega,fun s' hv=>bK ?_⟩
 refine aj.fl (i:=0) (y:=lF) (by kernel_rfl) iA 24577 (h0 _) (fun p:Nat×(Nat→Nat)=>qz A B p.1 24576) (fun p=>cm 24576 (nl A+nl B) p.2) (fun _=>rfl) (fun _=>eW (by omega))
  (fun p=>p.1≤nl A∧(∀j,j<nl A+nl B→p.2 j<2^32)∧(∀j,p.1+nl B≤j→p.2 j=0)∧val (nl A+nl B) p.2=val p.1 (ay A)*B)
  (fun p=>nl A-p.1) (0,fun _=>0) hv ⟨by simp,fun _ _=>by simp,fun _ _=>rfl,?_⟩ ?_
 ·simp only
  rw[val_zero fun _ _=>rfl]
  simp[val]
 rintro⟨i,o⟩ ⟨hi,ho,ho0,hval⟩
 simp only at hi ho ho0 hval
 refine aj.hole [0] (by kernel_rfl) (show aj P c0 iU.ntmps (part lF [0]) _ _ from aj.aV hT dr hm 60 iA Pd (by kernel_rfl) ?_)
 simp only[aa.all,decide_eq_true_eq,decide_eq_false_iff_not]
 refine⟨fun h1 s' hv=>bK ?_,fun h1 s' hv=>nr (dM (bK ?_))⟩
 ·have hin:i<nl A:=by omega
  have la:=cA (N:=A) (i:=i)
  show aC P c0 iU.ntmps [part lF [1]] s' _
  refine aj.hole [0] (by kernel_rfl) ?_
  show aj P c0 iU.ntmps (part lF [1,0]) s' _
  refine aj.mq (i:=1) (y:=o6) (by kernel_rfl) (aj.gY hv (h0 24577) rfl (eW (by omega)) ?_)
  refine aj.hole [1,0,1] (by kernel_rfl) (aC.aV hT dr hm 60 ni Yi (by kernel_rfl) fun s' hv=>bK ?_)
  refine aj.fl (i:=2) (y:=part o6 [1,0,1,0,0]) (by kernel_rfl) ni 24577 (h0 _) (fun p:Nat×Nat×(Nat→Nat)=>yP A B i p.2.1 p.1 24576) (fun p=>cm 24576 (nl A+nl B) p.2.2) (fun _=>rfl) (fun _=>eW (by omega))
   (fun p=>p.1≤nl B∧p.2.1<2^32∧(∀j,j<nl A+nl B→p.2.2 j<2^32)∧(∀j,i+nl B≤j→p.2.2 j=0)∧val (nl A+nl B) p.2.2+p.2.1*2^(32*(i+p.1))=val i (ay A)*B+ay A i*val p.1 (ay B)*2^(32*i))
   (fun p=>nl B-p.1) (0,0,o) hv ⟨by simp,by simp,ho,ho0,by simp[val,hval]⟩ ?_
  rintro⟨j,c,o⟩ ⟨hj,hc,ho,ho0,hval⟩
  simp only at hj hc ho ho0 hval
  refine aj.aV hT dr hm 60 ni JG (by kernel_rfl) ?_
  have hij:IntKind.i64.wrap ((i:Int)+(j:Int))=((i+j:Nat):Int):=cY (by omega) (by omega)
  have lb:=cA (N:=B) (i:=j)
  simp only[aa.all,az,decide_eq_true_eq,decide_eq_false_iff_not,hij,Int.toNat_natCast,Nat.add_zero,beq_iff_eq]
  refine⟨fun h2=>?_,fun h2 s' hv=>dM ?_⟩
  ·have hjm:j<nl B:=by omega
   obtain⟨m1,m2,m3⟩:=CK hc la lb (ho (i+j) (by omega))
   rw[m1]
   refine⟨⟨by omega,by omega,by omega,by omega⟩,⟨by omega,by omega⟩,by omega,fun s' hv=>⟨(j+1,(c+ay A i*ay B j+o (i+j))/4294967296,bG o (i+j) ((c+ay A i*ay B j+o (i+j))%4294967296)),cC hv ?_ ?_,⟨by simp only;omega,m3,fJ (by omega) ho,fun k hk=>?_,?_⟩,by simp only;omega⟩⟩
   ·rw[ja,cY (a:=(j:Int)+1) (n:=j+1) (by omega) (by omega)]
    simp only[yP,List.cons.injEq,AV.int.injEq,and_true,true_and]
    omega
   ·simp only[cm]
    congr 3
    funext k
    exact e9 (by rw[gN]) k
   ·exact(dX (by omega)).trans (ho0 k hk)
   ·simp only
    rw[show 32*(i+(j+1))=32*((i+j)+1) by omega,fm,val]
    have hset:=zk (o:=o) (x:=(c+ay A i*ay B j+o (i+j))%4294967296) (show i+j<nl A+nl B by omega)
    exact EL rfl (Nat.div_add_mod _ _) hset (by rw[←Nat.pow_add];congr 1;omega) hval
  ·show aC P c0 iU.ntmps (behind o6 [1,0,1]) s' _
   have hjm:j=nl B:=by omega
   have hib:IntKind.i64.wrap ((i:Int)+(nl B:Int))=((i+nl B:Nat):Int):=cY (by omega) (by omega)
   refine aC.dB hT dr hm 60 hv (h0 24577) rfl (eW (by omega)) iA Uf (by kernel_rfl) (by kernel_rfl) ?_
   rw[hib]
   simp only[aa.all,az,Int.toNat_natCast,Nat.add_zero,beq_iff_eq]
   refine⟨⟨by omega,by omega⟩,fun s' hv=>?_⟩
   have hf:(fun k=>if k=i+nl B then AV.int .u32 (IntKind.u32.wrap (c:Int))else ax o k)=ax (bG o (i+nl B) c):=by
    funext k
    exact e9 (wrap_u32 (by omega) (by omega)) k
   rw[hf]at hv
   show aC P c0 iU.ntmps [part lF [1,1]] s' _
   refine aC.dB hT dr hm 60 hv (h0 24577) rfl (eW (by omega)) iA Oi (by kernel_rfl) (by kernel_rfl) fun s' hv=>bK ?_
   refine⟨(i+1,bG o (i+nl B) c),cC hv ?_ rfl,⟨by simp only;omega,fJ hc ho,fun k hk=>(dX (by simp only at hk;omega)).trans (ho0 k (by simp only at hk;omega)),?_⟩,by simp only;omega⟩
   ·rw[cY (a:=(i:Int)+1) (n:=i+1) (by omega) (by omega)]
   ·simp only
    rw[hjm,ep]at hval
    rw[mT (by omega) (ho0 _ (by omega)),hval,val,Nat.add_mul,Nat.mul_assoc,Nat.mul_assoc,Nat.mul_comm B]
 ·have hin:i=nl A:=by omega
  refine aC.g8 hT dr hm 60 hv (h0 _) rfl (eW (by omega)) RJ (by kernel_rfl) (by kernel_rfl) ?_
  simp only[aa.all,az,Nat.add_zero,gC]
  refine⟨⟨eA ho,by omega⟩,cD (congrArg AV.mag ?_)⟩
  rw[hval,hin,ep]
def zy:Spec:=jQ (fun A B=>.mag (A*B)) fun A B=>[nl A<2^39,nl B<2^39]
theorem CY:∀K args pre r,zy K args pre=some r→aB P qc K args pre r:=lS fun h=>V8 h.1 h.2
theorem Ir {v b r A:Nat} (h:v*b+r=A) (hr:r<b):A/b=v∧A%b=r:=by
 subst h
 refine⟨?_,?_⟩
 ·rw[Nat.mul_comm,Nat.mul_add_div (by omega),Nat.div_eq_of_lt hr,Nat.add_zero]
 ·rw[Nat.mul_comm,Nat.mul_add_mod,Nat.mod_eq_of_lt hr]
theorem Zi {A b:Nat} (hA:nl A<2^40) (hb0:0<b) (hb32:b<2^32) (K:Nat):aB P pE K [.mag A,.int .u32 b] [] (aG (.tuple [.mag (A/b),.int .u32 (A%b:Nat)]) []):=by
 refine fZ hT Wf rfl (of_decide_eq_true (by kernel_rfl)) rfl (fun _ c0 h0=>?_) K []
 refine aj.hole [1,1,1,0,1] (by kernel_rfl) (aC.aV hT dr hm 60 oc KQ (by kernel_rfl) ?_)
 simp only[aa.all,az,Int.toNat_natCast]
 refine⟨by omega,fun s' hv=>bK ?_⟩
 refine aj.fl (i:=0) (y:=C4) (by kernel_rfl) oc 16385 (h0 _) (fun p:Nat×Nat×(Nat→Nat)=>z5 A b p.2.1 p.1 16384) (fun p=>cm 16384 (nl A) p.2.2) (fun _=>rfl) (fun _=>eW (by omega))
  (fun p=>p.1≤nl A∧p.2.1<b∧(∀j,j<nl A→p.2.2 j<2^32)∧(∀j,j<p.1→p.2.2 j=0)∧val (nl A) p.2.2*b+p.2.1*2^(32*p.1)+val p.1 (ay A)=A)
  (fun p=>p.1) (nl A,0,fun _=>0) (cC hv (by rw[wrap_i64 (by omega) (by omega)];rfl) rfl) ⟨by simp,hb0,fun j _=>by simp,fun j _=>rfl,?_⟩ ?_
 ·simp only
  rw[val_zero fun _ _=>rfl,ep]
  simp
 rintro⟨k,r,o⟩ ⟨hk,hr,ho,ho0,hval⟩
 simp only at hk hr ho ho0 hval
 refine aj.aV hT dr hm 60 oc X7 (by kernel_rfl) ?_
 simp only[aa.all,az,decide_eq_true_eq,decide_eq_false_iff_not,Nat.add_zero,beq_iff_eq]
 have hbw:IntKind.u64.wrap (b:Int)=(b:Int):=bA (by omega) (by omega)
 refine⟨fun hb=>?_,fun hb s' hv=>dM (bK ?_)⟩
 ·obtain⟨j,rfl⟩:∃j,k=j+1:=⟨k-1,by omega⟩
  have e:(((j+1:Nat):Int)-1).toNat=j:=by omega
  have hzj:=cA (N:=A) (i:=j)
  have hor:=qh (a:=r) (b:=ay A j) (by omega) hzj
  rw[e,hor,hbw]
  have hq1:(r*4294967296+ay A j)/b<2^32:=by
   rw[Nat.div_lt_iff_lt_mul hb0]
   have:(r+1)*4294967296≤b*4294967296:=Nat.mul_le_mul_right _ hr
   omega
  have hdm:=Nat.div_add_mod (r*4294967296+ay A j) b
  refine⟨⟨by omega,by omega,by omega⟩,⟨by omega,⟨by omega,by omega⟩,by omega⟩,by omega,fun s' hv=>⟨(j,(r*4294967296+ay A j)%b,bG o j ((r*4294967296+ay A j)/b)),cC hv ?_ ?_,⟨by simp only;omega,Nat.mod_lt _ hb0,fJ hq1 ho,fun i hi=>?_,?_⟩,by simp only;omega⟩⟩
  ·rw[←Int.ofNat_tmod,wrap_i64 (by omega) (by omega),show((j+1:Nat):Int)-1-1=(j:Int)-1 by omega]
  ·simp only[cm]
   congr 3
   funext i
   refine e9 ?_ i
   rw[←Int.ofNat_tdiv]
   clear hdm
   generalize (r*4294967296+ay A j)/b=q at hq1 ⊢
   rw[bA (by omega) (by omega),wrap_u32 (by omega) (by omega)]
  ·exact(dX (by simp only at hi;omega)).trans (ho0 i (by simp only at hi;omega))
  ·simp only
   rw[mT (by omega) (ho0 j (by omega))]
   rw[fm,val]at hval
   exact Ch hval hdm.symm
 ·have hk0:k=0:=by omega
  have hv2:val (nl A) o*b+r=A:=by rw[hk0]at hval;simpa [val]using hval
  refine aC.g8 hT dr hm 60 hv (h0 _) rfl (eW (by omega)) Yd (by kernel_rfl) (by kernel_rfl) ?_
  simp only[aa.all,az,Nat.add_zero,gC]
  obtain⟨hdiv,hmod⟩:=Ir hv2 hr
  exact⟨⟨eA ho,hA⟩,cD (congrArg AV.mag hdiv.symm),bh (by rw[hmod,wrap_u32 (by omega) (by omega)]),trivial⟩
def AX:Spec:=bq fun l=>match l with
 |[a,.int .u32 b]=>match fT a with
  |some A=>some (aG (.tuple [.mag (A/b.toNat),.int .u32 (A%b.toNat:Nat)]) [nl A<2^40,0<b,b<2^32])
  |none=>none
 |_=>none
theorem Fl:∀K args pre r,AX K args pre=some r→aB P pE K args pre r:=by
 refine bL fun K args r hk hs _=>?_
 split at hs
 ·rename_i a b
  split at hs
  ·rename_i A hA
   simp only[Option.some.injEq]at hs
   subst hs
   intro need
   obtain⟨h1,h2,h3⟩:nl A<2^40∧0<b∧b<2^32:=need
   obtain⟨b,rfl⟩:=Int.eq_ofNat_of_zero_le (Int.le_of_lt h2)
   exact eO (Zi h1 (by omega) (by omega) K) hk ⟨jc hA,.refl _,trivial⟩ [] trivial
  ·simp at hs
 ·simp at hs
end Go.Am.B
