/- ref01: minus, Sub, Mul, byLimb. -/
import Derived.Test.YtppeigelbecpbaaGreatB23
set_option linter.unusedVariables false
namespace Go.Am.B
open Go Go.Am.N AV
theorem abG:aP P vT rM (au rM):=aQ abe (by kernel_rfl) (by kernel_rfl) (by kernel_rfl)
theorem aki:aP P wT Av (au Av):=aQ Tv (by kernel_rfl) (by kernel_rfl) (by kernel_rfl)
theorem SG:aP P uj j8 (au j8):=aQ aeA (by kernel_rfl) (by kernel_rfl) (by kernel_rfl)
theorem YL:aP P tv qo (au qo):=aQ ajo (by kernel_rfl) (by kernel_rfl) (by kernel_rfl)
abbrev ny:List Nat:=[0,1,5,6,7]
abbrev vg (A B c i K:Nat):List AV:=[.mag A,.mag B,.own K 1 0 (nl A),.int .u64 c,.int .i64 i]
abbrev cQ (K n:Nat) (o:Nat→Nat):aC:=[(K,⟨true,true,1,n,ay o⟩)]
noncomputable abbrev Jj:Code:=part (au rM) [1,1,1,0,1,0,0]
theorem ZS {A B:Nat}:aJ T ek [] 60 ny (before (au rM) [1,1,1,0,1]) ⟨aN 0 [.mag A,.mag B],[],0⟩=
  let c1:Int:=(↑(nl A):Int);some (aa.ag [(0:Int)≤c1∧c1≤c1∧c1≤(2:Int)^47∧c1*(↑(4:Nat):Int)≤(2:Int)^47] (aa.leaf ak.normal ([mag A,mag B,own 12288 1 0 c1.toNat,int IntKind.u64 (0:Int),int IntKind.i64 (0:Int)],[((12288:Nat),ah.mk true true 1 c1.toNat fun x↦int IntKind.u32 (0:Int))]))):=by kernel_rfl
theorem SM {A B c i:Nat} {o:Nat→Nat}:aJ T ek [16,23,38] 60 ny [Jj] ⟨aB ny (vg A B c i 12288),cQ 12288 (nl A) o,12289⟩=
  let c13:Int:=(↑c:Int);let c8:Int:=(↑i:Int);let c5:AV:=own 12288 1 0 (nl A);let c4:List AV:=[int IntKind.i64 (IntKind.i64.wrap (c8+(1:Int)))];let c1:Nat:=c8.toNat;let c11:Prop:=(0:Int)≤c8∧c1<nl A;let c10:List AV:=mag A::mag B::c5::int IntKind.u64 (0:Int)::c4;let c9:List AV:=mag A::mag B::c5::int IntKind.u64 (1:Int)::c4;let c7:Nat:=c1+0;let c3:Int:=IntKind.u64.wrap (c13+IntKind.u64.wrap (↑(az B c1):Int));let c2:Int:=IntKind.u64.wrap (↑(az A c1):Int);let c12:Int:=IntKind.u64.wrap (c2+(4294967296:Int));let c6:List Prop:=[c11,c7<nl A];some (aa.fork (decide (c8<(↑(nl A):Int))) (aa.fork (decide (c8<(↑(nl B):Int))) (aa.ag [(0:Int)≤c8∧c1<nl B] (aa.ag [c11] (aa.fork (decide (c2<c3)) (aa.ag c6 (aa.leaf ak.normal (c9,[((12288:Nat),ah.mk true true 1 (nl A) fun j↦if(j==c7)=true then int IntKind.u32 (IntKind.u32.wrap (IntKind.u64.wrap (c12-c3)))else ay o j)]))) (aa.ag c6 (aa.leaf ak.normal (c10,[((12288:Nat),ah.mk true true 1 (nl A) fun j↦if(j==c7)=true then int IntKind.u32 (IntKind.u32.wrap (IntKind.u64.wrap (c2-c3)))else ay o j)])))))) (aa.ag [c11] (aa.fork (decide (c2<c13)) (aa.ag c6 (aa.leaf ak.normal (c9,[((12288:Nat),ah.mk true true 1 (nl A) fun j↦if(j==c7)=true then int IntKind.u32 (IntKind.u32.wrap (IntKind.u64.wrap (c12-c13)))else ay o j)]))) (aa.ag c6 (aa.leaf ak.normal (c10,[((12288:Nat),ah.mk true true 1 (nl A) fun j↦if(j==c7)=true then int IntKind.u32 (IntKind.u32.wrap (IntKind.u64.wrap (c2-c13)))else ay o j)])))))) (aa.leaf (ak.exit 0) ([mag A,mag B,c5,int IntKind.u64 c13,int IntKind.i64 c8],[((12288:Nat),ah.mk true true 1 (nl A) fun a↦int IntKind.u32 (↑(o a):Int))]))):=by kernel_rfl
theorem Q7 {A B c i:Nat} {o:Nat→Nat}:bY T ek [] 60 rM (behind (au rM) [1,1,1,0,1]) ⟨aB ny (vg A B c i 12288),cQ 12288 (nl A) o,12289⟩=
  some (aa.ag [dz (nl A) fun i↦ay o (i+0),nl A<2^40] (aa.leaf ak.ret [mag (val (nl A) fun i↦numOf (ay o (i+0)))])):=by kernel_rfl
abbrev jU:List Nat:=[0,1,5,6]
abbrev yA (A B i K:Nat):List AV:=[.mag A,.mag B,.own K 1 0 (nl A+nl B),.int .i64 i]
abbrev qa:List Nat:=[0,1,5,6,7,8]
abbrev DZ (A B i c j K:Nat):List AV:=[.mag A,.mag B,.own K 1 0 (nl A+nl B),.int .i64 i,.int .u64 c,.int .i64 j]
noncomputable abbrev oy:Code:=part (au j8) [1,1,0,1,0,0]
noncomputable abbrev sN:Code:=part oy [1,0,0]
theorem aj5 {A B:Nat}:aJ T ek [] 60 jU (before (au j8) [1,1,0,1]) ⟨aN 0 [.mag A,.mag B],[],0⟩=
  let c1:Int:=IntKind.i64.wrap ((↑(nl A):Int)+(↑(nl B):Int));some (aa.ag [(0:Int)≤c1∧c1≤c1∧c1≤(2:Int)^47∧c1*(↑(4:Nat):Int)≤(2:Int)^47] (aa.leaf ak.normal ([mag A,mag B,own 24576 1 0 c1.toNat,int IntKind.i64 (0:Int)],[((24576:Nat),ah.mk true true 1 c1.toNat fun x↦int IntKind.u32 (0:Int))]))):=by kernel_rfl
theorem afa {A B i:Nat} {o:Nat→Nat}:aJ T ek [18] 60 jU [part oy [0]] ⟨aB jU (yA A B i 24576),cQ 24576 (nl A+nl B) o,24577⟩=
  let c1:List AV×aC:=([mag A,mag B,own 24576 1 0 (nl A+nl B),int IntKind.i64 (↑i:Int)],[((24576:Nat),ah.mk true true 1 (nl A+nl B) fun a↦int IntKind.u32 (↑(o a):Int))]);some (aa.fork (decide ((↑i:Int)<(↑(nl A):Int))) (aa.leaf ak.normal c1) (aa.leaf (ak.exit 0) c1)):=by kernel_rfl
theorem aix {A B i:Nat} {o:Nat→Nat}:aJ T ek [] 60 qa (before sN [1,0,1]) ⟨aB jU (yA A B i 24576),cQ 24576 (nl A+nl B) o,24577⟩=
  some (aa.leaf ak.normal ([mag A,mag B,own 24576 1 0 (nl A+nl B),int IntKind.i64 (↑i:Int),int IntKind.u64 (0:Int),int IntKind.i64 (0:Int)],[((24576:Nat),ah.mk true true 1 (nl A+nl B) fun a↦int IntKind.u32 (↑(o a):Int))])):=by kernel_rfl
theorem Sv {A B i c j:Nat} {o:Nat→Nat}:aJ T ek [24] 60 qa [part sN [1,0,1,0,0]] ⟨aB qa (DZ A B i c j 24576),cQ 24576 (nl A+nl B) o,24577⟩=
  let c7:Int:=(↑i:Int);let c5:Int:=(↑j:Int);let c4:Nat:=nl A+nl B;let c6:AV:=own 24576 1 0 c4;let c1:Int:=IntKind.i64.wrap (c7+c5);let c3:Nat:=c1.toNat+0;let c8:List Prop:=[(0:Int)≤c1∧c1.toNat<c4,c3<c4];let c2:Int:=IntKind.u64.wrap ((↑c:Int)+IntKind.u64.wrap (IntKind.u64.wrap (IntKind.u64.wrap (↑(az A c7.toNat):Int)*IntKind.u64.wrap (↑(az B c5.toNat):Int))+IntKind.u64.wrap (↑(o c3):Int)));some (aa.fork (decide (c5<(↑(nl B):Int))) (aa.ag (((0:Int)≤c7∧c7.toNat<nl A)::((0:Int)≤c5∧c5.toNat<nl B)::c8) (aa.ag c8 (aa.ag [(0:Int)≤(32:Int)] (aa.leaf ak.normal ([mag A,mag B,c6,int IntKind.i64 c7,int IntKind.u64 (c2.fdiv ((2:Int)^min (Int.toNat (32:Int)) IntKind.u64.bits)),int IntKind.i64 (IntKind.i64.wrap (c5+(1:Int)))],[((24576:Nat),ah.mk true true 1 c4 fun j↦if(j==c3)=true then int IntKind.u32 (IntKind.u32.wrap c2)else ay o j)]))))) (aa.leaf (ak.exit 2) ([mag A,mag B,c6,int IntKind.i64 c7,int IntKind.u64 (↑c:Int),int IntKind.i64 c5],[((24576:Nat),ah.mk true true 1 c4 fun a↦int IntKind.u32 (↑(o a):Int))]))):=by kernel_rfl
theorem Tq {A B i c j:Nat} {o:Nat→Nat}:aJ T ek [] 60 jU (behind sN [1,0,1]) ⟨aB qa (DZ A B i c j 24576),cQ 24576 (nl A+nl B) o,24577⟩=
  let c3:Nat:=nl A+nl B;let c1:Int:=IntKind.i64.wrap ((↑i:Int)+(↑(nl B):Int));let c2:Nat:=c1.toNat+0;some (aa.ag [(0:Int)≤c1∧c1.toNat<c3,c2<c3] (aa.leaf ak.normal ([mag A,mag B,own 24576 1 0 c3,int IntKind.i64 (↑i:Int)],[((24576:Nat),ah.mk true true 1 c3 fun j↦if(j==c2)=true then int IntKind.u32 (IntKind.u32.wrap (↑c:Int))else ay o j)]))):=by kernel_rfl
theorem aaZ {A B i:Nat} {o:Nat→Nat}:aJ T ek [] 60 jU [part oy [1,1]] ⟨aB jU (yA A B i 24576),cQ 24576 (nl A+nl B) o,24577⟩=
  some (aa.leaf ak.normal ([mag A,mag B,own 24576 1 0 (nl A+nl B),int IntKind.i64 (IntKind.i64.wrap ((↑i:Int)+(1:Int)))],[((24576:Nat),ah.mk true true 1 (nl A+nl B) fun a↦int IntKind.u32 (↑(o a):Int))])):=by kernel_rfl
theorem ahm {A B i:Nat} {o:Nat→Nat}:bY T ek [] 60 j8 (behind (au j8) [1,1,0,1]) ⟨aB jU (yA A B i 24576),cQ 24576 (nl A+nl B) o,24577⟩=
  some (aa.ag [dz (nl A+nl B) fun i↦ay o (i+0),nl A+nl B<2^40] (aa.leaf ak.ret [mag (val (nl A+nl B) fun i↦numOf (ay o (i+0)))])):=by kernel_rfl
abbrev qx:List Nat:=[0,1,6,7,8]
abbrev Fk (A b r k K:Nat):List AV:=[.mag A,.int .u32 b,.own K 1 0 (nl A),.int .u64 r,.int .i64 ((k:Int)-1)]
noncomputable abbrev L9:Code:=part (au qo) [1,1,1,0,1,0,0]
theorem aii {A b:Nat}:aJ T ek [] 60 qx (before (au qo) [1,1,1,0,1]) ⟨aN 0 [.mag A,.int .u32 b],[],0⟩=
  let c1:Int:=(↑(nl A):Int);some (aa.ag [(0:Int)≤c1∧c1≤c1∧c1≤(2:Int)^47∧c1*(↑(4:Nat):Int)≤(2:Int)^47] (aa.leaf ak.normal ([mag A,int IntKind.u32 (↑b:Int),own 16384 1 0 c1.toNat,int IntKind.u64 (0:Int),int IntKind.i64 (IntKind.i64.wrap (c1-(1:Int)))],[((16384:Nat),ah.mk true true 1 c1.toNat fun x↦int IntKind.u32 (0:Int))]))):=by kernel_rfl
theorem agL {A b r k:Nat} {o:Nat→Nat}:aJ T ek [16] 60 qx [L9] ⟨aB qx (Fk A b r k 16384),cQ 16384 (nl A) o,16385⟩=
  let c7:AV:=int IntKind.u32 (↑b:Int);let c4:AV:=own 16384 1 0 (nl A);let c3:Int:=IntKind.u64.wrap (↑b:Int);let c2:Int:=(↑k:Int)-(1:Int);let c6:Prop:=(0:Int)≤c2∧c2.toNat<nl A;let c5:Nat:=c2.toNat+0;let c1:Int:=IntKind.u64.wrap (↑(BitVec.ofInt IntKind.u64.bits (IntKind.u64.wrap ((↑r:Int)*(2:Int)^min (Int.toNat (32:Int)) IntKind.u64.bits))|||BitVec.ofInt IntKind.u64.bits (IntKind.u64.wrap (↑(az A c2.toNat):Int))).toNat:Int);some (aa.fork (decide (c2≥(0:Int))) (aa.ag [(0:Int)≤(32:Int),c6] (aa.ag [c3≠(0:Int),c6,c5<nl A] (aa.ag [c3≠(0:Int)] (aa.leaf ak.normal ([mag A,c7,c4,int IntKind.u64 (c1.tmod c3),int IntKind.i64 (IntKind.i64.wrap (c2-(1:Int)))],[((16384:Nat),ah.mk true true 1 (nl A) fun j↦if(j==c5)=true then int IntKind.u32 (IntKind.u32.wrap (IntKind.u64.wrap (c1.tdiv c3)))else ay o j)]))))) (aa.leaf (ak.exit 0) ([mag A,c7,c4,int IntKind.u64 (↑r:Int),int IntKind.i64 c2],[((16384:Nat),ah.mk true true 1 (nl A) fun a↦int IntKind.u32 (↑(o a):Int))]))):=by kernel_rfl
theorem Y7 {A b r k:Nat} {o:Nat→Nat}:bY T ek [] 60 qo (behind (au qo) [1,1,1,0,1]) ⟨aB qx (Fk A b r k 16384),cQ 16384 (nl A) o,16385⟩=
  some (aa.ag [dz (nl A) fun i↦ay o (i+0),nl A<2^40] (aa.leaf ak.ret [mag (val (nl A) fun i↦numOf (ay o (i+0))),int IntKind.u32 (IntKind.u32.wrap (↑r:Int))])):=by kernel_rfl
def Li:aS:=[(pI,vw),(vT,mN (fun A B=>.mag (A-B)) fun A B=>[B≤A,nl A<2^40])]
theorem agy {A B:Nat}:bC T Li [9] 60 Av (au Av) ⟨aN 0 [.mag A,.mag B],[],0⟩=
  let c1:Nat:=2^40;some (aa.ag [nl A<c1,nl B<c1] (aa.fork (decide (cH A B<(0:Int))) (aa.leaf ak.ret [nil,int IntKind.i64 (7:Int)]) (aa.ag [B≤A,nl A<c1] (aa.leaf ak.ret [mag (A-B),int IntKind.i64 (0:Int)])))):=by kernel_rfl
theorem fV {K n nx:Nat} {o:Nat→Nat} (h:K<nx):gm nx (cQ K n o):=⟨⟨h,fun _ _=>rfl⟩,trivial⟩
theorem Xs {vo va vb ai x c b' un u' B:Nat} (hx:x=c+b') (hu:un+x=ai+4294967296*u') (h:va+c*B=vo+vb):va+ai*B+u'*(4294967296*B)=vo+un*B+(vb+b'*B):=by
 have e:(un+x)*B=(ai+4294967296*u')*B:=by rw[hu]
 subst hx
 grind
theorem Qh {A B:Nat} (hAB:B≤A) (hA:nl A<2^40) (K:Nat):aA P vT K [.mag A,.mag B] [] (aG (.mag (A-B)) []):=by
 have hB:nl B≤nl A:=gz hAB
 refine gk hT abG rfl (of_decide_eq_true (by kernel_rfl)) rfl (fun _ c0 h0=>?_) K []
 refine aq.hole [1,1,1,0,1] (by kernel_rfl) (aD.bk hT eB hm 60 ny ZS (by kernel_rfl) ?_)
 simp only[aa.all,ax,Int.toNat_natCast]
 refine⟨by omega,fun s' hv=>b7 ?_⟩
 refine aq.gv (i:=0) (y:=Jj) (by kernel_rfl) ny 12289 (h0 _) (fun p:Nat×Nat×(Nat→Nat)=>vg A B p.2.1 p.1 12288) (fun p=>cQ 12288 (nl A) p.2.2) (fun _=>rfl) (fun _=>fV (by omega))
  (fun p=>p.1≤nl A∧p.2.1≤1∧(∀j,j<nl A→p.2.2 j<2^32)∧val p.1 (az A)+p.2.1*2^(32*p.1)=val p.1 p.2.2+val p.1 (az B))
  (fun p=>nl A-p.1) (0,0,fun _=>0) hv ⟨by simp,by simp,fun _ _=>by simp,by simp[val]⟩ ?_
 rintro⟨i,c,o⟩ ⟨hi,hc,ho,hval⟩
 simp only at hi hc ho hval
 refine aq.bk hT eB hm 60 ny SM (by kernel_rfl) ?_
 have la:=cZ (N:=A) (i:=i)
 have lb:=cZ (N:=B) (i:=i)
 have wa:IntKind.u64.wrap (az A i:Int)=((az A i:Nat):Int):=bO (by omega) (by omega)
 have wb:IntKind.u64.wrap (az B i:Int)=((az B i:Nat):Int):=bO (by omega) (by omega)
 have w1:IntKind.u64.wrap ((c:Int)+((az B i:Nat):Int))=((c+az B i:Nat):Int):=by rw[bO (by omega) (by omega)];omega
 have w2:IntKind.u64.wrap (((az A i:Nat):Int)+4294967296)=((az A i+4294967296:Nat):Int):=by rw[bO (by omega) (by omega)];omega
 have w3:IntKind.i64.wrap ((i:Int)+1)=((i+1:Nat):Int):=by rw[wrap_i64 (by omega) (by omega)];omega
 simp only[aa.all,ax,decide_eq_true_eq,decide_eq_false_iff_not,Int.toNat_natCast,Nat.add_zero,beq_iff_eq]
 rw[wa,wb,w1,w2,w3]
 -- what is put down
 have next:∀{s':aI} {x u':Nat} {v:Int},i<nl A→x=c+az B i→u'≤1→x≤az A i+4294967296*u'→az A i+4294967296*u'<x+4294967296→v=((az A i+4294967296*u'-x:Nat):Int)→
   aY ny s'=some (vg A B u' (i+1) 12288,[(12288,⟨true,true,1,nl A,fun j=>if j=i then .int .u32 (IntKind.u32.wrap (IntKind.u64.wrap v))else ay o j⟩)])→
   ∃k:Nat×Nat×(Nat→Nat),aY ny s'=some (vg A B k.2.1 k.1 12288,cQ 12288 (nl A) k.2.2)∧(k.1≤nl A∧k.2.1≤1∧(∀j,j<nl A→k.2.2 j<2^32)∧val k.1 (az A)+k.2.1*2^(32*k.1)=val k.1 k.2.2+val k.1 (az B))∧nl A-k.1<nl A-i:=by
  intro s' x u' v hin hx hu1 h1 h2 hv1 hv
  refine⟨(i+1,u',bU o i (az A i+4294967296*u'-x)),dh hv rfl ?_,⟨by simp only;omega,hu1,gC (by omega) ho,?_⟩,by simp only;omega⟩
  ·simp only[cQ]
   congr 3
   funext k
   exact ga (by rw[hv1,bO (by omega) (by omega),wrap_u32 (by omega) (by omega)]) k
  ·simp only
   rw[qG,val,val,gr]
   exact Xs (b':=az B i) (x:=x) hx (by omega) hval
 refine⟨fun hb=>⟨fun hb2=>⟨by omega,by omega,fun h3=>⟨⟨by omega,by omega⟩,fun s' hv=>?_⟩,fun h3=>⟨⟨by omega,by omega⟩,fun s' hv=>?_⟩⟩,fun hb2=>⟨by omega,fun h3=>⟨⟨by omega,by omega⟩,fun s' hv=>?_⟩,fun h3=>⟨⟨by omega,by omega⟩,fun s' hv=>?_⟩⟩⟩,fun hb s' hv=>eO (b7 ?_)⟩
 ·exact next (u':=1) (by omega) rfl (by omega) (by omega) (by omega) (by omega) hv
 ·exact next (u':=0) (by omega) rfl (by omega) (by omega) (by omega) (by omega) hv
 ·exact next (u':=1) (x:=c) (by omega) (by rw[iO (A:=B) (by omega)];rfl) (by omega) (by omega) (by omega) (by omega) hv
 ·exact next (u':=0) (x:=c) (by omega) (by rw[iO (A:=B) (by omega)];rfl) (by omega) (by omega) (by omega) (by omega) hv
 ·have hin:i=nl A:=by omega
  refine aD.jr hT eB hm 60 hv (h0 _) rfl (fV (by omega)) Q7 (by kernel_rfl) (by kernel_rfl) ?_
  simp only[aa.all,ax,Nat.add_zero,jd]
  refine⟨⟨fG ho,hA⟩,cX (congrArg AV.mag ?_)⟩
  rw[hin,fu,og (cT.1 hB)]at hval
  have hlt:=ff ho
  have:c=0:=by
   rcases Nat.eq_zero_or_pos c with h|h
   ·exact h
   ·exfalso
    have h1:1*2^(32*nl A)≤c*2^(32*nl A):=Nat.mul_le_mul_right _ h
    omega
  rw[this]at hval
  omega
theorem Wd:aW P Li:=aH D6 (aH (pO fun h=>Qh h.1 h.2) bp)
theorem aim {A B:Nat} (hA:nl A<2^40) (hB:nl B<2^40) (K:Nat):aA P wT K [.mag A,.mag B] [] (aG (.tuple [.mag (A-B),.int .i64 (if A<B then 7 else 0)]) []):=by
 refine bJ hT Wd hm aki rfl (of_decide_eq_true (by kernel_rfl)) rfl 60 agy (fun _=>?_) K []
 simp only[aa.all,ax,decide_eq_true_eq,decide_eq_false_iff_not,Cd]
 refine⟨⟨hA,hB⟩,fun h=>⟨?_,bt (by rw[if_pos h]),trivial⟩,fun h=>⟨⟨by omega,hA⟩,.refl _,bt (by rw[if_neg h]),trivial⟩⟩
 rw[Nat.sub_eq_zero_of_le (by omega)];exact jG
def MC:Spec:=mN (fun A B=>.tuple [.mag (A-B),.int .i64 (if A<B then 7 else 0)]) Gd
theorem TT:∀K args pre r,MC K args pre=some r→aA P wT K args pre r:=pO fun h=>aim h.1 h.2
theorem RZ {A B:Nat} (hA:nl A<2^39) (hB:nl B<2^39) (K:Nat):aA P uj K [.mag A,.mag B] [] (aG (.mag (A*B)) []):=by
 refine gk hT SG rfl (of_decide_eq_true (by kernel_rfl)) rfl (fun _ c0 h0=>?_) K []
 refine aq.hole [1,1,0,1] (by kernel_rfl) (aD.bk hT eB hm 60 jU aj5 (by kernel_rfl) ?_)
 have hw:IntKind.i64.wrap ((nl A:Int)+(nl B:Int))=((nl A+nl B:Nat):Int):=dP (by omega) (by omega)
 rw[hw]
 simp only[aa.all,ax,Int.toNat_natCast]
 refine⟨by omega,fun s' hv=>b7 ?_⟩
 refine aq.gv (i:=0) (y:=oy) (by kernel_rfl) jU 24577 (h0 _) (fun p:Nat×(Nat→Nat)=>yA A B p.1 24576) (fun p=>cQ 24576 (nl A+nl B) p.2) (fun _=>rfl) (fun _=>fV (by omega))
  (fun p=>p.1≤nl A∧(∀j,j<nl A+nl B→p.2 j<2^32)∧(∀j,p.1+nl B≤j→p.2 j=0)∧val (nl A+nl B) p.2=val p.1 (az A)*B)
  (fun p=>nl A-p.1) (0,fun _=>0) hv ⟨by simp,fun _ _=>by simp,fun _ _=>rfl,?_⟩ ?_
 ·simp only
  rw[val_zero fun _ _=>rfl]
  simp[val]
 rintro⟨i,o⟩ ⟨hi,ho,ho0,hval⟩
 simp only at hi ho ho0 hval
 refine aq.hole [0] (by kernel_rfl) (show aq P c0 j8.ntmps (part oy [0]) _ _ from aq.bk hT eB hm 60 jU afa (by kernel_rfl) ?_)
 simp only[aa.all,decide_eq_true_eq,decide_eq_false_iff_not]
 refine⟨fun h1 s' hv=>b7 ?_,fun h1 s' hv=>qF (eO (b7 ?_))⟩
 ·have hin:i<nl A:=by omega
  have la:=cZ (N:=A) (i:=i)
  show aD P c0 j8.ntmps [part oy [1]] s' _
  refine aq.hole [0] (by kernel_rfl) ?_
  show aq P c0 j8.ntmps (part oy [1,0]) s' _
  refine aq.ot (i:=1) (y:=sN) (by kernel_rfl) (aq.jB hv (h0 24577) rfl (fV (by omega)) ?_)
  refine aq.hole [1,0,1] (by kernel_rfl) (aD.bk hT eB hm 60 qa aix (by kernel_rfl) fun s' hv=>b7 ?_)
  refine aq.gv (i:=2) (y:=part sN [1,0,1,0,0]) (by kernel_rfl) qa 24577 (h0 _) (fun p:Nat×Nat×(Nat→Nat)=>DZ A B i p.2.1 p.1 24576) (fun p=>cQ 24576 (nl A+nl B) p.2.2) (fun _=>rfl) (fun _=>fV (by omega))
   (fun p=>p.1≤nl B∧p.2.1<2^32∧(∀j,j<nl A+nl B→p.2.2 j<2^32)∧(∀j,i+nl B≤j→p.2.2 j=0)∧val (nl A+nl B) p.2.2+p.2.1*2^(32*(i+p.1))=val i (az A)*B+az A i*val p.1 (az B)*2^(32*i))
   (fun p=>nl B-p.1) (0,0,o) hv ⟨by simp,by simp,ho,ho0,by simp[val,hval]⟩ ?_
  rintro⟨j,c,o⟩ ⟨hj,hc,ho,ho0,hval⟩
  simp only at hj hc ho ho0 hval
  refine aq.bk hT eB hm 60 qa Sv (by kernel_rfl) ?_
  have hij:IntKind.i64.wrap ((i:Int)+(j:Int))=((i+j:Nat):Int):=dP (by omega) (by omega)
  have lb:=cZ (N:=B) (i:=j)
  simp only[aa.all,ax,decide_eq_true_eq,decide_eq_false_iff_not,hij,Int.toNat_natCast,Nat.add_zero,beq_iff_eq]
  refine⟨fun h2=>?_,fun h2 s' hv=>eO ?_⟩
  ·have hjm:j<nl B:=by omega
   obtain⟨m1,m2,m3⟩:=N4 hc la lb (ho (i+j) (by omega))
   rw[m1]
   refine⟨⟨by omega,by omega,by omega,by omega⟩,⟨by omega,by omega⟩,by omega,fun s' hv=>⟨(j+1,(c+az A i*az B j+o (i+j))/4294967296,bU o (i+j) ((c+az A i*az B j+o (i+j))%4294967296)),dh hv ?_ ?_,⟨by simp only;omega,m3,gC (by omega) ho,fun k hk=>?_,?_⟩,by simp only;omega⟩⟩
   ·rw[ki,dP (a:=(j:Int)+1) (n:=j+1) (by omega) (by omega)]
    simp only[DZ,List.cons.injEq,AV.int.injEq,and_true,true_and]
    omega
   ·simp only[cQ]
    congr 3
    funext k
    exact ga (by rw[iZ]) k
   ·exact(eZ (by omega)).trans (ho0 k hk)
   ·simp only
    rw[show 32*(i+(j+1))=32*((i+j)+1) by omega,gr,val]
    have hset:=Hl (o:=o) (x:=(c+az A i*az B j+o (i+j))%4294967296) (show i+j<nl A+nl B by omega)
    exact Jp rfl (Nat.div_add_mod _ _) hset (by rw[←Nat.pow_add];congr 1;omega) hval
  ·show aD P c0 j8.ntmps (behind sN [1,0,1]) s' _
   have hjm:j=nl B:=by omega
   have hib:IntKind.i64.wrap ((i:Int)+(nl B:Int))=((i+nl B:Nat):Int):=dP (by omega) (by omega)
   refine aD.eE hT eB hm 60 hv (h0 24577) rfl (fV (by omega)) jU Tq (by kernel_rfl) (by kernel_rfl) ?_
   rw[hib]
   simp only[aa.all,ax,Int.toNat_natCast,Nat.add_zero,beq_iff_eq]
   refine⟨⟨by omega,by omega⟩,fun s' hv=>?_⟩
   have hf:(fun k=>if k=i+nl B then AV.int .u32 (IntKind.u32.wrap (c:Int))else ay o k)=ay (bU o (i+nl B) c):=by
    funext k
    exact ga (wrap_u32 (by omega) (by omega)) k
   rw[hf]at hv
   show aD P c0 j8.ntmps [part oy [1,1]] s' _
   refine aD.eE hT eB hm 60 hv (h0 24577) rfl (fV (by omega)) jU aaZ (by kernel_rfl) (by kernel_rfl) fun s' hv=>b7 ?_
   refine⟨(i+1,bU o (i+nl B) c),dh hv ?_ rfl,⟨by simp only;omega,gC hc ho,fun k hk=>(eZ (by simp only at hk;omega)).trans (ho0 k (by simp only at hk;omega)),?_⟩,by simp only;omega⟩
   ·rw[dP (a:=(i:Int)+1) (n:=i+1) (by omega) (by omega)]
   ·simp only
    rw[hjm,fu]at hval
    rw[qi (by omega) (ho0 _ (by omega)),hval,val,Nat.add_mul,Nat.mul_assoc,Nat.mul_assoc,Nat.mul_comm B]
 ·have hin:i=nl A:=by omega
  refine aD.jr hT eB hm 60 hv (h0 _) rfl (fV (by omega)) ahm (by kernel_rfl) (by kernel_rfl) ?_
  simp only[aa.all,ax,Nat.add_zero,jd]
  refine⟨⟨fG ho,by omega⟩,cX (congrArg AV.mag ?_)⟩
  rw[hval,hin,fu]
def Gj:Spec:=mN (fun A B=>.mag (A*B)) fun A B=>[nl A<2^39,nl B<2^39]
theorem K7:∀K args pre r,Gj K args pre=some r→aA P uj K args pre r:=pO fun h=>RZ h.1 h.2
theorem J5 {v b r A:Nat} (h:v*b+r=A) (hr:r<b):A/b=v∧A%b=r:=by
 subst h
 refine⟨?_,?_⟩
 ·rw[Nat.mul_comm,Nat.mul_add_div (by omega),Nat.div_eq_of_lt hr,Nat.add_zero]
 ·rw[Nat.mul_comm,Nat.mul_add_mod,Nat.mod_eq_of_lt hr]
theorem YO {A b:Nat} (hA:nl A<2^40) (hb0:0<b) (hb32:b<2^32) (K:Nat):aA P tv K [.mag A,.int .u32 b] [] (aG (.tuple [.mag (A/b),.int .u32 (A%b:Nat)]) []):=by
 refine gk hT YL rfl (of_decide_eq_true (by kernel_rfl)) rfl (fun _ c0 h0=>?_) K []
 refine aq.hole [1,1,1,0,1] (by kernel_rfl) (aD.bk hT eB hm 60 qx aii (by kernel_rfl) ?_)
 simp only[aa.all,ax,Int.toNat_natCast]
 refine⟨by omega,fun s' hv=>b7 ?_⟩
 refine aq.gv (i:=0) (y:=L9) (by kernel_rfl) qx 16385 (h0 _) (fun p:Nat×Nat×(Nat→Nat)=>Fk A b p.2.1 p.1 16384) (fun p=>cQ 16384 (nl A) p.2.2) (fun _=>rfl) (fun _=>fV (by omega))
  (fun p=>p.1≤nl A∧p.2.1<b∧(∀j,j<nl A→p.2.2 j<2^32)∧(∀j,j<p.1→p.2.2 j=0)∧val (nl A) p.2.2*b+p.2.1*2^(32*p.1)+val p.1 (az A)=A)
  (fun p=>p.1) (nl A,0,fun _=>0) (dh hv (by rw[wrap_i64 (by omega) (by omega)];rfl) rfl) ⟨by simp,hb0,fun j _=>by simp,fun j _=>rfl,?_⟩ ?_
 ·simp only
  rw[val_zero fun _ _=>rfl,fu]
  simp
 rintro⟨k,r,o⟩ ⟨hk,hr,ho,ho0,hval⟩
 simp only at hk hr ho ho0 hval
 refine aq.bk hT eB hm 60 qx agL (by kernel_rfl) ?_
 simp only[aa.all,ax,decide_eq_true_eq,decide_eq_false_iff_not,Nat.add_zero,beq_iff_eq]
 have hbw:IntKind.u64.wrap (b:Int)=(b:Int):=bO (by omega) (by omega)
 refine⟨fun hb=>?_,fun hb s' hv=>eO (b7 ?_)⟩
 ·obtain⟨j,rfl⟩:∃j,k=j+1:=⟨k-1,by omega⟩
  have e:(((j+1:Nat):Int)-1).toNat=j:=by omega
  have hzj:=cZ (N:=A) (i:=j)
  have hor:=uS (a:=r) (b:=az A j) (by omega) hzj
  rw[e,hor,hbw]
  have hq1:(r*4294967296+az A j)/b<2^32:=by
   rw[Nat.div_lt_iff_lt_mul hb0]
   have:(r+1)*4294967296≤b*4294967296:=Nat.mul_le_mul_right _ hr
   omega
  have hdm:=Nat.div_add_mod (r*4294967296+az A j) b
  refine⟨⟨by omega,by omega,by omega⟩,⟨by omega,⟨by omega,by omega⟩,by omega⟩,by omega,fun s' hv=>⟨(j,(r*4294967296+az A j)%b,bU o j ((r*4294967296+az A j)/b)),dh hv ?_ ?_,⟨by simp only;omega,Nat.mod_lt _ hb0,gC hq1 ho,fun i hi=>?_,?_⟩,by simp only;omega⟩⟩
  ·rw[←Int.ofNat_tmod,wrap_i64 (by omega) (by omega),show((j+1:Nat):Int)-1-1=(j:Int)-1 by omega]
  ·simp only[cQ]
   congr 3
   funext i
   refine ga ?_ i
   rw[←Int.ofNat_tdiv]
   clear hdm
   generalize (r*4294967296+az A j)/b=q at hq1 ⊢
   rw[bO (by omega) (by omega),wrap_u32 (by omega) (by omega)]
  ·exact(eZ (by simp only at hi;omega)).trans (ho0 i (by simp only at hi;omega))
  ·simp only
   rw[qi (by omega) (ho0 j (by omega))]
   rw[gr,val]at hval
   exact MK hval hdm.symm
 ·have hk0:k=0:=by omega
  have hv2:val (nl A) o*b+r=A:=by rw[hk0]at hval;simpa [val]using hval
  refine aD.jr hT eB hm 60 hv (h0 _) rfl (fV (by omega)) Y7 (by kernel_rfl) (by kernel_rfl) ?_
  simp only[aa.all,ax,Nat.add_zero,jd]
  obtain⟨hdiv,hmod⟩:=J5 hv2 hr
  exact⟨⟨fG ho,hA⟩,cX (congrArg AV.mag hdiv.symm),bt (by rw[hmod,wrap_u32 (by omega) (by omega)]),trivial⟩
def Gt:Spec:=bE fun l=>match l with
 |[a,.int .u32 b]=>match ir a with
  |some A=>some (aG (.tuple [.mag (A/b.toNat),.int .u32 (A%b.toNat:Nat)]) [nl A<2^40,0<b,b<2^32])
  |none=>none
 |_=>none
theorem Lh:∀K args pre r,Gt K args pre=some r→aA P tv K args pre r:=by
 refine bX fun K args r hk hs _=>?_
 split at hs
 ·rename_i a b
  split at hs
  ·rename_i A hA
   simp only[Option.some.injEq]at hs
   subst hs
   intro need
   obtain⟨h1,h2,h3⟩:nl A<2^40∧0<b∧b<2^32:=need
   obtain⟨b,rfl⟩:=Int.eq_ofNat_of_zero_le (Int.le_of_lt h2)
   exact fO (YO h1 (by omega) (by omega) K) hk ⟨kr hA,.refl _,trivial⟩ [] trivial
  ·simp at hs
 ·simp at hs
end Go.Am.B
