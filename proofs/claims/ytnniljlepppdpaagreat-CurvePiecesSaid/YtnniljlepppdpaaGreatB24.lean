/- ref01: minus, Sub, Mul, byLimb. -/
import Derived.Test.YtnniljlepppdpaaGreatB23
set_option linter.unusedVariables false
noncomputable section
namespace Go.Am.B
open Go Go.Am.N AV
theorem aaV:aU P AJ uc (az uc):=aT Proofs.Tryz.func210 ah ah ah
theorem afc:aU P DM zY (az zY):=aT Proofs.Tryz.func115 ah ah ah
theorem abg:aU P wA l5 (az l5):=aT Proofs.Tryz.func102 ah ah ah
theorem adT:aU P xD uP (az uP):=aT Proofs.Tryz.func248 ah ah ah
abbrev nJ:List Nat:=[0,1,5,6,7]
abbrev xG (A B c i K:Nat):List AV:=[.mag A,.mag B,.own K 1 0 (nl A),.int .u64 c,.int .i64 i]
abbrev de (K n:Nat) (o:Nat->Nat):aE:=[(K,⟨true,true,1,n,aB o⟩)]
abbrev Qx:Code:=part (az uc) [1,1,1,0,1,0,0]
theorem aaa {A B:Nat}:aJ T eG [] 60 nJ (before (az uc) [1,1,1,0,1]) ⟨aQ 0 [.mag A,.mag B],[],0⟩=
  let c1:Int:=(↑(nl A):Int);some (ag.aj [(0:Int)<=c1/\c1<=c1/\c1<=(2:Int)^47/\c1*(↑(4:Nat):Int)<=(2:Int)^47] (ag.leaf ak.normal ([mag A,mag B,own 12288 1 0 c1.toNat,int IntKind.u64 (0:Int),int IntKind.i64 (0:Int)],[(12288,ax.mk true true 1 c1.toNat fun x=>int IntKind.u32 (0:Int))]))):=ah
theorem aa2 {A B c i:Nat} {o:Nat->Nat}:aJ T eG [16,23,38] 60 nJ [Qx] ⟨aF nJ (xG A B c i 12288),de 12288 (nl A) o,12289⟩=
  let c13:Int:=(↑c:Int);let c8:Int:=(↑i:Int);let c5:AV:=own 12288 1 0 (nl A);let c4:List AV:=[int IntKind.i64 (IntKind.i64.wrap (c8+(1:Int)))];let c1:Nat:=c8.toNat;let c11:Prop:=(0:Int)<=c8/\c1<nl A;let c10:List AV:=mag A::mag B::c5::int IntKind.u64 (0:Int)::c4;let c9:List AV:=mag A::mag B::c5::int IntKind.u64 (1:Int)::c4;let c7:Nat:=c1+0;let c3:Int:=IntKind.u64.wrap (c13+IntKind.u64.wrap (↑(aC B c1):Int));let c2:Int:=IntKind.u64.wrap (↑(aC A c1):Int);let c12:Int:=IntKind.u64.wrap (c2+(4294967296:Int));let c6:List Prop:=[c11,c7<nl A];some (ag.fork (decide (c8<(↑(nl A):Int))) (ag.fork (decide (c8<(↑(nl B):Int))) (ag.aj [(0:Int)<=c8/\c1<nl B] (ag.aj [c11] (ag.fork (decide (c2<c3)) (ag.aj c6 (ag.leaf ak.normal (c9,[(12288,ax.mk true true 1 (nl A) fun j=>if(j==c7)=true then int IntKind.u32 (IntKind.u32.wrap (IntKind.u64.wrap (c12-c3)))else aB o j)]))) (ag.aj c6 (ag.leaf ak.normal (c10,[(12288,ax.mk true true 1 (nl A) fun j=>if(j==c7)=true then int IntKind.u32 (IntKind.u32.wrap (IntKind.u64.wrap (c2-c3)))else aB o j)])))))) (ag.aj [c11] (ag.fork (decide (c2<c13)) (ag.aj c6 (ag.leaf ak.normal (c9,[(12288,ax.mk true true 1 (nl A) fun j=>if(j==c7)=true then int IntKind.u32 (IntKind.u32.wrap (IntKind.u64.wrap (c12-c13)))else aB o j)]))) (ag.aj c6 (ag.leaf ak.normal (c10,[(12288,ax.mk true true 1 (nl A) fun j=>if(j==c7)=true then int IntKind.u32 (IntKind.u32.wrap (IntKind.u64.wrap (c2-c13)))else aB o j)])))))) (ag.leaf (ak.exit 0) ([mag A,mag B,c5,int IntKind.u64 c13,int IntKind.i64 c8],[(12288,ax.mk true true 1 (nl A) fun a=>int IntKind.u32 (↑(o a):Int))]))):=ah
theorem TP {A B c i:Nat} {o:Nat->Nat}:cJ T eG [] 60 uc (behind (az uc) [1,1,1,0,1]) ⟨aF nJ (xG A B c i 12288),de 12288 (nl A) o,12289⟩=
  some (ag.aj [dN (nl A) fun i=>aB o (i+0),nl A<2^40] (ag.leaf ak.ret [mag (val (nl A) fun i=>numOf (aB o (i+0)))])):=ah
abbrev ki:List Nat:=[0,1,5,6]
abbrev wL (A B i K:Nat):List AV:=[.mag A,.mag B,.own K 1 0 (nl A+nl B),.int .i64 i]
abbrev qW:List Nat:=[0,1,5,6,7,8]
abbrev BS (A B i c j K:Nat):List AV:=[.mag A,.mag B,.own K 1 0 (nl A+nl B),.int .i64 i,.int .u64 c,.int .i64 j]
abbrev oT:Code:=part (az l5) [1,1,0,1,0,0]
abbrev tZ:Code:=part oT [1,0,0]
theorem ad7 {A B:Nat}:aJ T eG [] 60 ki (before (az l5) [1,1,0,1]) ⟨aQ 0 [.mag A,.mag B],[],0⟩=
  let c1:Int:=IntKind.i64.wrap ((↑(nl A):Int)+(↑(nl B):Int));some (ag.aj [(0:Int)<=c1/\c1<=c1/\c1<=(2:Int)^47/\c1*(↑(4:Nat):Int)<=(2:Int)^47] (ag.leaf ak.normal ([mag A,mag B,own 24576 1 0 c1.toNat,int IntKind.i64 (0:Int)],[(24576,ax.mk true true 1 c1.toNat fun x=>int IntKind.u32 (0:Int))]))):=ah
theorem Vw {A B i:Nat} {o:Nat->Nat}:aJ T eG [18] 60 ki [part oT [0]] ⟨aF ki (wL A B i 24576),de 24576 (nl A+nl B) o,24577⟩=
  let c1:List AV×aE:=([mag A,mag B,own 24576 1 0 (nl A+nl B),int IntKind.i64 (↑i:Int)],[(24576,ax.mk true true 1 (nl A+nl B) fun a=>int IntKind.u32 (↑(o a):Int))]);some (ag.fork (decide ((↑i:Int)<(↑(nl A):Int))) (ag.leaf ak.normal c1) (ag.leaf (ak.exit 0) c1)):=ah
theorem SC {A B i:Nat} {o:Nat->Nat}:aJ T eG [] 60 qW (before tZ [1,0,1]) ⟨aF ki (wL A B i 24576),de 24576 (nl A+nl B) o,24577⟩=
  some (ag.leaf ak.normal ([mag A,mag B,own 24576 1 0 (nl A+nl B),int IntKind.i64 (↑i:Int),int IntKind.u64 (0:Int),int IntKind.i64 (0:Int)],[(24576,ax.mk true true 1 (nl A+nl B) fun a=>int IntKind.u32 (↑(o a):Int))])):=ah
theorem ads {A B i c j:Nat} {o:Nat->Nat}:aJ T eG [24] 60 qW [part tZ [1,0,1,0,0]] ⟨aF qW (BS A B i c j 24576),de 24576 (nl A+nl B) o,24577⟩=
  let c7:Int:=(↑i:Int);let c5:Int:=(↑j:Int);let c4:Nat:=nl A+nl B;let c6:AV:=own 24576 1 0 c4;let c1:Int:=IntKind.i64.wrap (c7+c5);let c3:Nat:=c1.toNat+0;let c8:List Prop:=[(0:Int)<=c1/\c1.toNat<c4,c3<c4];let c2:Int:=IntKind.u64.wrap ((↑c:Int)+IntKind.u64.wrap (IntKind.u64.wrap (IntKind.u64.wrap (↑(aC A c7.toNat):Int)*IntKind.u64.wrap (↑(aC B c5.toNat):Int))+IntKind.u64.wrap (↑(o c3):Int)));some (ag.fork (decide (c5<(↑(nl B):Int))) (ag.aj (((0:Int)<=c7/\c7.toNat<nl A)::((0:Int)<=c5/\c5.toNat<nl B)::c8) (ag.aj c8 (ag.aj [(0:Int)<=(32:Int)] (ag.leaf ak.normal ([mag A,mag B,c6,int IntKind.i64 c7,int IntKind.u64 (c2.fdiv ((2:Int)^min (Int.toNat (32:Int)) IntKind.u64.bits)),int IntKind.i64 (IntKind.i64.wrap (c5+(1:Int)))],[(24576,ax.mk true true 1 c4 fun j=>if(j==c3)=true then int IntKind.u32 (IntKind.u32.wrap c2)else aB o j)]))))) (ag.leaf (ak.exit 2) ([mag A,mag B,c6,int IntKind.i64 c7,int IntKind.u64 (↑c:Int),int IntKind.i64 c5],[(24576,ax.mk true true 1 c4 fun a=>int IntKind.u32 (↑(o a):Int))]))):=ah
theorem ahi {A B i c j:Nat} {o:Nat->Nat}:aJ T eG [] 60 ki (behind tZ [1,0,1]) ⟨aF qW (BS A B i c j 24576),de 24576 (nl A+nl B) o,24577⟩=
  let c3:Nat:=nl A+nl B;let c1:Int:=IntKind.i64.wrap ((↑i:Int)+(↑(nl B):Int));let c2:Nat:=c1.toNat+0;some (ag.aj [(0:Int)<=c1/\c1.toNat<c3,c2<c3] (ag.leaf ak.normal ([mag A,mag B,own 24576 1 0 c3,int IntKind.i64 (↑i:Int)],[(24576,ax.mk true true 1 c3 fun j=>if(j==c2)=true then int IntKind.u32 (IntKind.u32.wrap (↑c:Int))else aB o j)]))):=ah
theorem afq {A B i:Nat} {o:Nat->Nat}:aJ T eG [] 60 ki [part oT [1,1]] ⟨aF ki (wL A B i 24576),de 24576 (nl A+nl B) o,24577⟩=
  some (ag.leaf ak.normal ([mag A,mag B,own 24576 1 0 (nl A+nl B),int IntKind.i64 (IntKind.i64.wrap ((↑i:Int)+(1:Int)))],[(24576,ax.mk true true 1 (nl A+nl B) fun a=>int IntKind.u32 (↑(o a):Int))])):=ah
theorem RI {A B i:Nat} {o:Nat->Nat}:cJ T eG [] 60 l5 (behind (az l5) [1,1,0,1]) ⟨aF ki (wL A B i 24576),de 24576 (nl A+nl B) o,24577⟩=
  some (ag.aj [dN (nl A+nl B) fun i=>aB o (i+0),nl A+nl B<2^40] (ag.leaf ak.ret [mag (val (nl A+nl B) fun i=>numOf (aB o (i+0)))])):=ah
abbrev sj:List Nat:=[0,1,6,7,8]
abbrev Fc (A b r k K:Nat):List AV:=[.mag A,.int .u32 b,.own K 1 0 (nl A),.int .u64 r,.int .i64 ((k:Int)-1)]
abbrev Ly:Code:=part (az uP) [1,1,1,0,1,0,0]
theorem XS {A b:Nat}:aJ T eG [] 60 sj (before (az uP) [1,1,1,0,1]) ⟨aQ 0 [.mag A,.int .u32 b],[],0⟩=
  let c1:Int:=(↑(nl A):Int);some (ag.aj [(0:Int)<=c1/\c1<=c1/\c1<=(2:Int)^47/\c1*(↑(4:Nat):Int)<=(2:Int)^47] (ag.leaf ak.normal ([mag A,int IntKind.u32 (↑b:Int),own 16384 1 0 c1.toNat,int IntKind.u64 (0:Int),int IntKind.i64 (IntKind.i64.wrap (c1-(1:Int)))],[(16384,ax.mk true true 1 c1.toNat fun x=>int IntKind.u32 (0:Int))]))):=ah
theorem ae8 {A b r k:Nat} {o:Nat->Nat}:aJ T eG [16] 60 sj [Ly] ⟨aF sj (Fc A b r k 16384),de 16384 (nl A) o,16385⟩=
  let c7:AV:=int IntKind.u32 (↑b:Int);let c4:AV:=own 16384 1 0 (nl A);let c3:Int:=IntKind.u64.wrap (↑b:Int);let c2:Int:=(↑k:Int)-(1:Int);let c6:Prop:=(0:Int)<=c2/\c2.toNat<nl A;let c5:Nat:=c2.toNat+0;let c1:Int:=IntKind.u64.wrap (↑(BitVec.ofInt IntKind.u64.bits (IntKind.u64.wrap ((↑r:Int)*(2:Int)^min (Int.toNat (32:Int)) IntKind.u64.bits))|||BitVec.ofInt IntKind.u64.bits (IntKind.u64.wrap (↑(aC A c2.toNat):Int))).toNat:Int);some (ag.fork (decide (c2>=(0:Int))) (ag.aj [(0:Int)<=(32:Int),c6] (ag.aj [c3≠(0:Int),c6,c5<nl A] (ag.aj [c3≠(0:Int)] (ag.leaf ak.normal ([mag A,c7,c4,int IntKind.u64 (c1.tmod c3),int IntKind.i64 (IntKind.i64.wrap (c2-(1:Int)))],[(16384,ax.mk true true 1 (nl A) fun j=>if(j==c5)=true then int IntKind.u32 (IntKind.u32.wrap (IntKind.u64.wrap (c1.tdiv c3)))else aB o j)]))))) (ag.leaf (ak.exit 0) ([mag A,c7,c4,int IntKind.u64 (↑r:Int),int IntKind.i64 c2],[(16384,ax.mk true true 1 (nl A) fun a=>int IntKind.u32 (↑(o a):Int))]))):=ah
theorem adH {A b r k:Nat} {o:Nat->Nat}:cJ T eG [] 60 uP (behind (az uP) [1,1,1,0,1]) ⟨aF sj (Fc A b r k 16384),de 16384 (nl A) o,16385⟩=
  some (ag.aj [dN (nl A) fun i=>aB o (i+0),nl A<2^40] (ag.leaf ak.ret [mag (val (nl A) fun i=>numOf (aB o (i+0))),int IntKind.u32 (IntKind.u32.wrap (↑r:Int))])):=ah
def Ko:aV:=[(rz,xB),(AJ,nE (fun A B=>.mag (A-B)) fun A B=>[B<=A,nl A<2^40])]
theorem Wx {A B:Nat}:bP T Ko [9] 60 zY (az zY) ⟨aQ 0 [.mag A,.mag B],[],0⟩=
  let c1:Nat:=2^40;some (ag.aj [nl A<c1,nl B<c1] (ag.fork (decide (cO A B<(0:Int))) (ag.leaf ak.ret [nil,int IntKind.i64 (7:Int)]) (ag.aj [B<=A,nl A<c1] (ag.leaf ak.ret [mag (A-B),int IntKind.i64 (0:Int)])))):=ah
theorem gH {K n nx:Nat} {o:Nat->Nat} (h:K<nx):gG nx (de K n o):=⟨⟨h,fun _ _=>rfl⟩,trivial⟩
theorem Yu {vo va vb ai x c b' un u' B:Nat} (hx:x=c+b') (hu:un+x=ai+4294967296*u') (h:va+c*B=vo+vb):va+ai*B+u'*(4294967296*B)=vo+un*B+(vb+b'*B):=by
 have e:(un+x)*B=(ai+4294967296*u')*B:=by rw[hu]
 subst hx
 grind
theorem Qq {A B:Nat} (hAB:B<=A) (hA:nl A<2^40) (K:Nat):aD P AJ K [.mag A,.mag B] [] (aL (.mag (A-B)) []):=by
 have hB:nl B<=nl A:=gJ hAB
 refine iy hT aaV rfl aW rfl (fun _ c0 h0=>?_) K []
 refine ay.hole [1,1,1,0,1] ah (aG.bz hT eM hm 60 nJ aaa ah ?_)
 simp only[ag.all,aA,aX]
 refine⟨aa,fun s' hv=>cw ?_⟩
 refine ay.gP (i:=0) (y:=Qx) ah nJ 12289 (h0 _) (fun p:Nat×Nat×(Nat->Nat)=>xG A B p.2.1 p.1 12288) (fun p=>de 12288 (nl A) p.2.2) (fun _=>rfl) (fun _=>gH aa)
  (fun p=>p.1<=nl A/\p.2.1<=1/\(∀j,j<nl A->p.2.2 j<2^32)/\val p.1 (aC A)+p.2.1*2^(32*p.1)=val p.1 p.2.2+val p.1 (aC B))
  (fun p=>nl A-p.1) (0,0,fun _=>0) hv ⟨by simp,by simp,fun _ _=>by simp,by simp[val]⟩ ?_
 rintro⟨i,c,o⟩ ⟨hi,hc,ho,hval⟩
 simp only at hi hc ho hval
 refine ay.bz hT eM hm 60 nJ aa2 ah ?_
 have la:=dG (N:=A) (i:=i)
 have lb:=dG (N:=B) (i:=i)
 have wa:IntKind.u64.wrap (aC A i:Int)=((aC A i:Nat):Int):=bZ aa aa
 have wb:IntKind.u64.wrap (aC B i:Int)=((aC B i:Nat):Int):=bZ aa aa
 have w1:IntKind.u64.wrap ((c:Int)+((aC B i:Nat):Int))=((c+aC B i:Nat):Int):=by rw[bZ aa aa];omega
 have w2:IntKind.u64.wrap (((aC A i:Nat):Int)+4294967296)=((aC A i+4294967296:Nat):Int):=by rw[bZ aa aa];omega
 have w3:IntKind.i64.wrap ((i:Int)+1)=((i+1:Nat):Int):=by rw[wrap_i64 aa aa];omega
 simp only[ag.all,aA,bf,bt,aX,Nat.add_zero,beq_iff_eq]
 rw[wa,wb,w1,w2,w3]
 -- what is put down
 have next:∀{s':aH} {x u':Nat} {v:Int},i<nl A->x=c+aC B i->u'<=1->x<=aC A i+4294967296*u'->aC A i+4294967296*u'<x+4294967296->v=((aC A i+4294967296*u'-x:Nat):Int)->
   bk nJ s'=some (xG A B u' (i+1) 12288,[(12288,⟨true,true,1,nl A,fun j=>if j=i then .int .u32 (IntKind.u32.wrap (IntKind.u64.wrap v))else aB o j⟩)])->
   ∃k:Nat×Nat×(Nat->Nat),bk nJ s'=some (xG A B k.2.1 k.1 12288,de 12288 (nl A) k.2.2)/\(k.1<=nl A/\k.2.1<=1/\(∀j,j<nl A->k.2.2 j<2^32)/\val k.1 (aC A)+k.2.1*2^(32*k.1)=val k.1 k.2.2+val k.1 (aC B))/\nl A-k.1<nl A-i:=by
  intro s' x u' v hin hx hu1 h1 h2 hv1 hv
  refine⟨(i+1,u',cm o i (aC A i+4294967296*u'-x)),dH hv rfl ?_,⟨by simp only;omega,hu1,hU aa ho,?_⟩,by simp only;omega⟩
  ·simp only[de]
   congr 3
   funext k
   exact gE (by rw[hv1,bZ aa aa,wrap_u32 aa aa]) k
  ·simp only
   rw[qA,val,val,gL]
   exact Yu (b':=aC B i) (x:=x) hx aa hval
 refine⟨fun hb=>⟨fun hb2=>⟨aa,aa,fun h3=>⟨⟨aa,aa⟩,fun s' hv=>?_⟩,fun h3=>⟨⟨aa,aa⟩,fun s' hv=>?_⟩⟩,fun hb2=>⟨aa,fun h3=>⟨⟨aa,aa⟩,fun s' hv=>?_⟩,fun h3=>⟨⟨aa,aa⟩,fun s' hv=>?_⟩⟩⟩,fun hb s' hv=>fc (cw ?_)⟩
 ·exact next (u':=1) aa rfl aa aa aa aa hv
 ·exact next (u':=0) aa rfl aa aa aa aa hv
 ·exact next (u':=1) (x:=c) aa (by rw[jt (A:=B) aa];rfl) aa aa aa aa hv
 ·exact next (u':=0) (x:=c) aa (by rw[jt (A:=B) aa];rfl) aa aa aa aa hv
 ·have hin:i=nl A:=aa
  refine aG.j6 hT eM hm 60 hv (h0 _) rfl (gH aa) TP ah ah ?_
  simp only[ag.all,aA,Nat.add_zero,jE]
  refine⟨⟨fW ho,hA⟩,dD (congrArg AV.mag ?_)⟩
  rw[hin,fS,p7 (dm.1 hB)]at hval
  have hlt:=fD ho
  have:c=0:=by
   rcases Nat.eq_zero_or_pos c with h|h
   ·exact h
   ·exfalso
    have h1:1*2^(32*nl A)<=c*2^(32*nl A):=Nat.mul_le_mul_right _ h
    omega
  rw[this]at hval
  omega
theorem Xi:bn P Ko:=aI BI (aI (pA fun h=>Qq h.1 h.2) bE)
theorem WU {A B:Nat} (hA:nl A<2^40) (hB:nl B<2^40) (K:Nat):aD P DM K [.mag A,.mag B] [] (aL (.tuple [.mag (A-B),.int .i64 (if A<B then 7 else 0)]) []):=by
 refine bW hT Xi hm afc rfl aW rfl 60 Wx (fun _=>?_) K []
 simp only[ag.all,aA,bf,bt,Eh]
 refine⟨⟨hA,hB⟩,fun h=>⟨?_,bJ (by rw[if_pos h]),trivial⟩,fun h=>⟨⟨aa,hA⟩,.refl _,bJ (by rw[if_neg h]),trivial⟩⟩
 rw[Nat.sub_eq_zero_of_le aa];exact kH
def NZ:Spec:=nE (fun A B=>.tuple [.mag (A-B),.int .i64 (if A<B then 7 else 0)]) Jh
theorem Sd:∀K args pre r,NZ K args pre=some r->aD P DM K args pre r:=pA fun h=>WU h.1 h.2
theorem afh {A B:Nat} (hA:nl A<2^39) (hB:nl B<2^39) (K:Nat):aD P wA K [.mag A,.mag B] [] (aL (.mag (A*B)) []):=by
 refine iy hT abg rfl aW rfl (fun _ c0 h0=>?_) K []
 refine ay.hole [1,1,0,1] ah (aG.bz hT eM hm 60 ki ad7 ah ?_)
 have hw:IntKind.i64.wrap ((nl A:Int)+(nl B:Int))=((nl A+nl B:Nat):Int):=eB aa aa
 rw[hw]
 simp only[ag.all,aA,aX]
 refine⟨aa,fun s' hv=>cw ?_⟩
 refine ay.gP (i:=0) (y:=oT) ah ki 24577 (h0 _) (fun p:Nat×(Nat->Nat)=>wL A B p.1 24576) (fun p=>de 24576 (nl A+nl B) p.2) (fun _=>rfl) (fun _=>gH aa)
  (fun p=>p.1<=nl A/\(∀j,j<nl A+nl B->p.2 j<2^32)/\(∀j,p.1+nl B<=j->p.2 j=0)/\val (nl A+nl B) p.2=val p.1 (aC A)*B)
  (fun p=>nl A-p.1) (0,fun _=>0) hv ⟨by simp,fun _ _=>by simp,fun _ _=>rfl,?_⟩ ?_
 ·simp only
  rw[val_zero fun _ _=>rfl]
  simp[val]
 rintro⟨i,o⟩ ⟨hi,ho,ho0,hval⟩
 simp only at hi ho ho0 hval
 refine ay.hole [0] ah (show ay P c0 l5.ntmps (part oT [0]) _ _ from ay.bz hT eM hm 60 ki Vw ah ?_)
 simp only[ag.all,bf,bt]
 refine⟨fun h1 s' hv=>cw ?_,fun h1 s' hv=>qS (fc (cw ?_))⟩
 ·have hin:i<nl A:=aa
  have la:=dG (N:=A) (i:=i)
  show aG P c0 l5.ntmps [part oT [1]] s' _
  refine ay.hole [0] ah ?_
  show ay P c0 l5.ntmps (part oT [1,0]) s' _
  refine ay.oK (i:=1) (y:=tZ) ah (ay.j0 hv (h0 24577) rfl (gH aa) ?_)
  refine ay.hole [1,0,1] ah (aG.bz hT eM hm 60 qW SC ah fun s' hv=>cw ?_)
  refine ay.gP (i:=2) (y:=part tZ [1,0,1,0,0]) ah qW 24577 (h0 _) (fun p:Nat×Nat×(Nat->Nat)=>BS A B i p.2.1 p.1 24576) (fun p=>de 24576 (nl A+nl B) p.2.2) (fun _=>rfl) (fun _=>gH aa)
   (fun p=>p.1<=nl B/\p.2.1<2^32/\(∀j,j<nl A+nl B->p.2.2 j<2^32)/\(∀j,i+nl B<=j->p.2.2 j=0)/\val (nl A+nl B) p.2.2+p.2.1*2^(32*(i+p.1))=val i (aC A)*B+aC A i*val p.1 (aC B)*2^(32*i))
   (fun p=>nl B-p.1) (0,0,o) hv ⟨by simp,by simp,ho,ho0,by simp[val,hval]⟩ ?_
  rintro⟨j,c,o⟩ ⟨hj,hc,ho,ho0,hval⟩
  simp only at hj hc ho ho0 hval
  refine ay.bz hT eM hm 60 qW ads ah ?_
  have hij:IntKind.i64.wrap ((i:Int)+(j:Int))=((i+j:Nat):Int):=eB aa aa
  have lb:=dG (N:=B) (i:=j)
  simp only[ag.all,aA,bf,bt,hij,aX,Nat.add_zero,beq_iff_eq]
  refine⟨fun h2=>?_,fun h2 s' hv=>fc ?_⟩
  ·have hjm:j<nl B:=aa
   obtain⟨m1,m2,m3⟩:=Nc hc la lb (ho (i+j) aa)
   rw[m1]
   refine⟨⟨aa,aa,aa,aa⟩,⟨aa,aa⟩,aa,fun s' hv=>⟨(j+1,(c+aC A i*aC B j+o (i+j))/4294967296,cm o (i+j) ((c+aC A i*aC B j+o (i+j))%4294967296)),dH hv ?_ ?_,⟨by simp only;omega,m3,hU aa ho,fun k hk=>?_,?_⟩,by simp only;omega⟩⟩
   ·rw[lG,eB (a:=(j:Int)+1) (n:=j+1) aa aa]
    simp only[BS,List.cons.injEq,AV.int.injEq,and_true,true_and]
    omega
   ·simp only[de]
    congr 3
    funext k
    exact gE (by rw[jy]) k
   ·exact(fB aa).trans (ho0 k hk)
   ·simp only
    rw[show 32*(i+(j+1))=32*((i+j)+1) by omega,gL,val]
    have hset:=HA (o:=o) (x:=(c+aC A i*aC B j+o (i+j))%4294967296) (show i+j<nl A+nl B by omega)
    exact Rq rfl (Nat.div_add_mod _ _) hset (by rw[<-Nat.pow_add];congr 1;omega) hval
  ·show aG P c0 l5.ntmps (behind tZ [1,0,1]) s' _
   have hjm:j=nl B:=aa
   have hib:IntKind.i64.wrap ((i:Int)+(nl B:Int))=((i+nl B:Nat):Int):=eB aa aa
   refine aG.eW hT eM hm 60 hv (h0 24577) rfl (gH aa) ki ahi ah ah ?_
   rw[hib]
   simp only[ag.all,aA,aX,Nat.add_zero,beq_iff_eq]
   refine⟨⟨aa,aa⟩,fun s' hv=>?_⟩
   have hf:(fun k=>if k=i+nl B then AV.int .u32 (IntKind.u32.wrap (c:Int))else aB o k)=aB (cm o (i+nl B) c):=by
    funext k
    exact gE (wrap_u32 aa aa) k
   rw[hf]at hv
   show aG P c0 l5.ntmps [part oT [1,1]] s' _
   refine aG.eW hT eM hm 60 hv (h0 24577) rfl (gH aa) ki afq ah ah fun s' hv=>cw ?_
   refine⟨(i+1,cm o (i+nl B) c),dH hv ?_ rfl,⟨by simp only;omega,hU hc ho,fun k hk=>(fB (by simp only at hk;omega)).trans (ho0 k (by simp only at hk;omega)),?_⟩,by simp only;omega⟩
   ·rw[eB (a:=(i:Int)+1) (n:=i+1) aa aa]
   ·simp only
    rw[hjm,fS]at hval
    rw[qV aa (ho0 _ aa),hval,val,Nat.add_mul,Nat.mul_assoc,Nat.mul_assoc,Nat.mul_comm B]
 ·have hin:i=nl A:=aa
  refine aG.j6 hT eM hm 60 hv (h0 _) rfl (gH aa) RI ah ah ?_
  simp only[ag.all,aA,Nat.add_zero,jE]
  refine⟨⟨fW ho,aa⟩,dD (congrArg AV.mag ?_)⟩
  rw[hval,hin,fS]
def Ie:Spec:=nE (fun A B=>.mag (A*B)) fun A B=>[nl A<2^39,nl B<2^39]
theorem Mu:∀K args pre r,Ie K args pre=some r->aD P wA K args pre r:=pA fun h=>afh h.1 h.2
theorem Ru {v b r A:Nat} (h:v*b+r=A) (hr:r<b):A/b=v/\A%b=r:=by
 subst h
 refine⟨?_,?_⟩
 ·rw[Nat.mul_comm,Nat.mul_add_div aa,Nat.div_eq_of_lt hr,Nat.add_zero]
 ·rw[Nat.mul_comm,Nat.mul_add_mod,Nat.mod_eq_of_lt hr]
theorem afk {A b:Nat} (hA:nl A<2^40) (hb0:0<b) (hb32:b<2^32) (K:Nat):aD P xD K [.mag A,.int .u32 b] [] (aL (.tuple [.mag (A/b),.int .u32 (A%b:Nat)]) []):=by
 refine iy hT adT rfl aW rfl (fun _ c0 h0=>?_) K []
 refine ay.hole [1,1,1,0,1] ah (aG.bz hT eM hm 60 sj XS ah ?_)
 simp only[ag.all,aA,aX]
 refine⟨aa,fun s' hv=>cw ?_⟩
 refine ay.gP (i:=0) (y:=Ly) ah sj 16385 (h0 _) (fun p:Nat×Nat×(Nat->Nat)=>Fc A b p.2.1 p.1 16384) (fun p=>de 16384 (nl A) p.2.2) (fun _=>rfl) (fun _=>gH aa)
  (fun p=>p.1<=nl A/\p.2.1<b/\(∀j,j<nl A->p.2.2 j<2^32)/\(∀j,j<p.1->p.2.2 j=0)/\val (nl A) p.2.2*b+p.2.1*2^(32*p.1)+val p.1 (aC A)=A)
  (fun p=>p.1) (nl A,0,fun _=>0) (dH hv (by rw[wrap_i64 aa aa];rfl) rfl) ⟨by simp,hb0,fun j _=>by simp,fun j _=>rfl,?_⟩ ?_
 ·simp only
  rw[val_zero fun _ _=>rfl,fS]
  simp
 rintro⟨k,r,o⟩ ⟨hk,hr,ho,ho0,hval⟩
 simp only at hk hr ho ho0 hval
 refine ay.bz hT eM hm 60 sj ae8 ah ?_
 simp only[ag.all,aA,bf,bt,Nat.add_zero,beq_iff_eq]
 have hbw:IntKind.u64.wrap (b:Int)=(b:Int):=bZ aa aa
 refine⟨fun hb=>?_,fun hb s' hv=>fc (cw ?_)⟩
 ·obtain⟨j,rfl⟩:∃j,k=j+1:=⟨k-1,aa⟩
  have e:(((j+1:Nat):Int)-1).toNat=j:=aa
  have hzj:=dG (N:=A) (i:=j)
  have hor:=uV (a:=r) (b:=aC A j) aa hzj
  rw[e,hor,hbw]
  have hq1:(r*4294967296+aC A j)/b<2^32:=by
   rw[Nat.div_lt_iff_lt_mul hb0]
   have:(r+1)*4294967296<=b*4294967296:=Nat.mul_le_mul_right _ hr
   omega
  have hdm:=Nat.div_add_mod (r*4294967296+aC A j) b
  refine⟨⟨aa,aa,aa⟩,⟨aa,⟨aa,aa⟩,aa⟩,aa,fun s' hv=>⟨(j,(r*4294967296+aC A j)%b,cm o j ((r*4294967296+aC A j)/b)),dH hv ?_ ?_,⟨by simp only;omega,Nat.mod_lt _ hb0,hU hq1 ho,fun i hi=>?_,?_⟩,by simp only;omega⟩⟩
  ·rw[<-Int.ofNat_tmod,wrap_i64 aa aa,show((j+1:Nat):Int)-1-1=(j:Int)-1 by omega]
  ·simp only[de]
   congr 3
   funext i
   refine gE ?_ i
   rw[<-Int.ofNat_tdiv]
   clear hdm
   generalize (r*4294967296+aC A j)/b=q at hq1 ⊢
   rw[bZ aa aa,wrap_u32 aa aa]
  ·exact(fB (by simp only at hi;omega)).trans (ho0 i (by simp only at hi;omega))
  ·simp only
   rw[qV aa (ho0 j aa)]
   rw[gL,val]at hval
   exact Mz hval hdm.symm
 ·have hk0:k=0:=aa
  have hv2:val (nl A) o*b+r=A:=by rw[hk0]at hval;simpa [val]using hval
  refine aG.j6 hT eM hm 60 hv (h0 _) rfl (gH aa) adH ah ah ?_
  simp only[ag.all,aA,Nat.add_zero,jE]
  obtain⟨hdiv,hmod⟩:=Ru hv2 hr
  exact⟨⟨fW ho,hA⟩,dD (congrArg AV.mag hdiv.symm),bJ (by rw[hmod,wrap_u32 aa aa]),trivial⟩
def F1:Spec:=bM fun l=>match l with
 |[a,.int .u32 b]=>match iV a with
  |some A=>some (aL (.tuple [.mag (A/b.toNat),.int .u32 (A%b.toNat:Nat)]) [nl A<2^40,0<b,b<2^32])
  |none=>none
 |_=>none
theorem Pg:∀K args pre r,F1 K args pre=some r->aD P xD K args pre r:=by
 refine ct fun K args r hk hs _=>?_
 split at hs
 ·rename_i a b
  split at hs
  ·rename_i A hA
   simp only[au]at hs
   subst hs
   intro need
   obtain⟨h1,h2,h3⟩:nl A<2^40/\0<b/\b<2^32:=need
   obtain⟨b,rfl⟩:=Int.eq_ofNat_of_zero_le (Int.le_of_lt h2)
   exact gv (afk h1 aa aa K) hk ⟨lQ hA,.refl _,trivial⟩ [] trivial
  ·simp at hs
 ·simp at hs
end Go.Am.B
