/- ref01: minus, Sub, Mul, byLimb. -/
import Derived.Test.YtolopdkjjlfgjaaGreatB23
set_option linter.unusedVariables false
noncomputable section
namespace Go.Am.B
open Go Go.Am.N AV Proofs.Tryz IntKind
theorem TX:bu 175 f175:=bz func175
theorem aam:bu 147 f147:=bz func147
theorem ZU:bu 85 f85:=bz func85
theorem Rl:bu 156 f156:=bz func156
abbrev oz:List Nat:=[0,1,5,6,7]
abbrev wL (A B c i K:Nat):List AV:=[.mag A,.mag B,.own K 1 0 (nl A),.int .u64 c,.int .i64 i]
abbrev dQ (K n:Nat) (o:Nat->Nat):aD:=[(K,⟨true,true,1,n,az o⟩)]
abbrev Hp:Code:=part (aG f175) [1,1,1,0,1,0,0]
theorem aeg {A B:Nat}:aH T fJ [] 60 oz (before (aG f175) [1,1,1,0,1]) ⟨aV 0 [.mag A,.mag B],[],0⟩=
  let c1:Int:=(↑(nl A):Int);some (af.aj [(0:Int)<=c1/\c1<=c1/\c1<=2^47/\c1*(↑(4:Nat):Int)<=2^47] (af.leaf ak.normal ([mag A,mag B,own 12288 1 0 c1.toNat,int .u64 (0:Int),int .i64 (0:Int)],[(12288,ay.mk true true 1 c1.toNat fun x=>int .u32 (0:Int))]))):=ag
theorem SQ {A B c i:Nat} {o:Nat->Nat}:aH T fJ [16,23,38] 60 oz [Hp] ⟨aE oz (wL A B c i 12288),dQ 12288 (nl A) o,12289⟩=
  let c13:Int:=(↑c:Int);let c8:Int:=(↑i:Int);let c5:AV:=own 12288 1 0 (nl A);let c4:List AV:=[int .i64 (i64.wrap (c8+1))];let c1:Nat:=c8.toNat;let c11:Prop:=(0:Int)<=c8/\c1<nl A;let c10:List AV:=mag A::mag B::c5::int .u64 (0:Int)::c4;let c9:List AV:=mag A::mag B::c5::int .u64 (1:Int)::c4;let c7:Nat:=c1+0;let c3:Int:=u64.wrap (c13+u64.wrap (↑(aB B c1):Int));let c2:Int:=u64.wrap (↑(aB A c1):Int);let c12:Int:=u64.wrap (c2+4294967296);let c6:List Prop:=[c11,c7<nl A];some (af.fork (decide (c8<(↑(nl A):Int))) (af.fork (decide (c8<(↑(nl B):Int))) (af.aj [(0:Int)<=c8/\c1<nl B] (af.aj [c11] (af.fork (decide (c2<c3)) (af.aj c6 (af.leaf ak.normal (c9,[(12288,ay.mk true true 1 (nl A) fun j=>if(j==c7)=true then int .u32 (u32.wrap (u64.wrap (c12-c3)))else az o j)]))) (af.aj c6 (af.leaf ak.normal (c10,[(12288,ay.mk true true 1 (nl A) fun j=>if(j==c7)=true then int .u32 (u32.wrap (u64.wrap (c2-c3)))else az o j)])))))) (af.aj [c11] (af.fork (decide (c2<c13)) (af.aj c6 (af.leaf ak.normal (c9,[(12288,ay.mk true true 1 (nl A) fun j=>if(j==c7)=true then int .u32 (u32.wrap (u64.wrap (c12-c13)))else az o j)]))) (af.aj c6 (af.leaf ak.normal (c10,[(12288,ay.mk true true 1 (nl A) fun j=>if(j==c7)=true then int .u32 (u32.wrap (u64.wrap (c2-c13)))else az o j)])))))) (af.leaf (ak.exit 0) ([mag A,mag B,c5,int .u64 c13,int .i64 c8],[(12288,ay.mk true true 1 (nl A) fun a=>int .u32 (↑(o a):Int))]))):=ag
theorem Qg {A B c i:Nat} {o:Nat->Nat}:dA T fJ [] 60 f175 (behind (aG f175) [1,1,1,0,1]) ⟨aE oz (wL A B c i 12288),dQ 12288 (nl A) o,12289⟩=
  some (af.aj [eP (nl A) fun i=>az o (i+0),nl A<2^40] (af.leaf ak.ret [mag (val (nl A) fun i=>numOf (az o (i+0)))])):=ag
abbrev kZ:List Nat:=[0,1,5,6]
abbrev xK (A B i K:Nat):List AV:=[.mag A,.mag B,.own K 1 0 (nl A+nl B),.int .i64 i]
abbrev rH:List Nat:=[0,1,5,6,7,8]
abbrev zL (A B i c j K:Nat):List AV:=[.mag A,.mag B,.own K 1 0 (nl A+nl B),.int .i64 i,.int .u64 c,.int .i64 j]
abbrev p7:Code:=part (aG f85) [1,1,0,1,0,0]
abbrev tJ:Code:=part p7 [1,0,0]
theorem OP {A B:Nat}:aH T fJ [] 60 kZ (before (aG f85) [1,1,0,1]) ⟨aV 0 [.mag A,.mag B],[],0⟩=
  let c1:Int:=i64.wrap ((↑(nl A):Int)+(↑(nl B):Int));some (af.aj [(0:Int)<=c1/\c1<=c1/\c1<=2^47/\c1*(↑(4:Nat):Int)<=2^47] (af.leaf ak.normal ([mag A,mag B,own 24576 1 0 c1.toNat,int .i64 (0:Int)],[(24576,ay.mk true true 1 c1.toNat fun x=>int .u32 (0:Int))]))):=ag
theorem Sr {A B i:Nat} {o:Nat->Nat}:aH T fJ [18] 60 kZ [part p7 [0]] ⟨aE kZ (xK A B i 24576),dQ 24576 (nl A+nl B) o,24577⟩=
  let c1:List AV×aD:=([mag A,mag B,own 24576 1 0 (nl A+nl B),int .i64 (↑i:Int)],[(24576,ay.mk true true 1 (nl A+nl B) fun a=>int .u32 (↑(o a):Int))]);some (af.fork (decide ((↑i:Int)<(↑(nl A):Int))) (af.leaf ak.normal c1) (af.leaf (ak.exit 0) c1)):=ag
theorem RG {A B i:Nat} {o:Nat->Nat}:aH T fJ [] 60 rH (before tJ [1,0,1]) ⟨aE kZ (xK A B i 24576),dQ 24576 (nl A+nl B) o,24577⟩=
  some (af.leaf ak.normal ([mag A,mag B,own 24576 1 0 (nl A+nl B),int .i64 (↑i:Int),int .u64 (0:Int),int .i64 (0:Int)],[(24576,ay.mk true true 1 (nl A+nl B) fun a=>int .u32 (↑(o a):Int))])):=ag
theorem RI {A B i c j:Nat} {o:Nat->Nat}:aH T fJ [24] 60 rH [part tJ [1,0,1,0,0]] ⟨aE rH (zL A B i c j 24576),dQ 24576 (nl A+nl B) o,24577⟩=
  let c7:Int:=(↑i:Int);let c5:Int:=(↑j:Int);let c4:Nat:=nl A+nl B;let c6:AV:=own 24576 1 0 c4;let c1:Int:=i64.wrap (c7+c5);let c3:Nat:=c1.toNat+0;let c8:List Prop:=[(0:Int)<=c1/\c1.toNat<c4,c3<c4];let c2:Int:=u64.wrap ((↑c:Int)+u64.wrap (u64.wrap (u64.wrap (↑(aB A c7.toNat):Int)*u64.wrap (↑(aB B c5.toNat):Int))+u64.wrap (↑(o c3):Int)));some (af.fork (decide (c5<(↑(nl B):Int))) (af.aj (((0:Int)<=c7/\c7.toNat<nl A)::((0:Int)<=c5/\c5.toNat<nl B)::c8) (af.aj c8 (af.aj [(0:Int)<=32] (af.leaf ak.normal ([mag A,mag B,c6,int .i64 c7,int .u64 (c2.fdiv ((2:Int)^min (Int.toNat (32:Int)) u64.bits)),int .i64 (i64.wrap (c5+1))],[(24576,ay.mk true true 1 c4 fun j=>if(j==c3)=true then int .u32 (u32.wrap c2)else az o j)]))))) (af.leaf (ak.exit 2) ([mag A,mag B,c6,int .i64 c7,int .u64 (↑c:Int),int .i64 c5],[(24576,ay.mk true true 1 c4 fun a=>int .u32 (↑(o a):Int))]))):=ag
theorem Ux {A B i c j:Nat} {o:Nat->Nat}:aH T fJ [] 60 kZ (behind tJ [1,0,1]) ⟨aE rH (zL A B i c j 24576),dQ 24576 (nl A+nl B) o,24577⟩=
  let c3:Nat:=nl A+nl B;let c1:Int:=i64.wrap ((↑i:Int)+(↑(nl B):Int));let c2:Nat:=c1.toNat+0;some (af.aj [(0:Int)<=c1/\c1.toNat<c3,c2<c3] (af.leaf ak.normal ([mag A,mag B,own 24576 1 0 c3,int .i64 (↑i:Int)],[(24576,ay.mk true true 1 c3 fun j=>if(j==c2)=true then int .u32 (u32.wrap (↑c:Int))else az o j)]))):=ag
theorem ada {A B i:Nat} {o:Nat->Nat}:aH T fJ [] 60 kZ [part p7 [1,1]] ⟨aE kZ (xK A B i 24576),dQ 24576 (nl A+nl B) o,24577⟩=
  some (af.leaf ak.normal ([mag A,mag B,own 24576 1 0 (nl A+nl B),int .i64 (i64.wrap ((↑i:Int)+1))],[(24576,ay.mk true true 1 (nl A+nl B) fun a=>int .u32 (↑(o a):Int))])):=ag
theorem ZZ {A B i:Nat} {o:Nat->Nat}:dA T fJ [] 60 f85 (behind (aG f85) [1,1,0,1]) ⟨aE kZ (xK A B i 24576),dQ 24576 (nl A+nl B) o,24577⟩=
  some (af.aj [eP (nl A+nl B) fun i=>az o (i+0),nl A+nl B<2^40] (af.leaf ak.ret [mag (val (nl A+nl B) fun i=>numOf (az o (i+0)))])):=ag
abbrev sH:List Nat:=[0,1,6,7,8]
abbrev C7 (A b r k K:Nat):List AV:=[.mag A,.int .u32 b,.own K 1 0 (nl A),.int .u64 r,.int .i64 ((k:Int)-1)]
abbrev LK:Code:=part (aG f156) [1,1,1,0,1,0,0]
theorem WY {A b:Nat}:aH T fJ [] 60 sH (before (aG f156) [1,1,1,0,1]) ⟨aV 0 [.mag A,.int .u32 b],[],0⟩=
  let c1:Int:=(↑(nl A):Int);some (af.aj [(0:Int)<=c1/\c1<=c1/\c1<=2^47/\c1*(↑(4:Nat):Int)<=2^47] (af.leaf ak.normal ([mag A,int .u32 (↑b:Int),own 16384 1 0 c1.toNat,int .u64 (0:Int),int .i64 (i64.wrap (c1-1))],[(16384,ay.mk true true 1 c1.toNat fun x=>int .u32 (0:Int))]))):=ag
theorem SY {A b r k:Nat} {o:Nat->Nat}:aH T fJ [16] 60 sH [LK] ⟨aE sH (C7 A b r k 16384),dQ 16384 (nl A) o,16385⟩=
  let c7:AV:=int .u32 (↑b:Int);let c4:AV:=own 16384 1 0 (nl A);let c3:Int:=u64.wrap (↑b:Int);let c2:Int:=(↑k:Int)-1;let c6:Prop:=(0:Int)<=c2/\c2.toNat<nl A;let c5:Nat:=c2.toNat+0;let c1:Int:=u64.wrap (↑(BitVec.ofInt u64.bits (u64.wrap ((↑r:Int)*2^min (Int.toNat (32:Int)) u64.bits))|||BitVec.ofInt u64.bits (u64.wrap (↑(aB A c2.toNat):Int))).toNat:Int);some (af.fork (decide (c2>=0)) (af.aj [(0:Int)<=32,c6] (af.aj [c3≠(0:Int),c6,c5<nl A] (af.aj [c3≠(0:Int)] (af.leaf ak.normal ([mag A,c7,c4,int .u64 (c1.tmod c3),int .i64 (i64.wrap (c2-1))],[(16384,ay.mk true true 1 (nl A) fun j=>if(j==c5)=true then int .u32 (u32.wrap (u64.wrap (c1.tdiv c3)))else az o j)]))))) (af.leaf (ak.exit 0) ([mag A,c7,c4,int .u64 (↑r:Int),int .i64 c2],[(16384,ay.mk true true 1 (nl A) fun a=>int .u32 (↑(o a):Int))]))):=ag
theorem Yu {A b r k:Nat} {o:Nat->Nat}:dA T fJ [] 60 f156 (behind (aG f156) [1,1,1,0,1]) ⟨aE sH (C7 A b r k 16384),dQ 16384 (nl A) o,16385⟩=
  some (af.aj [eP (nl A) fun i=>az o (i+0),nl A<2^40] (af.leaf ak.ret [mag (val (nl A) fun i=>numOf (az o (i+0))),int .u32 (u32.wrap (↑r:Int))])):=ag
def Ll:bB:=[(84,wG),(175,nL (fun A B=>.mag (A-B)) fun A B=>[B<=A,nl A<2^40])]
theorem UI {A B:Nat}:cq T Ll [9] 60 f147 (aG f147) ⟨aV 0 [.mag A,.mag B],[],0⟩=
  let c1:Nat:=2^40;some (af.aj [nl A<c1,nl B<c1] (af.fork (decide (dr A B<0)) (af.leaf ak.ret [nil,int .i64 (7:Int)]) (af.aj [B<=A,nl A<c1] (af.leaf ak.ret [mag (A-B),int .i64 (0:Int)])))):=ag
theorem iK {K n nx:Nat} {o:Nat->Nat} (h:K<nx):jm nx (dQ K n o):=⟨⟨h,fun _ _=>rfl⟩,trivial⟩
theorem WR {vo va vb ai x c b' un u' B:Nat} (hx:x=c+b') (hu:un+x=ai+4294967296*u') (h:va+c*B=vo+vb):va+ai*B+u'*(4294967296*B)=vo+un*B+(vb+b'*B):=by
 have e:(un+x)*B=(ai+4294967296*u')*B:=by rw[hu]
 subst hx
 grind
theorem Gt {A B:Nat} (hAB:B<=A) (hA:nl A<2^40) (K:Nat):aQ P 175 K [.mag A,.mag B] [] (aM (.mag (A-B)) []):=by
 have hB:nl B<=nl A:=iS hAB
 refine iI hT TX rfl bp rfl (fun _ c0 h0=>?_) K []
 refine au.hole [1,1,1,0,1] ag (aF.bJ hT fR hm 60 oz aeg ag ?_)
 simp only[af.all,aA,bE]
 refine⟨aa,fun s' hv=>cM ?_⟩
 refine au.iR (i:=0) (y:=Hp) ag oz 12289 (h0 _) (fun p:Nat×Nat×(Nat->Nat)=>wL A B p.2.1 p.1 12288) (fun p=>dQ 12288 (nl A) p.2.2) (fun _=>rfl) (fun _=>iK aa)
  (fun p=>p.1<=nl A/\p.2.1<=1/\(∀j,j<nl A->p.2.2 j<2^32)/\val p.1 (aB A)+p.2.1*2^(32*p.1)=val p.1 p.2.2+val p.1 (aB B))
  (fun p=>nl A-p.1) (0,0,fun _=>0) hv ⟨by simp,by simp,fun _ _=>by simp,by simp[val]⟩ ?_
 rintro⟨i,c,o⟩ ⟨hi,hc,ho,hval⟩
 simp only at hi hc ho hval
 refine au.bJ hT fR hm 60 oz SQ ag ?_
 have la:=eA (N:=A) (i:=i)
 have lb:=eA (N:=B) (i:=i)
 have wa:u64.wrap (aB A i:Int)=((aB A i:Nat):Int):=cy aa aa
 have wb:u64.wrap (aB B i:Int)=((aB B i:Nat):Int):=cy aa aa
 have w1:u64.wrap ((c:Int)+((aB B i:Nat):Int))=((c+aB B i:Nat):Int):=by rw[cy aa aa];omega
 have w2:u64.wrap (((aB A i:Nat):Int)+4294967296)=((aB A i+4294967296:Nat):Int):=by rw[cy aa aa];omega
 have w3:i64.wrap ((i:Int)+1)=((i+1:Nat):Int):=by rw[wrap_i64 aa aa];omega
 simp only[af.all,aA,bK,bO,bE,Nat.add_zero,beq_iff_eq]
 rw[wa,wb,w1,w2,w3]
 -- what is put down
 have next:∀{s':aI} {x u':Nat} {v:Int},i<nl A->x=c+aB B i->u'<=1->x<=aB A i+4294967296*u'->aB A i+4294967296*u'<x+4294967296->v=((aB A i+4294967296*u'-x:Nat):Int)->
   bh oz s'=some (wL A B u' (i+1) 12288,[(12288,⟨true,true,1,nl A,fun j=>if j=i then .int .u32 (u32.wrap (u64.wrap v))else az o j⟩)])->
   ∃k:Nat×Nat×(Nat->Nat),bh oz s'=some (wL A B k.2.1 k.1 12288,dQ 12288 (nl A) k.2.2)/\(k.1<=nl A/\k.2.1<=1/\(∀j,j<nl A->k.2.2 j<2^32)/\val k.1 (aB A)+k.2.1*2^(32*k.1)=val k.1 k.2.2+val k.1 (aB B))/\nl A-k.1<nl A-i:=by
  intro s' x u' v hin hx hu1 h1 h2 hv1 hv
  refine⟨(i+1,u',cH o i (aB A i+4294967296*u'-x)),eH hv rfl ?_,⟨by simp only;omega,hu1,jc aa ho,?_⟩,by simp only;omega⟩
  ·simp only[dQ]
   congr 3
   funext k
   exact iL (by rw[hv1,cy aa aa,wrap_u32 aa aa]) k
  ·simp only
   rw[r6,val,val,iX]
   exact WR (b':=aB B i) (x:=x) hx aa hval
 refine⟨fun hb=>⟨fun hb2=>⟨aa,aa,fun h3=>⟨⟨aa,aa⟩,fun s' hv=>?_⟩,fun h3=>⟨⟨aa,aa⟩,fun s' hv=>?_⟩⟩,fun hb2=>⟨aa,fun h3=>⟨⟨aa,aa⟩,fun s' hv=>?_⟩,fun h3=>⟨⟨aa,aa⟩,fun s' hv=>?_⟩⟩⟩,fun hb s' hv=>fW (cM ?_)⟩
 ·exact next (u':=1) aa rfl aa aa aa aa hv
 ·exact next (u':=0) aa rfl aa aa aa aa hv
 ·exact next (u':=1) (x:=c) aa (by rw[jP (A:=B) aa];rfl) aa aa aa aa hv
 ·exact next (u':=0) (x:=c) aa (by rw[jP (A:=B) aa];rfl) aa aa aa aa hv
 ·have hin:i=nl A:=aa
  refine aF.kJ hT fR hm 60 hv (h0 _) rfl (iK aa) Qg ag ag ?_
  simp only[af.all,aA,Nat.add_zero,kj]
  refine⟨⟨g9 ho,hA⟩,eO (congrArg AV.mag ?_)⟩
  rw[hin,gO,qq (ec.1 hB)]at hval
  have hlt:=gH ho
  have:c=0:=by
   rcases Nat.eq_zero_or_pos c with h|h
   ·exact h
   ·exfalso
    have h1:1*2^(32*nl A)<=c*2^(32*nl A):=Nat.mul_le_mul_right _ h
    omega
  rw[this]at hval
  omega
theorem Sk:bT P Ll:=aN Bv (aN (qy fun h=>Gt h.1 h.2) ct)
theorem UP {A B:Nat} (hA:nl A<2^40) (hB:nl B<2^40) (K:Nat):aQ P 147 K [.mag A,.mag B] [] (aM (.tuple [.mag (A-B),.int .i64 (if A<B then 7 else 0)]) []):=by
 refine cA hT Sk hm aam rfl bp rfl 60 UI (fun _=>?_) K []
 simp only[af.all,aA,bK,bO,BH]
 refine⟨⟨hA,hB⟩,fun h=>⟨?_,bV (by rw[if_pos h]),trivial⟩,fun h=>⟨⟨aa,hA⟩,.refl _,bV (by rw[if_neg h]),trivial⟩⟩
 rw[Nat.sub_eq_zero_of_le aa];exact lF
def LS:Spec:=nL (fun A B=>.tuple [.mag (A-B),.int .i64 (if A<B then 7 else 0)]) DS
theorem Wz:bA P LS 147:=qy fun h=>UP h.1 h.2
theorem adt {A B:Nat} (hA:nl A<2^39) (hB:nl B<2^39) (K:Nat):aQ P 85 K [.mag A,.mag B] [] (aM (.mag (A*B)) []):=by
 refine iI hT ZU rfl bp rfl (fun _ c0 h0=>?_) K []
 refine au.hole [1,1,0,1] ag (aF.bJ hT fR hm 60 kZ OP ag ?_)
 have hw:i64.wrap ((nl A:Int)+(nl B:Int))=((nl A+nl B:Nat):Int):=fD aa aa
 rw[hw]
 simp only[af.all,aA,bE]
 refine⟨aa,fun s' hv=>cM ?_⟩
 refine au.iR (i:=0) (y:=p7) ag kZ 24577 (h0 _) (fun p:Nat×(Nat->Nat)=>xK A B p.1 24576) (fun p=>dQ 24576 (nl A+nl B) p.2) (fun _=>rfl) (fun _=>iK aa)
  (fun p=>p.1<=nl A/\(∀j,j<nl A+nl B->p.2 j<2^32)/\(∀j,p.1+nl B<=j->p.2 j=0)/\val (nl A+nl B) p.2=val p.1 (aB A)*B)
  (fun p=>nl A-p.1) (0,fun _=>0) hv ⟨by simp,fun _ _=>by simp,fun _ _=>rfl,?_⟩ ?_
 ·simp only
  rw[val_zero fun _ _=>rfl]
  simp[val]
 rintro⟨i,o⟩ ⟨hi,ho,ho0,hval⟩
 simp only at hi ho ho0 hval
 refine au.hole [0] ag (show au P c0 f85.ntmps (part p7 [0]) _ _ from au.bJ hT fR hm 60 kZ Sr ag ?_)
 simp only[af.all,bK,bO]
 refine⟨fun h1 s' hv=>cM ?_,fun h1 s' hv=>sj (fW (cM ?_))⟩
 ·have hin:i<nl A:=aa
  have la:=eA (N:=A) (i:=i)
  show aF P c0 f85.ntmps [part p7 [1]] s' _
  refine au.hole [0] ag ?_
  show au P c0 f85.ntmps (part p7 [1,0]) s' _
  refine au.qh (i:=1) (y:=tJ) ag (au.kA hv (h0 24577) rfl (iK aa) ?_)
  refine au.hole [1,0,1] ag (aF.bJ hT fR hm 60 rH RG ag fun s' hv=>cM ?_)
  refine au.iR (i:=2) (y:=part tJ [1,0,1,0,0]) ag rH 24577 (h0 _) (fun p:Nat×Nat×(Nat->Nat)=>zL A B i p.2.1 p.1 24576) (fun p=>dQ 24576 (nl A+nl B) p.2.2) (fun _=>rfl) (fun _=>iK aa)
   (fun p=>p.1<=nl B/\p.2.1<2^32/\(∀j,j<nl A+nl B->p.2.2 j<2^32)/\(∀j,i+nl B<=j->p.2.2 j=0)/\val (nl A+nl B) p.2.2+p.2.1*2^(32*(i+p.1))=val i (aB A)*B+aB A i*val p.1 (aB B)*2^(32*i))
   (fun p=>nl B-p.1) (0,0,o) hv ⟨by simp,by simp,ho,ho0,by simp[val,hval]⟩ ?_
  rintro⟨j,c,o⟩ ⟨hj,hc,ho,ho0,hval⟩
  simp only at hj hc ho ho0 hval
  refine au.bJ hT fR hm 60 rH RI ag ?_
  have hij:i64.wrap ((i:Int)+(j:Int))=((i+j:Nat):Int):=fD aa aa
  have lb:=eA (N:=B) (i:=j)
  simp only[af.all,aA,bK,bO,hij,bE,Nat.add_zero,beq_iff_eq]
  refine⟨fun h2=>?_,fun h2 s' hv=>fW ?_⟩
  ·have hjm:j<nl B:=aa
   obtain⟨m1,m2,m3⟩:=Jj hc la lb (ho (i+j) aa)
   rw[m1]
   refine⟨⟨aa,aa,aa,aa⟩,⟨aa,aa⟩,aa,fun s' hv=>⟨(j+1,(c+aB A i*aB B j+o (i+j))/4294967296,cH o (i+j) ((c+aB A i*aB B j+o (i+j))%4294967296)),eH hv ?_ ?_,⟨by simp only;omega,m3,jc aa ho,fun k hk=>?_,?_⟩,by simp only;omega⟩⟩
   ·rw[me,fD (a:=(j:Int)+1) (n:=j+1) aa aa]
    simp only[zL,List.cons.injEq,AV.int.injEq,and_true,true_and]
    omega
   ·simp only[dQ]
    congr 3
    funext k
    exact iL (by rw[ki]) k
   ·exact(gC aa).trans (ho0 k hk)
   ·simp only
    rw[show 32*(i+(j+1))=32*((i+j)+1) by omega,iX,val]
    have hset:=FI (o:=o) (x:=(c+aB A i*aB B j+o (i+j))%4294967296) (show i+j<nl A+nl B by omega)
    exact JS rfl (Nat.div_add_mod _ _) hset (by rw[<-Nat.pow_add];congr 1;omega) hval
  ·show aF P c0 f85.ntmps (behind tJ [1,0,1]) s' _
   have hjm:j=nl B:=aa
   have hib:i64.wrap ((i:Int)+(nl B:Int))=((i+nl B:Nat):Int):=fD aa aa
   refine aF.fT hT fR hm 60 hv (h0 24577) rfl (iK aa) kZ Ux ag ag ?_
   rw[hib]
   simp only[af.all,aA,bE,Nat.add_zero,beq_iff_eq]
   refine⟨⟨aa,aa⟩,fun s' hv=>?_⟩
   have hf:(fun k=>if k=i+nl B then AV.int .u32 (u32.wrap (c:Int))else az o k)=az (cH o (i+nl B) c):=by
    funext k
    exact iL (wrap_u32 aa aa) k
   rw[hf]at hv
   show aF P c0 f85.ntmps [part p7 [1,1]] s' _
   refine aF.fT hT fR hm 60 hv (h0 24577) rfl (iK aa) kZ ada ag ag fun s' hv=>cM ?_
   refine⟨(i+1,cH o (i+nl B) c),eH hv ?_ rfl,⟨by simp only;omega,jc hc ho,fun k hk=>(gC (by simp only at hk;omega)).trans (ho0 k (by simp only at hk;omega)),?_⟩,by simp only;omega⟩
   ·rw[fD (a:=(i:Int)+1) (n:=i+1) aa aa]
   ·simp only
    rw[hjm,gO]at hval
    rw[rU aa (ho0 _ aa),hval,val,Nat.add_mul,Nat.mul_assoc,Nat.mul_assoc,Nat.mul_comm B]
 ·have hin:i=nl A:=aa
  refine aF.kJ hT fR hm 60 hv (h0 _) rfl (iK aa) ZZ ag ag ?_
  simp only[af.all,aA,Nat.add_zero,kj]
  refine⟨⟨g9 ho,aa⟩,eO (congrArg AV.mag ?_)⟩
  rw[hval,hin,gO]
def Dl:Spec:=nL (fun A B=>.mag (A*B)) fun A B=>[nl A<2^39,nl B<2^39]
theorem Oa:bA P Dl 85:=qy fun h=>adt h.1 h.2
theorem Iz {v b r A:Nat} (h:v*b+r=A) (hr:r<b):A/b=v/\A%b=r:=by
 subst h
 refine⟨?_,?_⟩
 ·rw[Nat.mul_comm,Nat.mul_add_div aa,Nat.div_eq_of_lt hr,Nat.add_zero]
 ·rw[Nat.mul_comm,Nat.mul_add_mod,Nat.mod_eq_of_lt hr]
theorem Q6 {A b:Nat} (hA:nl A<2^40) (hb0:0<b) (hb32:b<2^32) (K:Nat):aQ P 156 K [.mag A,.int .u32 b] [] (aM (.tuple [.mag (A/b),.int .u32 (A%b:Nat)]) []):=by
 refine iI hT Rl rfl bp rfl (fun _ c0 h0=>?_) K []
 refine au.hole [1,1,1,0,1] ag (aF.bJ hT fR hm 60 sH WY ag ?_)
 simp only[af.all,aA,bE]
 refine⟨aa,fun s' hv=>cM ?_⟩
 refine au.iR (i:=0) (y:=LK) ag sH 16385 (h0 _) (fun p:Nat×Nat×(Nat->Nat)=>C7 A b p.2.1 p.1 16384) (fun p=>dQ 16384 (nl A) p.2.2) (fun _=>rfl) (fun _=>iK aa)
  (fun p=>p.1<=nl A/\p.2.1<b/\(∀j,j<nl A->p.2.2 j<2^32)/\(∀j,j<p.1->p.2.2 j=0)/\val (nl A) p.2.2*b+p.2.1*2^(32*p.1)+val p.1 (aB A)=A)
  (fun p=>p.1) (nl A,0,fun _=>0) (eH hv (by rw[wrap_i64 aa aa];rfl) rfl) ⟨by simp,hb0,fun j _=>by simp,fun j _=>rfl,?_⟩ ?_
 ·simp only
  rw[val_zero fun _ _=>rfl,gO]
  simp
 rintro⟨k,r,o⟩ ⟨hk,hr,ho,ho0,hval⟩
 simp only at hk hr ho ho0 hval
 refine au.bJ hT fR hm 60 sH SY ag ?_
 simp only[af.all,aA,bK,bO,Nat.add_zero,beq_iff_eq]
 have hbw:u64.wrap (b:Int)=(b:Int):=cy aa aa
 refine⟨fun hb=>?_,fun hb s' hv=>fW (cM ?_)⟩
 ·obtain⟨j,rfl⟩:∃j,k=j+1:=⟨k-1,aa⟩
  have e:(((j+1:Nat):Int)-1).toNat=j:=aa
  have hzj:=eA (N:=A) (i:=j)
  have fC:=uu (a:=r) (b:=aB A j) aa hzj
  rw[e,fC,hbw]
  have hq1:(r*4294967296+aB A j)/b<2^32:=by
   rw[Nat.div_lt_iff_lt_mul hb0]
   have:(r+1)*4294967296<=b*4294967296:=Nat.mul_le_mul_right _ hr
   omega
  have hdm:=Nat.div_add_mod (r*4294967296+aB A j) b
  refine⟨⟨aa,aa,aa⟩,⟨aa,⟨aa,aa⟩,aa⟩,aa,fun s' hv=>⟨(j,(r*4294967296+aB A j)%b,cH o j ((r*4294967296+aB A j)/b)),eH hv ?_ ?_,⟨by simp only;omega,Nat.mod_lt _ hb0,jc hq1 ho,fun i hi=>?_,?_⟩,by simp only;omega⟩⟩
  ·rw[<-Int.ofNat_tmod,wrap_i64 aa aa,show((j+1:Nat):Int)-1-1=(j:Int)-1 by omega]
  ·simp only[dQ]
   congr 3
   funext i
   refine iL ?_ i
   rw[<-Int.ofNat_tdiv]
   clear hdm
   generalize (r*4294967296+aB A j)/b=q at hq1 ⊢
   rw[cy aa aa,wrap_u32 aa aa]
  ·exact(gC (by simp only at hi;omega)).trans (ho0 i (by simp only at hi;omega))
  ·simp only
   rw[rU aa (ho0 j aa)]
   rw[iX,val]at hval
   exact J6 hval hdm.symm
 ·have hk0:k=0:=aa
  have hv2:val (nl A) o*b+r=A:=by rw[hk0]at hval;simpa [val]using hval
  refine aF.kJ hT fR hm 60 hv (h0 _) rfl (iK aa) Yu ag ag ?_
  simp only[af.all,aA,Nat.add_zero,kj]
  obtain⟨hdiv,hmod⟩:=Iz hv2 hr
  exact⟨⟨g9 ho,hA⟩,eO (congrArg AV.mag hdiv.symm),bV (by rw[hmod,wrap_u32 aa aa]),trivial⟩
def DO:Spec:=b7 fun l=>match l with
 |[a,.int .u32 b]=>match jD a with
  |some A=>some (aM (.tuple [.mag (A/b.toNat),.int .u32 (A%b.toNat:Nat)]) [nl A<2^40,0<b,b<2^32])
  |none=>none
 |_=>none
theorem Ie:bA P DO 156:=by
 refine cP fun K args r hk hs _=>?_
 split at hs
 ·rename_i a b
  split at hs
  ·rename_i A hA
   simp only[ax]at hs
   subst hs
   intro need
   obtain⟨h1,h2,h3⟩:nl A<2^40/\0<b/\b<2^32:=need
   obtain⟨b,rfl⟩:=Int.eq_ofNat_of_zero_le (Int.le_of_lt h2)
   exact gY (Q6 h1 aa aa K) hk ⟨mB hA,.refl _,trivial⟩ [] trivial
  ·simp at hs
 ·simp at hs
end Go.Am.B
