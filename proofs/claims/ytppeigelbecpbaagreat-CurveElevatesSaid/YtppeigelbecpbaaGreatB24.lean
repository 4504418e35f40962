/- ref01. -/
import Derived.Test.YtppeigelbecpbaaGreatB23
set_option linter.unusedVariables false
noncomputable section
namespace Go.Am.B
open Go Go.Am.N AV
theorem UT:aT P Bv v9 (aA v9):=aY Proofs.Tryz.func211 ag ag ag
theorem adx:aT P CT DD (aA DD):=aY Proofs.Tryz.func151 ag ag ag
theorem W8:aT P Ae mU (aA mU):=aY Proofs.Tryz.func146 ag ag ag
theorem afK:aT P A0 wg (aA wg):=aY Proofs.Tryz.func207 ag ag ag
abbrev pA:List Nat:=[0,1,5,6,7]
abbrev xG (A B c i K:Nat):List AV:=[.mag A,.mag B,.own K 1 0 (nl A),.int .u64 c,.int .i64 i]
abbrev dn (K n:Nat) (o:Nat->Nat):aF:=[(K,⟨true,true,1,n,aD o⟩)]
abbrev Pf:Code:=part (aA v9) [1,1,1,0,1,0,0]
theorem ajV {A B:Nat}:aH T eJ [] 60 pA (before (aA v9) [1,1,1,0,1]) ⟨aQ 0 [.mag A,.mag B],[],0⟩=
  let c1:Int:=(↑(nl A):Int);some (ah.aj [(0:Int)<=c1/\c1<=c1/\c1<=(2:Int)^47/\c1*(↑(4:Nat):Int)<=(2:Int)^47] (ah.leaf au.normal ([mag A,mag B,own 12288 1 0 c1.toNat,int IntKind.u64 (0:Int),int IntKind.i64 (0:Int)],[(12288,ak.mk true true 1 c1.toNat fun x=>int IntKind.u32 (0:Int))]))):=ag
theorem Xi {A B c i:Nat} {o:Nat->Nat}:aH T eJ [16,23,38] 60 pA [Pf] ⟨aC pA (xG A B c i 12288),dn 12288 (nl A) o,12289⟩=
  let c13:Int:=(↑c:Int);let c8:Int:=(↑i:Int);let c5:AV:=own 12288 1 0 (nl A);let c4:List AV:=[int IntKind.i64 (IntKind.i64.wrap (c8+(1:Int)))];let c1:Nat:=c8.toNat;let c11:Prop:=(0:Int)<=c8/\c1<nl A;let c10:List AV:=mag A::mag B::c5::int IntKind.u64 (0:Int)::c4;let c9:List AV:=mag A::mag B::c5::int IntKind.u64 (1:Int)::c4;let c7:Nat:=c1+0;let c3:Int:=IntKind.u64.wrap (c13+IntKind.u64.wrap (↑(aG B c1):Int));let c2:Int:=IntKind.u64.wrap (↑(aG A c1):Int);let c12:Int:=IntKind.u64.wrap (c2+(4294967296:Int));let c6:List Prop:=[c11,c7<nl A];some (ah.fork (decide (c8<(↑(nl A):Int))) (ah.fork (decide (c8<(↑(nl B):Int))) (ah.aj [(0:Int)<=c8/\c1<nl B] (ah.aj [c11] (ah.fork (decide (c2<c3)) (ah.aj c6 (ah.leaf au.normal (c9,[(12288,ak.mk true true 1 (nl A) fun j=>if(j==c7)=true then int IntKind.u32 (IntKind.u32.wrap (IntKind.u64.wrap (c12-c3)))else aD o j)]))) (ah.aj c6 (ah.leaf au.normal (c10,[(12288,ak.mk true true 1 (nl A) fun j=>if(j==c7)=true then int IntKind.u32 (IntKind.u32.wrap (IntKind.u64.wrap (c2-c3)))else aD o j)])))))) (ah.aj [c11] (ah.fork (decide (c2<c13)) (ah.aj c6 (ah.leaf au.normal (c9,[(12288,ak.mk true true 1 (nl A) fun j=>if(j==c7)=true then int IntKind.u32 (IntKind.u32.wrap (IntKind.u64.wrap (c12-c13)))else aD o j)]))) (ah.aj c6 (ah.leaf au.normal (c10,[(12288,ak.mk true true 1 (nl A) fun j=>if(j==c7)=true then int IntKind.u32 (IntKind.u32.wrap (IntKind.u64.wrap (c2-c13)))else aD o j)])))))) (ah.leaf (au.exit 0) ([mag A,mag B,c5,int IntKind.u64 c13,int IntKind.i64 c8],[(12288,ak.mk true true 1 (nl A) fun a=>int IntKind.u32 (↑(o a):Int))]))):=ag
theorem ZM {A B c i:Nat} {o:Nat->Nat}:cw T eJ [] 60 v9 (behind (aA v9) [1,1,1,0,1]) ⟨aC pA (xG A B c i 12288),dn 12288 (nl A) o,12289⟩=
  some (ah.aj [dQ (nl A) fun i=>aD o (i+0),nl A<2^40] (ah.leaf au.ret [mag (val (nl A) fun i=>numOf (aD o (i+0)))])):=ag
abbrev kJ:List Nat:=[0,1,5,6]
abbrev yP (A B i K:Nat):List AV:=[.mag A,.mag B,.own K 1 0 (nl A+nl B),.int .i64 i]
abbrev tN:List Nat:=[0,1,5,6,7,8]
abbrev Es (A B i c j K:Nat):List AV:=[.mag A,.mag B,.own K 1 0 (nl A+nl B),.int .i64 i,.int .u64 c,.int .i64 j]
abbrev qA:Code:=part (aA mU) [1,1,0,1,0,0]
abbrev vQ:Code:=part qA [1,0,0]
theorem ais {A B:Nat}:aH T eJ [] 60 kJ (before (aA mU) [1,1,0,1]) ⟨aQ 0 [.mag A,.mag B],[],0⟩=
  let c1:Int:=IntKind.i64.wrap ((↑(nl A):Int)+(↑(nl B):Int));some (ah.aj [(0:Int)<=c1/\c1<=c1/\c1<=(2:Int)^47/\c1*(↑(4:Nat):Int)<=(2:Int)^47] (ah.leaf au.normal ([mag A,mag B,own 24576 1 0 c1.toNat,int IntKind.i64 (0:Int)],[(24576,ak.mk true true 1 c1.toNat fun x=>int IntKind.u32 (0:Int))]))):=ag
theorem ajR {A B i:Nat} {o:Nat->Nat}:aH T eJ [18] 60 kJ [part qA [0]] ⟨aC kJ (yP A B i 24576),dn 24576 (nl A+nl B) o,24577⟩=
  let c1:List AV×aF:=([mag A,mag B,own 24576 1 0 (nl A+nl B),int IntKind.i64 (↑i:Int)],[(24576,ak.mk true true 1 (nl A+nl B) fun a=>int IntKind.u32 (↑(o a):Int))]);some (ah.fork (decide ((↑i:Int)<(↑(nl A):Int))) (ah.leaf au.normal c1) (ah.leaf (au.exit 0) c1)):=ag
theorem Xj {A B i:Nat} {o:Nat->Nat}:aH T eJ [] 60 tN (before vQ [1,0,1]) ⟨aC kJ (yP A B i 24576),dn 24576 (nl A+nl B) o,24577⟩=
  some (ah.leaf au.normal ([mag A,mag B,own 24576 1 0 (nl A+nl B),int IntKind.i64 (↑i:Int),int IntKind.u64 (0:Int),int IntKind.i64 (0:Int)],[(24576,ak.mk true true 1 (nl A+nl B) fun a=>int IntKind.u32 (↑(o a):Int))])):=ag
theorem ahF {A B i c j:Nat} {o:Nat->Nat}:aH T eJ [24] 60 tN [part vQ [1,0,1,0,0]] ⟨aC tN (Es A B i c j 24576),dn 24576 (nl A+nl B) o,24577⟩=
  let c7:Int:=(↑i:Int);let c5:Int:=(↑j:Int);let c4:Nat:=nl A+nl B;let c6:AV:=own 24576 1 0 c4;let c1:Int:=IntKind.i64.wrap (c7+c5);let c3:Nat:=c1.toNat+0;let c8:List Prop:=[(0:Int)<=c1/\c1.toNat<c4,c3<c4];let c2:Int:=IntKind.u64.wrap ((↑c:Int)+IntKind.u64.wrap (IntKind.u64.wrap (IntKind.u64.wrap (↑(aG A c7.toNat):Int)*IntKind.u64.wrap (↑(aG B c5.toNat):Int))+IntKind.u64.wrap (↑(o c3):Int)));some (ah.fork (decide (c5<(↑(nl B):Int))) (ah.aj (((0:Int)<=c7/\c7.toNat<nl A)::((0:Int)<=c5/\c5.toNat<nl B)::c8) (ah.aj c8 (ah.aj [(0:Int)<=(32:Int)] (ah.leaf au.normal ([mag A,mag B,c6,int IntKind.i64 c7,int IntKind.u64 (c2.fdiv ((2:Int)^min (Int.toNat (32:Int)) IntKind.u64.bits)),int IntKind.i64 (IntKind.i64.wrap (c5+(1:Int)))],[(24576,ak.mk true true 1 c4 fun j=>if(j==c3)=true then int IntKind.u32 (IntKind.u32.wrap c2)else aD o j)]))))) (ah.leaf (au.exit 2) ([mag A,mag B,c6,int IntKind.i64 c7,int IntKind.u64 (↑c:Int),int IntKind.i64 c5],[(24576,ak.mk true true 1 c4 fun a=>int IntKind.u32 (↑(o a):Int))]))):=ag
theorem alH {A B i c j:Nat} {o:Nat->Nat}:aH T eJ [] 60 kJ (behind vQ [1,0,1]) ⟨aC tN (Es A B i c j 24576),dn 24576 (nl A+nl B) o,24577⟩=
  let c3:Nat:=nl A+nl B;let c1:Int:=IntKind.i64.wrap ((↑i:Int)+(↑(nl B):Int));let c2:Nat:=c1.toNat+0;some (ah.aj [(0:Int)<=c1/\c1.toNat<c3,c2<c3] (ah.leaf au.normal ([mag A,mag B,own 24576 1 0 c3,int IntKind.i64 (↑i:Int)],[(24576,ak.mk true true 1 c3 fun j=>if(j==c2)=true then int IntKind.u32 (IntKind.u32.wrap (↑c:Int))else aD o j)]))):=ag
theorem XZ {A B i:Nat} {o:Nat->Nat}:aH T eJ [] 60 kJ [part qA [1,1]] ⟨aC kJ (yP A B i 24576),dn 24576 (nl A+nl B) o,24577⟩=
  some (ah.leaf au.normal ([mag A,mag B,own 24576 1 0 (nl A+nl B),int IntKind.i64 (IntKind.i64.wrap ((↑i:Int)+(1:Int)))],[(24576,ak.mk true true 1 (nl A+nl B) fun a=>int IntKind.u32 (↑(o a):Int))])):=ag
theorem U8 {A B i:Nat} {o:Nat->Nat}:cw T eJ [] 60 mU (behind (aA mU) [1,1,0,1]) ⟨aC kJ (yP A B i 24576),dn 24576 (nl A+nl B) o,24577⟩=
  some (ah.aj [dQ (nl A+nl B) fun i=>aD o (i+0),nl A+nl B<2^40] (ah.leaf au.ret [mag (val (nl A+nl B) fun i=>numOf (aD o (i+0)))])):=ag
abbrev sN:List Nat:=[0,1,6,7,8]
abbrev Jf (A b r k K:Nat):List AV:=[.mag A,.int .u32 b,.own K 1 0 (nl A),.int .u64 r,.int .i64 ((k:Int)-1)]
abbrev PX:Code:=part (aA wg) [1,1,1,0,1,0,0]
theorem ae1 {A b:Nat}:aH T eJ [] 60 sN (before (aA wg) [1,1,1,0,1]) ⟨aQ 0 [.mag A,.int .u32 b],[],0⟩=
  let c1:Int:=(↑(nl A):Int);some (ah.aj [(0:Int)<=c1/\c1<=c1/\c1<=(2:Int)^47/\c1*(↑(4:Nat):Int)<=(2:Int)^47] (ah.leaf au.normal ([mag A,int IntKind.u32 (↑b:Int),own 16384 1 0 c1.toNat,int IntKind.u64 (0:Int),int IntKind.i64 (IntKind.i64.wrap (c1-(1:Int)))],[(16384,ak.mk true true 1 c1.toNat fun x=>int IntKind.u32 (0:Int))]))):=ag
theorem adv {A b r k:Nat} {o:Nat->Nat}:aH T eJ [16] 60 sN [PX] ⟨aC sN (Jf A b r k 16384),dn 16384 (nl A) o,16385⟩=
  let c7:AV:=int IntKind.u32 (↑b:Int);let c4:AV:=own 16384 1 0 (nl A);let c3:Int:=IntKind.u64.wrap (↑b:Int);let c2:Int:=(↑k:Int)-(1:Int);let c6:Prop:=(0:Int)<=c2/\c2.toNat<nl A;let c5:Nat:=c2.toNat+0;let c1:Int:=IntKind.u64.wrap (↑(BitVec.ofInt IntKind.u64.bits (IntKind.u64.wrap ((↑r:Int)*(2:Int)^min (Int.toNat (32:Int)) IntKind.u64.bits))|||BitVec.ofInt IntKind.u64.bits (IntKind.u64.wrap (↑(aG A c2.toNat):Int))).toNat:Int);some (ah.fork (decide (c2>=(0:Int))) (ah.aj [(0:Int)<=(32:Int),c6] (ah.aj [c3≠(0:Int),c6,c5<nl A] (ah.aj [c3≠(0:Int)] (ah.leaf au.normal ([mag A,c7,c4,int IntKind.u64 (c1.tmod c3),int IntKind.i64 (IntKind.i64.wrap (c2-(1:Int)))],[(16384,ak.mk true true 1 (nl A) fun j=>if(j==c5)=true then int IntKind.u32 (IntKind.u32.wrap (IntKind.u64.wrap (c1.tdiv c3)))else aD o j)]))))) (ah.leaf (au.exit 0) ([mag A,c7,c4,int IntKind.u64 (↑r:Int),int IntKind.i64 c2],[(16384,ak.mk true true 1 (nl A) fun a=>int IntKind.u32 (↑(o a):Int))]))):=ag
theorem akc {A b r k:Nat} {o:Nat->Nat}:cw T eJ [] 60 wg (behind (aA wg) [1,1,1,0,1]) ⟨aC sN (Jf A b r k 16384),dn 16384 (nl A) o,16385⟩=
  some (ah.aj [dQ (nl A) fun i=>aD o (i+0),nl A<2^40] (ah.leaf au.ret [mag (val (nl A) fun i=>numOf (aD o (i+0))),int IntKind.u32 (IntKind.u32.wrap (↑r:Int))])):=ag
def MZ:bg:=[(sn,zT),(Bv,nD (fun A B=>.mag (A-B)) fun A B=>[B<=A,nl A<2^40])]
theorem Vb {A B:Nat}:bW T MZ [9] 60 DD (aA DD) ⟨aQ 0 [.mag A,.mag B],[],0⟩=
  let c1:Nat:=2^40;some (ah.aj [nl A<c1,nl B<c1] (ah.fork (decide (cX A B<(0:Int))) (ah.leaf au.ret [nil,int IntKind.i64 (7:Int)]) (ah.aj [B<=A,nl A<c1] (ah.leaf au.ret [mag (A-B),int IntKind.i64 (0:Int)])))):=ag
theorem gL {K n nx:Nat} {o:Nat->Nat} (h:K<nx):gN nx (dn K n o):=⟨⟨h,fun _ _=>rfl⟩,trivial⟩
theorem Vt {vo va vb ai x c b' un u' B:Nat} (hx:x=c+b') (hu:un+x=ai+4294967296*u') (h:va+c*B=vo+vb):va+ai*B+u'*(4294967296*B)=vo+un*B+(vb+b'*B):=by
 have e:(un+x)*B=(ai+4294967296*u')*B:=by rw[hu]
 subst hx
 grind
theorem Qs {A B:Nat} (hAB:B<=A) (hA:nl A<2^40) (K:Nat):aE P Bv K [.mag A,.mag B] [] (aK (.mag (A-B)) []):=by
 have hB:nl B<=nl A:=gV hAB
 refine gr hT UT rfl aX rfl (fun _ c0 h0=>?_) K []
 refine ax.hole [1,1,1,0,1] ag (aI.bA hT eZ hm 60 pA ajV ag ?_)
 simp only[ah.all,az,aW]
 refine⟨aa,fun s' hv=>cJ ?_⟩
 refine ax.g9 (i:=0) (y:=Pf) ag pA 12289 (h0 _) (fun p:Nat×Nat×(Nat->Nat)=>xG A B p.2.1 p.1 12288) (fun p=>dn 12288 (nl A) p.2.2) (fun _=>rfl) (fun _=>gL aa)
  (fun p=>p.1<=nl A/\p.2.1<=1/\(∀j,j<nl A->p.2.2 j<2^32)/\val p.1 (aG A)+p.2.1*2^(32*p.1)=val p.1 p.2.2+val p.1 (aG B))
  (fun p=>nl A-p.1) (0,0,fun _=>0) hv ⟨by simp,by simp,fun _ _=>by simp,by simp[val]⟩ ?_
 rintro⟨i,c,o⟩ ⟨hi,hc,ho,hval⟩
 simp only at hi hc ho hval
 refine ax.bA hT eZ hm 60 pA Xi ag ?_
 have la:=dG (N:=A) (i:=i)
 have lb:=dG (N:=B) (i:=i)
 have wa:IntKind.u64.wrap (aG A i:Int)=((aG A i:Nat):Int):=cu aa aa
 have wb:IntKind.u64.wrap (aG B i:Int)=((aG B i:Nat):Int):=cu aa aa
 have w1:IntKind.u64.wrap ((c:Int)+((aG B i:Nat):Int))=((c+aG B i:Nat):Int):=by rw[cu aa aa];omega
 have w2:IntKind.u64.wrap (((aG A i:Nat):Int)+4294967296)=((aG A i+4294967296:Nat):Int):=by rw[cu aa aa];omega
 have w3:IntKind.i64.wrap ((i:Int)+1)=((i+1:Nat):Int):=by rw[wrap_i64 aa aa];omega
 simp only[ah.all,az,aZ,bk,aW,Nat.add_zero,beq_iff_eq]
 rw[wa,wb,w1,w2,w3]
 -- what is put down
 have next:∀{s':aM} {x u':Nat} {v:Int},i<nl A->x=c+aG B i->u'<=1->x<=aG A i+4294967296*u'->aG A i+4294967296*u'<x+4294967296->v=((aG A i+4294967296*u'-x:Nat):Int)->
   bt pA s'=some (xG A B u' (i+1) 12288,[(12288,⟨true,true,1,nl A,fun j=>if j=i then .int .u32 (IntKind.u32.wrap (IntKind.u64.wrap v))else aD o j⟩)])->
   ∃k:Nat×Nat×(Nat->Nat),bt pA s'=some (xG A B k.2.1 k.1 12288,dn 12288 (nl A) k.2.2)/\(k.1<=nl A/\k.2.1<=1/\(∀j,j<nl A->k.2.2 j<2^32)/\val k.1 (aG A)+k.2.1*2^(32*k.1)=val k.1 k.2.2+val k.1 (aG B))/\nl A-k.1<nl A-i:=by
  intro s' x u' v hin hx hu1 h1 h2 hv1 hv
  refine⟨(i+1,u',cH o i (aG A i+4294967296*u'-x)),dJ hv rfl ?_,⟨by simp only;omega,hu1,ij aa ho,?_⟩,by simp only;omega⟩
  ·simp only[dn]
   congr 3
   funext k
   exact gO (by rw[hv1,cu aa aa,wrap_u32 aa aa]) k
  ·simp only
   rw[th,val,val,gY]
   exact Vt (b':=aG B i) (x:=x) hx aa hval
 refine⟨fun hb=>⟨fun hb2=>⟨aa,aa,fun h3=>⟨⟨aa,aa⟩,fun s' hv=>?_⟩,fun h3=>⟨⟨aa,aa⟩,fun s' hv=>?_⟩⟩,fun hb2=>⟨aa,fun h3=>⟨⟨aa,aa⟩,fun s' hv=>?_⟩,fun h3=>⟨⟨aa,aa⟩,fun s' hv=>?_⟩⟩⟩,fun hb s' hv=>fC (cJ ?_)⟩
 ·exact next (u':=1) aa rfl aa aa aa aa hv
 ·exact next (u':=0) aa rfl aa aa aa aa hv
 ·exact next (u':=1) (x:=c) aa (by rw[jH (A:=B) aa];rfl) aa aa aa aa hv
 ·exact next (u':=0) (x:=c) aa (by rw[jH (A:=B) aa];rfl) aa aa aa aa hv
 ·have hin:i=nl A:=aa
  refine aI.jZ hT eZ hm 60 hv (h0 _) rfl (gL aa) ZM ag ag ?_
  simp only[ah.all,az,Nat.add_zero,jQ]
  refine⟨⟨gd ho,hA⟩,dF (congrArg AV.mag ?_)⟩
  rw[hin,fZ,qq (dz.1 hB)]at hval
  have hlt:=fO ho
  have:c=0:=by
   rcases Nat.eq_zero_or_pos c with h|h
   ·exact h
   ·exfalso
    have h1:1*2^(32*nl A)<=c*2^(32*nl A):=Nat.mul_le_mul_right _ h
    omega
  rw[this]at hval
  omega
theorem aay:bz P MZ:=aL E3 (aL (pM fun h=>Qs h.1 h.2) bO)
theorem Xw {A B:Nat} (hA:nl A<2^40) (hB:nl B<2^40) (K:Nat):aE P CT K [.mag A,.mag B] [] (aK (.tuple [.mag (A-B),.int .i64 (if A<B then 7 else 0)]) []):=by
 refine cj hT aay hm adx rfl aX rfl 60 Vb (fun _=>?_) K []
 simp only[ah.all,az,aZ,bk,Cz]
 refine⟨⟨hA,hB⟩,fun h=>⟨?_,bQ (by rw[if_pos h]),trivial⟩,fun h=>⟨⟨aa,hA⟩,.refl _,bQ (by rw[if_neg h]),trivial⟩⟩
 rw[Nat.sub_eq_zero_of_le aa];exact lH
def SC:Spec:=nD (fun A B=>.tuple [.mag (A-B),.int .i64 (if A<B then 7 else 0)]) G7
theorem Wy:∀K args pre r,SC K args pre=some r->aE P CT K args pre r:=pM fun h=>Xw h.1 h.2
theorem TZ {A B:Nat} (hA:nl A<2^39) (hB:nl B<2^39) (K:Nat):aE P Ae K [.mag A,.mag B] [] (aK (.mag (A*B)) []):=by
 refine gr hT W8 rfl aX rfl (fun _ c0 h0=>?_) K []
 refine ax.hole [1,1,0,1] ag (aI.bA hT eZ hm 60 kJ ais ag ?_)
 have hw:IntKind.i64.wrap ((nl A:Int)+(nl B:Int))=((nl A+nl B:Nat):Int):=eC aa aa
 rw[hw]
 simp only[ah.all,az,aW]
 refine⟨aa,fun s' hv=>cJ ?_⟩
 refine ax.g9 (i:=0) (y:=qA) ag kJ 24577 (h0 _) (fun p:Nat×(Nat->Nat)=>yP A B p.1 24576) (fun p=>dn 24576 (nl A+nl B) p.2) (fun _=>rfl) (fun _=>gL aa)
  (fun p=>p.1<=nl A/\(∀j,j<nl A+nl B->p.2 j<2^32)/\(∀j,p.1+nl B<=j->p.2 j=0)/\val (nl A+nl B) p.2=val p.1 (aG A)*B)
  (fun p=>nl A-p.1) (0,fun _=>0) hv ⟨by simp,fun _ _=>by simp,fun _ _=>rfl,?_⟩ ?_
 ·simp only
  rw[val_zero fun _ _=>rfl]
  simp[val]
 rintro⟨i,o⟩ ⟨hi,ho,ho0,hval⟩
 simp only at hi ho ho0 hval
 refine ax.hole [0] ag (show ax P c0 mU.ntmps (part qA [0]) _ _ from ax.bA hT eZ hm 60 kJ ajR ag ?_)
 simp only[ah.all,aZ,bk]
 refine⟨fun h1 s' hv=>cJ ?_,fun h1 s' hv=>tI (fC (cJ ?_))⟩
 ·have hin:i<nl A:=aa
  have la:=dG (N:=A) (i:=i)
  show aI P c0 mU.ntmps [part qA [1]] s' _
  refine ax.hole [0] ag ?_
  show ax P c0 mU.ntmps (part qA [1,0]) s' _
  refine ax.qh (i:=1) (y:=vQ) ag (ax.kj hv (h0 24577) rfl (gL aa) ?_)
  refine ax.hole [1,0,1] ag (aI.bA hT eZ hm 60 tN Xj ag fun s' hv=>cJ ?_)
  refine ax.g9 (i:=2) (y:=part vQ [1,0,1,0,0]) ag tN 24577 (h0 _) (fun p:Nat×Nat×(Nat->Nat)=>Es A B i p.2.1 p.1 24576) (fun p=>dn 24576 (nl A+nl B) p.2.2) (fun _=>rfl) (fun _=>gL aa)
   (fun p=>p.1<=nl B/\p.2.1<2^32/\(∀j,j<nl A+nl B->p.2.2 j<2^32)/\(∀j,i+nl B<=j->p.2.2 j=0)/\val (nl A+nl B) p.2.2+p.2.1*2^(32*(i+p.1))=val i (aG A)*B+aG A i*val p.1 (aG B)*2^(32*i))
   (fun p=>nl B-p.1) (0,0,o) hv ⟨by simp,by simp,ho,ho0,by simp[val,hval]⟩ ?_
  rintro⟨j,c,o⟩ ⟨hj,hc,ho,ho0,hval⟩
  simp only at hj hc ho ho0 hval
  refine ax.bA hT eZ hm 60 tN ahF ag ?_
  have hij:IntKind.i64.wrap ((i:Int)+(j:Int))=((i+j:Nat):Int):=eC aa aa
  have lb:=dG (N:=B) (i:=j)
  simp only[ah.all,az,aZ,bk,hij,aW,Nat.add_zero,beq_iff_eq]
  refine⟨fun h2=>?_,fun h2 s' hv=>fC ?_⟩
  ·have hjm:j<nl B:=aa
   obtain⟨m1,m2,m3⟩:=QT hc la lb (ho (i+j) aa)
   rw[m1]
   refine⟨⟨aa,aa,aa,aa⟩,⟨aa,aa⟩,aa,fun s' hv=>⟨(j+1,(c+aG A i*aG B j+o (i+j))/4294967296,cH o (i+j) ((c+aG A i*aG B j+o (i+j))%4294967296)),dJ hv ?_ ?_,⟨by simp only;omega,m3,ij aa ho,fun k hk=>?_,?_⟩,by simp only;omega⟩⟩
   ·rw[lM,eC (a:=(j:Int)+1) (n:=j+1) aa aa]
    simp only[Es,List.cons.injEq,AV.int.injEq,and_true,true_and]
    omega
   ·simp only[dn]
    congr 3
    funext k
    exact gO (by rw[jN]) k
   ·exact(fL aa).trans (ho0 k hk)
   ·simp only
    rw[show 32*(i+(j+1))=32*((i+j)+1) by omega,gY,val]
    have hset:=KT (o:=o) (x:=(c+aG A i*aG B j+o (i+j))%4294967296) (show i+j<nl A+nl B by omega)
    exact NJ rfl (Nat.div_add_mod _ _) hset (by rw[<-Nat.pow_add];congr 1;omega) hval
  ·show aI P c0 mU.ntmps (behind vQ [1,0,1]) s' _
   have hjm:j=nl B:=aa
   have hib:IntKind.i64.wrap ((i:Int)+(nl B:Int))=((i+nl B:Nat):Int):=eC aa aa
   refine aI.fh hT eZ hm 60 hv (h0 24577) rfl (gL aa) kJ alH ag ag ?_
   rw[hib]
   simp only[ah.all,az,aW,Nat.add_zero,beq_iff_eq]
   refine⟨⟨aa,aa⟩,fun s' hv=>?_⟩
   have hf:(fun k=>if k=i+nl B then AV.int .u32 (IntKind.u32.wrap (c:Int))else aD o k)=aD (cH o (i+nl B) c):=by
    funext k
    exact gO (wrap_u32 aa aa) k
   rw[hf]at hv
   show aI P c0 mU.ntmps [part qA [1,1]] s' _
   refine aI.fh hT eZ hm 60 hv (h0 24577) rfl (gL aa) kJ XZ ag ag fun s' hv=>cJ ?_
   refine⟨(i+1,cH o (i+nl B) c),dJ hv ?_ rfl,⟨by simp only;omega,ij hc ho,fun k hk=>(fL (by simp only at hk;omega)).trans (ho0 k (by simp only at hk;omega)),?_⟩,by simp only;omega⟩
   ·rw[eC (a:=(i:Int)+1) (n:=i+1) aa aa]
   ·simp only
    rw[hjm,fZ]at hval
    rw[tG aa (ho0 _ aa),hval,val,Nat.add_mul,Nat.mul_assoc,Nat.mul_assoc,Nat.mul_comm B]
 ·have hin:i=nl A:=aa
  refine aI.jZ hT eZ hm 60 hv (h0 _) rfl (gL aa) U8 ag ag ?_
  simp only[ah.all,az,Nat.add_zero,jQ]
  refine⟨⟨gd ho,aa⟩,dF (congrArg AV.mag ?_)⟩
  rw[hval,hin,fZ]
def Lu:Spec:=nD (fun A B=>.mag (A*B)) fun A B=>[nl A<2^39,nl B<2^39]
theorem RN:∀K args pre r,Lu K args pre=some r->aE P Ae K args pre r:=pM fun h=>TZ h.1 h.2
theorem Tq {v b r A:Nat} (h:v*b+r=A) (hr:r<b):A/b=v/\A%b=r:=by
 subst h
 refine⟨?_,?_⟩
 ·rw[Nat.mul_comm,Nat.mul_add_div aa,Nat.div_eq_of_lt hr,Nat.add_zero]
 ·rw[Nat.mul_comm,Nat.mul_add_mod,Nat.mod_eq_of_lt hr]
theorem XH {A b:Nat} (hA:nl A<2^40) (hb0:0<b) (hb32:b<2^32) (K:Nat):aE P A0 K [.mag A,.int .u32 b] [] (aK (.tuple [.mag (A/b),.int .u32 (A%b:Nat)]) []):=by
 refine gr hT afK rfl aX rfl (fun _ c0 h0=>?_) K []
 refine ax.hole [1,1,1,0,1] ag (aI.bA hT eZ hm 60 sN ae1 ag ?_)
 simp only[ah.all,az,aW]
 refine⟨aa,fun s' hv=>cJ ?_⟩
 refine ax.g9 (i:=0) (y:=PX) ag sN 16385 (h0 _) (fun p:Nat×Nat×(Nat->Nat)=>Jf A b p.2.1 p.1 16384) (fun p=>dn 16384 (nl A) p.2.2) (fun _=>rfl) (fun _=>gL aa)
  (fun p=>p.1<=nl A/\p.2.1<b/\(∀j,j<nl A->p.2.2 j<2^32)/\(∀j,j<p.1->p.2.2 j=0)/\val (nl A) p.2.2*b+p.2.1*2^(32*p.1)+val p.1 (aG A)=A)
  (fun p=>p.1) (nl A,0,fun _=>0) (dJ hv (by rw[wrap_i64 aa aa];rfl) rfl) ⟨by simp,hb0,fun j _=>by simp,fun j _=>rfl,?_⟩ ?_
 ·simp only
  rw[val_zero fun _ _=>rfl,fZ]
  simp
 rintro⟨k,r,o⟩ ⟨hk,hr,ho,ho0,hval⟩
 simp only at hk hr ho ho0 hval
 refine ax.bA hT eZ hm 60 sN adv ag ?_
 simp only[ah.all,az,aZ,bk,Nat.add_zero,beq_iff_eq]
 have hbw:IntKind.u64.wrap (b:Int)=(b:Int):=cu aa aa
 refine⟨fun hb=>?_,fun hb s' hv=>fC (cJ ?_)⟩
 ·obtain⟨j,rfl⟩:∃j,k=j+1:=⟨k-1,aa⟩
  have e:(((j+1:Nat):Int)-1).toNat=j:=aa
  have hzj:=dG (N:=A) (i:=j)
  have hor:=vt (a:=r) (b:=aG A j) aa hzj
  rw[e,hor,hbw]
  have hq1:(r*4294967296+aG A j)/b<2^32:=by
   rw[Nat.div_lt_iff_lt_mul hb0]
   have:(r+1)*4294967296<=b*4294967296:=Nat.mul_le_mul_right _ hr
   omega
  have hdm:=Nat.div_add_mod (r*4294967296+aG A j) b
  refine⟨⟨aa,aa,aa⟩,⟨aa,⟨aa,aa⟩,aa⟩,aa,fun s' hv=>⟨(j,(r*4294967296+aG A j)%b,cH o j ((r*4294967296+aG A j)/b)),dJ hv ?_ ?_,⟨by simp only;omega,Nat.mod_lt _ hb0,ij hq1 ho,fun i hi=>?_,?_⟩,by simp only;omega⟩⟩
  ·rw[<-Int.ofNat_tmod,wrap_i64 aa aa,show((j+1:Nat):Int)-1-1=(j:Int)-1 by omega]
  ·simp only[dn]
   congr 3
   funext i
   refine gO ?_ i
   rw[<-Int.ofNat_tdiv]
   clear hdm
   generalize (r*4294967296+aG A j)/b=q at hq1 ⊢
   rw[cu aa aa,wrap_u32 aa aa]
  ·exact(fL (by simp only at hi;omega)).trans (ho0 i (by simp only at hi;omega))
  ·simp only
   rw[tG aa (ho0 j aa)]
   rw[gY,val]at hval
   exact PL hval hdm.symm
 ·have hk0:k=0:=aa
  have hv2:val (nl A) o*b+r=A:=by rw[hk0]at hval;simpa [val]using hval
  refine aI.jZ hT eZ hm 60 hv (h0 _) rfl (gL aa) akc ag ag ?_
  simp only[ah.all,az,Nat.add_zero,jQ]
  obtain⟨hdiv,hmod⟩:=Tq hv2 hr
  exact⟨⟨gd ho,hA⟩,dF (congrArg AV.mag hdiv.symm),bQ (by rw[hmod,wrap_u32 aa aa]),trivial⟩
def Ih:Spec:=bX fun l=>match l with
 |[a,.int .u32 b]=>match je a with
  |some A=>some (aK (.tuple [.mag (A/b.toNat),.int .u32 (A%b.toNat:Nat)]) [nl A<2^40,0<b,b<2^32])
  |none=>none
 |_=>none
theorem OC:∀K args pre r,Ih K args pre=some r->aE P A0 K args pre r:=by
 refine cK fun K args r hk hs _=>?_
 split at hs
 ·rename_i a b
  split at hs
  ·rename_i A hA
   simp only[ay]at hs
   subst hs
   intro need
   obtain⟨h1,h2,h3⟩:nl A<2^40/\0<b/\b<2^32:=need
   obtain⟨b,rfl⟩:=Int.eq_ofNat_of_zero_le (Int.le_of_lt h2)
   exact gD (XH h1 aa aa K) hk ⟨lW hA,.refl _,trivial⟩ [] trivial
  ·simp at hs
 ·simp at hs
end Go.Am.B
