/- natural.Add. -/
import Derived.Test.YtgfjdngnneoeoaaGreatB1
set_option linter.unusedVariables false
namespace Go.Am.B
open Go Go.Am.N AV Proofs.Tryz IntKind
theorem afJ:aX 134 f134:=aM func134
theorem VH {n m:Nat} {z y:Nat->Nat}:aL T G1 [13] 30 [0,1,5,6,20,21,22] (before (aF f134) [1,1,1,1,0,1]) ⟨aS 0 [.ak 1 n (aA z),.ak 1 m (aA y)],[],0⟩=
  let c10:Int:=(↑m:Int);let c9:Int:=(↑n:Int);let c8:AV:=int .i64 (0:Int);let c7:AV:=int .u64 (0:Int);let c6:AV:=int .u32 (0:Int);let c5:Int:=(2:Int)^47;let c4:AV:=ak 1 n fun a=>int .u32 (↑(z a):Int);let c3:AV:=ak 1 m fun a=>int .u32 (↑(y a):Int);let c2:Int:=i64.wrap (c10+1);let c1:Int:=i64.wrap (c9+1);some (ag.fork (decide (c9<c10)) (ag.aj [(0:Int)<=c2/\c2<=c2/\c2<=c5/\c2*(↑(4:Nat):Int)<=c5] (ag.leaf aq.normal ([c3,c4,own 53248 1 0 c2.toNat,c7,c3,int .i64 c10,c8],[(53248,az.mk true true 1 c2.toNat fun x=>c6)]))) (ag.aj [(0:Int)<=c1/\c1<=c1/\c1<=c5/\c1*(↑(4:Nat):Int)<=c5] (ag.leaf aq.normal ([c4,c3,own 36864 1 0 c1.toNat,c7,c4,int .i64 c9,c8],[(36864,az.mk true true 1 c1.toNat fun x=>c6)])))):=ah
abbrev yq:List Nat:=[1,1,1,1,0,1]
abbrev qR:List Nat:=[0,1,5,6,20,21,22]
theorem Rn {n m i c:Nat} {z y o:Nat->Nat}:aL T G1 [23,34] 30 [0,1,5,6,20,21,22] [part (aF f134) [1,1,1,1,0,1,0,0]] ⟨aG [0,1,5,6,20,21,22] [.ak 1 n (aA z),.ak 1 m (aA y),.own 7 1 0 (n+1),.int .u64 c,.ak 1 n (aA z),.int .i64 n,.int .i64 i],[(7,⟨true,true,1,n+1,aA o⟩)],8⟩=
  let c12:AV:=int .i64 (↑n:Int);let c10:Int:=(2:Int)^min (Int.toNat (32:Int)) u64.bits;let c8:Nat:=n+1;let c4:AV:=ak 1 m fun a=>int .u32 (↑(y a):Int);let c3:Int:=(↑i:Int);let c1:AV:=ak 1 n fun a=>int .u32 (↑(z a):Int);let c11:Prop:=(0:Int)<=c3;let c7:List AV:=[c1,c12,int .i64 (i64.wrap (c3+1))];let c6:Nat:=c3.toNat+0;let c5:AV:=own 7 1 0 c8;let c2:Int:=u64.wrap ((↑c:Int)+u64.wrap (↑(z c3.toNat):Int));let c13:List Prop:=[c11/\c3.toNat<c8,c6<c8];let c9:Int:=u64.wrap (c2+u64.wrap (↑(y c3.toNat):Int));some (ag.fork (decide (c3<(↑n:Int))) (ag.aj [c11/\c3.toNat<n] (ag.fork (decide (c3<(↑m:Int))) (ag.aj [c11/\c3.toNat<m] (ag.aj c13 (ag.aj [(0:Int)<=32] (ag.leaf aq.normal (c1::c4::c5::int .u64 (c9.fdiv c10)::c7,[(7,az.mk true true 1 c8 fun j=>if(j==c6)=true then int .u32 (u32.wrap c9)else aA o j)]))))) (ag.aj c13 (ag.aj [(0:Int)<=32] (ag.leaf aq.normal (c1::c4::c5::int .u64 (c2.fdiv c10)::c7,[(7,az.mk true true 1 c8 fun j=>if(j==c6)=true then int .u32 (u32.wrap c2)else aA o j)])))))) (ag.leaf (aq.exit 0) ([c1,c4,c5,int .u64 (↑c:Int),c1,c12,int .i64 c3],[(7,az.mk true true 1 c8 fun a=>int .u32 (↑(o a):Int))]))):=ah
theorem VU {n m i c:Nat} {z y o:Nat->Nat}:cP T G1 [] 30 f134 (behind (aF f134) [1,1,1,1,0,1]) ⟨aG [0,1,5,6,20,21,22] [.ak 1 n (aA z),.ak 1 m (aA y),.own 7 1 0 (n+1),.int .u64 c,.ak 1 n (aA z),.int .i64 n,.int .i64 i],[(7,⟨true,true,1,n+1,aA o⟩)],8⟩=
  let c3:Nat:=n+1;let c2:AV:=int .u32 (u32.wrap (↑c:Int));let c1:Nat:=(↑n:Int).toNat+0;some (ag.aj [(0:Int)<=(↑n:Int)/\(↑n:Int).toNat<c3,c1<c3] (ag.aj [eo c3 fun i=>if(i+0==c1)=true then c2 else aA o (i+0),c3<2^62] (ag.leaf aq.ret [mag (val c3 fun i=>numOf (if(i+0==c1)=true then c2 else aA o (i+0)))]))):=ah
theorem JC {i m:Nat} {y:Nat->Nat}:val (min (i+1) m) y=val (min i m) y+(if i<m then y i else 0)*2^(32*i):=by
 by_cases h:i<m
 ·rw[Nat.min_eq_left aa,Nat.min_eq_left aa,if_pos h];rfl
 ·rw[Nat.min_eq_right aa,Nat.min_eq_right aa,if_neg h];simp
theorem aen {i c zi yi vz vy:Nat} {o o':Nat->Nat} (hv:val i o+c*2^(32*i)=vz+vy) (ho:∀j,j<i->o' j=o j) (h1:o' i=(c+zi+yi)%4294967296):
  val (i+1) o'+(c+zi+yi)/4294967296*2^(32*(i+1))=(vz+zi*2^(32*i))+(vy+yi*2^(32*i)):=by
 rw[val,val_congr ho,h1,iB]
 have:=Dl (B:=2^(32*i)) (c:=c) (z:=zi) (y:=yi) rfl hv
 omega
theorem MC {c0:Ctx} (h0:c0.k0=bt) {n m:Nat} {z y:Nat->Nat} (hn:n<2^40) (hmn:m<=n) (hz:∀i,i<n->z i<2^32) (hy:∀i,i<m->y i<2^32) {K L:Nat} {f0:Nat->AV} {s':aK}
  (hv:bB qR s'=some ([.ak 1 n (aA z),.ak 1 m (aA y),.own K 1 0 L,.int .u64 0,.ak 1 n (aA z),.int .i64 n,.int .i64 0],[(K,⟨true,true,1,L,f0⟩)])) (hL:L=n+1) (hf:f0=aA fun _=>0):
  ay P c0 f134.ntmps (part (aF f134) yq) s' (ey (fun s''=>aI P c0 f134.ntmps (behind (aF f134) yq) s'' (Fin T f134 (.mag (val n z+val m y)))) (Fin T f134 (.mag (val n z+val m y)))):=by
 subst hL hf
 refine ay.ji (i:=0) (y:=part (aF f134) [1,1,1,1,0,1,0,0]) ah
  (fun p:Nat×Nat×(Nat->Nat)=>⟨aG qR [.ak 1 n (aA z),.ak 1 m (aA y),.own 7 1 0 (n+1),.int .u64 (p.2.1:Nat),.ak 1 n (aA z),.int .i64 n,.int .i64 (p.1:Nat)],[(7,⟨true,true,1,n+1,aA p.2.2⟩)],8⟩)
  (fun p=>p.1<=n/\p.2.1<=1/\(∀j,j<n+1->p.2.2 j<2^32)/\val p.1 p.2.2+p.2.1*2^(32*p.1)=val p.1 z+val (min p.1 m) y)
  (fun p=>n-p.1) (0,0,fun _=>0)
  (dI [(7,K)] hv h0 (by simp[jn]) ⟨aP,aP,⟨rfl,dx rfl rfl rfl⟩,aP,aP,aP,aP,trivial⟩
   ⟨⟨K,_,rfl,by simp[look],jm rfl fun i _=>gu rfl⟩,trivial⟩)
  ⟨by simp,by simp,fun j _=>by simp,by simp[val]⟩ ?_
 rintro⟨i,c,o⟩ ⟨hi,hc,ho,hval⟩
 simp only at hi hc ho hval
 refine ay.bH hT gX hm 30 qR Rn ah ?_
 have key:∀{yi:Nat} {s':aK} {u v:Int} {f':Nat->AV},i<n->yi=(if i<m then y i else 0)->yi<2^32->
   bB qR s'=some ([.ak 1 n (aA z),.ak 1 m (aA y),.own 7 1 0 (n+1),.int .u64 u,.ak 1 n (aA z),.int .i64 n,.int .i64 v],[(7,⟨true,true,1,n+1,f'⟩)])->
   u=((c+z i+yi)/4294967296:Nat)->v=(i+1:Nat)->(∀j,f' j=if j=i then .int .u32 ((c+z i+yi)%4294967296:Nat)else aA o j)->
   ∃k:Nat×Nat×(Nat->Nat),(∃ρ,Le c0 ρ s' ⟨aG qR [.ak 1 n (aA z),.ak 1 m (aA y),.own 7 1 0 (n+1),.int .u64 (k.2.1:Nat),.ak 1 n (aA z),.int .i64 n,.int .i64 (k.1:Nat)],[(7,⟨true,true,1,n+1,aA k.2.2⟩)],8⟩)/\
    (k.1<=n/\k.2.1<=1/\(∀j,j<n+1->k.2.2 j<2^32)/\val k.1 k.2.2+k.2.1*2^(32*k.1)=val k.1 z+val (min k.1 m) y)/\n-k.1<n-i:=by
  intro yi s' u v f' hin hyi hyl hv hu hv1 hf
  have hzi:=hz i hin
  refine⟨(i+1,(c+z i+yi)/4294967296,fun j=>if j=i then(c+z i+yi)%4294967296 else o j),?_,⟨by simp;omega,by simp;omega,fun j hj=>?_,?_⟩,by simp;omega⟩
  ·exact dI [(7,7)] hv h0 rfl ⟨aP,aP,⟨rfl,dx rfl rfl rfl⟩,⟨rfl,gF hu⟩,aP,aP,⟨rfl,gF hv1⟩,trivial⟩
    ⟨⟨7,_,rfl,rfl,jm rfl fun j _=>by
     rw[hf j];simp only[aA]
     by_cases hj:j=i
     ·simp only[if_pos hj];exact gu rfl
     ·simp only[if_neg hj];exact gu rfl⟩,trivial⟩
  ·simp only
   split
   ·omega
   ·exact ho j hj
  ·simp only
   rw[JC,<-hyi]
   exact aen hval (fun j hj=>if_neg aa) (if_pos rfl)
 have fin:i=n->∀s',bB qR s'=some ([.ak 1 n (aA z),.ak 1 m (aA y),.own 7 1 0 (n+1),.int .u64 (c:Nat),.ak 1 n (aA z),.int .i64 n,.int .i64 (i:Nat)],[(7,⟨true,true,1,n+1,aA o⟩)])->
   aI P c0 f134.ntmps (behind (aF f134) yq) s' (Fin T f134 (.mag (val n z+val m y))):=by
  intro hin s' hv
  subst hin
  rw[Nat.min_eq_right hmn]at hval
  have e:∀j,j<i+1->numOf (if(j+0==(i:Int).toNat+0)=true then .int .u32 (u32.wrap (c:Int))else aA o (j+0))=if j=i then c else o j:=by
   intro j hj
   have:=ho j hj
   by_cases h:j=i
   ·simp[h,numOf,jP];omega
   ·simp[h,numOf,aA]
  refine aI.weak ah (dI (vs:=[.ak 1 i (aA z),.ak 1 m (aA y),.own 7 1 0 (i+1),.int .u64 (c:Nat),.ak 1 i (aA z),.int .i64 i,.int .i64 (i:Nat)])
    (ps:=[(7,⟨true,true,1,i+1,aA o⟩)]) (nx:=8) [(7,7)] hv h0 rfl ⟨aP,aP,⟨rfl,dx rfl rfl rfl⟩,aP,aP,aP,aP,trivial⟩
    ⟨⟨7,_,rfl,rfl,jm rfl fun j _=>gu rfl⟩,trivial⟩)
   (aI.fin hT gX hm 30 VU ah ?_)
  simp only[ag.all,au]
  refine⟨⟨aa,aa⟩,⟨fun j hj=>?_,aa⟩,?_⟩
  ·have:=ho j hj
   by_cases h:j=i
   ·exact⟨c,aa,by simp[h,jP];omega⟩
   ·exact⟨o j,this,by simp[h,aA]⟩
  ·rw[val_congr e]
   refine dX (congrArg AV.mag ?_)
   rw[<-hval,val,val_congr (y:=o) fun j hj=>if_neg aa,if_pos rfl]
 simp only[ag.all,au,bz,bG,br,Nat.add_zero,beq_iff_eq,oC,lC,lW]
 refine⟨fun hb=>?_,fun hb s' hv=>fin aa s' hv⟩
 have h1:i<n:=aa
 have hzi:=hz i h1
 refine⟨aa,fun hb2=>?_,fun hb2=>?_⟩
 ·have h2:i<m:=aa
  have hyi:=hy i h2
  refine⟨aa,aa,aa,fun s' hv=>key (yi:=y i) h1 (by rw[if_pos h2]) hyi hv aa (by rw[wrap_i64 aa aa];omega) fun j=>?_⟩
  split
  ·congr 1;omega
  ·rfl
 ·have h2:¬i<m:=aa
  refine⟨aa,aa,fun s' hv=>key (yi:=0) h1 (by rw[if_neg h2]) aa hv aa (by rw[wrap_i64 aa aa];omega) fun j=>?_⟩
  split
  ·congr 1;omega
  ·rfl
theorem aaY {n m:Nat} {z y:Nat->Nat} (hz:∀i,i<n->z i<2^32) (hy:∀i,i<m->y i<2^32) (hn:n<2^40) (hm':m<2^40) (K:Nat) (pre:aD):
  aN P 134 K [.ak 1 n (aA z),.ak 1 m (aA y)] pre (aH (.mag (val n z+val m y)) []):=by
 refine jN hT afJ rfl aW rfl (fun _ c h0=>?_) K pre
 refine ay.hole yq ah (aI.bH hT gX hm 30 qR VH ah ?_)
 simp only[ag.all,au,bz,bG]
 have hw:∀k:Nat,k<2^40->i64.wrap ((k:Int)+1)=((k+1:Nat):Int):=fun k hk=>by rw[wrap_i64 aa aa];omega
 rw[hw n hn,hw m hm']
 simp only[br]
 refine⟨fun hb=>⟨aa,fun s' hv=>?_⟩,fun hb=>⟨aa,fun s' hv=>?_⟩⟩
 ·have:=MC (m:=n) (y:=z) (z:=y) h0 hm' aa hy hz hv rfl rfl
  rw[Nat.add_comm (val n z)];exact this
 ·exact MC h0 hn aa hz hy hv rfl rfl
def Ev (A n B m:Nat):dw:=aH (.mag (A+B)) [n<2^40,m<2^40]
theorem Hf:bf P (bX (iY Ev)) 134:=
 cM (sC fun _ _ _ _ K hz hy need=>aaY hz hy need.1 need.2 K [])
end Go.Am.B
