/- natural.trim. -/
import Derived.Test.YtfjlccdmhpdiiaaGreatZ2
import Derived.Test.YtfjlccdmhpdiiaaGreatNames
set_option linter.unusedVariables false
noncomputable section
namespace Go.Am.B
open Go Go.Am.N AV Proofs.Tryz IntKind
theorem J4:aW 199 f199:=aT func199
theorem Rb {n:Nat} {z:Nat->Nat}:aH T [] [] 30 [0,3] (before (aF f199) [1,1,0]) ⟨aQ 0 [.ak 1 n (aB z)],[],0⟩=
  some (ag.leaf aq.normal ([AV.ak 1 n (aB z),AV.int .i64 (n:Int)],[])):=ah
theorem Yt {n k:Nat} {z:Nat->Nat}:aH T [] [8,15] 30 [0,3] [part (aF f199) [1,1,0,0,0]] ⟨[(0,.ak 1 n (aB z)),(3,.int .i64 k)],[],0⟩=
  some
 (ag.fork (decide ((k:Int)>0))
  (ag.aj
   [decide ((k:Int)>0)=true,
    0<=i64.wrap ((k:Int)-1)/\(i64.wrap ((k:Int)-1)).toNat<n]
   (ag.fork (bif true then((z (i64.wrap ((k:Int)-1)).toNat):Int)==0 else false)
    (ag.leaf aq.normal ([AV.ak 1 n (aB z),AV.int .i64 (i64.wrap ((k:Int)-1))],[]))
    (ag.leaf (aq.exit 0) ([AV.ak 1 n (aB z),AV.int .i64 (k:Int)],[]))))
  (ag.aj [decide ((k:Int)>0)=false]
   (ag.fork false (ag.leaf aq.normal ([AV.ak 1 n (aB z),AV.int .i64 (i64.wrap ((k:Int)-1))],[]))
    (ag.leaf (aq.exit 0) ([AV.ak 1 n (aB z),AV.int .i64 (k:Int)],[]))))):=ah
theorem YB {n k:Nat} {z:Nat->Nat}:cy T [] [] 30 f199 (behind (aF f199) [1,1,0]) ⟨[(0,.ak 1 n (aB z)),(3,.int .i64 k)],[],0⟩=
  some
 (ag.aj [(0:Int)<=0/\0<=(k:Int)/\(k:Int)<=(k:Int)/\(k:Int)<=(n:Int)]
  (ag.leaf aq.ret [AV.ak 1 ((k:Int).toNat-Int.toNat 0) fun i=>aB z (i+Int.toNat 0)])):=ah
theorem Ze {n:Nat} {z:Nat->Nat} (K:Nat) (pre:aC):aS P 199 K [.ak 1 n (aB z)] pre ⟨.mag (val n z),[],[n<2^62,∀i,i<n->z i<2^32]⟩:=by
 refine kG hT J4 rfl aV rfl (fun need c h0=>?_) K pre
 obtain⟨hn,hz⟩:n<2^62/\∀i,i<n->z i<2^32:=need
 refine ax.hole [1,1,0] ah (aG.bE hT bB hm 30 [0,3] Rb ah fun s' hv=>?_)
 refine ax.jq (i:=0) (y:=part (aF f199) [1,1,0,0,0]) ah (fun k:Nat=>⟨aA [0,3] [.ak 1 n (aB z),.int .i64 k],[],0⟩) (fun k=>k<=n/\∀i,k<=i->i<n->z i=0) id n
  (dL [] hv h0 rfl ⟨aL,aL,trivial⟩ trivial) ⟨bz,fun i h1 h2=>aa⟩ ?_
 rintro k ⟨hk,hzk⟩
 refine ax.bE hT bB hm 30 [0,3] Yt ah ?_
 have fin:(k=0\/z (k-1)≠0)->∀s',bA [0,3] s'=some ([.ak 1 n (aB z),.int .i64 k],[])->aG P c f199.ntmps (behind (aF f199) [1,1,0]) s' (Fin T f199 (.mag (val n z))):=by
  intro hk0 s' hv
  refine aG.weak ah (dL (vs:=[.ak 1 n (aB z),.int .i64 k]) (ps:=[]) (nx:=0) [] hv h0 rfl ⟨aL,aL,trivial⟩ trivial)
   (aG.fin hT bB hm 30 YB ah ⟨⟨aa,aa,aa,aa⟩,?_⟩)
  have e:val n z=val k z:=nR hk hzk
  refine mR (by rw[e,zS (fun i hi=>hz i aa) hk0];simp) fun i hi=>?_
  have hi':i<k:=by simpa using hi
  rw[e,pZ (fun j hj=>hz j aa) hi']
  rfl
 have hw:0<k->i64.wrap ((k:Int)-1)=((k-1:Nat):Int):=fun h=>by rw[wrap_i64 aa aa];omega
 refine⟨fun hb=>?_,fun hb=>?_⟩
 ·have h1:0<k:=by simpa using hb
  rw[hw h1]
  refine⟨⟨hb,aa,by simp;omega⟩,fun hc s' hv=>?_,fun hc s' hv=>?_⟩
  ·refine⟨k-1,dL [] hv h0 rfl ⟨aL,aL,trivial⟩ trivial,⟨aa,fun i h1 h2=>?_⟩,by simp;omega⟩
   by_cases hi:i=k-1
   ·subst hi;simpa using hc
   ·exact hzk i aa h2
  ·exact fin (.inr (by simpa using hc)) s' hv
 ·have h1:k=0:=by simpa using hb
  refine⟨hb,fun hc=>by simp at hc,fun hc s' hv=>fin (.inl h1) s' hv⟩
def afI (N n:Nat):dI:=aJ (.mag N) [n<2^62]
def G1:aX:=[(199,bY (l7 afI))]
theorem iq:bq P G1:=aI (cF (u9 fun z n K hz need=>fun _=>Ze K [] ⟨need,hz⟩)) bB
theorem V9:aW 214 f214:=aT func214
theorem aeE {n m:Nat} {z y:Nat->Nat}:aH T G1 [13] 30 [0,1,5,6,20,21,22] (before (aF f214) [1,1,1,1,0,1]) ⟨aQ 0 [.ak 1 n (aB z),.ak 1 m (aB y)],[],0⟩=
  let c10:Int:=(↑m:Int);let c9:Int:=(↑n:Int);let c8:AV:=int .i64 (0:Int);let c7:AV:=int .u64 (0:Int);let c6:AV:=int .u32 (0:Int);let c5:Int:=(2:Int)^47;let c4:AV:=ak 1 n fun a=>int .u32 (↑(z a):Int);let c3:AV:=ak 1 m fun a=>int .u32 (↑(y a):Int);let c2:Int:=i64.wrap (c10+1);let c1:Int:=i64.wrap (c9+1);some (ag.fork (decide (c9<c10)) (ag.aj [(0:Int)<=c2/\c2<=c2/\c2<=c5/\c2*(↑(4:Nat):Int)<=c5] (ag.leaf aq.normal ([c3,c4,own 53248 1 0 c2.toNat,c7,c3,int .i64 c10,c8],[(53248,au.mk true true 1 c2.toNat fun x=>c6)]))) (ag.aj [(0:Int)<=c1/\c1<=c1/\c1<=c5/\c1*(↑(4:Nat):Int)<=c5] (ag.leaf aq.normal ([c4,c3,own 36864 1 0 c1.toNat,c7,c4,int .i64 c9,c8],[(36864,au.mk true true 1 c1.toNat fun x=>c6)])))):=ah
abbrev Bg:List Nat:=[1,1,1,1,0,1]
abbrev tU:List Nat:=[0,1,5,6,20,21,22]
theorem agV {n m i c:Nat} {z y o:Nat->Nat}:aH T G1 [23,34] 30 [0,1,5,6,20,21,22] [part (aF f214) [1,1,1,1,0,1,0,0]] ⟨aA [0,1,5,6,20,21,22] [.ak 1 n (aB z),.ak 1 m (aB y),.own 7 1 0 (n+1),.int .u64 c,.ak 1 n (aB z),.int .i64 n,.int .i64 i],[(7,⟨true,true,1,n+1,aB o⟩)],8⟩=
  let c12:AV:=int .i64 (↑n:Int);let c10:Int:=(2:Int)^min (Int.toNat (32:Int)) u64.bits;let c8:Nat:=n+1;let c4:AV:=ak 1 m fun a=>int .u32 (↑(y a):Int);let c3:Int:=(↑i:Int);let c1:AV:=ak 1 n fun a=>int .u32 (↑(z a):Int);let c11:Prop:=(0:Int)<=c3;let c7:List AV:=[c1,c12,int .i64 (i64.wrap (c3+1))];let c6:Nat:=c3.toNat+0;let c5:AV:=own 7 1 0 c8;let c2:Int:=u64.wrap ((↑c:Int)+u64.wrap (↑(z c3.toNat):Int));let c13:List Prop:=[c11/\c3.toNat<c8,c6<c8];let c9:Int:=u64.wrap (c2+u64.wrap (↑(y c3.toNat):Int));some (ag.fork (decide (c3<(↑n:Int))) (ag.aj [c11/\c3.toNat<n] (ag.fork (decide (c3<(↑m:Int))) (ag.aj [c11/\c3.toNat<m] (ag.aj c13 (ag.aj [(0:Int)<=32] (ag.leaf aq.normal (c1::c4::c5::int .u64 (c9.fdiv c10)::c7,[(7,au.mk true true 1 c8 fun j=>if(j==c6)=true then int .u32 (u32.wrap c9)else aB o j)]))))) (ag.aj c13 (ag.aj [(0:Int)<=32] (ag.leaf aq.normal (c1::c4::c5::int .u64 (c2.fdiv c10)::c7,[(7,au.mk true true 1 c8 fun j=>if(j==c6)=true then int .u32 (u32.wrap c2)else aB o j)])))))) (ag.leaf (aq.exit 0) ([c1,c4,c5,int .u64 (↑c:Int),c1,c12,int .i64 c3],[(7,au.mk true true 1 c8 fun a=>int .u32 (↑(o a):Int))]))):=ah
theorem UM {n m i c:Nat} {z y o:Nat->Nat}:cy T G1 [] 30 f214 (behind (aF f214) [1,1,1,1,0,1]) ⟨aA [0,1,5,6,20,21,22] [.ak 1 n (aB z),.ak 1 m (aB y),.own 7 1 0 (n+1),.int .u64 c,.ak 1 n (aB z),.int .i64 n,.int .i64 i],[(7,⟨true,true,1,n+1,aB o⟩)],8⟩=
  let c3:Nat:=n+1;let c2:AV:=int .u32 (u32.wrap (↑c:Int));let c1:Nat:=(↑n:Int).toNat+0;some (ag.aj [(0:Int)<=(↑n:Int)/\(↑n:Int).toNat<c3,c1<c3] (ag.aj [eG c3 fun i=>if(i+0==c1)=true then c2 else aB o (i+0),c3<2^62] (ag.leaf aq.ret [mag (val c3 fun i=>numOf (if(i+0==c1)=true then c2 else aB o (i+0)))]))):=ah
theorem Lv {i m:Nat} {y:Nat->Nat}:val (min (i+1) m) y=val (min i m) y+(if i<m then y i else 0)*2^(32*i):=by
 by_cases h:i<m
 ·rw[Nat.min_eq_left aa,Nat.min_eq_left aa,if_pos h];rfl
 ·rw[Nat.min_eq_right aa,Nat.min_eq_right aa,if_neg h];simp
theorem ZU {i c zi yi vz vy:Nat} {o o':Nat->Nat} (hv:val i o+c*2^(32*i)=vz+vy) (ho:∀j,j<i->o' j=o j) (h1:o' i=(c+zi+yi)%4294967296):
  val (i+1) o'+(c+zi+yi)/4294967296*2^(32*(i+1))=(vz+zi*2^(32*i))+(vy+yi*2^(32*i)):=by
 rw[val,val_congr ho,h1,iS]
 have:=EX (B:=2^(32*i)) (c:=c) (z:=zi) (y:=yi) rfl hv
 omega
theorem Jn {c0:Ctx} (h0:c0.k0=bG) {n m:Nat} {z y:Nat->Nat} (hn:n<2^40) (hmn:m<=n) (hz:∀i,i<n->z i<2^32) (hy:∀i,i<m->y i<2^32) {K L:Nat} {f0:Nat->AV} {s':aK}
  (hv:bA tU s'=some ([.ak 1 n (aB z),.ak 1 m (aB y),.own K 1 0 L,.int .u64 0,.ak 1 n (aB z),.int .i64 n,.int .i64 0],[(K,⟨true,true,1,L,f0⟩)])) (hL:L=n+1) (hf:f0=aB fun _=>0):
  ax P c0 f214.ntmps (part (aF f214) Bg) s' (eo (fun s''=>aG P c0 f214.ntmps (behind (aF f214) Bg) s'' (Fin T f214 (.mag (val n z+val m y)))) (Fin T f214 (.mag (val n z+val m y)))):=by
 subst hL hf
 refine ax.jq (i:=0) (y:=part (aF f214) [1,1,1,1,0,1,0,0]) ah
  (fun p:Nat×Nat×(Nat->Nat)=>⟨aA tU [.ak 1 n (aB z),.ak 1 m (aB y),.own 7 1 0 (n+1),.int .u64 (p.2.1:Nat),.ak 1 n (aB z),.int .i64 n,.int .i64 (p.1:Nat)],[(7,⟨true,true,1,n+1,aB p.2.2⟩)],8⟩)
  (fun p=>p.1<=n/\p.2.1<=1/\(∀j,j<n+1->p.2.2 j<2^32)/\val p.1 p.2.2+p.2.1*2^(32*p.1)=val p.1 z+val (min p.1 m) y)
  (fun p=>n-p.1) (0,0,fun _=>0)
  (dL [(7,K)] hv h0 (by simp[jE]) ⟨aL,aL,⟨rfl,cP rfl rfl rfl⟩,aL,aL,aL,aL,trivial⟩
   ⟨⟨K,_,rfl,by simp[look],jR rfl fun i _=>gy rfl⟩,trivial⟩)
  ⟨by simp,by simp,fun j _=>by simp,by simp[val]⟩ ?_
 rintro⟨i,c,o⟩ ⟨hi,hc,ho,hval⟩
 simp only at hi hc ho hval
 refine ax.bE hT iq hm 30 tU agV ah ?_
 have key:∀{yi:Nat} {s':aK} {u v:Int} {f':Nat->AV},i<n->yi=(if i<m then y i else 0)->yi<2^32->
   bA tU s'=some ([.ak 1 n (aB z),.ak 1 m (aB y),.own 7 1 0 (n+1),.int .u64 u,.ak 1 n (aB z),.int .i64 n,.int .i64 v],[(7,⟨true,true,1,n+1,f'⟩)])->
   u=((c+z i+yi)/4294967296:Nat)->v=(i+1:Nat)->(∀j,f' j=if j=i then .int .u32 ((c+z i+yi)%4294967296:Nat)else aB o j)->
   ∃k:Nat×Nat×(Nat->Nat),(∃ρ,Le c0 ρ s' ⟨aA tU [.ak 1 n (aB z),.ak 1 m (aB y),.own 7 1 0 (n+1),.int .u64 (k.2.1:Nat),.ak 1 n (aB z),.int .i64 n,.int .i64 (k.1:Nat)],[(7,⟨true,true,1,n+1,aB k.2.2⟩)],8⟩)/\
    (k.1<=n/\k.2.1<=1/\(∀j,j<n+1->k.2.2 j<2^32)/\val k.1 k.2.2+k.2.1*2^(32*k.1)=val k.1 z+val (min k.1 m) y)/\n-k.1<n-i:=by
  intro yi s' u v f' hin hyi hyl hv hu hv1 hf
  have hzi:=hz i hin
  refine⟨(i+1,(c+z i+yi)/4294967296,fun j=>if j=i then(c+z i+yi)%4294967296 else o j),?_,⟨by simp;omega,by simp;omega,fun j hj=>?_,?_⟩,by simp;omega⟩
  ·exact dL [(7,7)] hv h0 rfl ⟨aL,aL,⟨rfl,cP rfl rfl rfl⟩,⟨rfl,gQ hu⟩,aL,aL,⟨rfl,gQ hv1⟩,trivial⟩
    ⟨⟨7,_,rfl,rfl,jR rfl fun j _=>by
     rw[hf j];simp only[aB]
     by_cases hj:j=i
     ·simp only[if_pos hj];exact gy rfl
     ·simp only[if_neg hj];exact gy rfl⟩,trivial⟩
  ·simp only
   split
   ·omega
   ·exact ho j hj
  ·simp only
   rw[Lv,<-hyi]
   exact ZU hval (fun j hj=>if_neg aa) (if_pos rfl)
 have fin:i=n->∀s',bA tU s'=some ([.ak 1 n (aB z),.ak 1 m (aB y),.own 7 1 0 (n+1),.int .u64 (c:Nat),.ak 1 n (aB z),.int .i64 n,.int .i64 (i:Nat)],[(7,⟨true,true,1,n+1,aB o⟩)])->
   aG P c0 f214.ntmps (behind (aF f214) Bg) s' (Fin T f214 (.mag (val n z+val m y))):=by
  intro hin s' hv
  subst hin
  rw[Nat.min_eq_right hmn]at hval
  have e:∀j,j<i+1->numOf (if(j+0==(i:Int).toNat+0)=true then .int .u32 (u32.wrap (c:Int))else aB o (j+0))=if j=i then c else o j:=by
   intro j hj
   have:=ho j hj
   by_cases h:j=i
   ·simp[h,numOf,kE];omega
   ·simp[h,numOf,aB]
  refine aG.weak ah (dL (vs:=[.ak 1 i (aB z),.ak 1 m (aB y),.own 7 1 0 (i+1),.int .u64 (c:Nat),.ak 1 i (aB z),.int .i64 i,.int .i64 (i:Nat)])
    (ps:=[(7,⟨true,true,1,i+1,aB o⟩)]) (nx:=8) [(7,7)] hv h0 rfl ⟨aL,aL,⟨rfl,cP rfl rfl rfl⟩,aL,aL,aL,aL,trivial⟩
    ⟨⟨7,_,rfl,rfl,jR rfl fun j _=>gy rfl⟩,trivial⟩)
   (aG.fin hT iq hm 30 UM ah ?_)
  simp only[ag.all,az]
  refine⟨⟨aa,aa⟩,⟨fun j hj=>?_,aa⟩,?_⟩
  ·have:=ho j hj
   by_cases h:j=i
   ·exact⟨c,aa,by simp[h,kE];omega⟩
   ·exact⟨o j,this,by simp[h,aB]⟩
  ·rw[val_congr e]
   refine dX (congrArg AV.mag ?_)
   rw[<-hval,val,val_congr (y:=o) fun j hj=>if_neg aa,if_pos rfl]
 simp only[ag.all,az,bk,bt,bf,Nat.add_zero,beq_iff_eq,pA,mI,mq]
 refine⟨fun hb=>?_,fun hb s' hv=>fin aa s' hv⟩
 have h1:i<n:=aa
 have hzi:=hz i h1
 refine⟨aa,fun hb2=>?_,fun hb2=>?_⟩
 ·have h2:i<m:=aa
  have hyi:=hy i h2
  refine⟨aa,aa,aa,fun s' hv=>key (yi:=y i) h1 (by rw[if_pos h2]) hyi hv aa (by rw[wrap_i64 aa aa];omega) fun j=>?_⟩
  split
  ·congr 1;omega
  ·rfl
 ·have h2:¬i<m:=aa
  refine⟨aa,aa,fun s' hv=>key (yi:=0) h1 (by rw[if_neg h2]) aa hv aa (by rw[wrap_i64 aa aa];omega) fun j=>?_⟩
  split
  ·congr 1;omega
  ·rfl
theorem aiW {n m:Nat} {z y:Nat->Nat} (hz:∀i,i<n->z i<2^32) (hy:∀i,i<m->y i<2^32) (hn:n<2^40) (hm':m<2^40) (K:Nat) (pre:aC):
  aS P 214 K [.ak 1 n (aB z),.ak 1 m (aB y)] pre (aJ (.mag (val n z+val m y)) []):=by
 refine kG hT V9 rfl aV rfl (fun _ c h0=>?_) K pre
 refine ax.hole Bg ah (aG.bE hT iq hm 30 tU aeE ah ?_)
 simp only[ag.all,az,bk,bt]
 have hw:∀k:Nat,k<2^40->i64.wrap ((k:Int)+1)=((k+1:Nat):Int):=fun k hk=>by rw[wrap_i64 aa aa];omega
 rw[hw n hn,hw m hm']
 simp only[bf]
 refine⟨fun hb=>⟨aa,fun s' hv=>?_⟩,fun hb=>⟨aa,fun s' hv=>?_⟩⟩
 ·have:=Jn (m:=n) (y:=z) (z:=y) h0 hm' aa hy hz hv rfl rfl
  rw[Nat.add_comm (val n z)];exact this
 ·exact Jn h0 hn aa hz hy hv rfl rfl
def DH (A n B m:Nat):dI:=aJ (.mag (A+B)) [n<2^40,m<2^40]
theorem Mr:aU P (bY (iU DH)) 214:=
 cF (vX fun _ _ _ _ K hz hy need=>aiW hz hy need.1 need.2 K [])
theorem WA:aW 204 f204:=aT func204
theorem ad0:aW 203 f203:=aT func203
theorem adB:aW 169 f169:=aT func169
theorem val_two {z:Nat->Nat}:val 2 z=z 0+z 1*4294967296:=by simp[val]
theorem Q4 {x:Nat}:bU T G1 [] 30 f204 (aF f204) ⟨aQ 0 [.int .u64 x],[],0⟩=
  let c2:AV:=int .u32 (0:Int);let c1:List AV:=[int .u32 (u32.wrap (↑x:Int)),int .u32 (u32.wrap ((↑x:Int).fdiv ((2:Int)^min (Int.toNat (32:Int)) u64.bits)))];some (ag.aj [(0:Int)<=32,(2:Nat)*1<=2^24,eG 2 fun i=>nth c1 c2 (i+0),(2:Nat)<2^62] (ag.leaf aq.ret [mag (val 2 fun i=>numOf (nth c1 c2 (i+0)))])):=ah
theorem ZL {x:Nat} (hx:x<2^64) (K:Nat) (pre:aC):aS P 204 K [.int .u64 x] pre (aJ (.mag x) []):=by
 refine bX hT iq hm WA rfl aV rfl 30 Q4 (fun _=>?_) K pre
 simp only[ag.all,az,mq]
 refine⟨⟨aa,aa,fun i hi=>?_,aa⟩,dX (congrArg AV.mag ?_)⟩
 ·match i,hi with
  |0,_=>exact⟨x%2^32,aa,by simp[nth,kE]⟩
  |1,_=>exact⟨x/4294967296,aa,by simp[nth,mI];omega⟩
 ·rw[val_two]
  simp[nth,numOf,mI]
  omega
theorem Xq {n:Nat} {z:Nat->Nat}:aH T [] [] 30 [0,3,4] (before (aF f203) [1,1,0,1]) ⟨aQ 0 [.ak 1 n (aB z)],[],0⟩=
  some (ag.leaf aq.normal ([ak 1 n fun a=>int .u32 (↑(z a):Int),int .u64 (0:Int),int .i64 (i64.wrap ((↑n:Int)-1))],[])):=ah
theorem abj {n k v:Nat} {z:Nat->Nat}:aH T [] [9] 30 [0,3,4] [part (aF f203) [1,1,0,1,0,0]] ⟨aA [0,3,4] [.ak 1 n (aB z),.int .u64 v,.int .i64 ((k:Int)-1)],[],0⟩=
  let c2:AV:=ak 1 n fun a=>int .u32 (↑(z a):Int);let c1:Int:=(↑k:Int)-1;some (ag.fork (decide (c1>=0)) (ag.aj [(0:Int)<=32,(0:Int)<=c1/\c1.toNat<n] (ag.leaf aq.normal ([c2,int .u64 (u64.wrap (↑(BitVec.ofInt u64.bits (u64.wrap ((↑v:Int)*2^min (Int.toNat (32:Int)) u64.bits))|||BitVec.ofInt u64.bits (u64.wrap (↑(z c1.toNat):Int))).toNat:Int)),int .i64 (i64.wrap (c1-1))],[]))) (ag.leaf (aq.exit 0) ([c2,int .u64 (↑v:Int),int .i64 c1],[]))):=ah
theorem VK {n k v:Nat} {z:Nat->Nat}:cy T [] [] 30 f203 (behind (aF f203) [1,1,0,1]) ⟨aA [0,3,4] [.ak 1 n (aB z),.int .u64 v,.int .i64 ((k:Int)-1)],[],0⟩=
  some (ag.leaf aq.ret [int .u64 (↑v:Int)]):=ah
theorem Qa {z:Nat->Nat} {n k v:Nat} (h:v*2^(32*(k+1))+val (k+1) z=val n z):(v*4294967296+z k)*2^(32*k)+val k z=val n z:=by
 rw[<-h,val,iS,Nat.add_mul]
 rw[Nat.mul_assoc]
 omega
theorem T9 {n:Nat} {z:Nat->Nat} (hz:∀i,i<n->z i<2^32) (hn:n<=2) (K:Nat) (pre:aC):aS P 203 K [.ak 1 n (aB z)] pre (aJ (.int .u64 (val n z:Nat)) []):=by
 refine kG hT ad0 rfl aV rfl (fun _ c h0=>?_) K pre
 refine ax.hole [1,1,0,1] ah (aG.bE hT bB hm 30 [0,3,4] Xq ah ?_)
 intro s' hv
 have hv64:val n z<2^64:=by
  have h1:=gq hz
  have h2:2^(32*n)<=2^(32*2):=Nat.pow_le_pow_right aa aa
  omega
 refine ax.jq (i:=0) (y:=part (aF f203) [1,1,0,1,0,0]) ah
  (fun p:Nat×Nat=>⟨aA [0,3,4] [.ak 1 n (aB z),.int .u64 (p.2:Nat),.int .i64 ((p.1:Nat)-1:Int)],[],0⟩)
  (fun p=>p.1<=n/\p.2*2^(32*p.1)+val p.1 z=val n z) (fun p=>p.1) (n,0)
  (dL [] hv h0 rfl ⟨aL,aL,⟨rfl,gQ (wrap_i64 aa aa)⟩,trivial⟩ trivial) ⟨by simp,by simp⟩ ?_
 rintro⟨k,v⟩ ⟨hk,hval⟩
 simp only at hk hval
 refine ax.bE hT bB hm 30 [0,3,4] abj ah ?_
 simp only[ag.all,az,bk,bt]
 refine⟨fun hb=>?_,fun hb s' hv=>?_⟩
 ·obtain⟨j,rfl⟩:∃j,k=j+1:=⟨k-1,aa⟩
  have e:(((j+1:Nat):Int)-1).toNat=j:=aa
  have hzj:=hz j aa
  have hv32:v<2^32:=by
   rcases Nat.lt_or_ge v (2^32)with h|h
   ·exact h
   ·have h1:2^32*2^(32*(j+1))<=v*2^(32*(j+1)):=Nat.mul_le_mul_right _ h
    have h2:2^32<=2^(32*(j+1)):=Nat.pow_le_pow_right aa aa
    have h3:2^32*2^32<=2^32*2^(32*(j+1)):=Nat.mul_le_mul_left _ h2
    omega
  rw[e]
  have hor:u64.wrap ((BitVec.ofInt u64.bits (u64.wrap ((v:Int)*2^min (Int.toNat 32) u64.bits))|||BitVec.ofInt u64.bits (u64.wrap (z j:Int))).toNat:Int)=
    ((v*4294967296+z j:Nat):Int):=by
   rw[wH,cr (x:=(z j:Int)) aa aa,cr (x:=(v:Int)*4294967296) aa aa]
   rw[show(v:Int)*4294967296=((v*2^32:Nat):Int) by omega,vO aa aa,r8 hzj]
  refine⟨⟨aa,aa,aa⟩,fun s' hv=>⟨(j,v*4294967296+z j),dL [] hv h0 rfl ⟨aL,⟨rfl,gQ hor⟩,⟨rfl,gQ (by rw[wrap_i64 aa aa];simp only;omega)⟩,trivial⟩ trivial,
   ⟨by simp only;omega,Qa hval⟩,by simp⟩⟩
 ·have hk0:k=0:=aa
  subst hk0
  have hval:v=val n z:=by simpa [val]using hval
  subst hval
  exact aG.weak ah (dL (vs:=[.ak 1 n (aB z),.int .u64 (val n z:Nat),.int .i64 (((0:Nat):Int)-1)]) (ps:=[]) (nx:=0) [] hv h0 rfl ⟨aL,aL,aL,trivial⟩ trivial)
   (aG.fin hT bB hm 30 VK ah (bh.refl _))
theorem aaF {n m:Nat} {z y:Nat->Nat}:aH T G1 [14,19] 30 [0,1,5,4] (before (aF f169) [1,1,1,0,1]) ⟨aQ 0 [.ak 1 n (aB z),.ak 1 m (aB y)],[],0⟩=
  let c2:Nat:=val m fun i=>numOf (aB y i);let c1:Nat:=val n fun i=>numOf (aB z i);let c4:Int:=(↑(nl c2):Int);let c3:Int:=(↑(nl c1):Int);some (ag.aj [eG n (aB z),n<2^62,eG m (aB y),m<2^62] (ag.fork (c3 !=c4) (ag.fork (decide (c3<c4)) (ag.leaf aq.ret ([mag c1,mag c2,tuple [],int .i64 (-1:Int)],[])) (ag.leaf aq.ret ([mag c1,mag c2,tuple [],int .i64 (1:Int)],[]))) (ag.leaf aq.normal ([mag c1,mag c2,int .i64 (i64.wrap (c3-1)),int .i64 (0:Int)],[])))):=ah
theorem agT {A B k:Nat}:aH T [] [24,35,44] 30 [0,1,5,4] [part (aF f169) [1,1,1,0,1,0,0]] ⟨aA [0,1,5,4] [.mag A,.mag B,.int .i64 ((k:Int)-1),.int .i64 0],[],0⟩=
  let c6:AV:=int .i64 (0:Int);let c1:Int:=(↑k:Int)-1;let c5:AV:=int .i64 c1;let c4:Int:=(↑(aD A c1.toNat):Int);let c3:Int:=(↑(aD B c1.toNat):Int);let c2:List Prop:=[(0:Int)<=c1/\c1.toNat<nl A,(0:Int)<=c1/\c1.toNat<nl B];some (ag.fork (decide (c1>=0)) (ag.aj c2 (ag.fork (c4 !=c3) (ag.aj c2 (ag.fork (decide (c4<c3)) (ag.leaf aq.ret ([mag A,mag B,c5,int .i64 (-1:Int)],[])) (ag.leaf aq.ret ([mag A,mag B,c5,int .i64 (1:Int)],[])))) (ag.leaf aq.normal ([mag A,mag B,int .i64 (i64.wrap (c1-1)),c6],[])))) (ag.leaf (aq.exit 0) ([mag A,mag B,c5,c6],[]))):=ah
theorem ah5 {A B k:Nat}:cy T [] [] 30 f169 (behind (aF f169) [1,1,1,0,1]) ⟨aA [0,1,5,4] [.mag A,.mag B,.int .i64 ((k:Int)-1),.int .i64 0],[],0⟩=
  some (ag.leaf aq.ret [int .i64 (0:Int)]):=ah
theorem ado {n m:Nat} {z y:Nat->Nat} (hz:∀i,i<n->z i<2^32) (hy:∀i,i<m->y i<2^32) (hn:n<2^40) (hm':m<2^40) (K:Nat) (pre:aC):
  aS P 169 K [.ak 1 n (aB z),.ak 1 m (aB y)] pre (aJ (.int .i64 (cZ (val n z) (val m y))) []):=by
 refine kG hT adB rfl aV rfl (fun _ c h0=>?_) K pre
 refine ax.hole [1,1,1,0,1] ah (aG.bE hT iq hm 30 [0,1,5,4] aaF ah ?_)
 have hnl:nl (val n z)<=n:=dF.2 (gq hz)
 generalize hA:val n z=A at*
 generalize hB:val m y=B at*
 simp only[ag.all,az,bk,bt,FA,hA,hB,bne_iff_ne,ne_eq,Int.natCast_inj,bne_eq_false_iff_eq]
 refine⟨⟨gV hz,aa,gV hy,aa⟩,fun hb=>⟨fun hb2 s' hv=>?_,fun hb2 s' hv=>?_⟩,fun hb s' hv=>?_⟩
 ·have h1:A<B:=Bu aa
  exact gX (us:=[.int .i64 (-1)]) (.inr rfl) hv ah (bS (by simp[cZ,h1]))
 ·have h1:B<A:=Bu aa
  exact gX (us:=[.int .i64 1]) (.inr rfl) hv ah (bS (by simp[cZ,h1];omega))
 refine ax.jq (i:=0) (y:=part (aF f169) [1,1,1,0,1,0,0]) ah
  (fun k:Nat=>⟨aA [0,1,5,4] [.mag A,.mag B,.int .i64 ((k:Int)-1),.int .i64 0],[],0⟩)
  (fun k=>k<=nl A/\∀j,k<=j->j<nl A->aD A j=aD B j) id (nl A)
  (dL [] hv h0 rfl ⟨aL,aL,⟨rfl,gQ (wrap_i64 aa aa)⟩,aL,trivial⟩ trivial) ⟨by simp,fun j h1 h2=>aa⟩ ?_
 rintro k ⟨hk,hlim⟩
 refine ax.bE hT bB hm 30 [0,1,5,4] agT ah ?_
 simp only[ag.all,az,bk,bt,bne_iff_ne,ne_eq,Int.natCast_inj,bne_eq_false_iff_eq]
 refine⟨fun hb2=>?_,fun hb2 s' hv=>?_⟩
 ·obtain⟨j,rfl⟩:∃j,k=j+1:=⟨k-1,aa⟩
  have e:(((j+1:Nat):Int)-1).toNat=j:=aa
  rw[e]
  refine⟨⟨aa,aa⟩,fun hne=>⟨⟨aa,aa⟩,fun hlt s' hv=>?_,fun hlt s' hv=>?_⟩,fun heq s' hv=>?_⟩
  ·have h1:A<B:=B7 hb (k:=j) aa (fun i h1 h2=>hlim i aa h2) aa
   exact gX (us:=[.int .i64 (-1)]) (.inr rfl) hv ah (bS (by simp[cZ,h1]))
  ·have h1:B<A:=B7 hb.symm (k:=j) aa (fun i h1 h2=>(hlim i aa aa).symm) aa
   exact gX (us:=[.int .i64 1]) (.inr rfl) hv ah (bS (by simp[cZ,h1];omega))
  ·refine⟨j,dL [] hv h0 rfl ⟨aL,aL,⟨rfl,gQ (by rw[wrap_i64 aa aa];omega)⟩,aL,trivial⟩ trivial,⟨aa,fun i h1 h2=>?_⟩,by simp⟩
   by_cases hi:i=j
   ·subst hi;exact heq
   ·exact hlim i aa h2
 ·have hk0:k=0:=aa
  subst hk0
  have hAB:A=B:=EK hb fun i hi=>hlim i aa hi
  exact aG.weak ah (dL (vs:=[.mag A,.mag B,.int .i64 (((0:Nat):Int)-1),.int .i64 0]) (ps:=[]) (nx:=0) [] hv h0 rfl ⟨aL,aL,aL,aL,trivial⟩ trivial)
   (aG.fin hT bB hm 30 ah5 ah (bS (by simp[cZ,hAB])))
def DJ:Spec:=bY fun l=>match l with
 |[.int .u64 x]=>some (aJ (.mag x.toNat) [0<=x/\x<2^64])
 |_=>none
theorem Ml:aU P DJ 204:=by
 refine cF fun K args r hk hs _=>?_
 split at hs
 ·rename_i x
  simp only[ay]at hs
  subst hs
  intro need
  obtain⟨h1,h2⟩:0<=x/\x<2^64:=need
  obtain⟨y,rfl⟩:=Int.eq_ofNat_of_zero_le h1
  exact ZL (x:=y) aa K [] trivial
 ·simp at hs
def Bl (N n:Nat):dI:=aJ (.int .u64 (N:Nat)) [n<=2]
theorem aeq:aU P (bY (l7 Bl)) 203:=
 cF (u9 fun _ _ K hz need=>T9 hz need K [])
def As (A n B m:Nat):dI:=aJ (.int .i64 (cZ A B)) [n<2^40,m<2^40]
theorem FE:aU P (bY (iU As)) 169:=
 cF (vX fun _ _ _ _ K hz hy need=>ado hz hy need.1 need.2 K [])
theorem aiq:aW 215 f215:=aT func215
theorem adh:aW 236 f236:=aT func236
theorem ajn:aW 238 f238:=aT func238
def G2:aX:=(169,bY (iU As))::G1
theorem aaQ:bq P G2:=aI FE iq
theorem aeS {n m:Nat} {z y:Nat->Nat}:aH T G2 [15] 30 [1,6,7,21,22,23,4,5] (before (aF f215) [1,1,1,1,1,0,1]) ⟨aQ 0 [.ak 1 n (aB z),.ak 1 m (aB y)],[],0⟩=
  let c5:AV:=tuple [];let c4:AV:=int .i64 (0:Int);let c3:Nat:=val m fun i=>numOf (aB y i);let c2:Int:=(↑n:Int);let c1:Int:=cZ (val n fun i=>numOf (aB z i)) c3;some (ag.aj [eG n (aB z),eG m (aB y),n<2^40,m<2^40] (ag.fork (decide (c1<0)) (ag.leaf aq.ret ([ak 1 m fun a=>int .u32 (↑(y a):Int),c5,c5,c5,c5,c5,nil,int .i64 (7:Int)],[])) (ag.aj [eG m (aB y),m<2^62] (ag.aj [(0:Int)<=c2/\c2<=c2/\c2<=2^47/\c2*(↑(4:Nat):Int)<=2^47] (ag.leaf aq.normal ([mag c3,own 45056 1 0 c2.toNat,int .u64 (0:Int),ak 1 n fun a=>int .u32 (↑(z a):Int),int .i64 c2,c4,nil,c4],[(45056,au.mk true true 1 c2.toNat fun x=>int .u32 (0:Int))])))))):=ah
theorem UA {n B i w:Nat} {z o:Nat->Nat}:aH T [] [24,32] 30 [1,6,7,21,22,23,4,5] [part (aF f215) [1,1,1,1,1,0,1,0,0]] ⟨aA [1,6,7,21,22,23,4,5] [.mag B,.own 7 1 0 n,.int .u64 w,.ak 1 n (aB z),.int .i64 n,.int .i64 i,.nil,.int .i64 0],[(7,⟨true,true,1,n,aB o⟩)],8⟩=
  let c13:AV:=int .i64 (↑n:Int);let c12:List AV:=[nil,int .i64 (0:Int)];let c9:Int:=(2:Int)^min (Int.toNat (63:Int)) u64.bits;let c8:AV:=ak 1 n fun a=>int .u32 (↑(z a):Int);let c5:AV:=own 7 1 0 n;let c4:Int:=(↑i:Int);let c2:List AV:=c8::c13::int .i64 (i64.wrap (c4+1))::c12;let c1:Nat:=c4.toNat;let c11:Int:=u64.wrap (↑(z c1):Int);let c10:Prop:=(0:Int)<=c4/\c1<n;let c7:Nat:=c1+0;let c6:Int:=u64.wrap (c11-(↑w:Int));let c3:Int:=u64.wrap (c11-u64.wrap ((↑w:Int)+u64.wrap (↑(aD B c1):Int)));some (ag.fork (decide (c4<(↑n:Int))) (ag.aj [c10] (ag.fork (decide (c4<(↑(nl B):Int))) (ag.aj [(0:Int)<=c4/\c1<nl B] (ag.aj [c10,c7<n] (ag.aj [(0:Int)<=63] (ag.leaf aq.normal (mag B::c5::int .u64 (c3.fdiv c9)::c2,[(7,au.mk true true 1 n fun j=>if(j==c7)=true then int .u32 (u32.wrap c3)else aB o j)]))))) (ag.aj [c10,c7<n] (ag.aj [(0:Int)<=63] (ag.leaf aq.normal (mag B::c5::int .u64 (c6.fdiv c9)::c2,[(7,au.mk true true 1 n fun j=>if(j==c7)=true then int .u32 (u32.wrap c6)else aB o j)])))))) (ag.leaf (aq.exit 0) (mag B::c5::int .u64 (↑w:Int)::c8::c13::int .i64 c4::c12,[(7,au.mk true true 1 n fun a=>int .u32 (↑(o a):Int))]))):=ah
theorem T5 {n B i w:Nat} {z o:Nat->Nat}:cy T G1 [] 30 f215 (behind (aF f215) [1,1,1,1,1,0,1]) ⟨aA [1,6,7,21,22,23,4,5] [.mag B,.own 7 1 0 n,.int .u64 w,.ak 1 n (aB z),.int .i64 n,.int .i64 i,.nil,.int .i64 0],[(7,⟨true,true,1,n,aB o⟩)],8⟩=
  some (ag.aj [eG n fun i=>aB o (i+0),n<2^62] (ag.leaf aq.ret [mag (val n fun i=>numOf (aB o (i+0))),int .i64 (0:Int)])):=ah
theorem WZ {n b:Nat} {z:Nat->Nat}:aH T G1 [] 30 [0,1,6,7,8] (before (aF f236) [1,1,1,0,1]) ⟨aQ 0 [.ak 1 n (aB z),.int .u32 b],[],0⟩=
  let c1:Int:=(↑n:Int);some (ag.aj [(0:Int)<=c1/\c1<=c1/\c1<=2^47/\c1*(↑(4:Nat):Int)<=2^47] (ag.leaf aq.normal ([ak 1 n fun a=>int .u32 (↑(z a):Int),int .u32 (↑b:Int),own 16384 1 0 c1.toNat,int .u64 (0:Int),int .i64 (i64.wrap (c1-1))],[(16384,au.mk true true 1 c1.toNat fun x=>int .u32 (0:Int))]))):=ah
theorem ags {n b k r:Nat} {z o:Nat->Nat}:aH T [] [16] 30 [0,1,6,7,8] [part (aF f236) [1,1,1,0,1,0,0]] ⟨aA [0,1,6,7,8] [.ak 1 n (aB z),.int .u32 b,.own 7 1 0 n,.int .u64 r,.int .i64 ((k:Int)-1)],[(7,⟨true,true,1,n,aB o⟩)],8⟩=
  let c8:AV:=int .u32 (↑b:Int);let c6:AV:=own 7 1 0 n;let c4:AV:=ak 1 n fun a=>int .u32 (↑(z a):Int);let c3:Int:=u64.wrap (↑b:Int);let c2:Int:=(↑k:Int)-1;let c7:Prop:=(0:Int)<=c2/\c2.toNat<n;let c5:Nat:=c2.toNat+0;let c1:Int:=u64.wrap (↑(BitVec.ofInt u64.bits (u64.wrap ((↑r:Int)*2^min (Int.toNat (32:Int)) u64.bits))|||BitVec.ofInt u64.bits (u64.wrap (↑(z c2.toNat):Int))).toNat:Int);some (ag.fork (decide (c2>=0)) (ag.aj [(0:Int)<=32,c7] (ag.aj [c3≠(0:Int),c7,c5<n] (ag.aj [c3≠(0:Int)] (ag.leaf aq.normal ([c4,c8,c6,int .u64 (c1.tmod c3),int .i64 (i64.wrap (c2-1))],[(7,au.mk true true 1 n fun j=>if(j==c5)=true then int .u32 (u32.wrap (u64.wrap (c1.tdiv c3)))else aB o j)]))))) (ag.leaf (aq.exit 0) ([c4,c8,c6,int .u64 (↑r:Int),int .i64 c2],[(7,au.mk true true 1 n fun a=>int .u32 (↑(o a):Int))]))):=ah
theorem Wz {n b k r:Nat} {z o:Nat->Nat}:cy T G1 [] 30 f236 (behind (aF f236) [1,1,1,0,1]) ⟨aA [0,1,6,7,8] [.ak 1 n (aB z),.int .u32 b,.own 7 1 0 n,.int .u64 r,.int .i64 ((k:Int)-1)],[(7,⟨true,true,1,n,aB o⟩)],8⟩=
  some (ag.aj [eG n fun i=>aB o (i+0),n<2^62] (ag.leaf aq.ret [mag (val n fun i=>numOf (aB o (i+0))),int .u32 (u32.wrap (↑r:Int))])):=ah
theorem agJ {n s:Nat} {z:Nat->Nat}:aH T G1 [] 30 [0,1,5,6,13,14,15] (before (aF f238) [1,1,1,0,1]) ⟨aQ 0 [.ak 1 n (aB z),.int .i64 s],[],0⟩=
  let c2:AV:=ak 1 n fun a=>int .u32 (↑(z a):Int);let c1:Int:=i64.wrap ((↑n:Int)+1);some (ag.aj [(0:Int)<=c1/\c1<=c1/\c1<=2^47/\c1*(↑(4:Nat):Int)<=2^47] (ag.leaf aq.normal ([c2,int .i64 (↑s:Int),own 16384 1 0 c1.toNat,int .u64 (0:Int),c2,int .i64 (↑n:Int),int .i64 (0:Int)],[(16384,au.mk true true 1 c1.toNat fun x=>int .u32 (0:Int))]))):=ah
theorem aee {n s i c:Nat} {z o:Nat->Nat}:aH T [] [16] 30 [0,1,5,6,13,14,15] [part (aF f238) [1,1,1,0,1,0,0]] ⟨aA [0,1,5,6,13,14,15] [.ak 1 n (aB z),.int .i64 s,.own 7 1 0 (n+1),.int .u64 c,.ak 1 n (aB z),.int .i64 n,.int .i64 i],[(7,⟨true,true,1,n+1,aB o⟩)],8⟩=
  let c8:AV:=int .i64 (↑s:Int);let c7:AV:=int .i64 (↑n:Int);let c4:Nat:=n+1;let c3:Int:=(↑i:Int);let c2:AV:=ak 1 n fun a=>int .u32 (↑(z a):Int);let c6:Nat:=c3.toNat+0;let c5:AV:=own 7 1 0 c4;let c1:Int:=u64.wrap (↑(BitVec.ofInt u64.bits (↑c:Int)|||BitVec.ofInt u64.bits (u64.wrap (u64.wrap (↑(z c3.toNat):Int)*2^min (↑s:Int).toNat u64.bits))).toNat:Int);some (ag.fork (decide (c3<(↑n:Int))) (ag.aj [(0:Int)<=c3/\c3.toNat<n] (ag.aj [(0:Int)<=(↑s:Int)] (ag.aj [(0:Int)<=c3/\c3.toNat<c4,c6<c4] (ag.aj [(0:Int)<=32] (ag.leaf aq.normal ([c2,c8,c5,int .u64 (c1.fdiv ((2:Int)^min (Int.toNat (32:Int)) u64.bits)),c2,c7,int .i64 (i64.wrap (c3+1))],[(7,au.mk true true 1 c4 fun j=>if(j==c6)=true then int .u32 (u32.wrap c1)else aB o j)])))))) (ag.leaf (aq.exit 0) ([c2,c8,c5,int .u64 (↑c:Int),c2,c7,int .i64 c3],[(7,au.mk true true 1 c4 fun a=>int .u32 (↑(o a):Int))]))):=ah
theorem Zs {B x y r v w' t:Nat} (hr:r+y=x+w'*4294967296) (h:v=t):v+r*B+y*B=t+x*B+w'*(4294967296*B):=by
 subst h
 have:(r+y)*B=(x+w'*4294967296)*B:=by rw[hr]
 grind
theorem NH {x y:Nat} (hx:x<2^32) (hy:y<=2^32):∃r w:Nat,r<2^32/\w<=1/\r+y=x+w*4294967296/\((x:Int)-y)%2^64%2^32=r/\((x:Int)-y)%2^64/9223372036854775808=w:=by
 rcases Nat.lt_or_ge x y with h|h
 ·exact⟨x+4294967296-y,1,aa,aa,aa,aa,aa⟩
 ·exact⟨x-y,0,aa,aa,aa,aa,aa⟩
abbrev uU:List Nat:=[1,6,7,21,22,23,4,5]
abbrev A8 (B n:Nat) (z:Nat->Nat) (K w i:Nat):List AV:=[.mag B,.own K 1 0 n,.int .u64 w,.ak 1 n (aB z),.int .i64 n,.int .i64 i,.nil,.int .i64 0]
theorem afy {n m:Nat} {z y:Nat->Nat} (hz:∀i,i<n->z i<2^32) (hy:∀i,i<m->y i<2^32) (hn:n<2^40) (hm':m<2^40) (K:Nat) (pre:aC):
  aS P 215 K [.ak 1 n (aB z),.ak 1 m (aB y)] pre (aJ (.tuple [.mag (val n z-val m y),.int .i64 (if val n z<val m y then 7 else 0)]) []):=by
 refine kG hT aiq rfl aV rfl (fun _ c h0=>?_) K pre
 refine ax.hole [1,1,1,1,1,0,1] ah (aG.bE hT aaQ hm 30 uU aeS ah ?_)
 have hA:nl (val n z)<=n:=dF.2 (gq hz)
 have hAlt:=gq hz
 generalize hB:val m y=B at*
 simp only[ag.all,az,bk,bt,kq,hB]
 refine⟨⟨gV hz,gV hy,aa,aa⟩,fun hb s' hv=>?_,fun hb=>⟨⟨gV hy,aa⟩,aa,fun s' hv=>?_⟩⟩
 ·have h1:val n z<B:=by
   unfold cZ at hb
   split at hb
   ·assumption
   ·split at hb<;>omega
  refine gX (us:=[.nil,.int .i64 7]) (.inr rfl) hv ah ⟨lO.trans (dX (congrArg AV.mag aa)),bS (by rw[if_pos h1]),trivial⟩
 have hBA:B<=val n z:=by
  unfold cZ at hb
  split at hb<;>omega
 have hnB:nl B<=n:=Nat.le_trans (iI hBA) hA
 refine ax.jq (i:=0) (y:=part (aF f215) [1,1,1,1,1,0,1,0,0]) ah
  (fun p:Nat×Nat×(Nat->Nat)=>⟨aA uU (A8 B n z 7 p.2.1 p.1),[(7,⟨true,true,1,n,aB p.2.2⟩)],8⟩)
  (fun p=>p.1<=n/\p.2.1<=1/\(∀j,j<n->p.2.2 j<2^32)/\val p.1 p.2.2+val (min p.1 (nl B)) (aD B)=val p.1 z+p.2.1*2^(32*p.1))
  (fun p=>n-p.1) (0,0,fun _=>0)
  (dL [(7,45056)] hv h0 rfl ⟨aL,⟨rfl,cP rfl rfl rfl⟩,aL,aL,aL,aL,aL,aL,trivial⟩
   ⟨⟨_,_,rfl,rfl,gi rfl fun j _=>rfl⟩,trivial⟩)
  ⟨by simp,by simp,fun j _=>by simp,by simp[val]⟩ ?_
 rintro⟨i,w,o⟩ ⟨hi,hw,ho,hval⟩
 simp only at hi hw ho hval
 refine ax.bE hT bB hm 30 uU UA ah ?_
 have key:∀{yi:Nat} {s':aK} {u v:Int} {f':Nat->AV} {r w':Nat},i<n->yi=(if i<nl B then aD B i else 0)->r<2^32->w'<=1->r+(w+yi)=z i+w'*4294967296->
   bA uU s'=some ([.mag B,.own 7 1 0 n,.int .u64 u,.ak 1 n (aB z),.int .i64 n,.int .i64 v,.nil,.int .i64 0],[(7,⟨true,true,1,n,f'⟩)])->
   u=(w':Nat)->v=(i+1:Nat)->(∀j,f' j=aB (cE o i r) j)->
   ∃k:Nat×Nat×(Nat->Nat),(∃ρ,Le c ρ s' ⟨aA uU (A8 B n z 7 k.2.1 k.1),[(7,⟨true,true,1,n,aB k.2.2⟩)],8⟩)/\
    (k.1<=n/\k.2.1<=1/\(∀j,j<n->k.2.2 j<2^32)/\val k.1 k.2.2+val (min k.1 (nl B)) (aD B)=val k.1 z+k.2.1*2^(32*k.1))/\n-k.1<n-i:=by
  intro yi s' u v f' r w' hin hyi hr hw1 hrw hv hu hv1 hf
  refine⟨(i+1,w',cE o i r),dL [(7,7)] hv h0 rfl ⟨aL,⟨rfl,cP rfl rfl rfl⟩,⟨rfl,gQ hu⟩,aL,aL,⟨rfl,gQ hv1⟩,aL,aL,trivial⟩
   ⟨⟨_,_,rfl,rfl,gi rfl fun j _=>hf j⟩,trivial⟩,⟨by simp only;omega,hw1,je hr ho,?_⟩,by simp only;omega⟩
  simp only
  rw[Lv,<-hyi,tH,iS]
  show _=val i z+z i*2^(32*i)+_
  have:=Zs (B:=2^(32*i)) hrw hval
  rw[Nat.add_mul]at this
  omega
 have fin:i=n->∀s',bA uU s'=some (A8 B n z 7 w i,[(7,⟨true,true,1,n,aB o⟩)])->
   aG P c f215.ntmps (behind (aF f215) [1,1,1,1,1,0,1]) s' (Fin T f215 (.tuple [.mag (val n z-B),.int .i64 (if val n z<B then 7 else 0)])):=by
  intro hin s' hv
  subst hin
  rw[Nat.min_eq_right hnB,gI]at hval
  have hlt:=gq ho
  have hw0:w=0:=by
   rcases Nat.eq_zero_or_pos w with h|h
   ·exact h
   ·have:w=1:=aa
    subst this
    omega
  subst hw0
  refine aG.weak ah (dL (vs:=A8 B i z 7 0 i) (ps:=[(7,⟨true,true,1,i,aB o⟩)]) (nx:=8) [(7,7)] hv h0 rfl
    ⟨aL,⟨rfl,cP rfl rfl rfl⟩,aL,aL,aL,aL,aL,aL,trivial⟩
    ⟨⟨_,_,rfl,rfl,gi rfl fun j _=>rfl⟩,trivial⟩)
   (aG.fin hT iq hm 30 T5 ah ?_)
  simp only[ag.all,az,Nat.add_zero,kq]
  exact⟨⟨gV ho,aa⟩,dX (congrArg AV.mag aa),bS (by rw[if_neg aa]),trivial⟩
 simp only[ag.all,az,bk,bt,bf,Nat.add_zero,beq_iff_eq]
 refine⟨fun hb=>?_,fun hb s' hv=>fin aa s' hv⟩
 have h1:i<n:=aa
 have hzi:=hz i h1
 have hl:=dY (N:=B) (i:=i)
 have e1:u64.wrap (z i:Int)=(z i:Int):=cr aa aa
 have e2:u64.wrap (aD B i:Int)=(aD B i:Int):=cr aa aa
 have e3:u64.wrap ((w:Int)+(aD B i:Int))=((w+aD B i:Nat):Int):=by rw[cr aa aa];omega
 rw[e1,e2,e3]
 refine⟨aa,fun hb2=>?_,fun hb2=>?_⟩
 ·have h2:i<nl B:=aa
  obtain⟨r,w',q1,q2,q3,q4,q5⟩:=NH hzi (y:=w+aD B i) aa
  refine⟨aa,aa,aa,fun s' hv=>key (yi:=aD B i) h1 (by rw[if_pos h2]) q1 q2 q3 hv ?_ (by rw[wrap_i64 aa aa];omega) fun j=>iA ?_ j⟩
  ·rw[CY,pA];exact q5
  ·rw[mI,pA];exact q4
 ·have h2:¬i<nl B:=aa
  obtain⟨r,w',q1,q2,q3,q4,q5⟩:=NH hzi (y:=w) aa
  refine⟨aa,aa,fun s' hv=>key (yi:=0) h1 (by rw[if_neg h2]) q1 q2 q3 hv ?_ (by rw[wrap_i64 aa aa];omega) fun j=>iA ?_ j⟩
  ·rw[CY,pA];exact q5
  ·rw[mI,pA];exact q4
theorem Ty {r x:Nat} (hr:r<2^32) (hx:x<2^32):
  u64.wrap ((BitVec.ofInt u64.bits (u64.wrap ((r:Int)*2^min (Int.toNat 32) u64.bits))|||BitVec.ofInt u64.bits (u64.wrap (x:Int))).toNat:Int)=((r*4294967296+x:Nat):Int):=by
 rw[wH,cr (x:=(x:Int)) aa aa,cr (x:=(r:Int)*4294967296) aa aa]
 rw[show(r:Int)*4294967296=((r*2^32:Nat):Int) by omega,vO aa aa,r8 hx]
theorem Jd {r z b B v t vz q r':Nat} (h:v*b+r*(4294967296*B)+(vz+z*B)=t) (hq:r*4294967296+z=b*q+r'):(v+q*B)*b+r'*B+vz=t:=by
 have:(r*4294967296+z)*B=(b*q+r')*B:=by rw[hq]
 grind
abbrev EE:List Nat:=[0,1,6,7,8]
abbrev Mz (n:Nat) (z:Nat->Nat) (b K r k:Nat):List AV:=[.ak 1 n (aB z),.int .u32 b,.own K 1 0 n,.int .u64 r,.int .i64 ((k:Int)-1)]
theorem X2 {n b:Nat} {z:Nat->Nat} (hz:∀i,i<n->z i<2^32) (hn:n<2^40) (hb0:0<b) (hb32:b<2^32) (K:Nat) (pre:aC):
  aS P 236 K [.ak 1 n (aB z),.int .u32 b] pre (aJ (.tuple [.mag (val n z/b),.int .u32 (val n z%b:Nat)]) []):=by
 refine kG hT adh rfl aV rfl (fun _ c h0=>?_) K pre
 refine ax.hole [1,1,1,0,1] ah (aG.bE hT iq hm 30 EE WZ ah ?_)
 simp only[ag.all,az]
 refine⟨aa,fun s' hv=>?_⟩
 refine ax.jq (i:=0) (y:=part (aF f236) [1,1,1,0,1,0,0]) ah
  (fun p:Nat×Nat×(Nat->Nat)=>⟨aA EE (Mz n z b 7 p.2.1 p.1),[(7,⟨true,true,1,n,aB p.2.2⟩)],8⟩)
  (fun p=>p.1<=n/\p.2.1<b/\(∀j,j<n->p.2.2 j<2^32)/\(∀j,j<p.1->p.2.2 j=0)/\val n p.2.2*b+p.2.1*2^(32*p.1)+val p.1 z=val n z)
  (fun p=>p.1) (n,0,fun _=>0)
  (dL [(7,16384)] hv h0 rfl ⟨aL,aL,⟨rfl,cP rfl rfl rfl⟩,aL,⟨rfl,gQ (wrap_i64 aa aa)⟩,trivial⟩
   ⟨⟨_,_,rfl,rfl,gi rfl fun j _=>rfl⟩,trivial⟩)
  ⟨by simp,hb0,fun j _=>by simp,fun j _=>rfl,?_⟩ ?_
 ·simp only
  rw[nR (k:=0) aa fun _ _ _=>rfl]
  simp[val]
 rintro⟨k,r,o⟩ ⟨hk,hr,ho,ho0,hval⟩
 simp only at hk hr ho ho0 hval
 refine ax.bE hT bB hm 30 EE ags ah ?_
 simp only[ag.all,az,bk,bt,Nat.add_zero,beq_iff_eq]
 have hbw:u64.wrap (b:Int)=(b:Int):=cr aa aa
 refine⟨fun hb=>?_,fun hb s' hv=>?_⟩
 ·obtain⟨j,rfl⟩:∃j,k=j+1:=⟨k-1,aa⟩
  have e:(((j+1:Nat):Int)-1).toNat=j:=aa
  have hzj:=hz j aa
  have hor:=Ty (r:=r) (x:=z j) aa hzj
  rw[e,hor,hbw]
  have hq1:(r*4294967296+z j)/b<2^32:=by
   rw[Nat.div_lt_iff_lt_mul hb0]
   have:(r+1)*4294967296<=b*4294967296:=Nat.mul_le_mul_right _ hr
   omega
  have hdm:=Nat.div_add_mod (r*4294967296+z j) b
  refine⟨⟨aa,aa,aa⟩,⟨aa,⟨aa,aa⟩,aa⟩,aa,fun s' hv=>⟨(j,(r*4294967296+z j)%b,cE o j ((r*4294967296+z j)/b)),?_,⟨by simp only;omega,Nat.mod_lt _ hb0,je hq1 ho,fun i hi=>?_,?_⟩,by simp only;omega⟩⟩
  ·refine dL [(7,7)] hv h0 rfl ⟨aL,aL,⟨rfl,cP rfl rfl rfl⟩,⟨rfl,gQ (Int.ofNat_tmod _ _).symm⟩,⟨rfl,gQ ?_⟩,trivial⟩
    ⟨⟨_,_,rfl,rfl,gi rfl fun i _=>iA ?_ i⟩,trivial⟩
   ·rw[wrap_i64 aa aa];simp only;omega
   ·rw[<-Int.ofNat_tdiv]
    clear hdm
    generalize (r*4294967296+z j)/b=q at hq1 ⊢
    rw[cr aa aa,wrap_u32 aa aa]
  ·exact(gn (by simp only at hi;omega)).trans (ho0 i (by simp only at hi;omega))
  ·simp only
   rw[tV aa (ho0 j aa)]
   rw[iS,val]at hval
   exact Jd hval hdm.symm
 ·have hk0:k=0:=aa
  subst hk0
  have hv2:val n o*b+r=val n z:=by simpa [val]using hval
  refine aG.weak ah (dL (vs:=Mz n z b 7 r 0) (ps:=[(7,⟨true,true,1,n,aB o⟩)]) (nx:=8) [(7,7)] hv h0 rfl
    ⟨aL,aL,⟨rfl,cP rfl rfl rfl⟩,aL,aL,trivial⟩
    ⟨⟨_,_,rfl,rfl,gi rfl fun j _=>rfl⟩,trivial⟩)
   (aG.fin hT iq hm 30 Wz ah ?_)
  simp only[ag.all,az,Nat.add_zero,kq]
  have hdiv:val n z/b=val n o:=by
   rw[<-hv2,Nat.mul_comm,Nat.mul_add_div hb0,Nat.div_eq_of_lt hr,Nat.add_zero]
  have hmod:val n z%b=r:=by
   rw[<-hv2,Nat.mul_comm,Nat.mul_add_mod,Nat.mod_eq_of_lt hr]
  exact⟨⟨gV ho,aa⟩,dX (congrArg AV.mag hdiv.symm),bS (by rw[hmod,wrap_u32 aa aa]),trivial⟩
theorem aeI {x s:Nat} (hs:s<32) (hx:x<2^32):u64.wrap (u64.wrap (x:Int)*2^min (s:Int).toNat u64.bits)=((x*2^s:Nat):Int)/\x*2^s<2^64:=by
 have e:min (s:Int).toNat u64.bits=s:=by
  have:u64.bits=64:=rfl
  omega
 have hlt:x*2^s<2^64:=by
  have h1:2^s<=2^31:=Nat.pow_le_pow_right aa aa
  have h2:x*2^s<=2^32*2^31:=Nat.mul_le_mul aa h1
  omega
 refine⟨?_,hlt⟩
 rw[e,cr (x:=(x:Int)) aa aa]
 have:(x:Int)*2^s=((x*2^s:Nat):Int):=by simp
 rw[this]
 exact cr aa aa
theorem MI {c x s:Nat} (hs:s<32) (hx:x<2^32) (hc:c<2^s):
  u64.wrap ((BitVec.ofInt u64.bits (c:Int)|||BitVec.ofInt u64.bits (u64.wrap (u64.wrap (x:Int)*2^min (s:Int).toNat u64.bits))).toNat:Int)=((c+x*2^s:Nat):Int):=by
 obtain⟨h1,h2⟩:=aeI hs hx
 have h3:2^s<=2^31:=Nat.pow_le_pow_right aa aa
 rw[h1,vO aa h2,Nat.or_comm,r8 hc,Nat.add_comm]
theorem MY {c x s:Nat} (hs:s<32) (hx:x<2^32) (hc:c<2^s):c+x*2^s<2^63/\(c+x*2^s)/4294967296<2^s:=by
 have h3:2^s<=2^31:=Nat.pow_le_pow_right aa aa
 have h4:(x+1)*2^s<=2^32*2^s:=Nat.mul_le_mul_right _ hx
 rw[Nat.add_mul,Nat.one_mul]at h4
 refine⟨aa,?_⟩
 rw[Nat.div_lt_iff_lt_mul aa]
 omega
theorem OG {B c x t v S:Nat} (h:v+c*B=t*S):v+(c+x*S)%4294967296*B+(c+x*S)/4294967296*(4294967296*B)=(t+x*B)*S:=by
 have h1:=Nat.div_add_mod (c+x*S) 4294967296
 generalize (c+x*S)/4294967296=q at*
 generalize (c+x*S)%4294967296=r at*
 have:(4294967296*q+r)*B=(c+x*S)*B:=by rw[h1]
 grind
abbrev Ab:List Nat:=[0,1,5,6,13,14,15]
abbrev NQ (n s:Nat) (z:Nat->Nat) (K c i:Nat):List AV:=[.ak 1 n (aB z),.int .i64 s,.own K 1 0 (n+1),.int .u64 c,.ak 1 n (aB z),.int .i64 n,.int .i64 i]
theorem adO {n s:Nat} {z:Nat->Nat} (hz:∀i,i<n->z i<2^32) (hn:n<2^40) (hs:s<32) {c:Ctx} (h0:c.k0=bG) {Q:aq->aK->Prop}
  (fin:∀(c':Nat) (o:Nat->Nat) (s':aK),c'<2^s->(∀j,j<n+1->o j<2^32)->val n o+c'*2^(32*n)=val n z*2^s->bA Ab s'=some (NQ n s z 7 c' n,[(7,⟨true,true,1,n+1,aB o⟩)])->
   aG P c f238.ntmps (behind (aF f238) [1,1,1,0,1]) s' Q):
  ax P c f238.ntmps (aF f238) ⟨aQ 0 [.ak 1 n (aB z),.int .i64 s],[],0⟩ Q:=by
 refine ax.hole [1,1,1,0,1] ah (aG.bE hT iq hm 30 Ab agJ ah ?_)
 have hw:i64.wrap ((n:Int)+1)=((n+1:Nat):Int):=by rw[wrap_i64 aa aa];omega
 simp only[ag.all,az,hw,bf]
 refine⟨aa,fun s' hv=>?_⟩
 refine ax.jq (i:=0) (y:=part (aF f238) [1,1,1,0,1,0,0]) ah
  (fun p:Nat×Nat×(Nat->Nat)=>⟨aA Ab (NQ n s z 7 p.2.1 p.1),[(7,⟨true,true,1,n+1,aB p.2.2⟩)],8⟩)
  (fun p=>p.1<=n/\p.2.1<2^s/\(∀j,j<n+1->p.2.2 j<2^32)/\val p.1 p.2.2+p.2.1*2^(32*p.1)=val p.1 z*2^s)
  (fun p=>n-p.1) (0,0,fun _=>0)
  (dL [(7,16384)] hv h0 rfl ⟨aL,aL,⟨rfl,cP rfl rfl rfl⟩,aL,aL,aL,aL,trivial⟩
   ⟨⟨_,_,rfl,rfl,gi rfl fun j _=>rfl⟩,trivial⟩)
  ⟨by simp,Nat.two_pow_pos s,fun j _=>by simp,by simp[val]⟩ ?_
 rintro⟨i,c',o⟩ ⟨hi,hc,ho,hval⟩
 simp only at hi hc ho hval
 refine ax.bE hT bB hm 30 Ab aee ah ?_
 simp only[ag.all,az,bk,bt,Nat.add_zero,beq_iff_eq,bf]
 refine⟨fun hb=>?_,fun hb s' hv=>?_⟩
 ·have h1:i<n:=aa
  have hzi:=hz i h1
  have hor:=MI hs hzi hc
  simp only[bf]at hor
  rw[hor]
  obtain⟨b1,b2⟩:=MY hs hzi hc
  refine⟨aa,aa,aa,aa,fun s' hv=>⟨(i+1,(c'+z i*2^s)/4294967296,cE o i ((c'+z i*2^s)%4294967296)),?_,⟨by simp only;omega,b2,je aa ho,?_⟩,by simp only;omega⟩⟩
  ·refine dL [(7,7)] hv h0 rfl ⟨aL,aL,⟨rfl,cP rfl rfl rfl⟩,⟨rfl,gQ ?_⟩,aL,aL,⟨rfl,gQ ?_⟩,trivial⟩
    ⟨⟨_,_,rfl,rfl,gi rfl fun j _=>iA ?_ j⟩,trivial⟩
   ·rw[mq];simp only;omega
   ·rw[wrap_i64 aa aa];simp only;omega
   ·rw[kE]
  ·simp only
   rw[tH,iS]
   exact OG hval
 ·have hin:i=n:=aa
  subst hin
  exact fin c' o s' hc ho hval hv
theorem WS {s c' i:Nat} {o:Nat->Nat} (hs:s<32) (hc:c'<2^s):∀j,(if j=i then AV.int .u32 (u32.wrap (c':Int))else aB o j)=aB (cE o i c') j:=fun j=>iA (by
 have h3:2^s<=2^31:=Nat.pow_le_pow_right aa aa
 exact wrap_u32 aa aa) j
def Nk (A n B m:Nat):dI:=aJ (.tuple [.mag (A-B),.int .i64 (if A<B then 7 else 0)]) [n<2^40,m<2^40]
theorem aab:aU P (bY (iU Nk)) 215:=
 cF (vX fun _ _ _ _ K hz hy need=>afy hz hy need.1 need.2 K [])
def LR (N n:Nat) (b:Int):dI:=aJ (.tuple [.mag (N/b.toNat),.int .u32 (N%b.toNat:Nat)]) [n<2^40,0<b,b<2^32]
theorem W9:aU P (bY (BB LR)) 236:=
 cF (aeP fun z n i K hz need=>by
  obtain⟨h1,h2,h3⟩:n<2^40/\0<i/\i<2^32:=need
  obtain⟨b,rfl⟩:=Int.eq_ofNat_of_zero_le (Int.le_of_lt h2)
  exact X2 hz h1 aa aa K [])
theorem ahC:aW 200 f200:=aT func200
theorem Wo:aW 237 f237:=aT func237
theorem Uy:aW 149 f149:=aT func149
abbrev me:ByteArray:=⟨((List.range 256).map fun i=>UInt8.ofNat (bN i)).toArray⟩
def Dl:Spec:=bY fun l=>match l with
 |[.int .u32 x]=>some (aJ (.int .i64 (bN x.toNat:Nat)) [0<=x/\x<2^32])
 |_=>none
theorem XW {x:Nat}:bU T [] [4,8] 30 f200 (aF f200) ⟨aQ 0 [.int .u32 x],[],0⟩=
  some (ag.fork (decide ((↑x:Int)>=65536)) (ag.aj [(0:Int)<=16] (ag.fork (decide ((↑x:Int).fdiv ((2:Int)^min (Int.toNat (16:Int)) u32.bits)>=256)) (ag.aj [(0:Int)<=8] (ag.aj [(0:Int)<=u8.wrap (((↑x:Int).fdiv ((2:Int)^min (Int.toNat (16:Int)) u32.bits)).fdiv ((2:Int)^min (Int.toNat (8:Int)) u32.bits))/\u8.wrap (((↑x:Int).fdiv ((2:Int)^min (Int.toNat (16:Int)) u32.bits)).fdiv ((2:Int)^min (Int.toNat (8:Int)) u32.bits))<(↑me.size:Int)] (ag.leaf aq.ret [int .i64 (i64.wrap (i64.wrap ((16:Int)+8)+i64.wrap (↑(nC me (u8.wrap (((↑x:Int).fdiv ((2:Int)^min (Int.toNat (16:Int)) u32.bits)).fdiv ((2:Int)^min (Int.toNat (8:Int)) u32.bits))).toNat):Int)))]))) (ag.aj [(0:Int)<=u8.wrap ((↑x:Int).fdiv ((2:Int)^min (Int.toNat (16:Int)) u32.bits))/\u8.wrap ((↑x:Int).fdiv ((2:Int)^min (Int.toNat (16:Int)) u32.bits))<(↑me.size:Int)] (ag.leaf aq.ret [int .i64 (i64.wrap ((16:Int)+i64.wrap (↑(nC me (u8.wrap ((↑x:Int).fdiv ((2:Int)^min (Int.toNat (16:Int)) u32.bits))).toNat):Int)))])))) (ag.fork (decide ((↑x:Int)>=256)) (ag.aj [(0:Int)<=8] (ag.aj [(0:Int)<=u8.wrap ((↑x:Int).fdiv ((2:Int)^min (Int.toNat (8:Int)) u32.bits))/\u8.wrap ((↑x:Int).fdiv ((2:Int)^min (Int.toNat (8:Int)) u32.bits))<(↑me.size:Int)] (ag.leaf aq.ret [int .i64 (i64.wrap (i64.wrap ((0:Int)+8)+i64.wrap (↑(nC me (u8.wrap ((↑x:Int).fdiv ((2:Int)^min (Int.toNat (8:Int)) u32.bits))).toNat):Int)))]))) (ag.aj [(0:Int)<=u8.wrap (↑x:Int)/\u8.wrap (↑x:Int)<(↑me.size:Int)] (ag.leaf aq.ret [int .i64 (i64.wrap ((0:Int)+i64.wrap (↑(nC me (u8.wrap (↑x:Int)).toNat):Int)))])))):=ah
theorem AD {i:Nat} (h:i<256):nC me i=bN i:=by
 have h8:bN i<=8:=jr.2 aa
 unfold nC
 have:me.data[i]?=some (UInt8.ofNat (bN i)):=by simp[me,h]
 rw[this]
 simp only[UInt8.toNat_ofNat']
 omega
theorem UG:me.size=256:=by
 show(List.map _ (List.range 256)).toArray.size=256
 simp
theorem wN {x:Nat} {s:Int} (hs:0<=s) (h:s<32):(x:Int).fdiv (2^min s.toNat u32.bits)=((x/2^s.toNat:Nat):Int):=by
 have:u32.bits=32:=rfl
 rw[this,Nat.min_eq_left aa,Int.fdiv_eq_ediv_of_nonneg _ (by exact Int.le_of_lt (Int.pow_pos (by decide)))]
 simp
theorem Aq {x:Nat} (h:x<256):u8.wrap (x:Int)=x:=by
 simp[IntKind.wrap,IntKind.bits,IntKind.signed];omega
theorem abK {x:Nat} (hx:x<2^32) (K:Nat) (pre:aC):aS P 200 K [.int .u32 x] pre (aJ (.int .i64 (bN x:Nat)) []):=by
 refine bX hT bB hm ahC rfl aV rfl 30 XW (fun _=>?_) K pre
 have b8:∀i:Nat,i<256->bN i<=8:=fun i h=>jr.2 aa
 rw[wN (by decide) (by decide),wN (by decide) (by decide),wN (by decide) (by decide)]
 simp only[ag.all,az,bk,bt,UG,show Int.toNat 16=16 from rfl,show Int.toNat 8=8 from rfl]
 refine⟨fun h1=>⟨aa,fun h2=>⟨aa,?_⟩,fun h2=>?_⟩,fun h1=>⟨fun h2=>⟨aa,?_⟩,fun h2=>?_⟩⟩
 ·have h3:x/2^16/2^8<256:=aa
  have e:bN x=16+(8+bN (x/2^16/2^8)):=by rw[uW (k:=16) aa,uW (x:=x/2^16) (k:=8) aa]
  rw[Aq h3]
  refine⟨aa,bS ?_⟩
  rw[bf,AD h3,e]
  have:=b8 _ h3
  rw[wrap_i64 (x:=((bN (x/2^16/2^8):Nat):Int)) aa aa,wrap_i64 (x:=(16:Int)+8) aa aa,wrap_i64 aa aa]
  omega
 ·have h3:x/2^16<256:=aa
  have e:bN x=16+bN (x/2^16):=by rw[uW (k:=16) aa]
  rw[Aq h3]
  refine⟨aa,bS ?_⟩
  rw[bf,AD h3,e]
  have:=b8 _ h3
  rw[wrap_i64 (x:=((bN (x/2^16):Nat):Int)) aa aa,wrap_i64 aa aa]
  omega
 ·have h3:x/2^8<256:=aa
  have e:bN x=8+bN (x/2^8):=by rw[uW (k:=8) aa]
  rw[Aq h3]
  refine⟨aa,bS ?_⟩
  rw[bf,AD h3,e]
  have:=b8 _ h3
  rw[wrap_i64 (x:=((bN (x/2^8):Nat):Int)) aa aa,wrap_i64 (x:=(0:Int)+8) aa aa,wrap_i64 aa aa]
  omega
 ·have h3:x<256:=aa
  rw[Aq h3]
  refine⟨aa,bS ?_⟩
  rw[bf,AD h3]
  have:=b8 _ h3
  rw[wrap_i64 (x:=((bN x:Nat):Int)) aa aa,wrap_i64 aa aa]
  omega
theorem Ls:aU P Dl 200:=by
 refine cF fun K args r hk hs _=>?_
 split at hs
 ·rename_i x
  simp only[ay]at hs
  subst hs
  intro need
  obtain⟨h1,h2⟩:0<=x/\x<2^32:=need
  obtain⟨y,rfl⟩:=Int.eq_ofNat_of_zero_le h1
  exact abK (x:=y) aa K [] trivial
 ·simp at hs
theorem XQ {x:Nat}:bU T [(200,Dl)] [] 30 f237 (aF f237) ⟨aQ 0 [.int .u32 x],[],0⟩=
  some (ag.aj [(0:Int)<=(↑x:Int)/\(↑x:Int)<2^32] (ag.leaf aq.ret [int .i64 (i64.wrap ((32:Int)-(↑(bN (↑x:Int).toNat):Int)))])):=ah
theorem abU {n:Nat} {z:Nat->Nat}:bU T ((200,Dl)::G1) [7] 30 f149 (aF f149) ⟨aQ 0 [.ak 1 n (aB z)],[],0⟩=
  some (ag.aj [eG n (aB z),n<2^62] (ag.fork ((↑(nl (val n fun(i:Nat)=>numOf (aB z i))):Int)==0) (ag.leaf aq.ret [int .i64 (0:Int)]) (ag.aj [(0:Int)<=i64.wrap ((↑(nl (val n fun(i:Nat)=>numOf (aB z i))):Int)-1)/\(i64.wrap ((↑(nl (val n fun(i:Nat)=>numOf (aB z i))):Int)-1)).toNat<nl (val n fun(i:Nat)=>numOf (aB z i)),(0:Int)<=(↑(aD (val n fun(i:Nat)=>numOf (aB z i)) (i64.wrap ((↑(nl (val n fun(i:Nat)=>numOf (aB z i))):Int)-1)).toNat):Int)/\(↑(aD (val n fun(i:Nat)=>numOf (aB z i)) (i64.wrap ((↑(nl (val n fun(i:Nat)=>numOf (aB z i))):Int)-1)).toNat):Int)<2^32] (ag.leaf aq.ret [int .i64 (i64.wrap (i64.wrap ((32:Int)*i64.wrap ((↑(nl (val n fun(i:Nat)=>numOf (aB z i))):Int)-1))+(↑(bN (↑(aD (val n fun(i:Nat)=>numOf (aB z i)) (i64.wrap ((↑(nl (val n fun(i:Nat)=>numOf (aB z i))):Int)-1)).toNat):Int).toNat):Int)))])))):=ah
theorem abH {x:Nat} (hx:x<2^32) (K:Nat) (pre:aC):aS P 237 K [.int .u32 x] pre (aJ (.int .i64 (32-bN x:Nat)) []):=by
 refine bX hT (aI Ls bB) hm Wo rfl aV rfl 30 XQ (fun _=>?_) K pre
 have h1:bN x<=32:=jr.2 hx
 simp only[ag.all,az]
 refine⟨aa,bS ?_⟩
 rw[bf,wrap_i64 aa aa];omega
theorem ahW {n:Nat} {z:Nat->Nat} (hz:∀i,i<n->z i<2^32) (hn:n<2^40) (K:Nat) (pre:aC):aS P 149 K [.ak 1 n (aB z)] pre (aJ (.int .i64 (bN (val n z):Nat)) []):=by
 refine bX hT (aI Ls iq) hm Uy rfl aV rfl 30 abU (fun _=>?_) K pre
 have hnl:nl (val n z)<=n:=dF.2 (gq hz)
 simp only[ag.all,az,kq,beq_iff_eq,beq_eq_false_iff_ne,ne_eq]
 generalize val n z=N at*
 refine⟨⟨gV hz,aa⟩,fun h=>bS ?_,fun h=>?_⟩
 ·have:N=0:=by
   rcases Nat.eq_zero_or_pos N with h1|h1
   ·exact h1
   ·have:=g9.2 (show N≠0 by omega);omega
  simp[this,bN]
 ·have h0:N≠0:=g9.1 aa
  have hp:=g9.2 h0
  have e:i64.wrap ((nl N:Int)-1)=((nl N-1:Nat):Int):=by rw[wrap_i64 aa aa];omega
  rw[e,bf,bf]
  have hl:=dY (N:=N) (i:=nl N-1)
  have hb:=LM h0
  have h32:bN (aD N (nl N-1))<=32:=jr.2 hl
  refine⟨⟨aa,aa⟩,bS ?_⟩
  rw[hb,wrap_i64 (x:=32*((nl N-1:Nat):Int)) aa aa,wrap_i64 aa aa]
  omega
def HL:Spec:=bY fun l=>match l with
 |[.int .u32 x]=>some (aJ (.int .i64 (32-bN x.toNat:Nat)) [0<=x/\x<2^32])
 |_=>none
theorem Zm:aU P HL 237:=by
 refine cF fun K args r hk hs _=>?_
 split at hs
 ·rename_i x
  simp only[ay]at hs
  subst hs
  intro need
  obtain⟨h1,h2⟩:0<=x/\x<2^32:=need
  obtain⟨y,rfl⟩:=Int.eq_ofNat_of_zero_le h1
  exact abH (x:=y) aa K [] trivial
 ·simp at hs
def G3 (N n:Nat):dI:=aJ (.int .i64 (bN N:Nat)) [n<2^40]
theorem NI:aU P (bY (l7 G3)) 149:=
 cF (u9 fun _ _ K hz need=>ahW hz need K [])
theorem Vv:aW 201 f201:=aT func201
theorem Yr:aW 142 f142:=aT func142
theorem abz:aW 170 f170:=aT func170
theorem VH {n:Nat} {b:Bool} {f:Nat->AV}:bU T [] [4] 30 f201 (aF f201) ⟨aQ 0 [.eR b 1 n f],[],0⟩=
  some (ag.fork b (ag.leaf aq.ret [nil]) (ag.aj [(0:Nat)*1<=2^24,((0:Nat)+n)*((4:Nat)+1)*2<=2^47] (ag.leaf aq.ret [ak 1 ((0:Nat)+n) fun i=>if i+0<0 then nth [] (int .u32 (0:Int)) (i+0)else f (i+0-0)]))):=ah
theorem abl {A B:Nat}:aH T [] [10] 30 [0,1,12,13,4] (before (aF f142) [1,1,0,1]) ⟨aQ 0 [.mag A,.mag B],[],0⟩=
  some (ag.fork ((↑(nl A):Int)!=(↑(nl B):Int)) (ag.leaf aq.ret ([mag A,mag B,tuple [],tuple [],AV.bool false],[])) (ag.leaf aq.normal ([mag A,mag B,int .i64 (↑(nl A):Int),int .i64 (0:Int),AV.bool false],[]))):=ah
theorem TD {A B i:Nat}:aH T [] [14,24] 30 [0,1,12,13,4] [part (aF f142) [1,1,0,1,0,0]] ⟨aA [0,1,12,13,4] [.mag A,.mag B,.int .i64 (nl A),.int .i64 i,.bool false],[],0⟩=
  let c3:Int:=(↑(nl A):Int);let c2:Int:=(↑i:Int);let c1:List AV:=[mag A,mag B,int .i64 c3,int .i64 c2,AV.bool false];some (ag.fork (decide (c2<c3)) (ag.aj [(0:Int)<=c2/\c2.toNat<nl A,(0:Int)<=c2/\c2.toNat<nl B] (ag.fork ((↑(aD A c2.toNat):Int)!=(↑(aD B c2.toNat):Int)) (ag.leaf aq.ret (c1,[])) (ag.leaf aq.normal ([mag A,mag B,int .i64 c3,int .i64 (i64.wrap (c2+1)),AV.bool false],[])))) (ag.leaf (aq.exit 0) (c1,[]))):=ah
theorem ago {A B i:Nat}:cy T [] [] 30 f142 (behind (aF f142) [1,1,0,1]) ⟨aA [0,1,12,13,4] [.mag A,.mag B,.int .i64 (nl A),.int .i64 i,.bool false],[],0⟩=
  some (ag.leaf aq.ret [AV.bool true]):=ah
theorem abv {n m:Nat} {z y:Nat->Nat}:aH T G1 [] 30 [1,5,17,18,19] (before (aF f170) [1,1,0,1]) ⟨aQ 0 [.ak 1 n (aB z),.ak 1 m (aB y)],[],0⟩=
  let c1:Int:=i64.wrap ((↑n:Int)+(↑m:Int));some (ag.aj [(0:Int)<=c1/\c1<=c1/\c1<=2^47/\c1*(↑(4:Nat):Int)<=2^47] (ag.leaf aq.normal ([ak 1 m fun a=>int .u32 (↑(y a):Int),own 24576 1 0 c1.toNat,ak 1 n fun a=>int .u32 (↑(z a):Int),int .i64 (↑n:Int),int .i64 (0:Int)],[(24576,au.mk true true 1 c1.toNat fun x=>int .u32 (0:Int))]))):=ah
theorem afE {n m i:Nat} {z y o:Nat->Nat}:aH T G1 [20] 30 [1,5,17,18,19] (before (part (aF f170) [1,1,0,1,0,0]) [1,1,0]) ⟨aA [1,5,17,18,19] [.ak 1 m (aB y),.own 7 1 0 (n+m),.ak 1 n (aB z),.int .i64 n,.int .i64 i],[(7,⟨true,true,1,n+m,aB o⟩)],8⟩=
  let c1:List AV×aC:=([ak 1 m fun a=>int .u32 (↑(y a):Int),own 7 1 0 (n+m),ak 1 n fun a=>int .u32 (↑(z a):Int),int .i64 (↑n:Int),int .i64 (↑i:Int)],[(7,au.mk true true 1 (n+m) fun a=>int .u32 (↑(o a):Int))]);some (ag.fork (decide ((↑i:Int)<(↑n:Int))) (ag.leaf aq.normal c1) (ag.leaf (aq.exit 0) c1)):=ah
theorem aau {n m i:Nat} {z y o:Nat->Nat}:aH T G1 [25] 30 [1,5,17,18,19,6,7,8,26,27,28] (before (part (aF f170) [1,1,0,1,0,0,1,1,0,0]) [1,1,1,0,1]) ⟨aA [1,5,17,18,19] [.ak 1 m (aB y),.own 7 1 0 (n+m),.ak 1 n (aB z),.int .i64 n,.int .i64 i],[(7,⟨true,true,1,n+m,aB o⟩)],8⟩=
  let c8:Int:=(↑i:Int);let c7:AV:=int .i64 (↑n:Int);let c6:AV:=own 7 1 0 (n+m);let c4:AV:=ak 1 n fun a=>int .u32 (↑(z a):Int);let c2:Nat×au:=(7,au.mk true true 1 (n+m) fun a=>int .u32 (↑(o a):Int));let c1:AV:=ak 1 m fun a=>int .u32 (↑(y a):Int);let c5:Int:=(↑(z c8.toNat):Int);let c3:AV:=int .i64 c8;some (ag.aj [(0:Int)<=c8/\c8.toNat<n] (ag.fork (c5==0) (ag.leaf (aq.exit 1) ([c1,c6,c4,c7,c3,c3,int .u32 c5,tuple [],tuple [],tuple [],tuple []],[c2])) (ag.leaf aq.normal ([c1,c6,c4,c7,c3,c3,int .u32 c5,int .u64 (0:Int),c1,int .i64 (↑m:Int),int .i64 (0:Int)],[c2])))):=ah
theorem YI {n m i j x c:Nat} {z y o:Nat->Nat}:aH T G1 [29] 30 [1,5,17,18,19,6,7,8,26,27,28] [part (part (aF f170) [1,1,0,1,0,0,1,1,0,0]) [1,1,1,0,1,0,0]] ⟨aA [1,5,17,18,19,6,7,8,26,27,28] [.ak 1 m (aB y),.own 7 1 0 (n+m),.ak 1 n (aB z),.int .i64 n,.int .i64 i,.int .i64 i,.int .u32 x,.int .u64 c,.ak 1 m (aB y),.int .i64 m,.int .i64 j],[(7,⟨true,true,1,n+m,aB o⟩)],8⟩=
  let c12:AV:=int .i64 (↑n:Int);let c11:AV:=int .u32 (↑x:Int);let c10:AV:=int .i64 (↑m:Int);let c8:AV:=own 7 1 0 (n+m);let c7:Int:=(↑j:Int);let c6:AV:=ak 1 n fun a=>int .u32 (↑(z a):Int);let c4:AV:=int .i64 (↑i:Int);let c3:AV:=ak 1 m fun a=>int .u32 (↑(y a):Int);let c1:Int:=i64.wrap ((↑i:Int)+c7);let c5:Nat:=c1.toNat+0;let c9:List Prop:=[(0:Int)<=c1/\c1.toNat<n+m,c5<n+m];let c2:Int:=u64.wrap ((↑c:Int)+u64.wrap (u64.wrap (u64.wrap (↑x:Int)*u64.wrap (↑(y c7.toNat):Int))+u64.wrap (↑(o c5):Int)));some (ag.fork (decide (c7<(↑m:Int))) (ag.aj [(0:Int)<=c7/\c7.toNat<m] (ag.aj c9 (ag.aj c9 (ag.aj [(0:Int)<=32] (ag.leaf aq.normal ([c3,c8,c6,c12,c4,c4,c11,int .u64 (c2.fdiv ((2:Int)^min (Int.toNat (32:Int)) u64.bits)),c3,c10,int .i64 (i64.wrap (c7+1))],[(7,au.mk true true 1 (n+m) fun j=>if(j==c5)=true then int .u32 (u32.wrap c2)else aB o j)])))))) (ag.leaf (aq.exit 2) ([c3,c8,c6,c12,c4,c4,c11,int .u64 (↑c:Int),c3,c10,int .i64 c7],[(7,au.mk true true 1 (n+m) fun a=>int .u32 (↑(o a):Int))]))):=ah
theorem TQ {n m i j x c:Nat} {z y o:Nat->Nat}:aH T G1 [] 30 [1,5,17,18,19] (behind (part (aF f170) [1,1,0,1,0,0,1,1,0,0]) [1,1,1,0,1]) ⟨aA [1,5,17,18,19,6,7,8,26,27,28] [.ak 1 m (aB y),.own 7 1 0 (n+m),.ak 1 n (aB z),.int .i64 n,.int .i64 i,.int .i64 i,.int .u32 x,.int .u64 c,.ak 1 m (aB y),.int .i64 m,.int .i64 j],[(7,⟨true,true,1,n+m,aB o⟩)],8⟩=
  let c1:Int:=i64.wrap ((↑i:Int)+(↑m:Int));let c2:Nat:=c1.toNat+0;some (ag.aj [(0:Int)<=c1/\c1.toNat<n+m,c2<n+m] (ag.leaf aq.normal ([ak 1 m fun a=>int .u32 (↑(y a):Int),own 7 1 0 (n+m),ak 1 n fun a=>int .u32 (↑(z a):Int),int .i64 (↑n:Int),int .i64 (↑i:Int)],[(7,au.mk true true 1 (n+m) fun j=>if(j==c2)=true then int .u32 (u32.wrap (↑c:Int))else aB o j)]))):=ah
theorem afa {n m i:Nat} {z y o:Nat->Nat}:aH T G1 [] 30 [1,5,17,18,19] (behind (part (aF f170) [1,1,0,1,0,0]) [1,1,0]) ⟨aA [1,5,17,18,19] [.ak 1 m (aB y),.own 7 1 0 (n+m),.ak 1 n (aB z),.int .i64 n,.int .i64 i],[(7,⟨true,true,1,n+m,aB o⟩)],8⟩=
  some (ag.leaf aq.normal ([ak 1 m fun a=>int .u32 (↑(y a):Int),own 7 1 0 (n+m),ak 1 n fun a=>int .u32 (↑(z a):Int),int .i64 (↑n:Int),int .i64 (i64.wrap ((↑i:Int)+1))],[(7,au.mk true true 1 (n+m) fun a=>int .u32 (↑(o a):Int))])):=ah
theorem XA {n m i:Nat} {z y o:Nat->Nat}:cy T G1 [] 30 f170 (behind (aF f170) [1,1,0,1]) ⟨aA [1,5,17,18,19] [.ak 1 m (aB y),.own 7 1 0 (n+m),.ak 1 n (aB z),.int .i64 n,.int .i64 i],[(7,⟨true,true,1,n+m,aB o⟩)],8⟩=
  some (ag.aj [eG (n+m) fun i=>aB o (i+0),n+m<2^62] (ag.leaf aq.ret [mag (val (n+m) fun i=>numOf (aB o (i+0)))])):=ah
theorem Fv {n:Nat} {f:Nat->AV} (hn:n<2^40) (K:Nat):aS P 201 K [.ak 1 n f] [] (aJ (.ak 1 n f) []):=by
 refine Wu fun b hb=>?_
 refine bX hT bB hm Vv rfl aV rfl 30 VH (fun _=>?_) K []
 simp only[ag.all,az]
 refine⟨fun h=>?_,fun h=>⟨⟨aa,aa⟩,tu aa fun i hi=>by simp⟩⟩
 rw[hb h]
 exact iJ aa
def Ag:Spec:=bY fun l=>match l with
 |[.mag N]=>some (aJ (.mag N) [nl N<2^40])
 |[.nil]=>some (aJ (.mag 0) [])
 |[.ak es n f]=>if es==1 then some (aJ (.ak 1 n f) [n<2^40])else none
 |_=>none
theorem EH:aU P Ag 201:=by
 refine cF fun K args r hk hs _=>?_
 split at hs
 ·rename_i N
  simp only[ay]at hs
  subst hs
  intro need
  have:=iD (args:=[.mag N]) (Fv (n:=nl N) (f:=fun i=>.int .u32 (aD N i)) need K) rfl ⟨Ir rfl fun i hi=>rfl,trivial⟩ []
  exact sP (l':=[]) this id rfl rfl (mR rfl fun i hi=>rfl) trivial
 ·simp only[ay]at hs
  subst hs
  intro need
  have:=iD (args:=[.nil]) (Fv (n:=0) (f:=fun _=>.nil) aa K) rfl ⟨iJ aa,trivial⟩ []
  exact sP (l':=[]) this id rfl rfl (mR (by simp[nl]) fun i hi=>aa) trivial
 ·rename_i es n f
  split at hs
  ·rename_i he
   have he:es=1:=by simpa using he
   subst he
   simp only[ay]at hs
   subst hs
   exact fun need=>Fv need K trivial
  ·simp at hs
 ·simp at hs
theorem XI {A B:Nat} (hA:nl A<2^40) (hB:nl B<2^40) (K:Nat) (pre:aC):aS P 142 K [.mag A,.mag B] pre (aJ (.bool (decide (A=B))) []):=by
 refine kG hT Yr rfl aV rfl (fun _ c h0=>?_) K pre
 refine ax.hole [1,1,0,1] ah (aG.bE hT bB hm 30 [0,1,12,13,4] abl ah ?_)
 simp only[ag.all,bne_iff_ne,ne_eq,Int.natCast_inj,bne_eq_false_iff_eq]
 refine⟨fun hb s' hv=>?_,fun hb s' hv=>?_⟩
 ·exact gX (us:=[.bool false]) (.inr rfl) hv ah (fF (decide_eq_false fun h=>hb (by rw[h])).symm)
 refine ax.jq (i:=0) (y:=part (aF f142) [1,1,0,1,0,0]) ah
  (fun i:Nat=>⟨aA [0,1,12,13,4] [.mag A,.mag B,.int .i64 (nl A),.int .i64 i,.bool false],[],0⟩)
  (fun i=>i<=nl A/\∀j,j<i->aD A j=aD B j) (fun i=>nl A-i) 0
  (dL [] hv h0 rfl ⟨aL,aL,aL,aL,aL,trivial⟩ trivial) ⟨aa,fun j h=>aa⟩ ?_
 rintro i ⟨hi,hlim⟩
 refine ax.bE hT bB hm 30 [0,1,12,13,4] TD ah ?_
 simp only[ag.all,az,bk,bt,bne_iff_ne,ne_eq,Int.natCast_inj,bne_eq_false_iff_eq,bf]
 refine⟨fun h1=>⟨⟨aa,aa⟩,fun hne s' hv=>?_,fun heq s' hv=>?_⟩,fun h1 s' hv=>?_⟩
 ·exact gX (us:=[.bool false]) (.inr rfl) hv ah (fF (decide_eq_false fun h=>hne (by rw[h])).symm)
 ·refine⟨i+1,dL [] hv h0 rfl ⟨aL,aL,aL,⟨rfl,gQ (by rw[wrap_i64 aa aa];omega)⟩,aL,trivial⟩ trivial,⟨aa,fun j hj=>?_⟩,aa⟩
  by_cases h:j=i
  ·subst h;exact heq
  ·exact hlim j aa
 ·have hAB:A=B:=EK hb fun j hj=>hlim j aa
  exact aG.weak ah (dL (vs:=[.mag A,.mag B,.int .i64 (nl A),.int .i64 i,.bool false]) (ps:=[]) (nx:=0) [] hv h0 rfl ⟨aL,aL,aL,aL,aL,trivial⟩ trivial)
   (aG.fin hT bB hm 30 ago ah (fF (decide_eq_true hAB).symm))
def jt:AV->Option Nat
 |.mag N=>some N
 |.nil=>some 0
 |_=>none
theorem mE {a:AV} {N:Nat} (h:jt a=some N):bh a (.mag N):=by
 cases a<;>simp only[jt,reduceCtorEq,ay]at h
 case mag M=>subst h;exact .refl _
 case nil=>subst h;exact lO
def C8:Spec:=bY fun l=>match l with
 |[a,b]=>match jt a,jt b with
  |some A,some B=>some (aJ (.bool (decide (A=B))) [nl A<2^40,nl B<2^40])
  |_,_=>none
 |_=>none
theorem Pr:aU P C8 142:=by
 refine cF fun K args r hk hs _=>?_
 split at hs
 ·split at hs
  ·rename_i A B hA hB
   simp only[ay]at hs
   subst hs
   exact fun need=>iD (XI need.1 need.2 K []) hk ⟨mE hA,mE hB,trivial⟩ [] trivial
  ·simp at hs
 ·simp at hs
abbrev qO:List Nat:=[1,5,17,18,19]
abbrev sw (n m:Nat) (z y:Nat->Nat) (K i:Nat):List AV:=[.ak 1 m (aB y),.own K 1 0 (n+m),.ak 1 n (aB z),.int .i64 n,.int .i64 i]
abbrev Eb:List Nat:=[1,5,17,18,19,6,7,8,26,27,28]
abbrev Ok (n m:Nat) (z y:Nat->Nat) (K i x c j:Nat):List AV:=[.ak 1 m (aB y),.own K 1 0 (n+m),.ak 1 n (aB z),.int .i64 n,.int .i64 i,.int .i64 i,.int .u32 x,.int .u64 c,.ak 1 m (aB y),.int .i64 m,.int .i64 j]
theorem adg {n m:Nat} {z y:Nat->Nat} (hz:∀i,i<n->z i<2^32) (hy:∀i,i<m->y i<2^32) (hn:n<2^40) (hm':m<2^40) (K:Nat) (pre:aC):
  aS P 170 K [.ak 1 n (aB z),.ak 1 m (aB y)] pre (aJ (.mag (val n z*val m y)) []):=by
 refine kG hT abz rfl aV rfl (fun _ c0 h0=>?_) K pre
 refine ax.hole [1,1,0,1] ah (aG.bE hT iq hm 30 qO abv ah ?_)
 have hw:i64.wrap ((n:Int)+(m:Int))=((n+m:Nat):Int):=by rw[wrap_i64 aa aa];omega
 simp only[ag.all,az,hw,bf]
 refine⟨aa,fun s' hv=>?_⟩
 refine ax.jq (i:=0) (y:=part (aF f170) [1,1,0,1,0,0]) ah
  (fun p:Nat×(Nat->Nat)=>⟨aA qO (sw n m z y 7 p.1),[(7,⟨true,true,1,n+m,aB p.2⟩)],8⟩)
  (fun p=>p.1<=n/\(∀j,j<n+m->p.2 j<2^32)/\(∀j,p.1+m<=j->p.2 j=0)/\val (n+m) p.2=val p.1 z*val m y)
  (fun p=>n-p.1) (0,fun _=>0)
  (dL [(7,24576)] hv h0 rfl ⟨aL,⟨rfl,cP rfl rfl rfl⟩,aL,aL,aL,trivial⟩
   ⟨⟨_,_,rfl,rfl,gi rfl fun j _=>rfl⟩,trivial⟩)
  ⟨by simp,fun j _=>by simp,fun j _=>rfl,?_⟩ ?_
 ·simp only
  rw[nR (k:=0) aa fun _ _ _=>rfl]
  simp[val]
 rintro⟨i,o⟩ ⟨hi,ho,ho0,hval⟩
 simp only at hi ho ho0 hval
 have next:∀{o':Nat->Nat} {s':aK},i<n->bA qO s'=some (sw n m z y 7 i,[(7,⟨true,true,1,n+m,aB o'⟩)])->(∀j,j<n+m->o' j<2^32)->(∀j,i+1+m<=j->o' j=0)->
   val (n+m) o'=val (i+1) z*val m y->∀{QF:aq->aK->Prop},
   aG P c0 f170.ntmps (behind (part (aF f170) [1,1,0,1,0,0]) [1,1,0]) s' (eo (fun s'=>∃k:Nat×(Nat->Nat),(∃ρ,Le c0 ρ s' ⟨aA qO (sw n m z y 7 k.1),[(7,⟨true,true,1,n+m,aB k.2⟩)],8⟩)/\
    (k.1<=n/\(∀j,j<n+m->k.2 j<2^32)/\(∀j,k.1+m<=j->k.2 j=0)/\val (n+m) k.2=val k.1 z*val m y)/\n-k.1<n-i) QF):=by
  intro o' s' hin hv g1 g2 g3 QF
  refine aG.weak ah (dL (vs:=sw n m z y 7 i) (ps:=[(7,⟨true,true,1,n+m,aB o'⟩)]) (nx:=8) [(7,7)] hv h0 rfl ⟨aL,⟨rfl,cP rfl rfl rfl⟩,aL,aL,aL,trivial⟩
    ⟨⟨_,_,rfl,rfl,gi rfl fun j _=>rfl⟩,trivial⟩)
   (aG.bE hT iq hm 30 qO afa ah ?_)
  intro s' hv
  exact⟨(i+1,o'),dL [(7,7)] hv h0 rfl ⟨aL,⟨rfl,cP rfl rfl rfl⟩,aL,aL,⟨rfl,gQ (by rw[wrap_i64 aa aa];simp only;omega)⟩,trivial⟩
    ⟨⟨_,_,rfl,rfl,gi rfl fun j _=>rfl⟩,trivial⟩,⟨by simp only;omega,g1,g2,g3⟩,by simp only;omega⟩
 refine ax.hole [1,1,0] ah (aG.bE hT iq hm 30 qO afE ah ?_)
 simp only[ag.all,bk,bt]
 refine⟨fun h1 s' hv=>?_,fun h1 s' hv=>?_⟩
 ·have hin:i<n:=aa
  have hzi:=hz i hin
  refine ax.ja (dL (vs:=sw n m z y 7 i) (ps:=[(7,⟨true,true,1,n+m,aB o⟩)]) (nx:=8) [(7,7)] hv h0 rfl ⟨aL,⟨rfl,cP rfl rfl rfl⟩,aL,aL,aL,trivial⟩
    ⟨⟨_,_,rfl,rfl,gi rfl fun j _=>rfl⟩,trivial⟩) ?_
  refine ax.qw (i:=1) (y:=part (aF f170) [1,1,0,1,0,0,1,1,0,0]) ah ?_
  refine ax.hole [1,1,1,0,1] ah (aG.bE hT iq hm 30 Eb aau ah ?_)
  simp only[ag.all,az,bf,beq_iff_eq,beq_eq_false_iff_ne,ne_eq]
  refine⟨aa,fun hz0 s' hv=>?_,fun hz0 s' hv=>?_⟩
  ·refine fZ ?_
   exact(next hin (jG (ls:=qO) (l:=[6,7,8,26,27,28]) (vs:=sw n m z y 7 i) hv rfl rfl) ho (fun j hj=>ho0 j aa) (by rw[hval,val,show z i=0 by omega];simp))
  refine ax.jq (i:=2) (y:=part (part (aF f170) [1,1,0,1,0,0,1,1,0,0]) [1,1,1,0,1,0,0]) ah
   (fun p:Nat×Nat×(Nat->Nat)=>⟨aA Eb (Ok n m z y 7 i (z i) p.2.1 p.1),[(7,⟨true,true,1,n+m,aB p.2.2⟩)],8⟩)
   (fun p=>p.1<=m/\p.2.1<2^32/\(∀j,j<n+m->p.2.2 j<2^32)/\(∀j,i+m<=j->p.2.2 j=0)/\val (n+m) p.2.2+p.2.1*2^(32*(i+p.1))=val i z*val m y+z i*val p.1 y*2^(32*i))
   (fun p=>m-p.1) (0,0,o)
   (dL [(7,7)] hv h0 rfl ⟨aL,⟨rfl,cP rfl rfl rfl⟩,aL,aL,aL,aL,aL,aL,aL,aL,aL,trivial⟩
    ⟨⟨_,_,rfl,rfl,gi rfl fun j _=>rfl⟩,trivial⟩)
   ⟨by simp,by simp,ho,ho0,by simp[val,hval]⟩ ?_
  rintro⟨j,c,o⟩ ⟨hj,hc,ho,ho0,hval⟩
  simp only at hj hc ho ho0 hval
  refine ax.bE hT iq hm 30 Eb YI ah ?_
  have hij:i64.wrap ((i:Int)+(j:Int))=((i+j:Nat):Int):=by rw[wrap_i64 aa aa];omega
  simp only[ag.all,az,bk,bt,hij,bf,Nat.add_zero,beq_iff_eq]
  refine⟨fun h2=>?_,fun h2 s' hv=>fZ ?_⟩
  ·have hjm:j<m:=aa
   obtain⟨m1,m2,m3⟩:=LX hc hzi (hy j hjm) (ho (i+j) aa)
   rw[m1]
   refine⟨aa,aa,aa,aa,fun s' hv=>⟨(j+1,(c+z i*y j+o (i+j))/4294967296,cE o (i+j) ((c+z i*y j+o (i+j))%4294967296)),?_,⟨by simp only;omega,m3,je aa ho,fun k hk=>?_,?_⟩,by simp only;omega⟩⟩
   ·refine dL [(7,7)] hv h0 rfl ⟨aL,⟨rfl,cP rfl rfl rfl⟩,aL,aL,aL,aL,aL,⟨rfl,gQ ?_⟩,aL,aL,⟨rfl,gQ ?_⟩,trivial⟩
     ⟨⟨_,_,rfl,rfl,gi rfl fun k _=>iA (by rw[kE]) k⟩,trivial⟩
    ·rw[mq];simp only;omega
    ·rw[wrap_i64 aa aa];simp only;omega
   ·exact(gn aa).trans (ho0 k hk)
   ·simp only
    rw[show 32*(i+(j+1))=32*((i+j)+1) by omega,iS,val]
    have hset:=EC (o:=o) (x:=(c+z i*y j+o (i+j))%4294967296) (show i+j<n+m by omega)
    exact PO rfl (Nat.div_add_mod _ _) hset (by rw[<-Nat.pow_add];congr 1;omega) hval
  ·have hjm:j=m:=aa
   subst hjm
   refine aG.weak ah (dL (vs:=Ok n j z y 7 i (z i) c j) (ps:=[(7,⟨true,true,1,n+j,aB o⟩)]) (nx:=8) [(7,7)] hv h0 rfl
     ⟨aL,⟨rfl,cP rfl rfl rfl⟩,aL,aL,aL,aL,aL,aL,aL,aL,aL,trivial⟩
     ⟨⟨_,_,rfl,rfl,gi rfl fun j _=>rfl⟩,trivial⟩)
    (aG.bE hT iq hm 30 qO TQ ah ?_)
   simp only[ag.all,az,hij,bf,Nat.add_zero,beq_iff_eq]
   refine⟨aa,fun s' hv=>?_⟩
   have hf:(fun k=>if k=i+j then AV.int .u32 (u32.wrap (c:Int))else aB o k)=aB (cE o (i+j) c):=by
    funext k
    exact iA (wrap_u32 aa aa) k
   rw[hf]at hv
   refine next hin hv (je hc ho) (fun k hk=>(gn aa).trans (ho0 k aa)) ?_
   rw[tV aa (ho0 _ aa),hval,val,Nat.add_mul,Nat.mul_assoc,Nat.mul_assoc,Nat.mul_comm (val j y)]
 ·have hin:i=n:=aa
  subst hin
  refine rS (fZ ?_)
  refine(aG.weak ah (dL (vs:=sw i m z y 7 i) (ps:=[(7,⟨true,true,1,i+m,aB o⟩)]) (nx:=8) [(7,7)] hv h0 rfl ⟨aL,⟨rfl,cP rfl rfl rfl⟩,aL,aL,aL,trivial⟩
    ⟨⟨_,_,rfl,rfl,gi rfl fun j _=>rfl⟩,trivial⟩)
   (aG.fin hT iq hm 30 XA ah ?_))
  simp only[ag.all,az,Nat.add_zero,kq]
  exact⟨⟨gV ho,aa⟩,dX (congrArg AV.mag hval)⟩
def Mc (A n B m:Nat):dI:=aJ (.mag (A*B)) [n<2^40,m<2^40]
theorem Xw:aU P (bY (iU Mc)) 170:=
 cF (vX fun _ _ _ _ K hz hy need=>adg hz hy need.1 need.2 K [])
theorem ahw {n s i c:Nat} {z o:Nat->Nat}:aH T G1 [] 30 [4] (behind (aF f238) [1,1,1,0,1]) ⟨aA [0,1,5,6,13,14,15] [.ak 1 n (aB z),.int .i64 s,.own 7 1 0 (n+1),.int .u64 c,.ak 1 n (aB z),.int .i64 n,.int .i64 i],[(7,⟨true,true,1,n+1,aB o⟩)],8⟩=
  let c2:Nat:=n+1;let c1:Nat:=(↑n:Int).toNat+0;some (ag.aj [(0:Int)<=(↑n:Int)/\(↑n:Int).toNat<c2,c1<c2] (ag.leaf aq.ret ([own 7 1 0 c2],[(7,au.mk true true 1 c2 fun j=>if(j==c1)=true then int .u32 (u32.wrap (↑c:Int))else aB o j)]))):=ah
theorem adY {n:Nat} {z:Nat->Nat}:aH T [] [] 30 [0,3] (before (aF f199) [1,1,0]) ⟨aQ 0 [.own 0 1 0 n],[(0,⟨true,true,1,n,aB z⟩)],1⟩=
  some (ag.leaf aq.normal ([own 0 1 0 n,int .i64 (↑n:Int)],[(0,au.mk true true 1 n fun a=>int .u32 (↑(z a):Int))])):=ah
theorem VE {n k:Nat} {z:Nat->Nat}:aH T [] [8,15] 30 [0,3] [part (aF f199) [1,1,0,0,0]] ⟨aA [0,3] [.own 0 1 0 n,.int .i64 k],[(0,⟨true,true,1,n,aB z⟩)],1⟩=
  let c4:Int:=(↑k:Int);let c3:AV:=own 0 1 0 n;let c1:Nat×au:=(0,au.mk true true 1 n fun a=>int .u32 (↑(z a):Int));let c6:Bool:=decide (c4>0);let c5:ag (List AV×aC):=ag.leaf (aq.exit 0) ([c3,int .i64 c4],[c1]);let c2:Int:=i64.wrap (c4-1);let c7:ag (List AV×aC):=ag.leaf aq.normal ([c3,int .i64 c2],[c1]);some (ag.fork c6 (ag.aj [c6=true,(0:Int)<=c2/\c2.toNat<n,c2.toNat+0<n] (ag.fork (bif true then(↑(z (c2.toNat+0)):Int)==0 else false) c7 c5)) (ag.aj [c6=false] (ag.fork false c7 c5))):=ah
theorem adU {n k:Nat} {z:Nat->Nat}:aH T [] [] 30 [2] (behind (aF f199) [1,1,0]) ⟨aA [0,3] [.own 0 1 0 n,.int .i64 k],[(0,⟨true,true,1,n,aB z⟩)],1⟩=
  let c1:Int:=(↑k:Int);some (ag.aj [(0:Int)<=0/\(0:Int)<=c1/\c1<=c1/\c1<=(↑n:Int)] (ag.leaf aq.ret ([own 0 1 0 (c1.toNat-Int.toNat (0:Int))],[(0,au.mk true true 1 n fun a=>int .u32 (↑(z a):Int))]))):=ah
theorem ab8 {n s:Nat} {z:Nat->Nat} (hz:∀i,i<n->z i<2^32) (hn:n<2^40) (hs:s<32) (K:Nat):
  aS P 238 K [.ak 1 n (aB z),.int .i64 s] [] ⟨.own K 1 0 (n+1),[(K,⟨true,true,1,n+1,aB (aD (val n z*2^s))⟩)],[]⟩:=by
 refine oO hT ajn (args0:=[.ak 1 n (aB z),.int .i64 s]) (pre0:=[]) (nx:=0) [] aV rfl ⟨aL,aL,trivial⟩ trivial (fun a k h=>by simp[bC,look]at h) (fun k o h=>?_) (fun _ c h0=>?_)
 ·simp only[look]at h
  split at h
  ·rename_i he
   have:K=k:=by simpa using he
   subst this
   exact .inr ⟨bz,by unfold cT;omega⟩
  ·simp at h
 have hk0:c.k0=bG:=by
  funext k
  cases hk:c.k0 k with
  |none=>rfl
  |some x=>have:=h0 k x hk;simp[bC,look]at this
 refine adO hz hn hs hk0 fun c' o s' hc ho hval hv=>?_
 have h3:2^s<=2^31:=Nat.pow_le_pow_right aa aa
 refine aG.fS hT iq hm 30 (nx:=8) hv (kX hk0) rfl ⟨⟨aa,fun _ _=>rfl⟩,trivial⟩ [4] ahw ah ah ?_
 simp only[ag.all,az,Nat.add_zero,beq_iff_eq,bf,WS hs hc]
 refine⟨aa,fun s' hv=>⟨by simp,bC [(K,7)],Ej ⟨bz,by unfold cT;omega⟩,.inr (vW (us:=[.own 7 1 0 (n+1)]) (ws:=[.own K 1 0 (n+1)]) (ps:=[(K,⟨true,true,1,n+1,aB (aD (val n z*2^s))⟩)]) hv ah ⟨⟨rfl,cP (by simp[bC,look]) rfl rfl⟩,trivial⟩ rfl rfl ⟨⟨7,_,by simp[bC,look],rfl,gi rfl fun j hj=>?_⟩,trivial⟩)⟩⟩
 have ho':∀j,j<n+1->cE o n c' j<2^32:=je aa ho
 rw[<-hval,<-tH,aB,aB,pZ ho' hj]
def Ib:Spec:=rY fun K l=>match l with
 |[a,.int .i64 k]=>match tQ a with
  |some (N,n,q)=>some ⟨.own K 1 0 (n+1),[(K,⟨true,true,1,n+1,aB (aD (N*2^k.toNat))⟩)],q++[n<2^40,0<=k,k<32]⟩
  |none=>none
 |_=>none
theorem aaV:aU P Ib 238:=by
 refine wS fun K args r hk hs=>?_
 split at hs
 ·rename_i a k
  split at hs
  ·rename_i N n q hn
   simp only[ay]at hs
   subst hs
   intro need
   obtain⟨n1,n2⟩:=fD.1 need
   obtain⟨z,hz,rfl,hle⟩:=zh hn n1
   obtain⟨h1,h2,h3⟩:n<2^40/\0<=k/\k<32:=n2
   obtain⟨s,rfl⟩:=Int.eq_ofNat_of_zero_le h2
   exact iD (ab8 hz h1 aa K) hk ⟨hle,.refl _,trivial⟩ [] trivial
  ·simp at hs
 ·simp at hs
theorem T0 {n k:Nat} {z:Nat->Nat} (hz:∀i,i<n->z i<2^32) (hn:n<2^62) (K:Nat) {f:Nat->AV} (hf:∀i,i<n->f i=aB z i):
  aS P 199 K [.own k 1 0 n] [(k,⟨true,true,1,n,f⟩)] ⟨.own k 1 0 (nl (val n z)),[],[]⟩:=by
 refine oO hT J4 (args0:=[.own 0 1 0 n]) (pre0:=[(0,⟨true,true,1,n,aB z⟩)]) (nx:=1) [(0,k)] aV (by simp[jE]) ⟨⟨rfl,cP rfl rfl rfl⟩,trivial⟩ ⟨⟨k,_,rfl,by simp[look],gi rfl hf⟩,trivial⟩
  (fun a x h=>?_) (fun x o h=>by simp[look]at h) (fun _ c h0=>?_)
 ·simp only[bC,look]at h
  split at h
  ·simp only[ay]at h;subst h;exact⟨_,by simp[look];rfl⟩
  ·simp at h
 have hk0:∀k x,c.k0 k=some x->k<1:=fun k x hk=>by
  have:=h0 k x hk
  simp only[bC,look]at this
  split at this
  ·rename_i h;simp at h;omega
  ·simp at this
 refine ax.hole [1,1,0] ah (aG.bE hT bB hm 30 [0,3] adY ah fun s' hv=>?_)
 refine ax.iH (i:=0) (y:=part (aF f199) [1,1,0,0,0]) ah [0,3] 1 hk0 (fun k:Nat=>[.own 0 1 0 n,.int .i64 k]) (fun _=>[(0,⟨true,true,1,n,aB z⟩)]) (fun _=>rfl) (fun _=>⟨⟨aa,fun _ _=>rfl⟩,trivial⟩)
  (fun k=>k<=n/\∀i,k<=i->i<n->z i=0) id n hv ⟨bz,fun i h1 h2=>aa⟩ ?_
 rintro j ⟨hj,hzj⟩
 refine ax.bE hT bB hm 30 [0,3] VE ah ?_
 have fin:(j=0\/z (j-1)≠0)->∀s',bA [0,3] s'=some ([.own 0 1 0 n,.int .i64 j],[(0,⟨true,true,1,n,aB z⟩)])->aG P c f199.ntmps (behind (aF f199) [1,1,0]) s'
   (fun e s'=>(e=.normal\/e=.ret)/\∃τ,we [(0,k)] K [(k,⟨true,true,1,n,f⟩)] τ/\(Ak T f199 τ [(k,⟨true,true,1,n,f⟩)] ⟨.own k 1 0 (nl (val n z)),[],[]⟩ s'\/wM T f199 τ [(k,⟨true,true,1,n,f⟩)] ⟨.own k 1 0 (nl (val n z)),[],[]⟩ s')):=by
  intro hj0 s' hv
  refine aG.fS hT bB hm 30 (nx:=1) hv hk0 rfl ⟨⟨aa,fun _ _=>rfl⟩,trivial⟩ [2] adU ah ah ?_
  have e:val n z=val j z:=nR hj hzj
  refine⟨⟨aa,aa,aa,aa⟩,fun s' hv=>⟨.inr rfl,bC [(k,0)],vg,.inr (vW (us:=[.own 0 1 0 ((j:Int).toNat-Int.toNat 0)]) (ws:=[.own k 1 0 (nl (val n z))]) (os:=[(0,⟨true,true,1,n,aB z⟩)]) (ps:=[(k,⟨true,true,1,n,f⟩)]) hv ah ⟨⟨rfl,cP (by simp[bC,look]) rfl ?_⟩,trivial⟩ rfl rfl ⟨⟨0,_,by simp[bC,look],rfl,jR rfl fun j hj=>?_⟩,trivial⟩)⟩⟩
  ·rw[e,zS (fun i hi=>hz i aa) hj0];simp
  ·rw[hf j hj];exact gy rfl
 have hw:0<j->i64.wrap ((j:Int)-1)=((j-1:Nat):Int):=fun h=>by rw[wrap_i64 aa aa];omega
 refine⟨fun hb=>?_,fun hb=>?_⟩
 ·have h1:0<j:=by simpa using hb
  rw[hw h1]
  have hj1:j-1<n:=aa
  refine⟨⟨hb,⟨aa,by rw[bf];exact hj1⟩,by rw[bf];exact hj1⟩,fun hc s' hv=>?_,fun hc s' hv=>?_⟩
  ·refine⟨j-1,hv,⟨aa,fun i h1 h2=>?_⟩,by simp;omega⟩
   by_cases hi:i=j-1
   ·subst hi;simpa using hc
   ·exact hzj i aa h2
  ·exact fZ (fin (.inr (by simpa using hc)) s' hv)
 ·have h1:j=0:=by simpa using hb
  refine⟨hb,fun hc=>by simp at hc,fun hc s' hv=>fZ (fin (.inl h1) s' hv)⟩
def DZ:Spec:=fun _ args pre=>match args,pre with
 |[.own k es s n],[(k',o)]=>if k==k'&&es==1&&s==0&&o.row&&o.wr&&o.es==1 then some ⟨.own k 1 0 (nl (val n fun i=>numOf (o.f i))),[],[eG n o.f,o.len=n,n<2^62]⟩else none
 |_,_=>none
theorem Xg:aU P DZ 199:=by
 intro K args pre r hs
 unfold DZ at hs
 split at hs
 ·rename_i k es s n k' o
  split at hs
  ·rename_i hc
   simp only[Bool.and_eq_true,beq_iff_eq]at hc
   obtain⟨⟨⟨⟨⟨rfl,rfl⟩,rfl⟩,h4⟩,h5⟩,h6⟩:=hc
   simp only[ay]at hs
   subst hs
   intro need
   obtain⟨h1,h2,h3⟩:eG n o.f/\o.len=n/\n<2^62:=need
   obtain⟨row,wr,es,len,f⟩:=o
   simp only at h1 h2 h4 h5 h6
   subst h2 h4 h5 h6
   refine T0 (z:=fun i=>numOf (f i)) (fun i hi=>?_) h3 K (fun i hi=>?_) trivial
   ·obtain⟨z,g1,g2⟩:=h1 i hi
    simp only[g2,numOf];omega
   ·obtain⟨z,g1,g2⟩:=h1 i hi
    simp[g2,numOf,aB]
  ·simp at hs
 ·simp at hs
theorem Rw:aW 202 f202:=aT func202
def GD:aX:=(169,bY (iU As))::(201,Ag)::(236,bY (BB LR))::(237,HL)::(238,Ib)::G1
def GT:aX:=[(199,DZ)]
abbrev nN:List Nat:=[1,1,1,1,1,1,1,0,1]
abbrev yY:Code:=part (aF f202) [1,1,1,1,1,1,1,0,1,0,0]
abbrev ry:Code:=part yY [1,0,0]
abbrev uq:Code:=part ry [1,1,1]
abbrev Cz:Code:=part uq [1,1]
abbrev sI:Code:=part Cz [1,1,0,1,0]
abbrev mO:Code:=part (aF f202) [1,1,1,1,1,1,1,1]
abbrev dr:List Nat:=[4,9,10,11,12,13]
abbrev fL (lq s lu V:Nat) (j:Int):List AV:=[.own 8 1 0 lq,.int .i64 s,.own 7 1 0 lu,.mag V,.int .i64 (nl V),.int .i64 j]
abbrev cX (lq lu:Nat) (q u:Nat->Nat):aC:=[(7,⟨true,true,1,lu,aB u⟩),(8,⟨true,true,1,lq,aB q⟩)]
theorem ait {n m:Nat} {z y:Nat->Nat}:aH T GD [] 60 [0,1,4,5,6] ((before (aF f202) nN).take 2) ⟨aQ 0 [.ak 1 n (aB z),.ak 1 m (aB y)],[],0⟩=
  some (ag.aj [eG n (aB z),n<2^62,eG m (aB y),m<2^62] (ag.leaf aq.normal ([mag (val n fun i=>numOf (aB z i)),mag (val m fun i=>numOf (aB y i)),nil,nil,int .i64 (0:Int)],[]))):=ah
theorem aeH {A B:Nat}:aH T GD [30,34,41] 60 [0,1,4,5,6] (((before (aF f202) nN).drop 2).take 1) ⟨aA [0,1,4,5,6] [.mag A,.mag B,.nil,.nil,.int .i64 0],[],0⟩=
  let c5:AV:=int .u32 (0:Int);let c3:AV:=int .i64 (0:Int);let c2:Nat:=2^40;let c1:Int:=(↑(aD B (Int.toNat (0:Int))):Int);let c4:AV:=int .u32 (↑(A%c1.toNat):Int);some (ag.fork ((↑(nl B):Int)==0) (ag.leaf aq.ret ([mag A,mag B,nil,nil,int .i64 (3:Int)],[])) (ag.aj [nl A<c2,nl B<c2] (ag.fork (decide (cZ A B<0)) (ag.aj [nl A<c2] (ag.leaf aq.ret ([mag A,mag B,nil,mag A,c3],[]))) (ag.fork ((↑(nl B):Int)==1) (ag.aj [(0:Int)<=0/\Int.toNat (0:Int)<nl B,nl A<c2,(0:Int)<c1,c1<2^32] (ag.aj [(1:Nat)*1<=2^24,eG 1 fun i=>nth [c4] c5 (i+0),(1:Nat)<2^62] (ag.leaf aq.ret ([mag A,mag B,mag (A/c1.toNat),mag (val 1 fun i=>numOf (nth [c4] c5 (i+0))),c3],[])))) (ag.leaf aq.normal ([mag A,mag B,nil,nil,c3],[])))))):=ah
theorem Vz {A B:Nat}:aH T GD [] 60 [0,1,9] (((before (aF f202) nN).drop 3).take 1) ⟨aA [0,1,4,5,6] [.mag A,.mag B,.nil,.nil,.int .i64 0],[],0⟩=
  let c1:Int:=i64.wrap ((↑(nl B):Int)-1);let c2:Int:=(↑(aD B c1.toNat):Int);some (ag.aj [(0:Int)<=c1/\c1.toNat<nl B,(0:Int)<=c2/\c2<2^32] (ag.leaf aq.normal ([mag A,mag B,int .i64 (↑((32:Nat)-bN c2.toNat):Int)],[]))):=ah
theorem UO {A B s:Nat}:aH T GD [] 60 [9,10,11] (((before (aF f202) nN).drop 4).take 1) ⟨aA [0,1,9] [.mag A,.mag B,.int .i64 s],[],0⟩=
  let c3:Nat:=nl B+1;let c2:Int:=(↑s:Int);let c1:Nat:=2^c2.toNat;some (ag.aj [nl A<2^40,(0:Int)<=c2,c2<32,nl B<2^40,(0:Int)<=c2,c2<32,eG c3 fun i=>aB (aD (B*c1)) (i+0),c3<2^62] (ag.leaf aq.normal ([int .i64 c2,own 8192 1 0 (nl A+1),mag (val c3 fun i=>numOf (aB (aD (B*c1)) (i+0)))],[(8192,au.mk true true 1 (nl A+1) fun a=>int .u32 (↑(aD (A*c1) a):Int))]))):=ah
theorem UD {s lu V:Nat} {u:Nat->Nat}:aH T GD [] 60 dr ((before (aF f202) nN).drop 5) ⟨aA [9,10,11] [.int .i64 s,.own 7 1 0 lu,.mag V],[(7,⟨true,true,1,lu,aB u⟩)],8⟩=
  let c1:Int:=i64.wrap ((↑lu:Int)-(↑(nl V):Int));some (ag.aj [(0:Int)<=c1/\c1<=c1/\c1<=2^47/\c1*(↑(4:Nat):Int)<=2^47] (ag.leaf aq.normal ([own 28680 1 0 c1.toNat,int .i64 (↑s:Int),own 7 1 0 lu,mag V,int .i64 (↑(nl V):Int),int .i64 (i64.wrap ((↑c1.toNat:Int)-1))],[(7,au.mk true true 1 lu fun a=>int .u32 (↑(u a):Int)),(28680,au.mk true true 1 c1.toNat fun x=>int .u32 (0:Int))]))):=ah
theorem So {lq s lu V m:Nat} {q u:Nat->Nat}:aH T GD [82] 60 dr [part yY [0]] ⟨aA dr (fL lq s lu V ((m:Int)-1)),cX lq lu q u,9⟩=
  let c2:Int:=(↑m:Int)-1;let c1:List AV×aC:=([own 8 1 0 lq,int .i64 (↑s:Int),own 7 1 0 lu,mag V,int .i64 (↑(nl V):Int),int .i64 c2],[(7,au.mk true true 1 lu fun a=>int .u32 (↑(u a):Int)),(8,au.mk true true 1 lq fun a=>int .u32 (↑(q a):Int))]);some (ag.fork (decide (c2>=0)) (ag.leaf aq.normal c1) (ag.leaf (aq.exit 1) c1)):=ah
theorem ahF {lq s lu V j:Nat} {q u:Nat->Nat}:aH T GD [] 60 (dr++[15,16]) (before ry [1,1,0]) ⟨aA dr (fL lq s lu V (j:Nat)),cX lq lu q u,9⟩=
  let c7:Int:=(↑(nl V):Int);let c3:Int:=i64.wrap (c7-1);let c2:Int:=i64.wrap ((↑j:Int)+c7);let c6:Prop:=(0:Int)<=c3/\c3.toNat<nl V;let c5:Int:=i64.wrap (c2-1);let c4:Int:=u64.wrap (↑(aD V c3.toNat):Int);let c1:Int:=u64.wrap (↑(BitVec.ofInt u64.bits (u64.wrap (u64.wrap (↑(u (c2.toNat+0)):Int)*2^min (Int.toNat (32:Int)) u64.bits))|||BitVec.ofInt u64.bits (u64.wrap (↑(u (c5.toNat+0)):Int))).toNat:Int);some (ag.aj [(0:Int)<=c2/\c2.toNat<lu,c2.toNat+0<lu,(0:Int)<=32,(0:Int)<=c5/\c5.toNat<lu,c5.toNat+0<lu] (ag.aj [c6,c4≠(0:Int),c6,c4≠(0:Int)] (ag.leaf aq.normal ([own 8 1 0 lq,int .i64 (↑s:Int),own 7 1 0 lu,mag V,int .i64 c7,int .i64 (↑j:Int),int .u64 (u64.wrap (c1.tdiv c4)),int .u64 (c1.tmod c4)],[(7,au.mk true true 1 lu fun a=>int .u32 (↑(u a):Int)),(8,au.mk true true 1 lq fun a=>int .u32 (↑(q a):Int))])))):=ah
theorem RI {lq s lu V j rest:Nat} {x:Int} {q u:Nat->Nat}:aH T GD [120,141,153] 60 (dr++[15,16]) [part ry [1,1,0,0,0]] ⟨aA (dr++[15,16]) (fL lq s lu V (j:Nat)++[.int .u64 x,.int .u64 rest]),cX lq lu q u,9⟩=
  let c16:AV:=int .i64 (↑j:Int);let c15:AV:=int .i64 (↑s:Int);let c14:AV:=own 8 1 0 lq;let c13:AV:=own 7 1 0 lu;let c12:Int:=(↑(nl V):Int);let c11:Bool:=decide (x>=4294967296);let c7:List (Nat×au):=[(7,au.mk true true 1 lu fun a=>int .u32 (↑(u a):Int)),(8,au.mk true true 1 lq fun a=>int .u32 (↑(q a):Int))];let c9:Int:=i64.wrap (c12-1);let c8:Int:=i64.wrap (c12-2);let c6:Int:=i64.wrap (i64.wrap ((↑j:Int)+c12)-2);let c4:ag (List AV×aC):=ag.leaf (aq.exit 3) ([c14,c15,c13,mag V,int .i64 c12,c16,int .u64 x,int .u64 (↑rest:Int)],c7);let c10:Int:=u64.wrap (x*u64.wrap (↑(aD V c8.toNat):Int));let c3:Int:=u64.wrap (↑(BitVec.ofInt u64.bits (u64.wrap ((↑rest:Int)*2^min (Int.toNat (32:Int)) u64.bits))|||BitVec.ofInt u64.bits (u64.wrap (↑(u (c6.toNat+0)):Int))).toNat:Int);let c2:Int:=u64.wrap ((↑rest:Int)+u64.wrap (↑(aD V c9.toNat):Int));let c1:List AV×aC:=([c14,c15,c13,mag V,int .i64 c12,c16,int .u64 (u64.wrap (x-1)),int .u64 c2],c7);let c5:ag (List AV×aC):=ag.aj [(0:Int)<=c9/\c9.toNat<nl V] (ag.fork (decide (c2>=4294967296)) (ag.leaf (aq.exit 3) c1) (ag.leaf aq.normal c1));some (ag.fork c11 (ag.aj [c11=true] (ag.fork true c5 c4)) (ag.aj [c11=false,(0:Int)<=c8/\c8.toNat<nl V,(0:Int)<=32,(0:Int)<=c6/\c6.toNat<lu,c6.toNat+0<lu] (ag.fork (bif false then true else decide (c10>c3)) c5 c4))):=ah
theorem adi {lq s lu V j x rest:Nat} {q u:Nat->Nat}:aH T GD [] 60 (dr++[15,17,18,154,155,156]) (before uq [1,0,1]) ⟨aA (dr++[15,16]) (fL lq s lu V (j:Nat)++[.int .u64 x,.int .u64 rest]),cX lq lu q u,9⟩=
  let c2:AV:=int .u64 (0:Int);let c1:AV:=int .i64 (↑(nl V):Int);some (ag.leaf aq.normal ([own 8 1 0 lq,int .i64 (↑s:Int),own 7 1 0 lu,mag V,c1,int .i64 (↑j:Int),int .u64 (↑x:Int),c2,c2,mag V,c1,int .i64 (0:Int)],[(7,au.mk true true 1 lu fun a=>int .u32 (↑(u a):Int)),(8,au.mk true true 1 lq fun a=>int .u32 (↑(q a):Int))])):=ah
theorem div_mul {lq s lu V j x b c i:Nat} {q u:Nat->Nat}:aH T GD [157] 60 (dr++[15,17,18,154,155,156]) [part uq [1,0,1,0,0]] ⟨aA (dr++[15,17,18,154,155,156]) (fL lq s lu V (j:Nat)++[.int .u64 x,.int .u64 b,.int .u64 c,.mag V,.int .i64 (nl V),.int .i64 i]),cX lq lu q u,9⟩=
  let c14:AV:=int .i64 (↑j:Int);let c13:Int:=(↑(nl V):Int);let c12:AV:=int .u64 (↑x:Int);let c11:AV:=int .i64 (↑s:Int);let c9:AV:=own 7 1 0 lu;let c8:AV:=own 8 1 0 lq;let c7:Int:=(↑i:Int);let c5:Nat×au:=(8,au.mk true true 1 lq fun a=>int .u32 (↑(q a):Int));let c4:AV:=int .i64 c13;let c3:Int:=u64.wrap ((↑c:Int)+u64.wrap ((↑x:Int)*u64.wrap (↑(aD V c7.toNat):Int)));let c2:Int:=i64.wrap (c7+(↑j:Int));let c6:Nat:=c2.toNat+0;let c10:List Prop:=[(0:Int)<=c2/\c2.toNat<lu,c6<lu];let c1:Int:=u64.wrap (u64.wrap (u64.wrap (↑(u c6):Int)-u64.wrap (↑(BitVec.ofInt u64.bits c3&&&BitVec.ofInt u64.bits (4294967295:Int)).toNat:Int))-(↑b:Int));some (ag.fork (decide (c7<c13)) (ag.aj [(0:Int)<=c7/\c7.toNat<nl V] (ag.aj c10 (ag.aj c10 (ag.aj [(0:Int)<=63] (ag.aj [(0:Int)<=32] (ag.leaf aq.normal ([c8,c11,c9,mag V,c4,c14,c12,int .u64 (c1.fdiv ((2:Int)^min (Int.toNat (63:Int)) u64.bits)),int .u64 (c3.fdiv ((2:Int)^min (Int.toNat (32:Int)) u64.bits)),mag V,c4,int .i64 (i64.wrap (c7+1))],[(7,au.mk true true 1 lu fun j=>if(j==c6)=true then int .u32 (u32.wrap c1)else aB u j),c5]))))))) (ag.leaf (aq.exit 5) ([c8,c11,c9,mag V,c4,c14,c12,int .u64 (↑b:Int),int .u64 (↑c:Int),mag V,c4,int .i64 c7],[(7,au.mk true true 1 lu fun a=>int .u32 (↑(u a):Int)),c5]))):=ah
theorem abG {lq s lu V j x b c:Nat} {q u:Nat->Nat}:aH T GD [] 60 (dr++[15,211]) (before Cz [1,1,0,1]) ⟨aA (dr++[15,17,18]) (fL lq s lu V (j:Nat)++[.int .u64 x,.int .u64 b,.int .u64 c]),cX lq lu q u,9⟩=
  let c1:Int:=i64.wrap ((↑j:Int)+(↑(nl V):Int));let c3:Nat:=c1.toNat+0;let c4:List Prop:=[(0:Int)<=c1/\c1.toNat<lu,c3<lu];let c2:Int:=u64.wrap (u64.wrap (u64.wrap (↑(u c3):Int)-(↑c:Int))-(↑b:Int));some (ag.aj c4 (ag.aj c4 (ag.aj [(0:Int)<=63] (ag.leaf aq.normal ([own 8 1 0 lq,int .i64 (↑s:Int),own 7 1 0 lu,mag V,int .i64 (↑(nl V):Int),int .i64 (↑j:Int),int .u64 (↑x:Int),AV.bool (c2.fdiv ((2:Int)^min (Int.toNat (63:Int)) u64.bits)!=0)],[(7,au.mk true true 1 lu fun j=>if(j==c3)=true then int .u32 (u32.wrap c2)else aB u j),(8,au.mk true true 1 lq fun a=>int .u32 (↑(q a):Int))]))))):=ah
theorem ahk {lq s lu V j x:Nat} {q u:Nat->Nat}:aH T GD [] 60 (dr++[15,18,214,215,216]) (before sI [1,1,0,1]) ⟨aA (dr++[15]) (fL lq s lu V (j:Nat)++[.int .u64 x]),cX lq lu q u,9⟩=
  let c1:AV:=int .i64 (↑(nl V):Int);some (ag.leaf aq.normal ([own 8 1 0 lq,int .i64 (↑s:Int),own 7 1 0 lu,mag V,c1,int .i64 (↑j:Int),int .u64 (u64.wrap ((↑x:Int)-1)),int .u64 (0:Int),mag V,c1,int .i64 (0:Int)],[(7,au.mk true true 1 lu fun a=>int .u32 (↑(u a):Int)),(8,au.mk true true 1 lq fun a=>int .u32 (↑(q a):Int))])):=ah
theorem div_add {lq s lu V j x c i:Nat} {q u:Nat->Nat}:aH T GD [217] 60 (dr++[15,18,214,215,216]) [part sI [1,1,0,1,0,0]] ⟨aA (dr++[15,18,214,215,216]) (fL lq s lu V (j:Nat)++[.int .u64 x,.int .u64 c,.mag V,.int .i64 (nl V),.int .i64 i]),cX lq lu q u,9⟩=
  let c13:AV:=int .i64 (↑s:Int);let c12:AV:=int .i64 (↑j:Int);let c11:Int:=(↑(nl V):Int);let c10:AV:=int .u64 (↑x:Int);let c8:AV:=own 8 1 0 lq;let c7:AV:=own 7 1 0 lu;let c6:Int:=(↑i:Int);let c4:Nat×au:=(8,au.mk true true 1 lq fun a=>int .u32 (↑(q a):Int));let c3:AV:=int .i64 c11;let c1:Int:=i64.wrap (c6+(↑j:Int));let c5:Nat:=c1.toNat+0;let c9:List Prop:=[(0:Int)<=c1/\c1.toNat<lu,c5<lu];let c2:Int:=u64.wrap ((↑c:Int)+u64.wrap (u64.wrap (↑(u c5):Int)+u64.wrap (↑(aD V c6.toNat):Int)));some (ag.fork (decide (c6<c11)) (ag.aj [(0:Int)<=c6/\c6.toNat<nl V] (ag.aj c9 (ag.aj c9 (ag.aj [(0:Int)<=32] (ag.leaf aq.normal ([c8,c13,c7,mag V,c3,c12,c10,int .u64 (c2.fdiv ((2:Int)^min (Int.toNat (32:Int)) u64.bits)),mag V,c3,int .i64 (i64.wrap (c6+1))],[(7,au.mk true true 1 lu fun j=>if(j==c5)=true then int .u32 (u32.wrap c2)else aB u j),c4])))))) (ag.leaf (aq.exit 7) ([c8,c13,c7,mag V,c3,c12,c10,int .u64 (↑c:Int),mag V,c3,int .i64 c6],[(7,au.mk true true 1 lu fun a=>int .u32 (↑(u a):Int)),c4]))):=ah
theorem SZ {lq s lu V j x c:Nat} {q u:Nat->Nat}:aH T GD [] 60 (dr++[15]) (behind sI [1,1,0,1]) ⟨aA (dr++[15,18]) (fL lq s lu V (j:Nat)++[.int .u64 x,.int .u64 c]),cX lq lu q u,9⟩=
  let c1:Int:=i64.wrap ((↑j:Int)+(↑(nl V):Int));let c3:Prop:=(0:Int)<=c1/\c1.toNat<lu;let c2:Nat:=c1.toNat+0;some (ag.aj [c3,c2<lu,c3,c2<lu] (ag.leaf aq.normal ([own 8 1 0 lq,int .i64 (↑s:Int),own 7 1 0 lu,mag V,int .i64 (↑(nl V):Int),int .i64 (↑j:Int),int .u64 (↑x:Int)],[(7,au.mk true true 1 lu fun j=>if(j==c2)=true then int .u32 (u32.wrap ((↑(u c2):Int)+u32.wrap (↑c:Int)))else aB u j),(8,au.mk true true 1 lq fun a=>int .u32 (↑(q a):Int))]))):=ah
theorem adl {lq s lu V j x:Nat} {q u:Nat->Nat}:aH T GD [] 60 dr (behind Cz [1,1,0,1]) ⟨aA (dr++[15]) (fL lq s lu V (j:Nat)++[.int .u64 x]),cX lq lu q u,9⟩=
  let c2:Int:=(↑j:Int);let c1:Nat:=c2.toNat+0;some (ag.aj [(0:Int)<=c2/\c2.toNat<lq,c1<lq] (ag.leaf aq.normal ([own 8 1 0 lq,int .i64 (↑s:Int),own 7 1 0 lu,mag V,int .i64 (↑(nl V):Int),int .i64 c2],[(7,au.mk true true 1 lu fun a=>int .u32 (↑(u a):Int)),(8,au.mk true true 1 lq fun j=>if(j==c1)=true then int .u32 (u32.wrap (↑x:Int))else aB q j)]))):=ah
theorem agR {lq s lu V j:Nat} {q u:Nat->Nat}:aH T GD [] 60 dr [part yY [1,1]] ⟨aA dr (fL lq s lu V (j:Nat)),cX lq lu q u,9⟩=
  some (ag.leaf aq.normal ([own 8 1 0 lq,int .i64 (↑s:Int),own 7 1 0 lu,mag V,int .i64 (↑(nl V):Int),int .i64 (i64.wrap ((↑j:Int)-1))],[(7,au.mk true true 1 lu fun a=>int .u32 (↑(u a):Int)),(8,au.mk true true 1 lq fun a=>int .u32 (↑(q a):Int))])):=ah
theorem aiA {lq s lu V:Nat} {q u:Nat->Nat}:aH T GT [] 60 [4,5,9,261,262] (before mO [1,0,1]) ⟨aA dr (fL lq s lu V (-1)),cX lq lu q u,9⟩=
  let c1:Nat:=nl (val lu fun i=>numOf (aB u i));some (ag.aj [eG lu (aB u),lu=lu,lu<2^62] (ag.leaf aq.normal ([own 8 1 0 lq,own 7 1 0 c1,int .i64 (↑s:Int),int .i64 (↑c1:Int),int .i64 (0:Int)],[(7,au.mk true true 1 lu fun a=>int .u32 (↑(u a):Int)),(8,au.mk true true 1 lq fun a=>int .u32 (↑(q a):Int))]))):=ah
theorem aiu {lq s lu l i:Nat} {q u:Nat->Nat}:aH T GT [263] 60 [4,5,9,261,262] (before (part mO [1,0,1,0,0]) [1,1,0]) ⟨aA [4,5,9,261,262] [.own 8 1 0 lq,.own 7 1 0 l,.int .i64 s,.int .i64 l,.int .i64 i],cX lq lu q u,9⟩=
  let c1:List AV×aC:=([own 8 1 0 lq,own 7 1 0 l,int .i64 (↑s:Int),int .i64 (↑l:Int),int .i64 (↑i:Int)],[(7,au.mk true true 1 lu fun a=>int .u32 (↑(u a):Int)),(8,au.mk true true 1 lq fun a=>int .u32 (↑(q a):Int))]);some (ag.fork (decide ((↑i:Int)<(↑l:Int))) (ag.leaf aq.normal c1) (ag.leaf (aq.exit 9) c1)):=ah
theorem aaX {lq s lu l i:Nat} {q u:Nat->Nat}:aH T GT [] 60 [4,5,9,25,261,262] (before (part mO [1,0,1,0,0,1,1,0,0]) [1,1]) ⟨aA [4,5,9,261,262] [.own 8 1 0 lq,.own 7 1 0 l,.int .i64 s,.int .i64 l,.int .i64 i],cX lq lu q u,9⟩=
  let c2:Int:=(↑i:Int);let c3:Prop:=(0:Int)<=c2/\c2.toNat<l;let c1:Nat:=c2.toNat+0;some (ag.aj [c3,c1<lu,(0:Int)<=(↑s:Int),c3,c1<lu] (ag.leaf aq.normal ([own 8 1 0 lq,own 7 1 0 l,int .i64 (↑s:Int),int .i64 c2,int .i64 (↑l:Int),int .i64 c2],[(7,au.mk true true 1 lu fun j=>if(j==c1)=true then int .u32 ((↑(u c1):Int).fdiv ((2:Int)^min (↑s:Int).toNat u32.bits))else aB u j),(8,au.mk true true 1 lq fun a=>int .u32 (↑(q a):Int))]))):=ah
theorem Z5 {lq s lu l i:Nat} {q u:Nat->Nat}:aH T GT [274,280] 60 [4,5,9,261,262] [part mO [1,0,1,0,0,1,1,0,0,1,1]] ⟨aA [4,5,9,25,261,262] [.own 8 1 0 lq,.own 7 1 0 l,.int .i64 s,.int .i64 i,.int .i64 l,.int .i64 i],cX lq lu q u,9⟩=
  let c8:Int:=(↑i:Int);let c7:Int:=(↑s:Int);let c6:Nat×au:=(8,au.mk true true 1 lq fun a=>int .u32 (↑(q a):Int));let c11:Prop:=(0:Int)<=c8/\c8.toNat<l;let c10:Int:=i64.wrap ((32:Int)-c7);let c9:Bool:=decide (c7>0);let c5:Nat:=c8.toNat+0;let c4:List AV:=[own 8 1 0 lq,own 7 1 0 l,int .i64 c7,int .i64 (↑l:Int),int .i64 c8];let c3:Int:=i64.wrap (c8+1);let c2:ag (List AV×aC):=ag.leaf aq.normal (c4,[(7,au.mk true true 1 lu fun a=>int .u32 (↑(u a):Int)),c6]);let c1:ag (List AV×aC):=ag.aj [c11,c5<lu,(0:Int)<=c3/\c3.toNat<l,c3.toNat+0<lu,(0:Int)<=c10,c11,c5<lu] (ag.leaf aq.normal (c4,[(7,au.mk true true 1 lu fun j=>if(j==c5)=true then int .u32 (u32.wrap (↑(BitVec.ofInt u32.bits (↑(u c5):Int)|||BitVec.ofInt u32.bits (u32.wrap ((↑(u (c3.toNat+0)):Int)*2^min c10.toNat u32.bits))).toNat:Int))else aB u j),c6]));some (ag.fork c9 (ag.aj [c9=true] (ag.fork (bif true then decide (c3<(↑l:Int))else false) c1 c2)) (ag.aj [c9=false] (ag.fork false c1 c2))):=ah
theorem Ry {lq s lu l i:Nat} {q u:Nat->Nat}:aH T GT [] 60 [4,5,9,261,262] (behind (part mO [1,0,1,0,0]) [1,1,0]) ⟨aA [4,5,9,261,262] [.own 8 1 0 lq,.own 7 1 0 l,.int .i64 s,.int .i64 l,.int .i64 i],cX lq lu q u,9⟩=
  some (ag.leaf aq.normal ([own 8 1 0 lq,own 7 1 0 l,int .i64 (↑s:Int),int .i64 (↑l:Int),int .i64 (i64.wrap ((↑i:Int)+1))],[(7,au.mk true true 1 lu fun a=>int .u32 (↑(u a):Int)),(8,au.mk true true 1 lq fun a=>int .u32 (↑(q a):Int))])):=ah
theorem Uu {lq s lu l i:Nat} {q u:Nat->Nat}:cy T G1 [] 60 f202 (behind mO [1,0,1]) ⟨aA [4,5,9,261,262] [.own 8 1 0 lq,.own 7 1 0 l,.int .i64 s,.int .i64 l,.int .i64 i],cX lq lu q u,9⟩=
  some (ag.aj [eG lq fun i=>aB q (i+0),lq<2^62,eG l fun i=>aB u (i+0),l<2^62] (ag.leaf aq.ret [mag (val lq fun i=>numOf (aB q (i+0))),mag (val l fun i=>numOf (aB u (i+0))),int .i64 (0:Int)])):=ah
theorem val_add {z:Nat->Nat} {a:Nat}:∀{b:Nat},val (a+b) z=val a z+val b (fun i=>z (a+i))*2^(32*a)
 |0=>by simp[val]
 |b+1=>by
  rw[<-Nat.add_assoc,val,val_add (b:=b),val,Nat.add_mul,Nat.mul_assoc,<-Nat.pow_add,Nat.add_assoc]
  congr 3
  congr 1
  omega
theorem val_zero {z:Nat->Nat} {n:Nat} (h:∀i,i<n->z i=0):val n z=0:=by
 rw[nR (k:=0) aa fun i _ hi=>h i hi];rfl
theorem adw {z:Nat->Nat} {n:Nat} (h:val (n+1) z<2^(32*n)):z n=0:=by
 rw[val]at h
 rcases Nat.eq_zero_or_pos (z n)with h1|h1
 ·exact h1
 ·have:1*2^(32*n)<=z n*2^(32*n):=Nat.mul_le_mul_right _ h1
  omega
section knuth
variable {B P V W Vl Wl v1 v2 u3 top qt x rest:Nat}
theorem abS (hP:0<P) (hB:0<B) (hV:V=(v1*B+v2)*P+Vl) (hW:W=(top*B+u3)*P+Wl) (h3:u3<B) (hl:Wl<P) (hv:0<v1) (hq:qt*V<=W):qt<=top/v1:=by
 rw[Nat.le_div_iff_mul_le hv]
 have h1:qt*v1*(B*P)<=W:=by
  refine Nat.le_trans ?_ hq
  rw[hV,Nat.mul_assoc]
  refine Nat.mul_le_mul_left _ ?_
  rw[<-Nat.mul_assoc]
  have:=Nat.mul_le_mul_right P (show v1*B<=v1*B+v2 by omega)
  omega
 have h2:W<(top+1)*(B*P):=by
  rw[hW,<-Nat.mul_assoc,Nat.add_mul top 1 B,Nat.one_mul]
  have:=Nat.mul_le_mul_right P (show top*B+u3+1<=top*B+B by omega)
  rw[Nat.add_mul _ 1,Nat.one_mul]at this
  omega
 have h3:=Nat.lt_of_mul_lt_mul_right (Nat.lt_of_le_of_lt h1 h2)
 omega
theorem Vf (hV:V=(v1*B+v2)*P+Vl) (hW:W=(top*B+u3)*P+Wl) (hl:Wl<P) (ht:x*v1+rest=top) (hq:qt*V<=W) (h:rest*B+u3<x*v2):qt<x:=by
 have h1:W<x*V:=by
  have e1:(top*B+u3+1)*P<=(x*(v1*B+v2))*P:=by
   refine Nat.mul_le_mul_right _ ?_
   rw[<-ht,Nat.add_mul,Nat.mul_add,Nat.mul_assoc]
   omega
  have e2:(x*(v1*B+v2))*P<=x*V:=by
   rw[hV,Nat.mul_assoc]
   exact Nat.mul_le_mul_left _ aa
  rw[Nat.add_mul _ 1,Nat.one_mul]at e1
  omega
 exact Nat.lt_of_mul_lt_mul_right (Nat.lt_of_le_of_lt hq h1)
theorem ahP (hq:qt*V<=W) (h:W<V*B):qt<B:=by
 rw[Nat.mul_comm V]at h
 exact Nat.lt_of_mul_lt_mul_right (Nat.lt_of_le_of_lt hq h)
theorem ai0 (hP:0<P) (hB:0<B) (hV:V=(v1*B+v2)*P+Vl) (hW:W=(top*B+u3)*P+Wl) (h2:v2<B) (hl:Vl<P) (h:W<V*B):top<(v1+1)*B:=by
 have e1:V<=(v1+1)*(B*P):=by
  rw[hV,<-Nat.mul_assoc,Nat.add_mul v1 1 B,Nat.one_mul]
  have:=Nat.mul_le_mul_right P (show v1*B+v2+1<=v1*B+B by omega)
  rw[Nat.add_mul _ 1,Nat.one_mul]at this
  omega
 have e2:top*(B*P)<=W:=by
  rw[hW,<-Nat.mul_assoc]
  have:=Nat.mul_le_mul_right P (show top*B<=top*B+u3 by omega)
  omega
 have e3:top*(B*P)<(v1+1)*B*(B*P):=by
  have:=Nat.mul_le_mul_right B e1
  rw[show(v1+1)*(B*P)*B=(v1+1)*B*(B*P) by rw[Nat.mul_assoc,Nat.mul_comm (B*P),<-Nat.mul_assoc]]at this
  omega
 exact Nat.lt_of_mul_lt_mul_right e3
theorem ad4 (ht:x*v1+rest=top) (h:top<(v1+1)*B) (hr:B<=rest):x<B:=by
 rw[Nat.add_mul,Nat.one_mul]at h
 have:x*v1<B*v1:=by rw[Nat.mul_comm B];omega
 exact Nat.lt_of_mul_lt_mul_right this
theorem TS (hP:0<P) (hV:V=(v1*B+v2)*P+Vl) (hW:W=(top*B+u3)*P+Wl) (hv:0<v1) (hl:Vl<P) (hx:x<B) (ht:x*v1+rest=top) (h:x*v2<=rest*B+u3):x*V<W+V:=by
 have e1:x*(v1*B+v2)*P<=(top*B+u3)*P:=by
  refine Nat.mul_le_mul_right _ ?_
  rw[<-ht,Nat.add_mul,Nat.mul_add,Nat.mul_assoc]
  omega
 have e2:x*Vl<=x*P:=Nat.mul_le_mul_left _ aa
 have e3:x*P<B*P:=(Nat.mul_lt_mul_right hP).2 hx
 have e4:B*P<=V:=by
  rw[hV]
  have:1*B<=v1*B:=Nat.mul_le_mul_right _ hv
  have:=Nat.mul_le_mul_right P (show B<=v1*B+v2 by omega)
  omega
 have e5:x*V=x*(v1*B+v2)*P+x*Vl:=by rw[hV,Nat.mul_add,Nat.mul_assoc]
 omega
end knuth
theorem wA {R s k:Nat} (hs:s<32):aD (R/2^s) k=aD R k/2^s+aD R (k+1)%2^s*2^(32-s):=by
 unfold aD
 have hB:2^32=2^s*2^(32-s):=by rw[<-Nat.pow_add];congr 1;omega
 rw[Nat.div_div_eq_div_mul,Nat.mul_comm (2^s),<-Nat.div_div_eq_div_mul]
 have e:R/2^(32*(k+1))=R/2^(32*k)/2^32:=by rw[Nat.div_div_eq_div_mul,<-Nat.pow_add];congr 2
 rw[e]
 generalize R/2^(32*k)=X
 have hp:=Nat.two_pow_pos s
 have hp2:=Nat.two_pow_pos (32-s)
 have e1:X/2^32%2^32%2^s=X/2^32%2^s:=by
  rw[hB,Nat.mod_mul_right_mod]
 rw[e1]
 have e2:X=X%2^32+2^32*(X/2^32):=(Nat.mod_add_div X (2^32)).symm
 have e3:X/2^s=X%2^32/2^s+X/2^32*2^(32-s):=by
  have:X/2^s=(X%2^32+2^s*(2^(32-s)*(X/2^32)))/2^s:=by
   rw[<-Nat.mul_assoc,<-hB,<-e2]
  rw[this,Nat.add_mul_div_left _ _ hp,Nat.mul_comm (2^(32-s))]
 rw[e3]
 have h1:X%2^32/2^s<2^(32-s):=by
  rw[Nat.div_lt_iff_lt_mul hp,Nat.mul_comm,<-hB]
  exact Nat.mod_lt _ (Nat.two_pow_pos _)
 generalize X%2^32/2^s=a at*
 generalize X/2^32=b at*
 have h2:b%2^s*2^(32-s)+2^(32-s)<=2^32:=by
  rw[hB,<-Nat.succ_mul]
  exact Nat.mul_le_mul_right _ (Nat.mod_lt _ hp)
 have e4:b*2^(32-s)=b%2^s*2^(32-s)+2^32*(b/2^s):=by
  rw[hB,Nat.mul_assoc,Nat.mul_comm (2^(32-s)),<-Nat.mul_assoc,<-Nat.add_mul,Nat.mod_add_div]
 rw[e4,<-Nat.add_assoc,Nat.add_mul_mod_self_left]
 exact Nat.mod_eq_of_lt aa
theorem vv {a b:Nat} (ha:a<4294967296) (hb:b<4294967296):
  IntKind.u64.wrap ((BitVec.ofInt IntKind.u64.bits (IntKind.u64.wrap ((a:Int)*2^min (Int.toNat 32) IntKind.u64.bits))|||BitVec.ofInt IntKind.u64.bits (IntKind.u64.wrap (b:Int))).toNat:Int)=((a*4294967296+b:Nat):Int):=by
 have e1:IntKind.u64.wrap ((a:Int)*2^min (Int.toNat 32) IntKind.u64.bits)=((a*4294967296:Nat):Int):=by
  rw[wH,cr aa aa];omega
 have e2:IntKind.u64.wrap (b:Int)=((b:Nat):Int):=cr aa aa
 rw[e1,e2,vO aa aa]
 congr 1
 exact r8 (a:=a) (b:=b) (i:=32) hb
theorem U2 {c:Nat} (hc:c<2^64):IntKind.u64.wrap ((BitVec.ofInt IntKind.u64.bits (c:Int)&&&BitVec.ofInt IntKind.u64.bits 4294967295).toNat:Int)=((c%4294967296:Nat):Int):=by
 have:=QS (a:=c) (b:=4294967295) hc (by decide)
 rw[show((4294967295:Nat):Int)=4294967295 from rfl]at this
 rw[this]
 congr 1
 exact Nat.and_two_pow_sub_one_eq_mod c 32
theorem Nq {u c b:Nat} (hu:u<4294967296) (hc:c<4294967296) (hb:b<=1):
  (IntKind.u64.wrap (IntKind.u64.wrap (IntKind.u64.wrap (u:Int)-(c:Int))-(b:Int))).fdiv (2^min (Int.toNat 63) IntKind.u64.bits)=((if c+b<=u then 0 else 1:Nat):Int)/\
   IntKind.u32.wrap (IntKind.u64.wrap (IntKind.u64.wrap (IntKind.u64.wrap (u:Int)-(c:Int))-(b:Int)))=(((u+4294967296-c-b)%4294967296:Nat):Int):=by
 rw[CY,pA,pA,pA,mI]
 constructor
 ·split<;>omega
 ·omega
theorem acf {c x y:Nat} (hc:c<4294967296) (hx:x<4294967296) (hy:y<4294967296):
  IntKind.u64.wrap ((c:Int)+IntKind.u64.wrap ((x:Int)*IntKind.u64.wrap (y:Int)))=((c+x*y:Nat):Int)/\c+x*y<2^64/\(c+x*y)/4294967296<4294967296:=by
 have h1:x*y<=(2^32-1)*(2^32-1):=Nat.mul_le_mul aa aa
 have e:(x:Int)*(y:Int)=((x*y:Nat):Int):=by simp
 rw[cr (x:=(y:Int)) aa aa,e]
 generalize x*y=p at*
 refine⟨?_,aa,aa⟩
 rw[cr (x:=(p:Int)) aa aa,cr aa aa]
 omega
theorem Um {vn vo vV x yi ui b c B b':Nat} (hc:(c+x*yi)%4294967296<=4294967295) (hb:b<=1) (hu:ui<4294967296) (hb':b'=if(c+x*yi)%4294967296+b<=ui then 0 else 1) (h:vn+x*vV=vo+(c+b)*B):
  vn+(ui+4294967296-(c+x*yi)%4294967296-b)%4294967296*B+x*(vV+yi*B)=vo+ui*B+((c+x*yi)/4294967296+b')*(4294967296*B):=by
 have h1:=Nat.div_add_mod (c+x*yi) 4294967296
 generalize (c+x*yi)/4294967296=h at*
 generalize hr:(c+x*yi)%4294967296=r at*
 have e:(ui+4294967296-r-b)%4294967296+r+b=ui+4294967296*b':=by
  subst hb'
  split<;>omega
 generalize (ui+4294967296-r-b)%4294967296=un at*
 have e2:(un+r+b)*B=(ui+4294967296*b')*B:=by rw[e]
 have e3:(4294967296*h+r)*B=(c+x*yi)*B:=by rw[h1]
 grind
end Go.Am.B
