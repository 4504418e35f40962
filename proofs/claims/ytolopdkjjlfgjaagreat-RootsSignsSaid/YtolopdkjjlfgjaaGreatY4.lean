/- natural.trim. -/
import Derived.Test.YtolopdkjjlfgjaaGreatZ2
import Derived.Test.YtolopdkjjlfgjaaGreatNames
set_option linter.unusedVariables false
noncomputable section
namespace Go.Am.B
open Go Go.Am.N AV Proofs.Tryz IntKind
theorem Pb:bu 160 f160:=bC func160
theorem aid {n:Nat} {z:Nat->Nat}:aL T [] [] 30 [0,3] (before (aK f160) [1,1,0]) ⟨aZ 0 [.aq 1 n (aF z)],[],0⟩=
  some (ag.leaf au.normal ([AV.aq 1 n (aF z),AV.int .i64 (n:Int)],[])):=ah
theorem adE {n k:Nat} {z:Nat->Nat}:aL T [] [8,15] 30 [0,3] [part (aK f160) [1,1,0,0,0]] ⟨[(0,.aq 1 n (aF z)),(3,.int .i64 k)],[],0⟩=
  some
 (ag.fork (decide ((k:Int)>0))
  (ag.aj
   [decide ((k:Int)>0)=true,
    0<=i64.wrap ((k:Int)-1)/\(i64.wrap ((k:Int)-1)).toNat<n]
   (ag.fork (bif true then((z (i64.wrap ((k:Int)-1)).toNat):Int)==0 else false)
    (ag.leaf au.normal ([AV.aq 1 n (aF z),AV.int .i64 (i64.wrap ((k:Int)-1))],[]))
    (ag.leaf (au.exit 0) ([AV.aq 1 n (aF z),AV.int .i64 (k:Int)],[]))))
  (ag.aj [decide ((k:Int)>0)=false]
   (ag.fork false (ag.leaf au.normal ([AV.aq 1 n (aF z),AV.int .i64 (i64.wrap ((k:Int)-1))],[]))
    (ag.leaf (au.exit 0) ([AV.aq 1 n (aF z),AV.int .i64 (k:Int)],[]))))):=ah
theorem aan {n k:Nat} {z:Nat->Nat}:dc T [] [] 30 f160 (behind (aK f160) [1,1,0]) ⟨[(0,.aq 1 n (aF z)),(3,.int .i64 k)],[],0⟩=
  some
 (ag.aj [(0:Int)<=0/\0<=(k:Int)/\(k:Int)<=(k:Int)/\(k:Int)<=(n:Int)]
  (ag.leaf au.ret [AV.aq 1 ((k:Int).toNat-Int.toNat 0) fun i=>aF z (i+Int.toNat 0)])):=ah
theorem Tq {n:Nat} {z:Nat->Nat} (K:Nat) (pre:aI):aW P 160 K [.aq 1 n (aF z)] pre ⟨.mag (val n z),[],[n<2^62,∀i,i<n->z i<2^32]⟩:=by
 refine lP hT Pb rfl bh rfl (fun need c h0=>?_) K pre
 obtain⟨hn,hz⟩:n<2^62/\∀i,i<n->z i<2^32:=need
 refine az.hole [1,1,0] ah (aJ.bU hT cJ hm 30 [0,3] aid ah fun s' hv=>?_)
 refine az.jK (i:=0) (y:=part (aK f160) [1,1,0,0,0]) ah (fun k:Nat=>⟨aH [0,3] [.aq 1 n (aF z),.int .i64 k],[],0⟩) (fun k=>k<=n/\∀i,k<=i->i<n->z i=0) id n
  (fe [] hv h0 rfl ⟨aY,aY,trivial⟩ trivial) ⟨aX,fun i h1 h2=>aa⟩ ?_
 rintro k ⟨hk,hzk⟩
 refine az.bU hT cJ hm 30 [0,3] adE ah ?_
 have fin:(k=0\/z (k-1)≠0)->∀s',bJ [0,3] s'=some ([.aq 1 n (aF z),.int .i64 k],[])->aJ P c f160.ntmps (behind (aK f160) [1,1,0]) s' (Fin T f160 (.mag (val n z))):=by
  intro hk0 s' hv
  refine aJ.weak ah (fe (vs:=[.aq 1 n (aF z),.int .i64 k]) (ps:=[]) (nx:=0) [] hv h0 rfl ⟨aY,aY,trivial⟩ trivial)
   (aJ.fin hT cJ hm 30 aan ah ⟨⟨aa,aa,aa,aa⟩,?_⟩)
  have e:val n z=val k z:=pX hk hzk
  refine l9 (by rw[e,CB (fun i hi=>hz i aa) hk0];simp) fun i hi=>?_
  have hi':i<k:=by simpa using hi
  rw[e,ri (fun j hj=>hz j aa) hi']
  rfl
 have hw:0<k->i64.wrap ((k:Int)-1)=((k-1:Nat):Int):=fun h=>by rw[wrap_i64 aa aa];omega
 refine⟨fun hb=>?_,fun hb=>?_⟩
 ·have h1:0<k:=by simpa using hb
  rw[hw h1]
  refine⟨⟨hb,aa,by simp;omega⟩,fun hc s' hv=>?_,fun hc s' hv=>?_⟩
  ·refine⟨k-1,fe [] hv h0 rfl ⟨aY,aY,trivial⟩ trivial,⟨aa,fun i h1 h2=>?_⟩,by simp;omega⟩
   by_cases hi:i=k-1
   ·subst hi;simpa using hc
   ·exact hzk i aa h2
  ·exact fin (.inr (by simpa using hc)) s' hv
 ·have h1:k=0:=by simpa using hb
  refine⟨hb,fun hc=>by simp at hc,fun hc s' hv=>fin (.inl h1) s' hv⟩
def YK (N n:Nat):eU:=aO (.mag N) [n<2^62]
def G1:bE:=[(160,cD (ni YK))]
theorem jr:bY P G1:=aM (cZ (xR fun z n K hz need=>fun _=>Tq K [] ⟨need,hz⟩)) cJ
theorem ada:bu 169 f169:=bC func169
theorem ahq {n m:Nat} {z y:Nat->Nat}:aL T G1 [13] 30 [0,1,5,6,20,21,22] (before (aK f169) [1,1,1,1,0,1]) ⟨aZ 0 [.aq 1 n (aF z),.aq 1 m (aF y)],[],0⟩=
  let d:=(↑m:Int);let i:=(↑n:Int);let l:=int .i64 (0:Int);let k:=int .u64 (0:Int);let j:=int .u32 (0:Int);let f:=(2:Int)^47;let h:=aq 1 n fun a=>int .u32 (↑(z a):Int);let g:=aq 1 m fun a=>int .u32 (↑(y a):Int);let e:=i64.wrap (d+1);let b:=i64.wrap (i+1);some (ag.fork (decide (i<d)) (ag.aj [(0:Int)<=e/\e<=e/\e<=f/\e*(↑(4:Nat):Int)<=f] (ag.leaf au.normal ([g,h,own 53248 1 0 e.toNat,k,g,int .i64 d,l],[(53248,aA.mk true true 1 e.toNat fun x=>j)]))) (ag.aj [(0:Int)<=b/\b<=b/\b<=f/\b*(↑(4:Nat):Int)<=f] (ag.leaf au.normal ([h,g,own 36864 1 0 b.toNat,k,h,int .i64 i,l],[(36864,aA.mk true true 1 b.toNat fun x=>j)])))):=ah
abbrev B8:List Nat:=[1,1,1,1,0,1]
abbrev uq:List Nat:=[0,1,5,6,20,21,22]
theorem afg {n m i c:Nat} {z y o:Nat->Nat}:aL T G1 [23,34] 30 [0,1,5,6,20,21,22] [part (aK f169) [1,1,1,1,0,1,0,0]] ⟨aH [0,1,5,6,20,21,22] [.aq 1 n (aF z),.aq 1 m (aF y),.own 7 1 0 (n+1),.int .u64 c,.aq 1 n (aF z),.int .i64 n,.int .i64 i],[(7,⟨true,true,1,n+1,aF o⟩)],8⟩=
  let h:=int .i64 (↑n:Int);let g:=(2:Int)^min (Int.toNat (32:Int)) u64.bits;let e:=n+1;let p:=aq 1 m fun a=>int .u32 (↑(y a):Int);let b:=(↑i:Int);let f:=aq 1 n fun a=>int .u32 (↑(z a):Int);let d:=(0:Int)<=b;let s:=[f,h,int .i64 (i64.wrap (b+1))];let r:=b.toNat+0;let q:=own 7 1 0 e;let l:=u64.wrap ((↑c:Int)+u64.wrap (↑(z b.toNat):Int));let k:=[d/\b.toNat<e,r<e];let t:=u64.wrap (l+u64.wrap (↑(y b.toNat):Int));some (ag.fork (decide (b<(↑n:Int))) (ag.aj [d/\b.toNat<n] (ag.fork (decide (b<(↑m:Int))) (ag.aj [d/\b.toNat<m] (ag.aj k (ag.aj [(0:Int)<=32] (ag.leaf au.normal (f::p::q::int .u64 (t.fdiv g)::s,[(7,aA.mk true true 1 e fun j=>if(j==r)=true then int .u32 (u32.wrap t)else aF o j)]))))) (ag.aj k (ag.aj [(0:Int)<=32] (ag.leaf au.normal (f::p::q::int .u64 (l.fdiv g)::s,[(7,aA.mk true true 1 e fun j=>if(j==r)=true then int .u32 (u32.wrap l)else aF o j)])))))) (ag.leaf (au.exit 0) ([f,p,q,int .u64 (↑c:Int),f,h,int .i64 b],[(7,aA.mk true true 1 e fun a=>int .u32 (↑(o a):Int))]))):=ah
theorem akG {n m i c:Nat} {z y o:Nat->Nat}:dc T G1 [] 30 f169 (behind (aK f169) [1,1,1,1,0,1]) ⟨aH [0,1,5,6,20,21,22] [.aq 1 n (aF z),.aq 1 m (aF y),.own 7 1 0 (n+1),.int .u64 c,.aq 1 n (aF z),.int .i64 n,.int .i64 i],[(7,⟨true,true,1,n+1,aF o⟩)],8⟩=
  let a:=n+1;let d:=int .u32 (u32.wrap (↑c:Int));let b:=(↑n:Int).toNat+0;some (ag.aj [(0:Int)<=(↑n:Int)/\(↑n:Int).toNat<a,b<a] (ag.aj [fL a fun i=>if(i+0==b)=true then d else aF o (i+0),a<2^62] (ag.leaf au.ret [mag (val a fun i=>numOf (if(i+0==b)=true then d else aF o (i+0)))]))):=ah
theorem KM {i m:Nat} {y:Nat->Nat}:val (min (i+1) m) y=val (min i m) y+(if i<m then y i else 0)*2^(32*i):=by
 by_cases h:i<m
 ·rw[Nat.min_eq_left aa,Nat.min_eq_left aa,if_pos h];rfl
 ·rw[Nat.min_eq_right aa,Nat.min_eq_right aa,if_neg h];simp
theorem ahP {i c zi yi vz vy:Nat} {o o':Nat->Nat} (hv:val i o+c*2^(32*i)=vz+vy) (ho:∀j,j<i->o' j=o j) (h1:o' i=(c+zi+yi)%4294967296):
  val (i+1) o'+(c+zi+yi)/4294967296*2^(32*(i+1))=(vz+zi*2^(32*i))+(vy+yi*2^(32*i)):=by
 rw[val,val_congr ho,h1,jH]
 have:=EW (B:=2^(32*i)) (c:=c) (z:=zi) (y:=yi) rfl hv
 omega
theorem Nq {c0:Ctx} (h0:c0.k0=bQ) {n m:Nat} {z y:Nat->Nat} (hn:n<2^40) (hmn:m<=n) (hz:∀i,i<n->z i<2^32) (hy:∀i,i<m->y i<2^32) {K L:Nat} {f0:Nat->AV} {s':aP}
  (hv:bJ uq s'=some ([.aq 1 n (aF z),.aq 1 m (aF y),.own K 1 0 L,.int .u64 0,.aq 1 n (aF z),.int .i64 n,.int .i64 0],[(K,⟨true,true,1,L,f0⟩)])) (hL:L=n+1) (hf:f0=aF fun _=>0):
  az P c0 f169.ntmps (part (aK f169) B8) s' (fW (fun s''=>aJ P c0 f169.ntmps (behind (aK f169) B8) s'' (Fin T f169 (.mag (val n z+val m y)))) (Fin T f169 (.mag (val n z+val m y)))):=by
 subst hL hf
 refine az.jK (i:=0) (y:=part (aK f169) [1,1,1,1,0,1,0,0]) ah
  (fun p:Nat×Nat×(Nat->Nat)=>⟨aH uq [.aq 1 n (aF z),.aq 1 m (aF y),.own 7 1 0 (n+1),.int .u64 (p.2.1:Nat),.aq 1 n (aF z),.int .i64 n,.int .i64 (p.1:Nat)],[(7,⟨true,true,1,n+1,aF p.2.2⟩)],8⟩)
  (fun p=>p.1<=n/\p.2.1<=1/\(∀j,j<n+1->p.2.2 j<2^32)/\val p.1 p.2.2+p.2.1*2^(32*p.1)=val p.1 z+val (min p.1 m) y)
  (fun p=>n-p.1) (0,0,fun _=>0)
  (fe [(7,K)] hv h0 (by simp[jy]) ⟨aY,aY,⟨rfl,eR rfl rfl rfl⟩,aY,aY,aY,aY,trivial⟩
   ⟨⟨K,_,rfl,by simp[look],iQ rfl fun i _=>fR rfl⟩,trivial⟩)
  ⟨by simp,by simp,fun j _=>by simp,by simp[val]⟩ ?_
 rintro⟨i,c,o⟩ ⟨hi,hc,ho,hval⟩
 simp only at hi hc ho hval
 refine az.bU hT jr hm 30 uq afg ah ?_
 have key:∀{yi:Nat} {s':aP} {u v:Int} {f':Nat->AV},i<n->yi=(if i<m then y i else 0)->yi<2^32->
   bJ uq s'=some ([.aq 1 n (aF z),.aq 1 m (aF y),.own 7 1 0 (n+1),.int .u64 u,.aq 1 n (aF z),.int .i64 n,.int .i64 v],[(7,⟨true,true,1,n+1,f'⟩)])->
   u=((c+z i+yi)/4294967296:Nat)->v=(i+1:Nat)->(∀j,f' j=if j=i then .int .u32 ((c+z i+yi)%4294967296:Nat)else aF o j)->
   ∃k:Nat×Nat×(Nat->Nat),(∃ρ,Le c0 ρ s' ⟨aH uq [.aq 1 n (aF z),.aq 1 m (aF y),.own 7 1 0 (n+1),.int .u64 (k.2.1:Nat),.aq 1 n (aF z),.int .i64 n,.int .i64 (k.1:Nat)],[(7,⟨true,true,1,n+1,aF k.2.2⟩)],8⟩)/\
    (k.1<=n/\k.2.1<=1/\(∀j,j<n+1->k.2.2 j<2^32)/\val k.1 k.2.2+k.2.1*2^(32*k.1)=val k.1 z+val (min k.1 m) y)/\n-k.1<n-i:=by
  intro yi s' u v f' hin hyi hyl hv hu hv1 hf
  have hzi:=hz i hin
  refine⟨(i+1,(c+z i+yi)/4294967296,fun j=>if j=i then(c+z i+yi)%4294967296 else o j),?_,⟨by simp;omega,by simp;omega,fun j hj=>?_,?_⟩,by simp;omega⟩
  ·exact fe [(7,7)] hv h0 rfl ⟨aY,aY,⟨rfl,eR rfl rfl rfl⟩,⟨rfl,jb hu⟩,aY,aY,⟨rfl,jb hv1⟩,trivial⟩
    ⟨⟨7,_,rfl,rfl,iQ rfl fun j _=>by
     rw[hf j];simp only[aF]
     by_cases hj:j=i
     ·simp only[if_pos hj];exact fR rfl
     ·simp only[if_neg hj];exact fR rfl⟩,trivial⟩
  ·simp only
   split
   ·omega
   ·exact ho j hj
  ·simp only
   rw[KM,<-hyi]
   exact ahP hval (fun j hj=>if_neg aa) (if_pos rfl)
 have fin:i=n->∀s',bJ uq s'=some ([.aq 1 n (aF z),.aq 1 m (aF y),.own 7 1 0 (n+1),.int .u64 (c:Nat),.aq 1 n (aF z),.int .i64 n,.int .i64 (i:Nat)],[(7,⟨true,true,1,n+1,aF o⟩)])->
   aJ P c0 f169.ntmps (behind (aK f169) B8) s' (Fin T f169 (.mag (val n z+val m y))):=by
  intro hin s' hv
  subst hin
  rw[Nat.min_eq_right hmn]at hval
  have e:∀j,j<i+1->numOf (if(j+0==(i:Int).toNat+0)=true then .int .u32 (u32.wrap (c:Int))else aF o (j+0))=if j=i then c else o j:=by
   intro j hj
   have:=ho j hj
   by_cases h:j=i
   ·simp[h,numOf,lE];omega
   ·simp[h,numOf,aF]
  refine aJ.weak ah (fe (vs:=[.aq 1 i (aF z),.aq 1 m (aF y),.own 7 1 0 (i+1),.int .u64 (c:Nat),.aq 1 i (aF z),.int .i64 i,.int .i64 (i:Nat)])
    (ps:=[(7,⟨true,true,1,i+1,aF o⟩)]) (nx:=8) [(7,7)] hv h0 rfl ⟨aY,aY,⟨rfl,eR rfl rfl rfl⟩,aY,aY,aY,aY,trivial⟩
    ⟨⟨7,_,rfl,rfl,iQ rfl fun j _=>fR rfl⟩,trivial⟩)
   (aJ.fin hT jr hm 30 akG ah ?_)
  simp only[ag.all,aC]
  refine⟨⟨aa,aa⟩,⟨fun j hj=>?_,aa⟩,?_⟩
  ·have:=ho j hj
   by_cases h:j=i
   ·exact⟨c,aa,by simp[h,lE];omega⟩
   ·exact⟨o j,this,by simp[h,aF]⟩
  ·rw[val_congr e]
   refine fG (congrArg AV.mag ?_)
   rw[<-hval,val,val_congr (y:=o) fun j hj=>if_neg aa,if_pos rfl]
 simp only[ag.all,aC,bI,bR,bS,Nat.add_zero,beq_iff_eq,qn,nM,nY]
 refine⟨fun hb=>?_,fun hb s' hv=>fin aa s' hv⟩
 have h1:i<n:=aa
 have hzi:=hz i h1
 refine⟨aa,fun hb2=>?_,fun hb2=>?_⟩
 ·have h2:i<m:=aa
  have hyi:=hy i h2
  refine⟨aa,aa,aa,fun s' hv=>key (yi:=y i) h1 (by rw[if_pos h2]) hyi hv aa (by rw[wrap_i64 aa aa];omega) fun j=>?_⟩
  split
  ·congr 1;omega
  ·rfl
 ·have h2:¬i<m:=aa
  refine⟨aa,aa,fun s' hv=>key (yi:=0) h1 (by rw[if_neg h2]) aa hv aa (by rw[wrap_i64 aa aa];omega) fun j=>?_⟩
  split
  ·congr 1;omega
  ·rfl
theorem UJ {n m:Nat} {z y:Nat->Nat} (hz:∀i,i<n->z i<2^32) (hy:∀i,i<m->y i<2^32) (hn:n<2^40) (hm':m<2^40) (K:Nat) (pre:aI):
  aW P 169 K [.aq 1 n (aF z),.aq 1 m (aF y)] pre (aO (.mag (val n z+val m y)) []):=by
 refine lP hT ada rfl bh rfl (fun _ c h0=>?_) K pre
 refine az.hole B8 ah (aJ.bU hT jr hm 30 uq ahq ah ?_)
 simp only[ag.all,aC,bI,bR]
 have hw:∀k:Nat,k<2^40->i64.wrap ((k:Int)+1)=((k+1:Nat):Int):=fun k hk=>by rw[wrap_i64 aa aa];omega
 rw[hw n hn,hw m hm']
 simp only[bS]
 refine⟨fun hb=>⟨aa,fun s' hv=>?_⟩,fun hb=>⟨aa,fun s' hv=>?_⟩⟩
 ·have:=Nq (m:=n) (y:=z) (z:=y) h0 hm' aa hy hz hv rfl rfl
  rw[Nat.add_comm (val n z)];exact this
 ·exact Nq h0 hn aa hz hy hv rfl rfl
def FG (A n B m:Nat):eU:=aO (.mag (A+B)) [n<2^40,m<2^40]
theorem Ol:bp P (cD (jM FG)) 169:=
 cZ (xT fun _ _ _ _ K hz hy need=>UJ hz hy need.1 need.2 K [])
theorem abo:bu 170 f170:=bC func170
theorem abt:bu 182 f182:=bC func182
theorem Wt:bu 118 f118:=bC func118
theorem val_two {z:Nat->Nat}:val 2 z=z 0+z 1*4294967296:=by simp[val]
theorem WS {x:Nat}:cy T G1 [] 30 f170 (aK f170) ⟨aZ 0 [.int .u64 x],[],0⟩=
  let b:=int .u32 (0:Int);let a:=[int .u32 (u32.wrap (↑x:Int)),int .u32 (u32.wrap ((↑x:Int).fdiv ((2:Int)^min (Int.toNat (32:Int)) u64.bits)))];some (ag.aj [(0:Int)<=32,(2:Nat)*1<=2^24,fL 2 fun i=>nth a b (i+0),(2:Nat)<2^62] (ag.leaf au.ret [mag (val 2 fun i=>numOf (nth a b (i+0)))])):=ah
theorem Yt {x:Nat} (hx:x<2^64) (K:Nat) (pre:aI):aW P 170 K [.int .u64 x] pre (aO (.mag x) []):=by
 refine cB hT jr hm abo rfl bh rfl 30 WS (fun _=>?_) K pre
 simp only[ag.all,aC,nY]
 refine⟨⟨aa,aa,fun i hi=>?_,aa⟩,fG (congrArg AV.mag ?_)⟩
 ·match i,hi with
  |0,_=>exact⟨x%2^32,aa,by simp[nth,lE]⟩
  |1,_=>exact⟨x/4294967296,aa,by simp[nth,nM];omega⟩
 ·rw[val_two]
  simp[nth,numOf,nM]
  omega
theorem YY {n:Nat} {z:Nat->Nat}:aL T [] [] 30 [0,3,4] (before (aK f182) [1,1,0,1]) ⟨aZ 0 [.aq 1 n (aF z)],[],0⟩=
  some (ag.leaf au.normal ([aq 1 n fun a=>int .u32 (↑(z a):Int),int .u64 (0:Int),int .i64 (i64.wrap ((↑n:Int)-1))],[])):=ah
theorem Wz {n k v:Nat} {z:Nat->Nat}:aL T [] [9] 30 [0,3,4] [part (aK f182) [1,1,0,1,0,0]] ⟨aH [0,3,4] [.aq 1 n (aF z),.int .u64 v,.int .i64 ((k:Int)-1)],[],0⟩=
  let d:=aq 1 n fun a=>int .u32 (↑(z a):Int);let b:=(↑k:Int)-1;some (ag.fork (decide (b>=0)) (ag.aj [(0:Int)<=32,(0:Int)<=b/\b.toNat<n] (ag.leaf au.normal ([d,int .u64 (u64.wrap (↑(BitVec.ofInt u64.bits (u64.wrap ((↑v:Int)*2^min (Int.toNat (32:Int)) u64.bits))|||BitVec.ofInt u64.bits (u64.wrap (↑(z b.toNat):Int))).toNat:Int)),int .i64 (i64.wrap (b-1))],[]))) (ag.leaf (au.exit 0) ([d,int .u64 (↑v:Int),int .i64 b],[]))):=ah
theorem aa1 {n k v:Nat} {z:Nat->Nat}:dc T [] [] 30 f182 (behind (aK f182) [1,1,0,1]) ⟨aH [0,3,4] [.aq 1 n (aF z),.int .u64 v,.int .i64 ((k:Int)-1)],[],0⟩=
  some (ag.leaf au.ret [int .u64 (↑v:Int)]):=ah
theorem KP {z:Nat->Nat} {n k v:Nat} (h:v*2^(32*(k+1))+val (k+1) z=val n z):(v*4294967296+z k)*2^(32*k)+val k z=val n z:=by
 rw[<-h,val,jH,Nat.add_mul]
 rw[Nat.mul_assoc]
 omega
theorem aeX {n:Nat} {z:Nat->Nat} (hz:∀i,i<n->z i<2^32) (hn:n<=2) (K:Nat) (pre:aI):aW P 182 K [.aq 1 n (aF z)] pre (aO (.int .u64 (val n z:Nat)) []):=by
 refine lP hT abt rfl bh rfl (fun _ c h0=>?_) K pre
 refine az.hole [1,1,0,1] ah (aJ.bU hT cJ hm 30 [0,3,4] YY ah ?_)
 intro s' hv
 have hv64:val n z<2^64:=by
  have h1:=iL hz
  have h2:2^(32*n)<=2^(32*2):=Nat.pow_le_pow_right aa aa
  omega
 refine az.jK (i:=0) (y:=part (aK f182) [1,1,0,1,0,0]) ah
  (fun p:Nat×Nat=>⟨aH [0,3,4] [.aq 1 n (aF z),.int .u64 (p.2:Nat),.int .i64 ((p.1:Nat)-1:Int)],[],0⟩)
  (fun p=>p.1<=n/\p.2*2^(32*p.1)+val p.1 z=val n z) (fun p=>p.1) (n,0)
  (fe [] hv h0 rfl ⟨aY,aY,⟨rfl,jb (wrap_i64 aa aa)⟩,trivial⟩ trivial) ⟨by simp,by simp⟩ ?_
 rintro⟨k,v⟩ ⟨hk,hval⟩
 simp only at hk hval
 refine az.bU hT cJ hm 30 [0,3,4] Wz ah ?_
 simp only[ag.all,aC,bI,bR]
 refine⟨fun hb=>?_,fun hb s' hv=>?_⟩
 ·obtain⟨j,rfl⟩:∃j,k=j+1:=⟨k-1,aa⟩
  have e:(((j+1:Nat):Int)-1).toNat=j:=aa
  have hzj:=hz j aa
  have hv32:v<2^32:=by
   rcases Nat.lt_or_ge v (2^32)with h|h
   ·exact h
   ·have h1:2^32*2^(32*(j+1))<=v*2^(32*(j+1)):=Nat.mul_le_mul_right _ h
    have h2:2^32<=2^(32*(j+1)):=Nat.pow_le_pow_right aa aa
    have h3:2^32*2^32<=2^32*2^(32*(j+1)):=Nat.mul_le_mul_left _ h2
    omega
  rw[e]
  have gi:u64.wrap ((BitVec.ofInt u64.bits (u64.wrap ((v:Int)*2^min (Int.toNat 32) u64.bits))|||BitVec.ofInt u64.bits (u64.wrap (z j:Int))).toNat:Int)=
    ((v*4294967296+z j:Nat):Int):=by
   rw[yS,cR (x:=(z j:Int)) aa aa,cR (x:=(v:Int)*4294967296) aa aa]
   rw[show(v:Int)*4294967296=((v*2^32:Nat):Int) by omega,wY aa aa,uI hzj]
  refine⟨⟨aa,aa,aa⟩,fun s' hv=>⟨(j,v*4294967296+z j),fe [] hv h0 rfl ⟨aY,⟨rfl,jb gi⟩,⟨rfl,jb (by rw[wrap_i64 aa aa];simp only;omega)⟩,trivial⟩ trivial,
   ⟨by simp only;omega,KP hval⟩,by simp⟩⟩
 ·have hk0:k=0:=aa
  subst hk0
  have hval:v=val n z:=by simpa [val]using hval
  subst hval
  exact aJ.weak ah (fe (vs:=[.aq 1 n (aF z),.int .u64 (val n z:Nat),.int .i64 (((0:Nat):Int)-1)]) (ps:=[]) (nx:=0) [] hv h0 rfl ⟨aY,aY,aY,trivial⟩ trivial)
   (aJ.fin hT cJ hm 30 aa1 ah (bf.refl _))
theorem abc {n m:Nat} {z y:Nat->Nat}:aL T G1 [14,19] 30 [0,1,5,4] (before (aK f118) [1,1,1,0,1]) ⟨aZ 0 [.aq 1 n (aF z),.aq 1 m (aF y)],[],0⟩=
  let b:=val m fun i=>numOf (aF y i);let a:=val n fun i=>numOf (aF z i);let e:=(↑(nl b):Int);let d:=(↑(nl a):Int);some (ag.aj [fL n (aF z),n<2^62,fL m (aF y),m<2^62] (ag.fork (d !=e) (ag.fork (decide (d<e)) (ag.leaf au.ret ([mag a,mag b,tuple [],int .i64 (-1:Int)],[])) (ag.leaf au.ret ([mag a,mag b,tuple [],int .i64 (1:Int)],[]))) (ag.leaf au.normal ([mag a,mag b,int .i64 (i64.wrap (d-1)),int .i64 (0:Int)],[])))):=ah
theorem T4 {A B k:Nat}:aL T [] [24,35,44] 30 [0,1,5,4] [part (aK f118) [1,1,1,0,1,0,0]] ⟨aH [0,1,5,4] [.mag A,.mag B,.int .i64 ((k:Int)-1),.int .i64 0],[],0⟩=
  let g:=int .i64 (0:Int);let a:=(↑k:Int)-1;let b:=int .i64 a;let f:=(↑(aG A a.toNat):Int);let e:=(↑(aG B a.toNat):Int);let d:=[(0:Int)<=a/\a.toNat<nl A,(0:Int)<=a/\a.toNat<nl B];some (ag.fork (decide (a>=0)) (ag.aj d (ag.fork (f !=e) (ag.aj d (ag.fork (decide (f<e)) (ag.leaf au.ret ([mag A,mag B,b,int .i64 (-1:Int)],[])) (ag.leaf au.ret ([mag A,mag B,b,int .i64 (1:Int)],[])))) (ag.leaf au.normal ([mag A,mag B,int .i64 (i64.wrap (a-1)),g],[])))) (ag.leaf (au.exit 0) ([mag A,mag B,b,g],[]))):=ah
theorem Xp {A B k:Nat}:dc T [] [] 30 f118 (behind (aK f118) [1,1,1,0,1]) ⟨aH [0,1,5,4] [.mag A,.mag B,.int .i64 ((k:Int)-1),.int .i64 0],[],0⟩=
  some (ag.leaf au.ret [int .i64 (0:Int)]):=ah
theorem VF {n m:Nat} {z y:Nat->Nat} (hz:∀i,i<n->z i<2^32) (hy:∀i,i<m->y i<2^32) (hn:n<2^40) (hm':m<2^40) (K:Nat) (pre:aI):
  aW P 118 K [.aq 1 n (aF z),.aq 1 m (aF y)] pre (aO (.int .i64 (eu (val n z) (val m y))) []):=by
 refine lP hT Wt rfl bh rfl (fun _ c h0=>?_) K pre
 refine az.hole [1,1,1,0,1] ah (aJ.bU hT jr hm 30 [0,1,5,4] abc ah ?_)
 have hnl:nl (val n z)<=n:=eP.2 (iL hz)
 generalize hA:val n z=A at*
 generalize hB:val m y=B at*
 simp only[ag.all,aC,bI,bR,Fx,hA,hB,bne_iff_ne,ne_eq,Int.natCast_inj,bne_eq_false_iff_eq]
 refine⟨⟨jg hz,aa,jg hy,aa⟩,fun hb=>⟨fun hb2 s' hv=>?_,fun hb2 s' hv=>?_⟩,fun hb s' hv=>?_⟩
 ·have h1:A<B:=Ca aa
  exact jn (us:=[.int .i64 (-1)]) (.inr rfl) hv ah (cE (by simp[eu,h1]))
 ·have h1:B<A:=Ca aa
  exact jn (us:=[.int .i64 1]) (.inr rfl) hv ah (cE (by simp[eu,h1];omega))
 refine az.jK (i:=0) (y:=part (aK f118) [1,1,1,0,1,0,0]) ah
  (fun k:Nat=>⟨aH [0,1,5,4] [.mag A,.mag B,.int .i64 ((k:Int)-1),.int .i64 0],[],0⟩)
  (fun k=>k<=nl A/\∀j,k<=j->j<nl A->aG A j=aG B j) id (nl A)
  (fe [] hv h0 rfl ⟨aY,aY,⟨rfl,jb (wrap_i64 aa aa)⟩,aY,trivial⟩ trivial) ⟨by simp,fun j h1 h2=>aa⟩ ?_
 rintro k ⟨hk,hlim⟩
 refine az.bU hT cJ hm 30 [0,1,5,4] T4 ah ?_
 simp only[ag.all,aC,bI,bR,bne_iff_ne,ne_eq,Int.natCast_inj,bne_eq_false_iff_eq]
 refine⟨fun hb2=>?_,fun hb2 s' hv=>?_⟩
 ·obtain⟨j,rfl⟩:∃j,k=j+1:=⟨k-1,aa⟩
  have e:(((j+1:Nat):Int)-1).toNat=j:=aa
  rw[e]
  refine⟨⟨aa,aa⟩,fun hne=>⟨⟨aa,aa⟩,fun hlt s' hv=>?_,fun hlt s' hv=>?_⟩,fun heq s' hv=>?_⟩
  ·have h1:A<B:=DM hb (k:=j) aa (fun i h1 h2=>hlim i aa h2) aa
   exact jn (us:=[.int .i64 (-1)]) (.inr rfl) hv ah (cE (by simp[eu,h1]))
  ·have h1:B<A:=DM hb.symm (k:=j) aa (fun i h1 h2=>(hlim i aa aa).symm) aa
   exact jn (us:=[.int .i64 1]) (.inr rfl) hv ah (cE (by simp[eu,h1];omega))
  ·refine⟨j,fe [] hv h0 rfl ⟨aY,aY,⟨rfl,jb (by rw[wrap_i64 aa aa];omega)⟩,aY,trivial⟩ trivial,⟨aa,fun i h1 h2=>?_⟩,by simp⟩
   by_cases hi:i=j
   ·subst hi;exact heq
   ·exact hlim i aa h2
 ·have hk0:k=0:=aa
  subst hk0
  have hAB:A=B:=I5 hb fun i hi=>hlim i aa hi
  exact aJ.weak ah (fe (vs:=[.mag A,.mag B,.int .i64 (((0:Nat):Int)-1),.int .i64 0]) (ps:=[]) (nx:=0) [] hv h0 rfl ⟨aY,aY,aY,aY,trivial⟩ trivial)
   (aJ.fin hT cJ hm 30 Xp ah (cE (by simp[eu,hAB])))
def Gg:Spec:=cD fun l=>match l with
 |[.int .u64 x]=>some (aO (.mag x.toNat) [0<=x/\x<2^64])
 |_=>none
theorem Rx:bp P Gg 170:=by
 refine cZ fun K args r hk hs _=>?_
 split at hs
 ·rename_i x
  simp only[aB]at hs
  subst hs
  intro need
  obtain⟨h1,h2⟩:0<=x/\x<2^64:=need
  obtain⟨y,rfl⟩:=Int.eq_ofNat_of_zero_le h1
  exact Yt (x:=y) aa K [] trivial
 ·simp at hs
def DL (N n:Nat):eU:=aO (.int .u64 (N:Nat)) [n<=2]
theorem Tj:bp P (cD (ni DL)) 182:=
 cZ (xR fun _ _ K hz need=>aeX hz need K [])
def Dn (A n B m:Nat):eU:=aO (.int .i64 (eu A B)) [n<2^40,m<2^40]
theorem Ie:bp P (cD (jM Dn)) 118:=
 cZ (xT fun _ _ _ _ K hz hy need=>VF hz hy need.1 need.2 K [])
theorem af0:bu 178 f178:=bC func178
theorem YF:bu 183 f183:=bC func183
theorem Z3:bu 185 f185:=bC func185
def G2:bE:=(118,cD (jM Dn))::G1
theorem Yq:bY P G2:=aM Ie jr
theorem acd {n m:Nat} {z y:Nat->Nat}:aL T G2 [15] 30 [1,6,7,21,22,23,4,5] (before (aK f178) [1,1,1,1,1,0,1]) ⟨aZ 0 [.aq 1 n (aF z),.aq 1 m (aF y)],[],0⟩=
  let d:=tuple [];let f:=int .i64 (0:Int);let e:=val m fun i=>numOf (aF y i);let b:=(↑n:Int);let g:=eu (val n fun i=>numOf (aF z i)) e;some (ag.aj [fL n (aF z),fL m (aF y),n<2^40,m<2^40] (ag.fork (decide (g<0)) (ag.leaf au.ret ([aq 1 m fun a=>int .u32 (↑(y a):Int),d,d,d,d,d,nil,int .i64 (7:Int)],[])) (ag.aj [fL m (aF y),m<2^62] (ag.aj [(0:Int)<=b/\b<=b/\b<=2^47/\b*(↑(4:Nat):Int)<=2^47] (ag.leaf au.normal ([mag e,own 45056 1 0 b.toNat,int .u64 (0:Int),aq 1 n fun a=>int .u32 (↑(z a):Int),int .i64 b,f,nil,f],[(45056,aA.mk true true 1 b.toNat fun x=>int .u32 (0:Int))])))))):=ah
theorem ajX {n B i w:Nat} {z o:Nat->Nat}:aL T [] [24,32] 30 [1,6,7,21,22,23,4,5] [part (aK f178) [1,1,1,1,1,0,1,0,0]] ⟨aH [1,6,7,21,22,23,4,5] [.mag B,.own 7 1 0 n,.int .u64 w,.aq 1 n (aF z),.int .i64 n,.int .i64 i,.nil,.int .i64 0],[(7,⟨true,true,1,n,aF o⟩)],8⟩=
  let h:=int .i64 (↑n:Int);let g:=[nil,int .i64 (0:Int)];let s:=(2:Int)^min (Int.toNat (63:Int)) u64.bits;let r:=aq 1 n fun a=>int .u32 (↑(z a):Int);let l:=own 7 1 0 n;let d:=(↑i:Int);let m:=r::h::int .i64 (i64.wrap (d+1))::g;let e:=d.toNat;let f:=u64.wrap (↑(z e):Int);let b:=(0:Int)<=d/\e<n;let k:=e+0;let q:=u64.wrap (f-(↑w:Int));let p:=u64.wrap (f-u64.wrap ((↑w:Int)+u64.wrap (↑(aG B e):Int)));some (ag.fork (decide (d<(↑n:Int))) (ag.aj [b] (ag.fork (decide (d<(↑(nl B):Int))) (ag.aj [(0:Int)<=d/\e<nl B] (ag.aj [b,k<n] (ag.aj [(0:Int)<=63] (ag.leaf au.normal (mag B::l::int .u64 (p.fdiv s)::m,[(7,aA.mk true true 1 n fun j=>if(j==k)=true then int .u32 (u32.wrap p)else aF o j)]))))) (ag.aj [b,k<n] (ag.aj [(0:Int)<=63] (ag.leaf au.normal (mag B::l::int .u64 (q.fdiv s)::m,[(7,aA.mk true true 1 n fun j=>if(j==k)=true then int .u32 (u32.wrap q)else aF o j)])))))) (ag.leaf (au.exit 0) (mag B::l::int .u64 (↑w:Int)::r::h::int .i64 d::g,[(7,aA.mk true true 1 n fun a=>int .u32 (↑(o a):Int))]))):=ah
theorem agw {n B i w:Nat} {z o:Nat->Nat}:dc T G1 [] 30 f178 (behind (aK f178) [1,1,1,1,1,0,1]) ⟨aH [1,6,7,21,22,23,4,5] [.mag B,.own 7 1 0 n,.int .u64 w,.aq 1 n (aF z),.int .i64 n,.int .i64 i,.nil,.int .i64 0],[(7,⟨true,true,1,n,aF o⟩)],8⟩=
  some (ag.aj [fL n fun i=>aF o (i+0),n<2^62] (ag.leaf au.ret [mag (val n fun i=>numOf (aF o (i+0))),int .i64 (0:Int)])):=ah
theorem aes {n b:Nat} {z:Nat->Nat}:aL T G1 [] 30 [0,1,6,7,8] (before (aK f183) [1,1,1,0,1]) ⟨aZ 0 [.aq 1 n (aF z),.int .u32 b],[],0⟩=
  let d:=(↑n:Int);some (ag.aj [(0:Int)<=d/\d<=d/\d<=2^47/\d*(↑(4:Nat):Int)<=2^47] (ag.leaf au.normal ([aq 1 n fun a=>int .u32 (↑(z a):Int),int .u32 (↑b:Int),own 16384 1 0 d.toNat,int .u64 (0:Int),int .i64 (i64.wrap (d-1))],[(16384,aA.mk true true 1 d.toNat fun x=>int .u32 (0:Int))]))):=ah
theorem X3 {n b k r:Nat} {z o:Nat->Nat}:aL T [] [16] 30 [0,1,6,7,8] [part (aK f183) [1,1,1,0,1,0,0]] ⟨aH [0,1,6,7,8] [.aq 1 n (aF z),.int .u32 b,.own 7 1 0 n,.int .u64 r,.int .i64 ((k:Int)-1)],[(7,⟨true,true,1,n,aF o⟩)],8⟩=
  let m:=int .u32 (↑b:Int);let i:=own 7 1 0 n;let g:=aq 1 n fun a=>int .u32 (↑(z a):Int);let e:=u64.wrap (↑b:Int);let d:=(↑k:Int)-1;let l:=(0:Int)<=d/\d.toNat<n;let h:=d.toNat+0;let f:=u64.wrap (↑(BitVec.ofInt u64.bits (u64.wrap ((↑r:Int)*2^min (Int.toNat (32:Int)) u64.bits))|||BitVec.ofInt u64.bits (u64.wrap (↑(z d.toNat):Int))).toNat:Int);some (ag.fork (decide (d>=0)) (ag.aj [(0:Int)<=32,l] (ag.aj [e≠(0:Int),l,h<n] (ag.aj [e≠(0:Int)] (ag.leaf au.normal ([g,m,i,int .u64 (f.tmod e),int .i64 (i64.wrap (d-1))],[(7,aA.mk true true 1 n fun j=>if(j==h)=true then int .u32 (u32.wrap (u64.wrap (f.tdiv e)))else aF o j)]))))) (ag.leaf (au.exit 0) ([g,m,i,int .u64 (↑r:Int),int .i64 d],[(7,aA.mk true true 1 n fun a=>int .u32 (↑(o a):Int))]))):=ah
theorem abS {n b k r:Nat} {z o:Nat->Nat}:dc T G1 [] 30 f183 (behind (aK f183) [1,1,1,0,1]) ⟨aH [0,1,6,7,8] [.aq 1 n (aF z),.int .u32 b,.own 7 1 0 n,.int .u64 r,.int .i64 ((k:Int)-1)],[(7,⟨true,true,1,n,aF o⟩)],8⟩=
  some (ag.aj [fL n fun i=>aF o (i+0),n<2^62] (ag.leaf au.ret [mag (val n fun i=>numOf (aF o (i+0))),int .u32 (u32.wrap (↑r:Int))])):=ah
theorem T1 {n s:Nat} {z:Nat->Nat}:aL T G1 [] 30 [0,1,5,6,13,14,15] (before (aK f185) [1,1,1,0,1]) ⟨aZ 0 [.aq 1 n (aF z),.int .i64 s],[],0⟩=
  let d:=aq 1 n fun a=>int .u32 (↑(z a):Int);let b:=i64.wrap ((↑n:Int)+1);some (ag.aj [(0:Int)<=b/\b<=b/\b<=2^47/\b*(↑(4:Nat):Int)<=2^47] (ag.leaf au.normal ([d,int .i64 (↑s:Int),own 16384 1 0 b.toNat,int .u64 (0:Int),d,int .i64 (↑n:Int),int .i64 (0:Int)],[(16384,aA.mk true true 1 b.toNat fun x=>int .u32 (0:Int))]))):=ah
theorem UK {n s i c:Nat} {z o:Nat->Nat}:aL T [] [16] 30 [0,1,5,6,13,14,15] [part (aK f185) [1,1,1,0,1,0,0]] ⟨aH [0,1,5,6,13,14,15] [.aq 1 n (aF z),.int .i64 s,.own 7 1 0 (n+1),.int .u64 c,.aq 1 n (aF z),.int .i64 n,.int .i64 i],[(7,⟨true,true,1,n+1,aF o⟩)],8⟩=
  let l:=int .i64 (↑s:Int);let k:=int .i64 (↑n:Int);let d:=n+1;let b:=(↑i:Int);let e:=aq 1 n fun a=>int .u32 (↑(z a):Int);let h:=b.toNat+0;let g:=own 7 1 0 d;let f:=u64.wrap (↑(BitVec.ofInt u64.bits (↑c:Int)|||BitVec.ofInt u64.bits (u64.wrap (u64.wrap (↑(z b.toNat):Int)*2^min (↑s:Int).toNat u64.bits))).toNat:Int);some (ag.fork (decide (b<(↑n:Int))) (ag.aj [(0:Int)<=b/\b.toNat<n] (ag.aj [(0:Int)<=(↑s:Int)] (ag.aj [(0:Int)<=b/\b.toNat<d,h<d] (ag.aj [(0:Int)<=32] (ag.leaf au.normal ([e,l,g,int .u64 (f.fdiv ((2:Int)^min (Int.toNat (32:Int)) u64.bits)),e,k,int .i64 (i64.wrap (b+1))],[(7,aA.mk true true 1 d fun j=>if(j==h)=true then int .u32 (u32.wrap f)else aF o j)])))))) (ag.leaf (au.exit 0) ([e,l,g,int .u64 (↑c:Int),e,k,int .i64 b],[(7,aA.mk true true 1 d fun a=>int .u32 (↑(o a):Int))]))):=ah
theorem abD {B x y r v w' t:Nat} (hr:r+y=x+w'*4294967296) (h:v=t):v+r*B+y*B=t+x*B+w'*(4294967296*B):=by
 subst h
 have:(r+y)*B=(x+w'*4294967296)*B:=by rw[hr]
 grind
theorem RR {x y:Nat} (hx:x<2^32) (hy:y<=2^32):∃r w:Nat,r<2^32/\w<=1/\r+y=x+w*4294967296/\((x:Int)-y)%2^64%2^32=r/\((x:Int)-y)%2^64/9223372036854775808=w:=by
 rcases Nat.lt_or_ge x y with h|h
 ·exact⟨x+4294967296-y,1,aa,aa,aa,aa,aa⟩
 ·exact⟨x-y,0,aa,aa,aa,aa,aa⟩
abbrev vL:List Nat:=[1,6,7,21,22,23,4,5]
abbrev BC (B n:Nat) (z:Nat->Nat) (K w i:Nat):List AV:=[.mag B,.own K 1 0 n,.int .u64 w,.aq 1 n (aF z),.int .i64 n,.int .i64 i,.nil,.int .i64 0]
theorem aci {n m:Nat} {z y:Nat->Nat} (hz:∀i,i<n->z i<2^32) (hy:∀i,i<m->y i<2^32) (hn:n<2^40) (hm':m<2^40) (K:Nat) (pre:aI):
  aW P 178 K [.aq 1 n (aF z),.aq 1 m (aF y)] pre (aO (.tuple [.mag (val n z-val m y),.int .i64 (if val n z<val m y then 7 else 0)]) []):=by
 refine lP hT af0 rfl bh rfl (fun _ c h0=>?_) K pre
 refine az.hole [1,1,1,1,1,0,1] ah (aJ.bU hT Yq hm 30 vL acd ah ?_)
 have hA:nl (val n z)<=n:=eP.2 (iL hz)
 have hAlt:=iL hz
 generalize hB:val m y=B at*
 simp only[ag.all,aC,bI,bR,lQ,hB]
 refine⟨⟨jg hz,jg hy,aa,aa⟩,fun hb s' hv=>?_,fun hb=>⟨⟨jg hy,aa⟩,aa,fun s' hv=>?_⟩⟩
 ·have h1:val n z<B:=by
   unfold eu at hb
   split at hb
   ·assumption
   ·split at hb<;>omega
  refine jn (us:=[.nil,.int .i64 7]) (.inr rfl) hv ah ⟨mP.trans (fG (congrArg AV.mag aa)),cE (by rw[if_pos h1]),trivial⟩
 have hBA:B<=val n z:=by
  unfold eu at hb
  split at hb<;>omega
 have hnB:nl B<=n:=Nat.le_trans (jz hBA) hA
 refine az.jK (i:=0) (y:=part (aK f178) [1,1,1,1,1,0,1,0,0]) ah
  (fun p:Nat×Nat×(Nat->Nat)=>⟨aH vL (BC B n z 7 p.2.1 p.1),[(7,⟨true,true,1,n,aF p.2.2⟩)],8⟩)
  (fun p=>p.1<=n/\p.2.1<=1/\(∀j,j<n->p.2.2 j<2^32)/\val p.1 p.2.2+val (min p.1 (nl B)) (aG B)=val p.1 z+p.2.1*2^(32*p.1))
  (fun p=>n-p.1) (0,0,fun _=>0)
  (fe [(7,45056)] hv h0 rfl ⟨aY,⟨rfl,eR rfl rfl rfl⟩,aY,aY,aY,aY,aY,aY,trivial⟩
   ⟨⟨_,_,rfl,rfl,gZ rfl fun j _=>rfl⟩,trivial⟩)
  ⟨by simp,by simp,fun j _=>by simp,by simp[val]⟩ ?_
 rintro⟨i,w,o⟩ ⟨hi,hw,ho,hval⟩
 simp only at hi hw ho hval
 refine az.bU hT cJ hm 30 vL ajX ah ?_
 have key:∀{yi:Nat} {s':aP} {u v:Int} {f':Nat->AV} {r w':Nat},i<n->yi=(if i<nl B then aG B i else 0)->r<2^32->w'<=1->r+(w+yi)=z i+w'*4294967296->
   bJ vL s'=some ([.mag B,.own 7 1 0 n,.int .u64 u,.aq 1 n (aF z),.int .i64 n,.int .i64 v,.nil,.int .i64 0],[(7,⟨true,true,1,n,f'⟩)])->
   u=(w':Nat)->v=(i+1:Nat)->(∀j,f' j=aF (cX o i r) j)->
   ∃k:Nat×Nat×(Nat->Nat),(∃ρ,Le c ρ s' ⟨aH vL (BC B n z 7 k.2.1 k.1),[(7,⟨true,true,1,n,aF k.2.2⟩)],8⟩)/\
    (k.1<=n/\k.2.1<=1/\(∀j,j<n->k.2.2 j<2^32)/\val k.1 k.2.2+val (min k.1 (nl B)) (aG B)=val k.1 z+k.2.1*2^(32*k.1))/\n-k.1<n-i:=by
  intro yi s' u v f' r w' hin hyi hr hw1 hrw hv hu hv1 hf
  refine⟨(i+1,w',cX o i r),fe [(7,7)] hv h0 rfl ⟨aY,⟨rfl,eR rfl rfl rfl⟩,⟨rfl,jb hu⟩,aY,aY,⟨rfl,jb hv1⟩,aY,aY,trivial⟩
   ⟨⟨_,_,rfl,rfl,gZ rfl fun j _=>hf j⟩,trivial⟩,⟨by simp only;omega,hw1,jQ hr ho,?_⟩,by simp only;omega⟩
  simp only
  rw[KM,<-hyi,tN,jH]
  show _=val i z+z i*2^(32*i)+_
  have:=abD (B:=2^(32*i)) hrw hval
  rw[Nat.add_mul]at this
  omega
 have fin:i=n->∀s',bJ vL s'=some (BC B n z 7 w i,[(7,⟨true,true,1,n,aF o⟩)])->
   aJ P c f178.ntmps (behind (aK f178) [1,1,1,1,1,0,1]) s' (Fin T f178 (.tuple [.mag (val n z-B),.int .i64 (if val n z<B then 7 else 0)])):=by
  intro hin s' hv
  subst hin
  rw[Nat.min_eq_right hnB,iW]at hval
  have hlt:=iL ho
  have hw0:w=0:=by
   rcases Nat.eq_zero_or_pos w with h|h
   ·exact h
   ·have:w=1:=aa
    subst this
    omega
  subst hw0
  refine aJ.weak ah (fe (vs:=BC B i z 7 0 i) (ps:=[(7,⟨true,true,1,i,aF o⟩)]) (nx:=8) [(7,7)] hv h0 rfl
    ⟨aY,⟨rfl,eR rfl rfl rfl⟩,aY,aY,aY,aY,aY,aY,trivial⟩
    ⟨⟨_,_,rfl,rfl,gZ rfl fun j _=>rfl⟩,trivial⟩)
   (aJ.fin hT jr hm 30 agw ah ?_)
  simp only[ag.all,aC,Nat.add_zero,lQ]
  exact⟨⟨jg ho,aa⟩,fG (congrArg AV.mag aa),cE (by rw[if_neg aa]),trivial⟩
 simp only[ag.all,aC,bI,bR,bS,Nat.add_zero,beq_iff_eq]
 refine⟨fun hb=>?_,fun hb s' hv=>fin aa s' hv⟩
 have h1:i<n:=aa
 have hzi:=hz i h1
 have hl:=fB (N:=B) (i:=i)
 have e1:u64.wrap (z i:Int)=(z i:Int):=cR aa aa
 have e2:u64.wrap (aG B i:Int)=(aG B i:Int):=cR aa aa
 have e3:u64.wrap ((w:Int)+(aG B i:Int))=((w+aG B i:Nat):Int):=by rw[cR aa aa];omega
 rw[e1,e2,e3]
 refine⟨aa,fun hb2=>?_,fun hb2=>?_⟩
 ·have h2:i<nl B:=aa
  obtain⟨r,w',q1,q2,q3,q4,q5⟩:=RR hzi (y:=w+aG B i) aa
  refine⟨aa,aa,aa,fun s' hv=>key (yi:=aG B i) h1 (by rw[if_pos h2]) q1 q2 q3 hv ?_ (by rw[wrap_i64 aa aa];omega) fun j=>jC ?_ j⟩
  ·rw[Fi,qn];exact q5
  ·rw[nM,qn];exact q4
 ·have h2:¬i<nl B:=aa
  obtain⟨r,w',q1,q2,q3,q4,q5⟩:=RR hzi (y:=w) aa
  refine⟨aa,aa,fun s' hv=>key (yi:=0) h1 (by rw[if_neg h2]) q1 q2 q3 hv ?_ (by rw[wrap_i64 aa aa];omega) fun j=>jC ?_ j⟩
  ·rw[Fi,qn];exact q5
  ·rw[nM,qn];exact q4
theorem Z9 {r x:Nat} (hr:r<2^32) (hx:x<2^32):
  u64.wrap ((BitVec.ofInt u64.bits (u64.wrap ((r:Int)*2^min (Int.toNat 32) u64.bits))|||BitVec.ofInt u64.bits (u64.wrap (x:Int))).toNat:Int)=((r*4294967296+x:Nat):Int):=by
 rw[yS,cR (x:=(x:Int)) aa aa,cR (x:=(r:Int)*4294967296) aa aa]
 rw[show(r:Int)*4294967296=((r*2^32:Nat):Int) by omega,wY aa aa,uI hx]
theorem PM {r z b B v t vz q r':Nat} (h:v*b+r*(4294967296*B)+(vz+z*B)=t) (hq:r*4294967296+z=b*q+r'):(v+q*B)*b+r'*B+vz=t:=by
 have:(r*4294967296+z)*B=(b*q+r')*B:=by rw[hq]
 grind
abbrev Gk:List Nat:=[0,1,6,7,8]
abbrev RE (n:Nat) (z:Nat->Nat) (b K r k:Nat):List AV:=[.aq 1 n (aF z),.int .u32 b,.own K 1 0 n,.int .u64 r,.int .i64 ((k:Int)-1)]
theorem abq {n b:Nat} {z:Nat->Nat} (hz:∀i,i<n->z i<2^32) (hn:n<2^40) (hb0:0<b) (hb32:b<2^32) (K:Nat) (pre:aI):
  aW P 183 K [.aq 1 n (aF z),.int .u32 b] pre (aO (.tuple [.mag (val n z/b),.int .u32 (val n z%b:Nat)]) []):=by
 refine lP hT YF rfl bh rfl (fun _ c h0=>?_) K pre
 refine az.hole [1,1,1,0,1] ah (aJ.bU hT jr hm 30 Gk aes ah ?_)
 simp only[ag.all,aC]
 refine⟨aa,fun s' hv=>?_⟩
 refine az.jK (i:=0) (y:=part (aK f183) [1,1,1,0,1,0,0]) ah
  (fun p:Nat×Nat×(Nat->Nat)=>⟨aH Gk (RE n z b 7 p.2.1 p.1),[(7,⟨true,true,1,n,aF p.2.2⟩)],8⟩)
  (fun p=>p.1<=n/\p.2.1<b/\(∀j,j<n->p.2.2 j<2^32)/\(∀j,j<p.1->p.2.2 j=0)/\val n p.2.2*b+p.2.1*2^(32*p.1)+val p.1 z=val n z)
  (fun p=>p.1) (n,0,fun _=>0)
  (fe [(7,16384)] hv h0 rfl ⟨aY,aY,⟨rfl,eR rfl rfl rfl⟩,aY,⟨rfl,jb (wrap_i64 aa aa)⟩,trivial⟩
   ⟨⟨_,_,rfl,rfl,gZ rfl fun j _=>rfl⟩,trivial⟩)
  ⟨by simp,hb0,fun j _=>by simp,fun j _=>rfl,?_⟩ ?_
 ·simp only
  rw[pX (k:=0) aa fun _ _ _=>rfl]
  simp[val]
 rintro⟨k,r,o⟩ ⟨hk,hr,ho,ho0,hval⟩
 simp only at hk hr ho ho0 hval
 refine az.bU hT cJ hm 30 Gk X3 ah ?_
 simp only[ag.all,aC,bI,bR,Nat.add_zero,beq_iff_eq]
 have hbw:u64.wrap (b:Int)=(b:Int):=cR aa aa
 refine⟨fun hb=>?_,fun hb s' hv=>?_⟩
 ·obtain⟨j,rfl⟩:∃j,k=j+1:=⟨k-1,aa⟩
  have e:(((j+1:Nat):Int)-1).toNat=j:=aa
  have hzj:=hz j aa
  have gi:=Z9 (r:=r) (x:=z j) aa hzj
  rw[e,gi,hbw]
  have hq1:(r*4294967296+z j)/b<2^32:=by
   rw[Nat.div_lt_iff_lt_mul hb0]
   have:(r+1)*4294967296<=b*4294967296:=Nat.mul_le_mul_right _ hr
   omega
  have hdm:=Nat.div_add_mod (r*4294967296+z j) b
  refine⟨⟨aa,aa,aa⟩,⟨aa,⟨aa,aa⟩,aa⟩,aa,fun s' hv=>⟨(j,(r*4294967296+z j)%b,cX o j ((r*4294967296+z j)/b)),?_,⟨by simp only;omega,Nat.mod_lt _ hb0,jQ hq1 ho,fun i hi=>?_,?_⟩,by simp only;omega⟩⟩
  ·refine fe [(7,7)] hv h0 rfl ⟨aY,aY,⟨rfl,eR rfl rfl rfl⟩,⟨rfl,jb (Int.ofNat_tmod _ _).symm⟩,⟨rfl,jb ?_⟩,trivial⟩
    ⟨⟨_,_,rfl,rfl,gZ rfl fun i _=>jC ?_ i⟩,trivial⟩
   ·rw[wrap_i64 aa aa];simp only;omega
   ·rw[<-Int.ofNat_tdiv]
    clear hdm
    generalize (r*4294967296+z j)/b=q at hq1 ⊢
    rw[cR aa aa,wrap_u32 aa aa]
  ·exact(iw (by simp only at hi;omega)).trans (ho0 i (by simp only at hi;omega))
  ·simp only
   rw[u6 aa (ho0 j aa)]
   rw[jH,val]at hval
   exact PM hval hdm.symm
 ·have hk0:k=0:=aa
  subst hk0
  have hv2:val n o*b+r=val n z:=by simpa [val]using hval
  refine aJ.weak ah (fe (vs:=RE n z b 7 r 0) (ps:=[(7,⟨true,true,1,n,aF o⟩)]) (nx:=8) [(7,7)] hv h0 rfl
    ⟨aY,aY,⟨rfl,eR rfl rfl rfl⟩,aY,aY,trivial⟩
    ⟨⟨_,_,rfl,rfl,gZ rfl fun j _=>rfl⟩,trivial⟩)
   (aJ.fin hT jr hm 30 abS ah ?_)
  simp only[ag.all,aC,Nat.add_zero,lQ]
  have hdiv:val n z/b=val n o:=by
   rw[<-hv2,Nat.mul_comm,Nat.mul_add_div hb0,Nat.div_eq_of_lt hr,Nat.add_zero]
  have hmod:val n z%b=r:=by
   rw[<-hv2,Nat.mul_comm,Nat.mul_add_mod,Nat.mod_eq_of_lt hr]
  exact⟨⟨jg ho,aa⟩,fG (congrArg AV.mag hdiv.symm),cE (by rw[hmod,wrap_u32 aa aa]),trivial⟩
theorem ags {x s:Nat} (hs:s<32) (hx:x<2^32):u64.wrap (u64.wrap (x:Int)*2^min (s:Int).toNat u64.bits)=((x*2^s:Nat):Int)/\x*2^s<2^64:=by
 have e:min (s:Int).toNat u64.bits=s:=by
  have:u64.bits=64:=rfl
  omega
 have hlt:x*2^s<2^64:=by
  have h1:2^s<=2^31:=Nat.pow_le_pow_right aa aa
  have h2:x*2^s<=2^32*2^31:=Nat.mul_le_mul aa h1
  omega
 refine⟨?_,hlt⟩
 rw[e,cR (x:=(x:Int)) aa aa]
 have:(x:Int)*2^s=((x*2^s:Nat):Int):=by simp
 rw[this]
 exact cR aa aa
theorem JM {c x s:Nat} (hs:s<32) (hx:x<2^32) (hc:c<2^s):
  u64.wrap ((BitVec.ofInt u64.bits (c:Int)|||BitVec.ofInt u64.bits (u64.wrap (u64.wrap (x:Int)*2^min (s:Int).toNat u64.bits))).toNat:Int)=((c+x*2^s:Nat):Int):=by
 obtain⟨h1,h2⟩:=ags hs hx
 have h3:2^s<=2^31:=Nat.pow_le_pow_right aa aa
 rw[h1,wY aa h2,Nat.or_comm,uI hc,Nat.add_comm]
theorem Qu {c x s:Nat} (hs:s<32) (hx:x<2^32) (hc:c<2^s):c+x*2^s<2^63/\(c+x*2^s)/4294967296<2^s:=by
 have h3:2^s<=2^31:=Nat.pow_le_pow_right aa aa
 have h4:(x+1)*2^s<=2^32*2^s:=Nat.mul_le_mul_right _ hx
 rw[Nat.add_mul,Nat.one_mul]at h4
 refine⟨aa,?_⟩
 rw[Nat.div_lt_iff_lt_mul aa]
 omega
theorem RB {B c x t v S:Nat} (h:v+c*B=t*S):v+(c+x*S)%4294967296*B+(c+x*S)/4294967296*(4294967296*B)=(t+x*B)*S:=by
 have h1:=Nat.div_add_mod (c+x*S) 4294967296
 generalize (c+x*S)/4294967296=q at*
 generalize (c+x*S)%4294967296=r at*
 have:(4294967296*q+r)*B=(c+x*S)*B:=by rw[h1]
 grind
abbrev BG:List Nat:=[0,1,5,6,13,14,15]
abbrev Kk (n s:Nat) (z:Nat->Nat) (K c i:Nat):List AV:=[.aq 1 n (aF z),.int .i64 s,.own K 1 0 (n+1),.int .u64 c,.aq 1 n (aF z),.int .i64 n,.int .i64 i]
theorem Xy {n s:Nat} {z:Nat->Nat} (hz:∀i,i<n->z i<2^32) (hn:n<2^40) (hs:s<32) {c:Ctx} (h0:c.k0=bQ) {Q:au->aP->Prop}
  (fin:∀(c':Nat) (o:Nat->Nat) (s':aP),c'<2^s->(∀j,j<n+1->o j<2^32)->val n o+c'*2^(32*n)=val n z*2^s->bJ BG s'=some (Kk n s z 7 c' n,[(7,⟨true,true,1,n+1,aF o⟩)])->
   aJ P c f185.ntmps (behind (aK f185) [1,1,1,0,1]) s' Q):
  az P c f185.ntmps (aK f185) ⟨aZ 0 [.aq 1 n (aF z),.int .i64 s],[],0⟩ Q:=by
 refine az.hole [1,1,1,0,1] ah (aJ.bU hT jr hm 30 BG T1 ah ?_)
 have hw:i64.wrap ((n:Int)+1)=((n+1:Nat):Int):=by rw[wrap_i64 aa aa];omega
 simp only[ag.all,aC,hw,bS]
 refine⟨aa,fun s' hv=>?_⟩
 refine az.jK (i:=0) (y:=part (aK f185) [1,1,1,0,1,0,0]) ah
  (fun p:Nat×Nat×(Nat->Nat)=>⟨aH BG (Kk n s z 7 p.2.1 p.1),[(7,⟨true,true,1,n+1,aF p.2.2⟩)],8⟩)
  (fun p=>p.1<=n/\p.2.1<2^s/\(∀j,j<n+1->p.2.2 j<2^32)/\val p.1 p.2.2+p.2.1*2^(32*p.1)=val p.1 z*2^s)
  (fun p=>n-p.1) (0,0,fun _=>0)
  (fe [(7,16384)] hv h0 rfl ⟨aY,aY,⟨rfl,eR rfl rfl rfl⟩,aY,aY,aY,aY,trivial⟩
   ⟨⟨_,_,rfl,rfl,gZ rfl fun j _=>rfl⟩,trivial⟩)
  ⟨by simp,Nat.two_pow_pos s,fun j _=>by simp,by simp[val]⟩ ?_
 rintro⟨i,c',o⟩ ⟨hi,hc,ho,hval⟩
 simp only at hi hc ho hval
 refine az.bU hT cJ hm 30 BG UK ah ?_
 simp only[ag.all,aC,bI,bR,Nat.add_zero,beq_iff_eq,bS]
 refine⟨fun hb=>?_,fun hb s' hv=>?_⟩
 ·have h1:i<n:=aa
  have hzi:=hz i h1
  have gi:=JM hs hzi hc
  simp only[bS]at gi
  rw[gi]
  obtain⟨b1,b2⟩:=Qu hs hzi hc
  refine⟨aa,aa,aa,aa,fun s' hv=>⟨(i+1,(c'+z i*2^s)/4294967296,cX o i ((c'+z i*2^s)%4294967296)),?_,⟨by simp only;omega,b2,jQ aa ho,?_⟩,by simp only;omega⟩⟩
  ·refine fe [(7,7)] hv h0 rfl ⟨aY,aY,⟨rfl,eR rfl rfl rfl⟩,⟨rfl,jb ?_⟩,aY,aY,⟨rfl,jb ?_⟩,trivial⟩
    ⟨⟨_,_,rfl,rfl,gZ rfl fun j _=>jC ?_ j⟩,trivial⟩
   ·rw[nY];simp only;omega
   ·rw[wrap_i64 aa aa];simp only;omega
   ·rw[lE]
  ·simp only
   rw[tN,jH]
   exact RB hval
 ·have hin:i=n:=aa
  subst hin
  exact fin c' o s' hc ho hval hv
theorem S3 {s c' i:Nat} {o:Nat->Nat} (hs:s<32) (hc:c'<2^s):∀j,(if j=i then AV.int .u32 (u32.wrap (c':Int))else aF o j)=aF (cX o i c') j:=fun j=>jC (by
 have h3:2^s<=2^31:=Nat.pow_le_pow_right aa aa
 exact wrap_u32 aa aa) j
def Mb (A n B m:Nat):eU:=aO (.tuple [.mag (A-B),.int .i64 (if A<B then 7 else 0)]) [n<2^40,m<2^40]
theorem VM:bp P (cD (jM Mb)) 178:=
 cZ (xT fun _ _ _ _ K hz hy need=>aci hz hy need.1 need.2 K [])
def P6 (N n:Nat) (b:Int):eU:=aO (.tuple [.mag (N/b.toNat),.int .u32 (N%b.toNat:Nat)]) [n<2^40,0<b,b<2^32]
theorem Vu:bp P (cD (Cn P6)) 183:=
 cZ (Sy fun z n i K hz need=>by
  obtain⟨h1,h2,h3⟩:n<2^40/\0<i/\i<2^32:=need
  obtain⟨b,rfl⟩:=Int.eq_ofNat_of_zero_le (Int.le_of_lt h2)
  exact abq hz h1 aa aa K [])
theorem abV:bu 162 f162:=bC func162
theorem Sk:bu 184 f184:=bC func184
theorem ahY:bu 126 f126:=bC func126
abbrev nI:ByteArray:=⟨((List.range 256).map fun i=>UInt8.ofNat (ck i)).toArray⟩
def Fw:Spec:=cD fun l=>match l with
 |[.int .u32 x]=>some (aO (.int .i64 (ck x.toNat:Nat)) [0<=x/\x<2^32])
 |_=>none
theorem TR {x:Nat}:cy T [] [4,8] 30 f162 (aK f162) ⟨aZ 0 [.int .u32 x],[],0⟩=
  some (ag.fork (decide ((↑x:Int)>=65536)) (ag.aj [(0:Int)<=16] (ag.fork (decide ((↑x:Int).fdiv ((2:Int)^min (Int.toNat (16:Int)) u32.bits)>=256)) (ag.aj [(0:Int)<=8] (ag.aj [(0:Int)<=u8.wrap (((↑x:Int).fdiv ((2:Int)^min (Int.toNat (16:Int)) u32.bits)).fdiv ((2:Int)^min (Int.toNat (8:Int)) u32.bits))/\u8.wrap (((↑x:Int).fdiv ((2:Int)^min (Int.toNat (16:Int)) u32.bits)).fdiv ((2:Int)^min (Int.toNat (8:Int)) u32.bits))<(↑nI.size:Int)] (ag.leaf au.ret [int .i64 (i64.wrap (i64.wrap ((16:Int)+8)+i64.wrap (↑(oR nI (u8.wrap (((↑x:Int).fdiv ((2:Int)^min (Int.toNat (16:Int)) u32.bits)).fdiv ((2:Int)^min (Int.toNat (8:Int)) u32.bits))).toNat):Int)))]))) (ag.aj [(0:Int)<=u8.wrap ((↑x:Int).fdiv ((2:Int)^min (Int.toNat (16:Int)) u32.bits))/\u8.wrap ((↑x:Int).fdiv ((2:Int)^min (Int.toNat (16:Int)) u32.bits))<(↑nI.size:Int)] (ag.leaf au.ret [int .i64 (i64.wrap ((16:Int)+i64.wrap (↑(oR nI (u8.wrap ((↑x:Int).fdiv ((2:Int)^min (Int.toNat (16:Int)) u32.bits))).toNat):Int)))])))) (ag.fork (decide ((↑x:Int)>=256)) (ag.aj [(0:Int)<=8] (ag.aj [(0:Int)<=u8.wrap ((↑x:Int).fdiv ((2:Int)^min (Int.toNat (8:Int)) u32.bits))/\u8.wrap ((↑x:Int).fdiv ((2:Int)^min (Int.toNat (8:Int)) u32.bits))<(↑nI.size:Int)] (ag.leaf au.ret [int .i64 (i64.wrap (i64.wrap ((0:Int)+8)+i64.wrap (↑(oR nI (u8.wrap ((↑x:Int).fdiv ((2:Int)^min (Int.toNat (8:Int)) u32.bits))).toNat):Int)))]))) (ag.aj [(0:Int)<=u8.wrap (↑x:Int)/\u8.wrap (↑x:Int)<(↑nI.size:Int)] (ag.leaf au.ret [int .i64 (i64.wrap ((0:Int)+i64.wrap (↑(oR nI (u8.wrap (↑x:Int)).toNat):Int)))])))):=ah
theorem DV {i:Nat} (h:i<256):oR nI i=ck i:=by
 have h8:ck i<=8:=kJ.2 aa
 unfold oR
 have:nI.data[i]?=some (UInt8.ofNat (ck i)):=by simp[nI,h]
 rw[this]
 simp only[UInt8.toNat_ofNat']
 omega
theorem Zj:nI.size=256:=by
 show(List.map _ (List.range 256)).toArray.size=256
 simp
theorem yB {x:Nat} {s:Int} (hs:0<=s) (h:s<32):(x:Int).fdiv (2^min s.toNat u32.bits)=((x/2^s.toNat:Nat):Int):=by
 have:u32.bits=32:=rfl
 rw[this,Nat.min_eq_left aa,Int.fdiv_eq_ediv_of_nonneg _ (by exact Int.le_of_lt (Int.pow_pos (by decide)))]
 simp
theorem BU {x:Nat} (h:x<256):u8.wrap (x:Int)=x:=by
 simp[IntKind.wrap,IntKind.bits,IntKind.signed];omega
theorem YE {x:Nat} (hx:x<2^32) (K:Nat) (pre:aI):aW P 162 K [.int .u32 x] pre (aO (.int .i64 (ck x:Nat)) []):=by
 refine cB hT cJ hm abV rfl bh rfl 30 TR (fun _=>?_) K pre
 have b8:∀i:Nat,i<256->ck i<=8:=fun i h=>kJ.2 aa
 rw[yB (by decide) (by decide),yB (by decide) (by decide),yB (by decide) (by decide)]
 simp only[ag.all,aC,bI,bR,Zj,show Int.toNat 16=16 from rfl,show Int.toNat 8=8 from rfl]
 refine⟨fun h1=>⟨aa,fun h2=>⟨aa,?_⟩,fun h2=>?_⟩,fun h1=>⟨fun h2=>⟨aa,?_⟩,fun h2=>?_⟩⟩
 ·have h3:x/2^16/2^8<256:=aa
  have e:ck x=16+(8+ck (x/2^16/2^8)):=by rw[wP (k:=16) aa,wP (x:=x/2^16) (k:=8) aa]
  rw[BU h3]
  refine⟨aa,cE ?_⟩
  rw[bS,DV h3,e]
  have:=b8 _ h3
  rw[wrap_i64 (x:=((ck (x/2^16/2^8):Nat):Int)) aa aa,wrap_i64 (x:=(16:Int)+8) aa aa,wrap_i64 aa aa]
  omega
 ·have h3:x/2^16<256:=aa
  have e:ck x=16+ck (x/2^16):=by rw[wP (k:=16) aa]
  rw[BU h3]
  refine⟨aa,cE ?_⟩
  rw[bS,DV h3,e]
  have:=b8 _ h3
  rw[wrap_i64 (x:=((ck (x/2^16):Nat):Int)) aa aa,wrap_i64 aa aa]
  omega
 ·have h3:x/2^8<256:=aa
  have e:ck x=8+ck (x/2^8):=by rw[wP (k:=8) aa]
  rw[BU h3]
  refine⟨aa,cE ?_⟩
  rw[bS,DV h3,e]
  have:=b8 _ h3
  rw[wrap_i64 (x:=((ck (x/2^8):Nat):Int)) aa aa,wrap_i64 (x:=(0:Int)+8) aa aa,wrap_i64 aa aa]
  omega
 ·have h3:x<256:=aa
  rw[BU h3]
  refine⟨aa,cE ?_⟩
  rw[bS,DV h3]
  have:=b8 _ h3
  rw[wrap_i64 (x:=((ck x:Nat):Int)) aa aa,wrap_i64 aa aa]
  omega
theorem O8:bp P Fw 162:=by
 refine cZ fun K args r hk hs _=>?_
 split at hs
 ·rename_i x
  simp only[aB]at hs
  subst hs
  intro need
  obtain⟨h1,h2⟩:0<=x/\x<2^32:=need
  obtain⟨y,rfl⟩:=Int.eq_ofNat_of_zero_le h1
  exact YE (x:=y) aa K [] trivial
 ·simp at hs
theorem Sa {x:Nat}:cy T [(162,Fw)] [] 30 f184 (aK f184) ⟨aZ 0 [.int .u32 x],[],0⟩=
  some (ag.aj [(0:Int)<=(↑x:Int)/\(↑x:Int)<2^32] (ag.leaf au.ret [int .i64 (i64.wrap ((32:Int)-(↑(ck (↑x:Int).toNat):Int)))])):=ah
theorem aao {n:Nat} {z:Nat->Nat}:cy T ((162,Fw)::G1) [7] 30 f126 (aK f126) ⟨aZ 0 [.aq 1 n (aF z)],[],0⟩=
  some (ag.aj [fL n (aF z),n<2^62] (ag.fork ((↑(nl (val n fun(i:Nat)=>numOf (aF z i))):Int)==0) (ag.leaf au.ret [int .i64 (0:Int)]) (ag.aj [(0:Int)<=i64.wrap ((↑(nl (val n fun(i:Nat)=>numOf (aF z i))):Int)-1)/\(i64.wrap ((↑(nl (val n fun(i:Nat)=>numOf (aF z i))):Int)-1)).toNat<nl (val n fun(i:Nat)=>numOf (aF z i)),(0:Int)<=(↑(aG (val n fun(i:Nat)=>numOf (aF z i)) (i64.wrap ((↑(nl (val n fun(i:Nat)=>numOf (aF z i))):Int)-1)).toNat):Int)/\(↑(aG (val n fun(i:Nat)=>numOf (aF z i)) (i64.wrap ((↑(nl (val n fun(i:Nat)=>numOf (aF z i))):Int)-1)).toNat):Int)<2^32] (ag.leaf au.ret [int .i64 (i64.wrap (i64.wrap ((32:Int)*i64.wrap ((↑(nl (val n fun(i:Nat)=>numOf (aF z i))):Int)-1))+(↑(ck (↑(aG (val n fun(i:Nat)=>numOf (aF z i)) (i64.wrap ((↑(nl (val n fun(i:Nat)=>numOf (aF z i))):Int)-1)).toNat):Int).toNat):Int)))])))):=ah
theorem adg {x:Nat} (hx:x<2^32) (K:Nat) (pre:aI):aW P 184 K [.int .u32 x] pre (aO (.int .i64 (32-ck x:Nat)) []):=by
 refine cB hT (aM O8 cJ) hm Sk rfl bh rfl 30 Sa (fun _=>?_) K pre
 have h1:ck x<=32:=kJ.2 hx
 simp only[ag.all,aC]
 refine⟨aa,cE ?_⟩
 rw[bS,wrap_i64 aa aa];omega
theorem S9 {n:Nat} {z:Nat->Nat} (hz:∀i,i<n->z i<2^32) (hn:n<2^40) (K:Nat) (pre:aI):aW P 126 K [.aq 1 n (aF z)] pre (aO (.int .i64 (ck (val n z):Nat)) []):=by
 refine cB hT (aM O8 jr) hm ahY rfl bh rfl 30 aao (fun _=>?_) K pre
 have hnl:nl (val n z)<=n:=eP.2 (iL hz)
 simp only[ag.all,aC,lQ,beq_iff_eq,beq_eq_false_iff_ne,ne_eq]
 generalize val n z=N at*
 refine⟨⟨jg hz,aa⟩,fun h=>cE ?_,fun h=>?_⟩
 ·have:N=0:=by
   rcases Nat.eq_zero_or_pos N with h1|h1
   ·exact h1
   ·have:=jc.2 (show N≠0 by omega);omega
  simp[this,ck]
 ·have h0:N≠0:=jc.1 aa
  have hp:=jc.2 h0
  have e:i64.wrap ((nl N:Int)-1)=((nl N-1:Nat):Int):=by rw[wrap_i64 aa aa];omega
  rw[e,bS,bS]
  have hl:=fB (N:=N) (i:=nl N-1)
  have hb:=NW h0
  have h32:ck (aG N (nl N-1))<=32:=kJ.2 hl
  refine⟨⟨aa,aa⟩,cE ?_⟩
  rw[hb,wrap_i64 (x:=32*((nl N-1:Nat):Int)) aa aa,wrap_i64 aa aa]
  omega
def Qd:Spec:=cD fun l=>match l with
 |[.int .u32 x]=>some (aO (.int .i64 (32-ck x.toNat:Nat)) [0<=x/\x<2^32])
 |_=>none
theorem agu:bp P Qd 184:=by
 refine cZ fun K args r hk hs _=>?_
 split at hs
 ·rename_i x
  simp only[aB]at hs
  subst hs
  intro need
  obtain⟨h1,h2⟩:0<=x/\x<2^32:=need
  obtain⟨y,rfl⟩:=Int.eq_ofNat_of_zero_le h1
  exact adg (x:=y) aa K [] trivial
 ·simp at hs
def F4 (N n:Nat):eU:=aO (.int .i64 (ck N:Nat)) [n<2^40]
theorem La:bp P (cD (ni F4)) 126:=
 cZ (xR fun _ _ K hz need=>S9 hz need K [])
theorem afQ:bu 181 f181:=bC func181
theorem adj:bu 117 f117:=bC func117
theorem ZL:bu 119 f119:=bC func119
theorem VI {n:Nat} {b:Bool} {f:Nat->AV}:cy T [] [4] 30 f181 (aK f181) ⟨aZ 0 [.fq b 1 n f],[],0⟩=
  some (ag.fork b (ag.leaf au.ret [nil]) (ag.aj [(0:Nat)*1<=2^24,((0:Nat)+n)*((4:Nat)+1)*2<=2^47] (ag.leaf au.ret [aq 1 ((0:Nat)+n) fun i=>if i+0<0 then nth [] (int .u32 (0:Int)) (i+0)else f (i+0-0)]))):=ah
theorem aex {A B:Nat}:aL T [] [10] 30 [0,1,12,13,4] (before (aK f117) [1,1,0,1]) ⟨aZ 0 [.mag A,.mag B],[],0⟩=
  some (ag.fork ((↑(nl A):Int)!=(↑(nl B):Int)) (ag.leaf au.ret ([mag A,mag B,tuple [],tuple [],AV.bool false],[])) (ag.leaf au.normal ([mag A,mag B,int .i64 (↑(nl A):Int),int .i64 (0:Int),AV.bool false],[]))):=ah
theorem abY {A B i:Nat}:aL T [] [14,24] 30 [0,1,12,13,4] [part (aK f117) [1,1,0,1,0,0]] ⟨aH [0,1,12,13,4] [.mag A,.mag B,.int .i64 (nl A),.int .i64 i,.bool false],[],0⟩=
  let b:=(↑(nl A):Int);let a:=(↑i:Int);let d:=[mag A,mag B,int .i64 b,int .i64 a,AV.bool false];some (ag.fork (decide (a<b)) (ag.aj [(0:Int)<=a/\a.toNat<nl A,(0:Int)<=a/\a.toNat<nl B] (ag.fork ((↑(aG A a.toNat):Int)!=(↑(aG B a.toNat):Int)) (ag.leaf au.ret (d,[])) (ag.leaf au.normal ([mag A,mag B,int .i64 b,int .i64 (i64.wrap (a+1)),AV.bool false],[])))) (ag.leaf (au.exit 0) (d,[]))):=ah
theorem ais {A B i:Nat}:dc T [] [] 30 f117 (behind (aK f117) [1,1,0,1]) ⟨aH [0,1,12,13,4] [.mag A,.mag B,.int .i64 (nl A),.int .i64 i,.bool false],[],0⟩=
  some (ag.leaf au.ret [AV.bool true]):=ah
theorem ah5 {n m:Nat} {z y:Nat->Nat}:aL T G1 [] 30 [1,5,17,18,19] (before (aK f119) [1,1,0,1]) ⟨aZ 0 [.aq 1 n (aF z),.aq 1 m (aF y)],[],0⟩=
  let b:=i64.wrap ((↑n:Int)+(↑m:Int));some (ag.aj [(0:Int)<=b/\b<=b/\b<=2^47/\b*(↑(4:Nat):Int)<=2^47] (ag.leaf au.normal ([aq 1 m fun a=>int .u32 (↑(y a):Int),own 24576 1 0 b.toNat,aq 1 n fun a=>int .u32 (↑(z a):Int),int .i64 (↑n:Int),int .i64 (0:Int)],[(24576,aA.mk true true 1 b.toNat fun x=>int .u32 (0:Int))]))):=ah
theorem ahX {n m i:Nat} {z y o:Nat->Nat}:aL T G1 [20] 30 [1,5,17,18,19] (before (part (aK f119) [1,1,0,1,0,0]) [1,1,0]) ⟨aH [1,5,17,18,19] [.aq 1 m (aF y),.own 7 1 0 (n+m),.aq 1 n (aF z),.int .i64 n,.int .i64 i],[(7,⟨true,true,1,n+m,aF o⟩)],8⟩=
  let b:List AV×aI:=([aq 1 m fun a=>int .u32 (↑(y a):Int),own 7 1 0 (n+m),aq 1 n fun a=>int .u32 (↑(z a):Int),int .i64 (↑n:Int),int .i64 (↑i:Int)],[(7,aA.mk true true 1 (n+m) fun a=>int .u32 (↑(o a):Int))]);some (ag.fork (decide ((↑i:Int)<(↑n:Int))) (ag.leaf au.normal b) (ag.leaf (au.exit 0) b)):=ah
theorem adS {n m i:Nat} {z y o:Nat->Nat}:aL T G1 [25] 30 [1,5,17,18,19,6,7,8,26,27,28] (before (part (aK f119) [1,1,0,1,0,0,1,1,0,0]) [1,1,1,0,1]) ⟨aH [1,5,17,18,19] [.aq 1 m (aF y),.own 7 1 0 (n+m),.aq 1 n (aF z),.int .i64 n,.int .i64 i],[(7,⟨true,true,1,n+m,aF o⟩)],8⟩=
  let d:=(↑i:Int);let k:=int .i64 (↑n:Int);let j:=own 7 1 0 (n+m);let h:=aq 1 n fun a=>int .u32 (↑(z a):Int);let g:Nat×aA:=(7,aA.mk true true 1 (n+m) fun a=>int .u32 (↑(o a):Int));let e:=aq 1 m fun a=>int .u32 (↑(y a):Int);let f:=(↑(z d.toNat):Int);let b:=int .i64 d;some (ag.aj [(0:Int)<=d/\d.toNat<n] (ag.fork (f==0) (ag.leaf (au.exit 1) ([e,j,h,k,b,b,int .u32 f,tuple [],tuple [],tuple [],tuple []],[g])) (ag.leaf au.normal ([e,j,h,k,b,b,int .u32 f,int .u64 (0:Int),e,int .i64 (↑m:Int),int .i64 (0:Int)],[g])))):=ah
theorem ac5 {n m i j x c:Nat} {z y o:Nat->Nat}:aL T G1 [29] 30 [1,5,17,18,19,6,7,8,26,27,28] [part (part (aK f119) [1,1,0,1,0,0,1,1,0,0]) [1,1,1,0,1,0,0]] ⟨aH [1,5,17,18,19,6,7,8,26,27,28] [.aq 1 m (aF y),.own 7 1 0 (n+m),.aq 1 n (aF z),.int .i64 n,.int .i64 i,.int .i64 i,.int .u32 x,.int .u64 c,.aq 1 m (aF y),.int .i64 m,.int .i64 j],[(7,⟨true,true,1,n+m,aF o⟩)],8⟩=
  let f:=int .i64 (↑n:Int);let e:=int .u32 (↑x:Int);let d:=int .i64 (↑m:Int);let r:=own 7 1 0 (n+m);let b:=(↑j:Int);let q:=aq 1 n fun a=>int .u32 (↑(z a):Int);let h:=int .i64 (↑i:Int);let g:=aq 1 m fun a=>int .u32 (↑(y a):Int);let k:=i64.wrap ((↑i:Int)+b);let l:=k.toNat+0;let s:=[(0:Int)<=k/\k.toNat<n+m,l<n+m];let p:=u64.wrap ((↑c:Int)+u64.wrap (u64.wrap (u64.wrap (↑x:Int)*u64.wrap (↑(y b.toNat):Int))+u64.wrap (↑(o l):Int)));some (ag.fork (decide (b<(↑m:Int))) (ag.aj [(0:Int)<=b/\b.toNat<m] (ag.aj s (ag.aj s (ag.aj [(0:Int)<=32] (ag.leaf au.normal ([g,r,q,f,h,h,e,int .u64 (p.fdiv ((2:Int)^min (Int.toNat (32:Int)) u64.bits)),g,d,int .i64 (i64.wrap (b+1))],[(7,aA.mk true true 1 (n+m) fun j=>if(j==l)=true then int .u32 (u32.wrap p)else aF o j)])))))) (ag.leaf (au.exit 2) ([g,r,q,f,h,h,e,int .u64 (↑c:Int),g,d,int .i64 b],[(7,aA.mk true true 1 (n+m) fun a=>int .u32 (↑(o a):Int))]))):=ah
theorem adN {n m i j x c:Nat} {z y o:Nat->Nat}:aL T G1 [] 30 [1,5,17,18,19] (behind (part (aK f119) [1,1,0,1,0,0,1,1,0,0]) [1,1,1,0,1]) ⟨aH [1,5,17,18,19,6,7,8,26,27,28] [.aq 1 m (aF y),.own 7 1 0 (n+m),.aq 1 n (aF z),.int .i64 n,.int .i64 i,.int .i64 i,.int .u32 x,.int .u64 c,.aq 1 m (aF y),.int .i64 m,.int .i64 j],[(7,⟨true,true,1,n+m,aF o⟩)],8⟩=
  let b:=i64.wrap ((↑i:Int)+(↑m:Int));let d:=b.toNat+0;some (ag.aj [(0:Int)<=b/\b.toNat<n+m,d<n+m] (ag.leaf au.normal ([aq 1 m fun a=>int .u32 (↑(y a):Int),own 7 1 0 (n+m),aq 1 n fun a=>int .u32 (↑(z a):Int),int .i64 (↑n:Int),int .i64 (↑i:Int)],[(7,aA.mk true true 1 (n+m) fun j=>if(j==d)=true then int .u32 (u32.wrap (↑c:Int))else aF o j)]))):=ah
theorem S8 {n m i:Nat} {z y o:Nat->Nat}:aL T G1 [] 30 [1,5,17,18,19] (behind (part (aK f119) [1,1,0,1,0,0]) [1,1,0]) ⟨aH [1,5,17,18,19] [.aq 1 m (aF y),.own 7 1 0 (n+m),.aq 1 n (aF z),.int .i64 n,.int .i64 i],[(7,⟨true,true,1,n+m,aF o⟩)],8⟩=
  some (ag.leaf au.normal ([aq 1 m fun a=>int .u32 (↑(y a):Int),own 7 1 0 (n+m),aq 1 n fun a=>int .u32 (↑(z a):Int),int .i64 (↑n:Int),int .i64 (i64.wrap ((↑i:Int)+1))],[(7,aA.mk true true 1 (n+m) fun a=>int .u32 (↑(o a):Int))])):=ah
theorem aal {n m i:Nat} {z y o:Nat->Nat}:dc T G1 [] 30 f119 (behind (aK f119) [1,1,0,1]) ⟨aH [1,5,17,18,19] [.aq 1 m (aF y),.own 7 1 0 (n+m),.aq 1 n (aF z),.int .i64 n,.int .i64 i],[(7,⟨true,true,1,n+m,aF o⟩)],8⟩=
  some (ag.aj [fL (n+m) fun i=>aF o (i+0),n+m<2^62] (ag.leaf au.ret [mag (val (n+m) fun i=>numOf (aF o (i+0)))])):=ah
theorem I0 {n:Nat} {f:Nat->AV} (hn:n<2^40) (K:Nat):aW P 181 K [.aq 1 n f] [] (aO (.aq 1 n f) []):=by
 refine HW fun b hb=>?_
 refine cB hT cJ hm afQ rfl bh rfl 30 VI (fun _=>?_) K []
 simp only[ag.all,aC]
 refine⟨fun h=>?_,fun h=>⟨⟨aa,aa⟩,wN aa fun i hi=>by simp⟩⟩
 rw[hb h]
 exact mT aa
def Cb:Spec:=cD fun l=>match l with
 |[.mag N]=>some (aO (.mag N) [nl N<2^40])
 |[.nil]=>some (aO (.mag 0) [])
 |[.aq es n f]=>if es==1 then some (aO (.aq 1 n f) [n<2^40])else none
 |_=>none
theorem IV:bp P Cb 181:=by
 refine cZ fun K args r hk hs _=>?_
 split at hs
 ·rename_i N
  simp only[aB]at hs
  subst hs
  intro need
  have:=iz (args:=[.mag N]) (I0 (n:=nl N) (f:=fun i=>.int .u32 (aG N i)) need K) rfl ⟨Lq rfl fun i hi=>rfl,trivial⟩ []
  exact Na (l':=[]) this id rfl rfl (l9 rfl fun i hi=>rfl) trivial
 ·simp only[aB]at hs
  subst hs
  intro need
  have:=iz (args:=[.nil]) (I0 (n:=0) (f:=fun _=>.nil) aa K) rfl ⟨mT aa,trivial⟩ []
  exact Na (l':=[]) this id rfl rfl (l9 (by simp[nl]) fun i hi=>aa) trivial
 ·rename_i es n f
  split at hs
  ·rename_i he
   have he:es=1:=by simpa using he
   subst he
   simp only[aB]at hs
   subst hs
   exact fun need=>I0 need K trivial
  ·simp at hs
 ·simp at hs
theorem ahQ {A B:Nat} (hA:nl A<2^40) (hB:nl B<2^40) (K:Nat) (pre:aI):aW P 117 K [.mag A,.mag B] pre (aO (.bool (decide (A=B))) []):=by
 refine lP hT adj rfl bh rfl (fun _ c h0=>?_) K pre
 refine az.hole [1,1,0,1] ah (aJ.bU hT cJ hm 30 [0,1,12,13,4] aex ah ?_)
 simp only[ag.all,bne_iff_ne,ne_eq,Int.natCast_inj,bne_eq_false_iff_eq]
 refine⟨fun hb s' hv=>?_,fun hb s' hv=>?_⟩
 ·exact jn (us:=[.bool false]) (.inr rfl) hv ah (jh (decide_eq_false fun h=>hb (by rw[h])).symm)
 refine az.jK (i:=0) (y:=part (aK f117) [1,1,0,1,0,0]) ah
  (fun i:Nat=>⟨aH [0,1,12,13,4] [.mag A,.mag B,.int .i64 (nl A),.int .i64 i,.bool false],[],0⟩)
  (fun i=>i<=nl A/\∀j,j<i->aG A j=aG B j) (fun i=>nl A-i) 0
  (fe [] hv h0 rfl ⟨aY,aY,aY,aY,aY,trivial⟩ trivial) ⟨aa,fun j h=>aa⟩ ?_
 rintro i ⟨hi,hlim⟩
 refine az.bU hT cJ hm 30 [0,1,12,13,4] abY ah ?_
 simp only[ag.all,aC,bI,bR,bne_iff_ne,ne_eq,Int.natCast_inj,bne_eq_false_iff_eq,bS]
 refine⟨fun h1=>⟨⟨aa,aa⟩,fun hne s' hv=>?_,fun heq s' hv=>?_⟩,fun h1 s' hv=>?_⟩
 ·exact jn (us:=[.bool false]) (.inr rfl) hv ah (jh (decide_eq_false fun h=>hne (by rw[h])).symm)
 ·refine⟨i+1,fe [] hv h0 rfl ⟨aY,aY,aY,⟨rfl,jb (by rw[wrap_i64 aa aa];omega)⟩,aY,trivial⟩ trivial,⟨aa,fun j hj=>?_⟩,aa⟩
  by_cases h:j=i
  ·subst h;exact heq
  ·exact hlim j aa
 ·have hAB:A=B:=I5 hb fun j hj=>hlim j aa
  exact aJ.weak ah (fe (vs:=[.mag A,.mag B,.int .i64 (nl A),.int .i64 i,.bool false]) (ps:=[]) (nx:=0) [] hv h0 rfl ⟨aY,aY,aY,aY,aY,trivial⟩ trivial)
   (aJ.fin hT cJ hm 30 ais ah (jh (decide_eq_true hAB).symm))
def kB:AV->Option Nat
 |.mag N=>some N
 |.nil=>some 0
 |_=>none
theorem nO {a:AV} {N:Nat} (h:kB a=some N):bf a (.mag N):=by
 cases a<;>simp only[kB,reduceCtorEq,aB]at h
 case mag M=>subst h;exact .refl _
 case nil=>subst h;exact mP
def IY:Spec:=cD fun l=>match l with
 |[a,b]=>match kB a,kB b with
  |some A,some B=>some (aO (.bool (decide (A=B))) [nl A<2^40,nl B<2^40])
  |_,_=>none
 |_=>none
theorem Rl:bp P IY 117:=by
 refine cZ fun K args r hk hs _=>?_
 split at hs
 ·split at hs
  ·rename_i A B hA hB
   simp only[aB]at hs
   subst hs
   exact fun need=>iz (ahQ need.1 need.2 K []) hk ⟨nO hA,nO hB,trivial⟩ [] trivial
  ·simp at hs
 ·simp at hs
abbrev rq:List Nat:=[1,5,17,18,19]
abbrev uK (n m:Nat) (z y:Nat->Nat) (K i:Nat):List AV:=[.aq 1 m (aF y),.own K 1 0 (n+m),.aq 1 n (aF z),.int .i64 n,.int .i64 i]
abbrev H7:List Nat:=[1,5,17,18,19,6,7,8,26,27,28]
abbrev Og (n m:Nat) (z y:Nat->Nat) (K i x c j:Nat):List AV:=[.aq 1 m (aF y),.own K 1 0 (n+m),.aq 1 n (aF z),.int .i64 n,.int .i64 i,.int .i64 i,.int .u32 x,.int .u64 c,.aq 1 m (aF y),.int .i64 m,.int .i64 j]
theorem acH {n m:Nat} {z y:Nat->Nat} (hz:∀i,i<n->z i<2^32) (hy:∀i,i<m->y i<2^32) (hn:n<2^40) (hm':m<2^40) (K:Nat) (pre:aI):
  aW P 119 K [.aq 1 n (aF z),.aq 1 m (aF y)] pre (aO (.mag (val n z*val m y)) []):=by
 refine lP hT ZL rfl bh rfl (fun _ c0 h0=>?_) K pre
 refine az.hole [1,1,0,1] ah (aJ.bU hT jr hm 30 rq ah5 ah ?_)
 have hw:i64.wrap ((n:Int)+(m:Int))=((n+m:Nat):Int):=by rw[wrap_i64 aa aa];omega
 simp only[ag.all,aC,hw,bS]
 refine⟨aa,fun s' hv=>?_⟩
 refine az.jK (i:=0) (y:=part (aK f119) [1,1,0,1,0,0]) ah
  (fun p:Nat×(Nat->Nat)=>⟨aH rq (uK n m z y 7 p.1),[(7,⟨true,true,1,n+m,aF p.2⟩)],8⟩)
  (fun p=>p.1<=n/\(∀j,j<n+m->p.2 j<2^32)/\(∀j,p.1+m<=j->p.2 j=0)/\val (n+m) p.2=val p.1 z*val m y)
  (fun p=>n-p.1) (0,fun _=>0)
  (fe [(7,24576)] hv h0 rfl ⟨aY,⟨rfl,eR rfl rfl rfl⟩,aY,aY,aY,trivial⟩
   ⟨⟨_,_,rfl,rfl,gZ rfl fun j _=>rfl⟩,trivial⟩)
  ⟨by simp,fun j _=>by simp,fun j _=>rfl,?_⟩ ?_
 ·simp only
  rw[pX (k:=0) aa fun _ _ _=>rfl]
  simp[val]
 rintro⟨i,o⟩ ⟨hi,ho,ho0,hval⟩
 simp only at hi ho ho0 hval
 have next:∀{o':Nat->Nat} {s':aP},i<n->bJ rq s'=some (uK n m z y 7 i,[(7,⟨true,true,1,n+m,aF o'⟩)])->(∀j,j<n+m->o' j<2^32)->(∀j,i+1+m<=j->o' j=0)->
   val (n+m) o'=val (i+1) z*val m y->∀{QF:au->aP->Prop},
   aJ P c0 f119.ntmps (behind (part (aK f119) [1,1,0,1,0,0]) [1,1,0]) s' (fW (fun s'=>∃k:Nat×(Nat->Nat),(∃ρ,Le c0 ρ s' ⟨aH rq (uK n m z y 7 k.1),[(7,⟨true,true,1,n+m,aF k.2⟩)],8⟩)/\
    (k.1<=n/\(∀j,j<n+m->k.2 j<2^32)/\(∀j,k.1+m<=j->k.2 j=0)/\val (n+m) k.2=val k.1 z*val m y)/\n-k.1<n-i) QF):=by
  intro o' s' hin hv g1 g2 g3 QF
  refine aJ.weak ah (fe (vs:=uK n m z y 7 i) (ps:=[(7,⟨true,true,1,n+m,aF o'⟩)]) (nx:=8) [(7,7)] hv h0 rfl ⟨aY,⟨rfl,eR rfl rfl rfl⟩,aY,aY,aY,trivial⟩
    ⟨⟨_,_,rfl,rfl,gZ rfl fun j _=>rfl⟩,trivial⟩)
   (aJ.bU hT jr hm 30 rq S8 ah ?_)
  intro s' hv
  exact⟨(i+1,o'),fe [(7,7)] hv h0 rfl ⟨aY,⟨rfl,eR rfl rfl rfl⟩,aY,aY,⟨rfl,jb (by rw[wrap_i64 aa aa];simp only;omega)⟩,trivial⟩
    ⟨⟨_,_,rfl,rfl,gZ rfl fun j _=>rfl⟩,trivial⟩,⟨by simp only;omega,g1,g2,g3⟩,by simp only;omega⟩
 refine az.hole [1,1,0] ah (aJ.bU hT jr hm 30 rq ahX ah ?_)
 simp only[ag.all,bI,bR]
 refine⟨fun h1 s' hv=>?_,fun h1 s' hv=>?_⟩
 ·have hin:i<n:=aa
  have hzi:=hz i hin
  refine az.od (fe (vs:=uK n m z y 7 i) (ps:=[(7,⟨true,true,1,n+m,aF o⟩)]) (nx:=8) [(7,7)] hv h0 rfl ⟨aY,⟨rfl,eR rfl rfl rfl⟩,aY,aY,aY,trivial⟩
    ⟨⟨_,_,rfl,rfl,gZ rfl fun j _=>rfl⟩,trivial⟩) ?_
  refine az.rT (i:=1) (y:=part (aK f119) [1,1,0,1,0,0,1,1,0,0]) ah ?_
  refine az.hole [1,1,1,0,1] ah (aJ.bU hT jr hm 30 H7 adS ah ?_)
  simp only[ag.all,aC,bS,beq_iff_eq,beq_eq_false_iff_ne,ne_eq]
  refine⟨aa,fun hz0 s' hv=>?_,fun hz0 s' hv=>?_⟩
  ·refine gR ?_
   exact(next hin (lR (ls:=rq) (l:=[6,7,8,26,27,28]) (vs:=uK n m z y 7 i) hv rfl rfl) ho (fun j hj=>ho0 j aa) (by rw[hval,val,show z i=0 by omega];simp))
  refine az.jK (i:=2) (y:=part (part (aK f119) [1,1,0,1,0,0,1,1,0,0]) [1,1,1,0,1,0,0]) ah
   (fun p:Nat×Nat×(Nat->Nat)=>⟨aH H7 (Og n m z y 7 i (z i) p.2.1 p.1),[(7,⟨true,true,1,n+m,aF p.2.2⟩)],8⟩)
   (fun p=>p.1<=m/\p.2.1<2^32/\(∀j,j<n+m->p.2.2 j<2^32)/\(∀j,i+m<=j->p.2.2 j=0)/\val (n+m) p.2.2+p.2.1*2^(32*(i+p.1))=val i z*val m y+z i*val p.1 y*2^(32*i))
   (fun p=>m-p.1) (0,0,o)
   (fe [(7,7)] hv h0 rfl ⟨aY,⟨rfl,eR rfl rfl rfl⟩,aY,aY,aY,aY,aY,aY,aY,aY,aY,trivial⟩
    ⟨⟨_,_,rfl,rfl,gZ rfl fun j _=>rfl⟩,trivial⟩)
   ⟨by simp,by simp,ho,ho0,by simp[val,hval]⟩ ?_
  rintro⟨j,c,o⟩ ⟨hj,hc,ho,ho0,hval⟩
  simp only at hj hc ho ho0 hval
  refine az.bU hT jr hm 30 H7 ac5 ah ?_
  have hij:i64.wrap ((i:Int)+(j:Int))=((i+j:Nat):Int):=by rw[wrap_i64 aa aa];omega
  simp only[ag.all,aC,bI,bR,hij,bS,Nat.add_zero,beq_iff_eq]
  refine⟨fun h2=>?_,fun h2 s' hv=>gR ?_⟩
  ·have hjm:j<m:=aa
   obtain⟨m1,m2,m3⟩:=JT hc hzi (hy j hjm) (ho (i+j) aa)
   rw[m1]
   refine⟨aa,aa,aa,aa,fun s' hv=>⟨(j+1,(c+z i*y j+o (i+j))/4294967296,cX o (i+j) ((c+z i*y j+o (i+j))%4294967296)),?_,⟨by simp only;omega,m3,jQ aa ho,fun k hk=>?_,?_⟩,by simp only;omega⟩⟩
   ·refine fe [(7,7)] hv h0 rfl ⟨aY,⟨rfl,eR rfl rfl rfl⟩,aY,aY,aY,aY,aY,⟨rfl,jb ?_⟩,aY,aY,⟨rfl,jb ?_⟩,trivial⟩
     ⟨⟨_,_,rfl,rfl,gZ rfl fun k _=>jC (by rw[lE]) k⟩,trivial⟩
    ·rw[nY];simp only;omega
    ·rw[wrap_i64 aa aa];simp only;omega
   ·exact(iw aa).trans (ho0 k hk)
   ·simp only
    rw[show 32*(i+(j+1))=32*((i+j)+1) by omega,jH,val]
    have hset:=GF (o:=o) (x:=(c+z i*y j+o (i+j))%4294967296) (show i+j<n+m by omega)
    exact LH rfl (Nat.div_add_mod _ _) hset (by rw[<-Nat.pow_add];congr 1;omega) hval
  ·have hjm:j=m:=aa
   subst hjm
   refine aJ.weak ah (fe (vs:=Og n j z y 7 i (z i) c j) (ps:=[(7,⟨true,true,1,n+j,aF o⟩)]) (nx:=8) [(7,7)] hv h0 rfl
     ⟨aY,⟨rfl,eR rfl rfl rfl⟩,aY,aY,aY,aY,aY,aY,aY,aY,aY,trivial⟩
     ⟨⟨_,_,rfl,rfl,gZ rfl fun j _=>rfl⟩,trivial⟩)
    (aJ.bU hT jr hm 30 rq adN ah ?_)
   simp only[ag.all,aC,hij,bS,Nat.add_zero,beq_iff_eq]
   refine⟨aa,fun s' hv=>?_⟩
   have hf:(fun k=>if k=i+j then AV.int .u32 (u32.wrap (c:Int))else aF o k)=aF (cX o (i+j) c):=by
    funext k
    exact jC (wrap_u32 aa aa) k
   rw[hf]at hv
   refine next hin hv (jQ hc ho) (fun k hk=>(iw aa).trans (ho0 k aa)) ?_
   rw[u6 aa (ho0 _ aa),hval,val,Nat.add_mul,Nat.mul_assoc,Nat.mul_assoc,Nat.mul_comm (val j y)]
 ·have hin:i=n:=aa
  subst hin
  refine ud (gR ?_)
  refine(aJ.weak ah (fe (vs:=uK i m z y 7 i) (ps:=[(7,⟨true,true,1,i+m,aF o⟩)]) (nx:=8) [(7,7)] hv h0 rfl ⟨aY,⟨rfl,eR rfl rfl rfl⟩,aY,aY,aY,trivial⟩
    ⟨⟨_,_,rfl,rfl,gZ rfl fun j _=>rfl⟩,trivial⟩)
   (aJ.fin hT jr hm 30 aal ah ?_))
  simp only[ag.all,aC,Nat.add_zero,lQ]
  exact⟨⟨jg ho,aa⟩,fG (congrArg AV.mag hval)⟩
def Lr (A n B m:Nat):eU:=aO (.mag (A*B)) [n<2^40,m<2^40]
theorem aez:bp P (cD (jM Lr)) 119:=
 cZ (xT fun _ _ _ _ K hz hy need=>acH hz hy need.1 need.2 K [])
theorem ahM {n s i c:Nat} {z o:Nat->Nat}:aL T G1 [] 30 [4] (behind (aK f185) [1,1,1,0,1]) ⟨aH [0,1,5,6,13,14,15] [.aq 1 n (aF z),.int .i64 s,.own 7 1 0 (n+1),.int .u64 c,.aq 1 n (aF z),.int .i64 n,.int .i64 i],[(7,⟨true,true,1,n+1,aF o⟩)],8⟩=
  let a:=n+1;let b:=(↑n:Int).toNat+0;some (ag.aj [(0:Int)<=(↑n:Int)/\(↑n:Int).toNat<a,b<a] (ag.leaf au.ret ([own 7 1 0 a],[(7,aA.mk true true 1 a fun j=>if(j==b)=true then int .u32 (u32.wrap (↑c:Int))else aF o j)]))):=ah
theorem WN {n:Nat} {z:Nat->Nat}:aL T [] [] 30 [0,3] (before (aK f160) [1,1,0]) ⟨aZ 0 [.own 0 1 0 n],[(0,⟨true,true,1,n,aF z⟩)],1⟩=
  some (ag.leaf au.normal ([own 0 1 0 n,int .i64 (↑n:Int)],[(0,aA.mk true true 1 n fun a=>int .u32 (↑(z a):Int))])):=ah
theorem aep {n k:Nat} {z:Nat->Nat}:aL T [] [8,15] 30 [0,3] [part (aK f160) [1,1,0,0,0]] ⟨aH [0,3] [.own 0 1 0 n,.int .i64 k],[(0,⟨true,true,1,n,aF z⟩)],1⟩=
  let d:=(↑k:Int);let g:=own 0 1 0 n;let f:Nat×aA:=(0,aA.mk true true 1 n fun a=>int .u32 (↑(z a):Int));let e:=decide (d>0);let h:ag (List AV×aI):=ag.leaf (au.exit 0) ([g,int .i64 d],[f]);let b:=i64.wrap (d-1);let i:ag (List AV×aI):=ag.leaf au.normal ([g,int .i64 b],[f]);some (ag.fork e (ag.aj [e=true,(0:Int)<=b/\b.toNat<n,b.toNat+0<n] (ag.fork (bif true then(↑(z (b.toNat+0)):Int)==0 else false) i h)) (ag.aj [e=false] (ag.fork false i h))):=ah
theorem acJ {n k:Nat} {z:Nat->Nat}:aL T [] [] 30 [2] (behind (aK f160) [1,1,0]) ⟨aH [0,3] [.own 0 1 0 n,.int .i64 k],[(0,⟨true,true,1,n,aF z⟩)],1⟩=
  let b:=(↑k:Int);some (ag.aj [(0:Int)<=0/\(0:Int)<=b/\b<=b/\b<=(↑n:Int)] (ag.leaf au.ret ([own 0 1 0 (b.toNat-Int.toNat (0:Int))],[(0,aA.mk true true 1 n fun a=>int .u32 (↑(z a):Int))]))):=ah
theorem afx {n s:Nat} {z:Nat->Nat} (hz:∀i,i<n->z i<2^32) (hn:n<2^40) (hs:s<32) (K:Nat):
  aW P 185 K [.aq 1 n (aF z),.int .i64 s] [] ⟨.own K 1 0 (n+1),[(K,⟨true,true,1,n+1,aF (aG (val n z*2^s))⟩)],[]⟩:=by
 refine qQ hT Z3 (args0:=[.aq 1 n (aF z),.int .i64 s]) (pre0:=[]) (nx:=0) [] bh rfl ⟨aY,aY,trivial⟩ trivial (fun a k h=>by simp[bD,look]at h) (fun k o h=>?_) (fun _ c h0=>?_)
 ·simp only[look]at h
  split at h
  ·rename_i he
   have:K=k:=by simpa using he
   subst this
   exact .inr ⟨aX,by unfold dO;omega⟩
  ·simp at h
 have hk0:c.k0=bQ:=by
  funext k
  cases hk:c.k0 k with
  |none=>rfl
  |some x=>have:=h0 k x hk;simp[bD,look]at this
 refine Xy hz hn hs hk0 fun c' o s' hc ho hval hv=>?_
 have h3:2^s<=2^31:=Nat.pow_le_pow_right aa aa
 refine aJ.gL hT jr hm 30 (nx:=8) hv (lO hk0) rfl ⟨⟨aa,fun _ _=>rfl⟩,trivial⟩ [4] ahM ah ah ?_
 simp only[ag.all,aC,Nat.add_zero,beq_iff_eq,bS,S3 hs hc]
 refine⟨aa,fun s' hv=>⟨by simp,bD [(K,7)],IQ ⟨aX,by unfold dO;omega⟩,.inr (wg (us:=[.own 7 1 0 (n+1)]) (ws:=[.own K 1 0 (n+1)]) (ps:=[(K,⟨true,true,1,n+1,aF (aG (val n z*2^s))⟩)]) hv ah ⟨⟨rfl,eR (by simp[bD,look]) rfl rfl⟩,trivial⟩ rfl rfl ⟨⟨7,_,by simp[bD,look],rfl,gZ rfl fun j hj=>?_⟩,trivial⟩)⟩⟩
 have ho':∀j,j<n+1->cX o n c' j<2^32:=jQ aa ho
 rw[<-hval,<-tN,aF,aF,ri ho' hj]
def QW:Spec:=sN fun K l=>match l with
 |[a,.int .i64 k]=>match tY a with
  |some (N,n,q)=>some ⟨.own K 1 0 (n+1),[(K,⟨true,true,1,n+1,aF (aG (N*2^k.toNat))⟩)],q++[n<2^40,0<=k,k<32]⟩
  |none=>none
 |_=>none
theorem WQ:bp P QW 185:=by
 refine xC fun K args r hk hs=>?_
 split at hs
 ·rename_i a k
  split at hs
  ·rename_i N n q hn
   simp only[aB]at hs
   subst hs
   intro need
   obtain⟨n1,n2⟩:=ia.1 need
   obtain⟨z,hz,rfl,hle⟩:=yY hn n1
   obtain⟨h1,h2,h3⟩:n<2^40/\0<=k/\k<32:=n2
   obtain⟨s,rfl⟩:=Int.eq_ofNat_of_zero_le h2
   exact iz (afx hz h1 aa K) hk ⟨hle,.refl _,trivial⟩ [] trivial
  ·simp at hs
 ·simp at hs
theorem afZ {n k:Nat} {z:Nat->Nat} (hz:∀i,i<n->z i<2^32) (hn:n<2^62) (K:Nat) {f:Nat->AV} (hf:∀i,i<n->f i=aF z i):
  aW P 160 K [.own k 1 0 n] [(k,⟨true,true,1,n,f⟩)] ⟨.own k 1 0 (nl (val n z)),[],[]⟩:=by
 refine qQ hT Pb (args0:=[.own 0 1 0 n]) (pre0:=[(0,⟨true,true,1,n,aF z⟩)]) (nx:=1) [(0,k)] bh (by simp[jy]) ⟨⟨rfl,eR rfl rfl rfl⟩,trivial⟩ ⟨⟨k,_,rfl,by simp[look],gZ rfl hf⟩,trivial⟩
  (fun a x h=>?_) (fun x o h=>by simp[look]at h) (fun _ c h0=>?_)
 ·simp only[bD,look]at h
  split at h
  ·simp only[aB]at h;subst h;exact⟨_,by simp[look];rfl⟩
  ·simp at h
 have hk0:∀k x,c.k0 k=some x->k<1:=fun k x hk=>by
  have:=h0 k x hk
  simp only[bD,look]at this
  split at this
  ·rename_i h;simp at h;omega
  ·simp at this
 refine az.hole [1,1,0] ah (aJ.bU hT cJ hm 30 [0,3] WN ah fun s' hv=>?_)
 refine az.jG (i:=0) (y:=part (aK f160) [1,1,0,0,0]) ah [0,3] 1 hk0 (fun k:Nat=>[.own 0 1 0 n,.int .i64 k]) (fun _=>[(0,⟨true,true,1,n,aF z⟩)]) (fun _=>rfl) (fun _=>⟨⟨aa,fun _ _=>rfl⟩,trivial⟩)
  (fun k=>k<=n/\∀i,k<=i->i<n->z i=0) id n hv ⟨aX,fun i h1 h2=>aa⟩ ?_
 rintro j ⟨hj,hzj⟩
 refine az.bU hT cJ hm 30 [0,3] aep ah ?_
 have fin:(j=0\/z (j-1)≠0)->∀s',bJ [0,3] s'=some ([.own 0 1 0 n,.int .i64 j],[(0,⟨true,true,1,n,aF z⟩)])->aJ P c f160.ntmps (behind (aK f160) [1,1,0]) s'
   (fun e s'=>(e=.normal\/e=.ret)/\∃τ,wm [(0,k)] K [(k,⟨true,true,1,n,f⟩)] τ/\(DZ T f160 τ [(k,⟨true,true,1,n,f⟩)] ⟨.own k 1 0 (nl (val n z)),[],[]⟩ s'\/z9 T f160 τ [(k,⟨true,true,1,n,f⟩)] ⟨.own k 1 0 (nl (val n z)),[],[]⟩ s')):=by
  intro hj0 s' hv
  refine aJ.gL hT cJ hm 30 (nx:=1) hv hk0 rfl ⟨⟨aa,fun _ _=>rfl⟩,trivial⟩ [2] acJ ah ah ?_
  have e:val n z=val j z:=pX hj hzj
  refine⟨⟨aa,aa,aa,aa⟩,fun s' hv=>⟨.inr rfl,bD [(k,0)],yw,.inr (wg (us:=[.own 0 1 0 ((j:Int).toNat-Int.toNat 0)]) (ws:=[.own k 1 0 (nl (val n z))]) (os:=[(0,⟨true,true,1,n,aF z⟩)]) (ps:=[(k,⟨true,true,1,n,f⟩)]) hv ah ⟨⟨rfl,eR (by simp[bD,look]) rfl ?_⟩,trivial⟩ rfl rfl ⟨⟨0,_,by simp[bD,look],rfl,iQ rfl fun j hj=>?_⟩,trivial⟩)⟩⟩
  ·rw[e,CB (fun i hi=>hz i aa) hj0];simp
  ·rw[hf j hj];exact fR rfl
 have hw:0<j->i64.wrap ((j:Int)-1)=((j-1:Nat):Int):=fun h=>by rw[wrap_i64 aa aa];omega
 refine⟨fun hb=>?_,fun hb=>?_⟩
 ·have h1:0<j:=by simpa using hb
  rw[hw h1]
  have hj1:j-1<n:=aa
  refine⟨⟨hb,⟨aa,by rw[bS];exact hj1⟩,by rw[bS];exact hj1⟩,fun hc s' hv=>?_,fun hc s' hv=>?_⟩
  ·refine⟨j-1,hv,⟨aa,fun i h1 h2=>?_⟩,by simp;omega⟩
   by_cases hi:i=j-1
   ·subst hi;simpa using hc
   ·exact hzj i aa h2
  ·exact gR (fin (.inr (by simpa using hc)) s' hv)
 ·have h1:j=0:=by simpa using hb
  refine⟨hb,fun hc=>by simp at hc,fun hc s' hv=>gR (fin (.inl h1) s' hv)⟩
def Hy:Spec:=fun _ args pre=>match args,pre with
 |[.own k es s n],[(k',o)]=>if k==k'&&es==1&&s==0&&o.row&&o.wr&&o.es==1 then some ⟨.own k 1 0 (nl (val n fun i=>numOf (o.f i))),[],[fL n o.f,o.len=n,n<2^62]⟩else none
 |_,_=>none
theorem Zf:bp P Hy 160:=by
 intro K args pre r hs
 unfold Hy at hs
 split at hs
 ·rename_i k es s n k' o
  split at hs
  ·rename_i hc
   simp only[Bool.and_eq_true,beq_iff_eq]at hc
   obtain⟨⟨⟨⟨⟨rfl,rfl⟩,rfl⟩,h4⟩,h5⟩,h6⟩:=hc
   simp only[aB]at hs
   subst hs
   intro need
   obtain⟨h1,h2,h3⟩:fL n o.f/\o.len=n/\n<2^62:=need
   obtain⟨row,wr,es,len,f⟩:=o
   simp only at h1 h2 h4 h5 h6
   subst h2 h4 h5 h6
   refine afZ (z:=fun i=>numOf (f i)) (fun i hi=>?_) h3 K (fun i hi=>?_) trivial
   ·obtain⟨z,g1,g2⟩:=h1 i hi
    simp only[g2,numOf];omega
   ·obtain⟨z,g1,g2⟩:=h1 i hi
    simp[g2,numOf,aF]
  ·simp at hs
 ·simp at hs
theorem aaj:bu 168 f168:=bC func168
def GD:bE:=(118,cD (jM Dn))::(181,Cb)::(183,cD (Cn P6))::(184,Qd)::(185,QW)::G1
def GT:bE:=[(160,Hy)]
abbrev pe:List Nat:=[1,1,1,1,1,1,1,0,1]
abbrev yK:Code:=part (aK f168) [1,1,1,1,1,1,1,0,1,0,0]
abbrev sx:Code:=part yK [1,0,0]
abbrev v9:Code:=part sx [1,1,1]
abbrev CN:Code:=part v9 [1,1]
abbrev ue:Code:=part CN [1,1,0,1,0]
abbrev nD:Code:=part (aK f168) [1,1,1,1,1,1,1,1]
abbrev eW:List Nat:=[4,9,10,11,12,13]
abbrev gq (lq s lu V:Nat) (j:Int):List AV:=[.own 8 1 0 lq,.int .i64 s,.own 7 1 0 lu,.mag V,.int .i64 (nl V),.int .i64 j]
abbrev ep (lq lu:Nat) (q u:Nat->Nat):aI:=[(7,⟨true,true,1,lu,aF u⟩),(8,⟨true,true,1,lq,aF q⟩)]
theorem Sh {n m:Nat} {z y:Nat->Nat}:aL T GD [] 60 [0,1,4,5,6] ((before (aK f168) pe).take 2) ⟨aZ 0 [.aq 1 n (aF z),.aq 1 m (aF y)],[],0⟩=
  some (ag.aj [fL n (aF z),n<2^62,fL m (aF y),m<2^62] (ag.leaf au.normal ([mag (val n fun i=>numOf (aF z i)),mag (val m fun i=>numOf (aF y i)),nil,nil,int .i64 (0:Int)],[]))):=ah
theorem XM {A B:Nat}:aL T GD [30,34,41] 60 [0,1,4,5,6] (((before (aK f168) pe).drop 2).take 1) ⟨aH [0,1,4,5,6] [.mag A,.mag B,.nil,.nil,.int .i64 0],[],0⟩=
  let f:=int .u32 (0:Int);let d:=int .i64 (0:Int);let b:=2^40;let a:=(↑(aG B (Int.toNat (0:Int))):Int);let e:=int .u32 (↑(A%a.toNat):Int);some (ag.fork ((↑(nl B):Int)==0) (ag.leaf au.ret ([mag A,mag B,nil,nil,int .i64 (3:Int)],[])) (ag.aj [nl A<b,nl B<b] (ag.fork (decide (eu A B<0)) (ag.aj [nl A<b] (ag.leaf au.ret ([mag A,mag B,nil,mag A,d],[]))) (ag.fork ((↑(nl B):Int)==1) (ag.aj [(0:Int)<=0/\Int.toNat (0:Int)<nl B,nl A<b,(0:Int)<a,a<2^32] (ag.aj [(1:Nat)*1<=2^24,fL 1 fun i=>nth [e] f (i+0),(1:Nat)<2^62] (ag.leaf au.ret ([mag A,mag B,mag (A/a.toNat),mag (val 1 fun i=>numOf (nth [e] f (i+0))),d],[])))) (ag.leaf au.normal ([mag A,mag B,nil,nil,d],[])))))):=ah
theorem aaE {A B:Nat}:aL T GD [] 60 [0,1,9] (((before (aK f168) pe).drop 3).take 1) ⟨aH [0,1,4,5,6] [.mag A,.mag B,.nil,.nil,.int .i64 0],[],0⟩=
  let a:=i64.wrap ((↑(nl B):Int)-1);let b:=(↑(aG B a.toNat):Int);some (ag.aj [(0:Int)<=a/\a.toNat<nl B,(0:Int)<=b/\b<2^32] (ag.leaf au.normal ([mag A,mag B,int .i64 (↑((32:Nat)-ck b.toNat):Int)],[]))):=ah
theorem Sc {A B s:Nat}:aL T GD [] 60 [9,10,11] (((before (aK f168) pe).drop 4).take 1) ⟨aH [0,1,9] [.mag A,.mag B,.int .i64 s],[],0⟩=
  let e:=nl B+1;let b:=(↑s:Int);let d:=2^b.toNat;some (ag.aj [nl A<2^40,(0:Int)<=b,b<32,nl B<2^40,(0:Int)<=b,b<32,fL e fun i=>aF (aG (B*d)) (i+0),e<2^62] (ag.leaf au.normal ([int .i64 b,own 8192 1 0 (nl A+1),mag (val e fun i=>numOf (aF (aG (B*d)) (i+0)))],[(8192,aA.mk true true 1 (nl A+1) fun a=>int .u32 (↑(aG (A*d) a):Int))]))):=ah
theorem aaQ {s lu V:Nat} {u:Nat->Nat}:aL T GD [] 60 eW ((before (aK f168) pe).drop 5) ⟨aH [9,10,11] [.int .i64 s,.own 7 1 0 lu,.mag V],[(7,⟨true,true,1,lu,aF u⟩)],8⟩=
  let b:=i64.wrap ((↑lu:Int)-(↑(nl V):Int));some (ag.aj [(0:Int)<=b/\b<=b/\b<=2^47/\b*(↑(4:Nat):Int)<=2^47] (ag.leaf au.normal ([own 28680 1 0 b.toNat,int .i64 (↑s:Int),own 7 1 0 lu,mag V,int .i64 (↑(nl V):Int),int .i64 (i64.wrap ((↑b.toNat:Int)-1))],[(7,aA.mk true true 1 lu fun a=>int .u32 (↑(u a):Int)),(28680,aA.mk true true 1 b.toNat fun x=>int .u32 (0:Int))]))):=ah
theorem ZP {lq s lu V m:Nat} {q u:Nat->Nat}:aL T GD [82] 60 eW [part yK [0]] ⟨aH eW (gq lq s lu V ((m:Int)-1)),ep lq lu q u,9⟩=
  let d:=(↑m:Int)-1;let b:List AV×aI:=([own 8 1 0 lq,int .i64 (↑s:Int),own 7 1 0 lu,mag V,int .i64 (↑(nl V):Int),int .i64 d],[(7,aA.mk true true 1 lu fun a=>int .u32 (↑(u a):Int)),(8,aA.mk true true 1 lq fun a=>int .u32 (↑(q a):Int))]);some (ag.fork (decide (d>=0)) (ag.leaf au.normal b) (ag.leaf (au.exit 1) b)):=ah
theorem aeQ {lq s lu V j:Nat} {q u:Nat->Nat}:aL T GD [] 60 (eW++[15,16]) (before sx [1,1,0]) ⟨aH eW (gq lq s lu V (j:Nat)),ep lq lu q u,9⟩=
  let g:=(↑(nl V):Int);let f:=i64.wrap (g-1);let b:=i64.wrap ((↑j:Int)+g);let i:=(0:Int)<=f/\f.toNat<nl V;let e:=i64.wrap (b-1);let d:=u64.wrap (↑(aG V f.toNat):Int);let h:=u64.wrap (↑(BitVec.ofInt u64.bits (u64.wrap (u64.wrap (↑(u (b.toNat+0)):Int)*2^min (Int.toNat (32:Int)) u64.bits))|||BitVec.ofInt u64.bits (u64.wrap (↑(u (e.toNat+0)):Int))).toNat:Int);some (ag.aj [(0:Int)<=b/\b.toNat<lu,b.toNat+0<lu,(0:Int)<=32,(0:Int)<=e/\e.toNat<lu,e.toNat+0<lu] (ag.aj [i,d≠(0:Int),i,d≠(0:Int)] (ag.leaf au.normal ([own 8 1 0 lq,int .i64 (↑s:Int),own 7 1 0 lu,mag V,int .i64 g,int .i64 (↑j:Int),int .u64 (u64.wrap (h.tdiv d)),int .u64 (h.tmod d)],[(7,aA.mk true true 1 lu fun a=>int .u32 (↑(u a):Int)),(8,aA.mk true true 1 lq fun a=>int .u32 (↑(q a):Int))])))):=ah
theorem Xd {lq s lu V j rest:Nat} {x:Int} {q u:Nat->Nat}:aL T GD [120,141,153] 60 (eW++[15,16]) [part sx [1,1,0,0,0]] ⟨aH (eW++[15,16]) (gq lq s lu V (j:Nat)++[.int .u64 x,.int .u64 rest]),ep lq lu q u,9⟩=
  let h:=int .i64 (↑j:Int);let g:=int .i64 (↑s:Int);let f:=own 8 1 0 lq;let e:=own 7 1 0 lu;let b:=(↑(nl V):Int);let d:=decide (x>=4294967296);let t:List (Nat×aA):=[(7,aA.mk true true 1 lu fun a=>int .u32 (↑(u a):Int)),(8,aA.mk true true 1 lq fun a=>int .u32 (↑(q a):Int))];let m:=i64.wrap (b-1);let l:=i64.wrap (b-2);let i:=i64.wrap (i64.wrap ((↑j:Int)+b)-2);let p:ag (List AV×aI):=ag.leaf (au.exit 3) ([f,g,e,mag V,int .i64 b,h,int .u64 x,int .u64 (↑rest:Int)],t);let k:=u64.wrap (x*u64.wrap (↑(aG V l.toNat):Int));let v:=u64.wrap (↑(BitVec.ofInt u64.bits (u64.wrap ((↑rest:Int)*2^min (Int.toNat (32:Int)) u64.bits))|||BitVec.ofInt u64.bits (u64.wrap (↑(u (i.toNat+0)):Int))).toNat:Int);let o:=u64.wrap ((↑rest:Int)+u64.wrap (↑(aG V m.toNat):Int));let n:List AV×aI:=([f,g,e,mag V,int .i64 b,h,int .u64 (u64.wrap (x-1)),int .u64 o],t);let r:ag (List AV×aI):=ag.aj [(0:Int)<=m/\m.toNat<nl V] (ag.fork (decide (o>=4294967296)) (ag.leaf (au.exit 3) n) (ag.leaf au.normal n));some (ag.fork d (ag.aj [d=true] (ag.fork true r p)) (ag.aj [d=false,(0:Int)<=l/\l.toNat<nl V,(0:Int)<=32,(0:Int)<=i/\i.toNat<lu,i.toNat+0<lu] (ag.fork (bif false then true else decide (k>v)) r p))):=ah
theorem agA {lq s lu V j x rest:Nat} {q u:Nat->Nat}:aL T GD [] 60 (eW++[15,17,18,154,155,156]) (before v9 [1,0,1]) ⟨aH (eW++[15,16]) (gq lq s lu V (j:Nat)++[.int .u64 x,.int .u64 rest]),ep lq lu q u,9⟩=
  let d:=int .u64 (0:Int);let b:=int .i64 (↑(nl V):Int);some (ag.leaf au.normal ([own 8 1 0 lq,int .i64 (↑s:Int),own 7 1 0 lu,mag V,b,int .i64 (↑j:Int),int .u64 (↑x:Int),d,d,mag V,b,int .i64 (0:Int)],[(7,aA.mk true true 1 lu fun a=>int .u32 (↑(u a):Int)),(8,aA.mk true true 1 lq fun a=>int .u32 (↑(q a):Int))])):=ah
theorem div_mul {lq s lu V j x b c i:Nat} {q u:Nat->Nat}:aL T GD [157] 60 (eW++[15,17,18,154,155,156]) [part v9 [1,0,1,0,0]] ⟨aH (eW++[15,17,18,154,155,156]) (gq lq s lu V (j:Nat)++[.int .u64 x,.int .u64 b,.int .u64 c,.mag V,.int .i64 (nl V),.int .i64 i]),ep lq lu q u,9⟩=
  let k:=int .i64 (↑j:Int);let h:=(↑(nl V):Int);let g:=int .u64 (↑x:Int);let f:=int .i64 (↑s:Int);let v:=own 7 1 0 lu;let t:=own 8 1 0 lq;let d:=(↑i:Int);let r:Nat×aA:=(8,aA.mk true true 1 lq fun a=>int .u32 (↑(q a):Int));let l:=int .i64 h;let p:=u64.wrap ((↑c:Int)+u64.wrap ((↑x:Int)*u64.wrap (↑(aG V d.toNat):Int)));let m:=i64.wrap (d+(↑j:Int));let n:=m.toNat+0;let e:=[(0:Int)<=m/\m.toNat<lu,n<lu];let o:=u64.wrap (u64.wrap (u64.wrap (↑(u n):Int)-u64.wrap (↑(BitVec.ofInt u64.bits p&&&BitVec.ofInt u64.bits (4294967295:Int)).toNat:Int))-(↑b:Int));some (ag.fork (decide (d<h)) (ag.aj [(0:Int)<=d/\d.toNat<nl V] (ag.aj e (ag.aj e (ag.aj [(0:Int)<=63] (ag.aj [(0:Int)<=32] (ag.leaf au.normal ([t,f,v,mag V,l,k,g,int .u64 (o.fdiv ((2:Int)^min (Int.toNat (63:Int)) u64.bits)),int .u64 (p.fdiv ((2:Int)^min (Int.toNat (32:Int)) u64.bits)),mag V,l,int .i64 (i64.wrap (d+1))],[(7,aA.mk true true 1 lu fun j=>if(j==n)=true then int .u32 (u32.wrap o)else aF u j),r]))))))) (ag.leaf (au.exit 5) ([t,f,v,mag V,l,k,g,int .u64 (↑b:Int),int .u64 (↑c:Int),mag V,l,int .i64 d],[(7,aA.mk true true 1 lu fun a=>int .u32 (↑(u a):Int)),r]))):=ah
theorem abO {lq s lu V j x b c:Nat} {q u:Nat->Nat}:aL T GD [] 60 (eW++[15,211]) (before CN [1,1,0,1]) ⟨aH (eW++[15,17,18]) (gq lq s lu V (j:Nat)++[.int .u64 x,.int .u64 b,.int .u64 c]),ep lq lu q u,9⟩=
  let d:=i64.wrap ((↑j:Int)+(↑(nl V):Int));let e:=d.toNat+0;let g:=[(0:Int)<=d/\d.toNat<lu,e<lu];let f:=u64.wrap (u64.wrap (u64.wrap (↑(u e):Int)-(↑c:Int))-(↑b:Int));some (ag.aj g (ag.aj g (ag.aj [(0:Int)<=63] (ag.leaf au.normal ([own 8 1 0 lq,int .i64 (↑s:Int),own 7 1 0 lu,mag V,int .i64 (↑(nl V):Int),int .i64 (↑j:Int),int .u64 (↑x:Int),AV.bool (f.fdiv ((2:Int)^min (Int.toNat (63:Int)) u64.bits)!=0)],[(7,aA.mk true true 1 lu fun j=>if(j==e)=true then int .u32 (u32.wrap f)else aF u j),(8,aA.mk true true 1 lq fun a=>int .u32 (↑(q a):Int))]))))):=ah
theorem ahT {lq s lu V j x:Nat} {q u:Nat->Nat}:aL T GD [] 60 (eW++[15,18,214,215,216]) (before ue [1,1,0,1]) ⟨aH (eW++[15]) (gq lq s lu V (j:Nat)++[.int .u64 x]),ep lq lu q u,9⟩=
  let b:=int .i64 (↑(nl V):Int);some (ag.leaf au.normal ([own 8 1 0 lq,int .i64 (↑s:Int),own 7 1 0 lu,mag V,b,int .i64 (↑j:Int),int .u64 (u64.wrap ((↑x:Int)-1)),int .u64 (0:Int),mag V,b,int .i64 (0:Int)],[(7,aA.mk true true 1 lu fun a=>int .u32 (↑(u a):Int)),(8,aA.mk true true 1 lq fun a=>int .u32 (↑(q a):Int))])):=ah
theorem div_add {lq s lu V j x c i:Nat} {q u:Nat->Nat}:aL T GD [217] 60 (eW++[15,18,214,215,216]) [part ue [1,1,0,1,0,0]] ⟨aH (eW++[15,18,214,215,216]) (gq lq s lu V (j:Nat)++[.int .u64 x,.int .u64 c,.mag V,.int .i64 (nl V),.int .i64 i]),ep lq lu q u,9⟩=
  let g:=int .i64 (↑s:Int);let f:=int .i64 (↑j:Int);let e:=(↑(nl V):Int);let d:=int .u64 (↑x:Int);let p:=own 8 1 0 lq;let o:=own 7 1 0 lu;let b:=(↑i:Int);let n:Nat×aA:=(8,aA.mk true true 1 lq fun a=>int .u32 (↑(q a):Int));let h:=int .i64 e;let k:=i64.wrap (b+(↑j:Int));let l:=k.toNat+0;let r:=[(0:Int)<=k/\k.toNat<lu,l<lu];let m:=u64.wrap ((↑c:Int)+u64.wrap (u64.wrap (↑(u l):Int)+u64.wrap (↑(aG V b.toNat):Int)));some (ag.fork (decide (b<e)) (ag.aj [(0:Int)<=b/\b.toNat<nl V] (ag.aj r (ag.aj r (ag.aj [(0:Int)<=32] (ag.leaf au.normal ([p,g,o,mag V,h,f,d,int .u64 (m.fdiv ((2:Int)^min (Int.toNat (32:Int)) u64.bits)),mag V,h,int .i64 (i64.wrap (b+1))],[(7,aA.mk true true 1 lu fun j=>if(j==l)=true then int .u32 (u32.wrap m)else aF u j),n])))))) (ag.leaf (au.exit 7) ([p,g,o,mag V,h,f,d,int .u64 (↑c:Int),mag V,h,int .i64 b],[(7,aA.mk true true 1 lu fun a=>int .u32 (↑(u a):Int)),n]))):=ah
theorem WT {lq s lu V j x c:Nat} {q u:Nat->Nat}:aL T GD [] 60 (eW++[15]) (behind ue [1,1,0,1]) ⟨aH (eW++[15,18]) (gq lq s lu V (j:Nat)++[.int .u64 x,.int .u64 c]),ep lq lu q u,9⟩=
  let d:=i64.wrap ((↑j:Int)+(↑(nl V):Int));let e:=(0:Int)<=d/\d.toNat<lu;let b:=d.toNat+0;some (ag.aj [e,b<lu,e,b<lu] (ag.leaf au.normal ([own 8 1 0 lq,int .i64 (↑s:Int),own 7 1 0 lu,mag V,int .i64 (↑(nl V):Int),int .i64 (↑j:Int),int .u64 (↑x:Int)],[(7,aA.mk true true 1 lu fun j=>if(j==b)=true then int .u32 (u32.wrap ((↑(u b):Int)+u32.wrap (↑c:Int)))else aF u j),(8,aA.mk true true 1 lq fun a=>int .u32 (↑(q a):Int))]))):=ah
theorem aiB {lq s lu V j x:Nat} {q u:Nat->Nat}:aL T GD [] 60 eW (behind CN [1,1,0,1]) ⟨aH (eW++[15]) (gq lq s lu V (j:Nat)++[.int .u64 x]),ep lq lu q u,9⟩=
  let b:=(↑j:Int);let d:=b.toNat+0;some (ag.aj [(0:Int)<=b/\b.toNat<lq,d<lq] (ag.leaf au.normal ([own 8 1 0 lq,int .i64 (↑s:Int),own 7 1 0 lu,mag V,int .i64 (↑(nl V):Int),int .i64 b],[(7,aA.mk true true 1 lu fun a=>int .u32 (↑(u a):Int)),(8,aA.mk true true 1 lq fun j=>if(j==d)=true then int .u32 (u32.wrap (↑x:Int))else aF q j)]))):=ah
theorem Vm {lq s lu V j:Nat} {q u:Nat->Nat}:aL T GD [] 60 eW [part yK [1,1]] ⟨aH eW (gq lq s lu V (j:Nat)),ep lq lu q u,9⟩=
  some (ag.leaf au.normal ([own 8 1 0 lq,int .i64 (↑s:Int),own 7 1 0 lu,mag V,int .i64 (↑(nl V):Int),int .i64 (i64.wrap ((↑j:Int)-1))],[(7,aA.mk true true 1 lu fun a=>int .u32 (↑(u a):Int)),(8,aA.mk true true 1 lq fun a=>int .u32 (↑(q a):Int))])):=ah
theorem ahx {lq s lu V:Nat} {q u:Nat->Nat}:aL T GT [] 60 [4,5,9,261,262] (before nD [1,0,1]) ⟨aH eW (gq lq s lu V (-1)),ep lq lu q u,9⟩=
  let b:=nl (val lu fun i=>numOf (aF u i));some (ag.aj [fL lu (aF u),lu=lu,lu<2^62] (ag.leaf au.normal ([own 8 1 0 lq,own 7 1 0 b,int .i64 (↑s:Int),int .i64 (↑b:Int),int .i64 (0:Int)],[(7,aA.mk true true 1 lu fun a=>int .u32 (↑(u a):Int)),(8,aA.mk true true 1 lq fun a=>int .u32 (↑(q a):Int))]))):=ah
theorem ajb {lq s lu l i:Nat} {q u:Nat->Nat}:aL T GT [263] 60 [4,5,9,261,262] (before (part nD [1,0,1,0,0]) [1,1,0]) ⟨aH [4,5,9,261,262] [.own 8 1 0 lq,.own 7 1 0 l,.int .i64 s,.int .i64 l,.int .i64 i],ep lq lu q u,9⟩=
  let b:List AV×aI:=([own 8 1 0 lq,own 7 1 0 l,int .i64 (↑s:Int),int .i64 (↑l:Int),int .i64 (↑i:Int)],[(7,aA.mk true true 1 lu fun a=>int .u32 (↑(u a):Int)),(8,aA.mk true true 1 lq fun a=>int .u32 (↑(q a):Int))]);some (ag.fork (decide ((↑i:Int)<(↑l:Int))) (ag.leaf au.normal b) (ag.leaf (au.exit 9) b)):=ah
theorem ajI {lq s lu l i:Nat} {q u:Nat->Nat}:aL T GT [] 60 [4,5,9,25,261,262] (before (part nD [1,0,1,0,0,1,1,0,0]) [1,1]) ⟨aH [4,5,9,261,262] [.own 8 1 0 lq,.own 7 1 0 l,.int .i64 s,.int .i64 l,.int .i64 i],ep lq lu q u,9⟩=
  let b:=(↑i:Int);let e:=(0:Int)<=b/\b.toNat<l;let d:=b.toNat+0;some (ag.aj [e,d<lu,(0:Int)<=(↑s:Int),e,d<lu] (ag.leaf au.normal ([own 8 1 0 lq,own 7 1 0 l,int .i64 (↑s:Int),int .i64 b,int .i64 (↑l:Int),int .i64 b],[(7,aA.mk true true 1 lu fun j=>if(j==d)=true then int .u32 ((↑(u d):Int).fdiv ((2:Int)^min (↑s:Int).toNat u32.bits))else aF u j),(8,aA.mk true true 1 lq fun a=>int .u32 (↑(q a):Int))]))):=ah
theorem age {lq s lu l i:Nat} {q u:Nat->Nat}:aL T GT [274,280] 60 [4,5,9,261,262] [part nD [1,0,1,0,0,1,1,0,0,1,1]] ⟨aH [4,5,9,25,261,262] [.own 8 1 0 lq,.own 7 1 0 l,.int .i64 s,.int .i64 i,.int .i64 l,.int .i64 i],ep lq lu q u,9⟩=
  let f:=(↑i:Int);let h:=(↑s:Int);let p:Nat×aA:=(8,aA.mk true true 1 lq fun a=>int .u32 (↑(q a):Int));let d:=(0:Int)<=f/\f.toNat<l;let b:=i64.wrap ((32:Int)-h);let k:=decide (h>0);let g:=f.toNat+0;let o:=[own 8 1 0 lq,own 7 1 0 l,int .i64 h,int .i64 (↑l:Int),int .i64 f];let e:=i64.wrap (f+1);let n:ag (List AV×aI):=ag.leaf au.normal (o,[(7,aA.mk true true 1 lu fun a=>int .u32 (↑(u a):Int)),p]);let m:ag (List AV×aI):=ag.aj [d,g<lu,(0:Int)<=e/\e.toNat<l,e.toNat+0<lu,(0:Int)<=b,d,g<lu] (ag.leaf au.normal (o,[(7,aA.mk true true 1 lu fun j=>if(j==g)=true then int .u32 (u32.wrap (↑(BitVec.ofInt u32.bits (↑(u g):Int)|||BitVec.ofInt u32.bits (u32.wrap ((↑(u (e.toNat+0)):Int)*2^min b.toNat u32.bits))).toNat:Int))else aF u j),p]));some (ag.fork k (ag.aj [k=true] (ag.fork (bif true then decide (e<(↑l:Int))else false) m n)) (ag.aj [k=false] (ag.fork false m n))):=ah
theorem YI {lq s lu l i:Nat} {q u:Nat->Nat}:aL T GT [] 60 [4,5,9,261,262] (behind (part nD [1,0,1,0,0]) [1,1,0]) ⟨aH [4,5,9,261,262] [.own 8 1 0 lq,.own 7 1 0 l,.int .i64 s,.int .i64 l,.int .i64 i],ep lq lu q u,9⟩=
  some (ag.leaf au.normal ([own 8 1 0 lq,own 7 1 0 l,int .i64 (↑s:Int),int .i64 (↑l:Int),int .i64 (i64.wrap ((↑i:Int)+1))],[(7,aA.mk true true 1 lu fun a=>int .u32 (↑(u a):Int)),(8,aA.mk true true 1 lq fun a=>int .u32 (↑(q a):Int))])):=ah
theorem Ud {lq s lu l i:Nat} {q u:Nat->Nat}:dc T G1 [] 60 f168 (behind nD [1,0,1]) ⟨aH [4,5,9,261,262] [.own 8 1 0 lq,.own 7 1 0 l,.int .i64 s,.int .i64 l,.int .i64 i],ep lq lu q u,9⟩=
  some (ag.aj [fL lq fun i=>aF q (i+0),lq<2^62,fL l fun i=>aF u (i+0),l<2^62] (ag.leaf au.ret [mag (val lq fun i=>numOf (aF q (i+0))),mag (val l fun i=>numOf (aF u (i+0))),int .i64 (0:Int)])):=ah
theorem val_add {z:Nat->Nat} {a:Nat}:∀{b:Nat},val (a+b) z=val a z+val b (fun i=>z (a+i))*2^(32*a)
 |0=>by simp[val]
 |b+1=>by
  rw[<-Nat.add_assoc,val,val_add (b:=b),val,Nat.add_mul,Nat.mul_assoc,<-Nat.pow_add,Nat.add_assoc]
  congr 3
  congr 1
  omega
theorem val_zero {z:Nat->Nat} {n:Nat} (h:∀i,i<n->z i=0):val n z=0:=by
 rw[pX (k:=0) aa fun i _ hi=>h i hi];rfl
theorem UA {z:Nat->Nat} {n:Nat} (h:val (n+1) z<2^(32*n)):z n=0:=by
 rw[val]at h
 rcases Nat.eq_zero_or_pos (z n)with h1|h1
 ·exact h1
 ·have:1*2^(32*n)<=z n*2^(32*n):=Nat.mul_le_mul_right _ h1
  omega
section knuth
variable {B P V W Vl Wl v1 v2 u3 top qt x rest:Nat}
theorem Uu (hP:0<P) (hB:0<B) (hV:V=(v1*B+v2)*P+Vl) (hW:W=(top*B+u3)*P+Wl) (h3:u3<B) (hl:Wl<P) (hv:0<v1) (hq:qt*V<=W):qt<=top/v1:=by
 rw[Nat.le_div_iff_mul_le hv]
 have h1:qt*v1*(B*P)<=W:=by
  refine Nat.le_trans ?_ hq
  rw[hV,Nat.mul_assoc]
  refine Nat.mul_le_mul_left _ ?_
  rw[<-Nat.mul_assoc]
  have:=Nat.mul_le_mul_right P (show v1*B<=v1*B+v2 by omega)
  omega
 have h2:W<(top+1)*(B*P):=by
  rw[hW,<-Nat.mul_assoc,Nat.add_mul top 1 B,Nat.one_mul]
  have:=Nat.mul_le_mul_right P (show top*B+u3+1<=top*B+B by omega)
  rw[Nat.add_mul _ 1,Nat.one_mul]at this
  omega
 have h3:=Nat.lt_of_mul_lt_mul_right (Nat.lt_of_le_of_lt h1 h2)
 omega
theorem TH (hV:V=(v1*B+v2)*P+Vl) (hW:W=(top*B+u3)*P+Wl) (hl:Wl<P) (ht:x*v1+rest=top) (hq:qt*V<=W) (h:rest*B+u3<x*v2):qt<x:=by
 have h1:W<x*V:=by
  have e1:(top*B+u3+1)*P<=(x*(v1*B+v2))*P:=by
   refine Nat.mul_le_mul_right _ ?_
   rw[<-ht,Nat.add_mul,Nat.mul_add,Nat.mul_assoc]
   omega
  have e2:(x*(v1*B+v2))*P<=x*V:=by
   rw[hV,Nat.mul_assoc]
   exact Nat.mul_le_mul_left _ aa
  rw[Nat.add_mul _ 1,Nat.one_mul]at e1
  omega
 exact Nat.lt_of_mul_lt_mul_right (Nat.lt_of_le_of_lt hq h1)
theorem adB (hq:qt*V<=W) (h:W<V*B):qt<B:=by
 rw[Nat.mul_comm V]at h
 exact Nat.lt_of_mul_lt_mul_right (Nat.lt_of_le_of_lt hq h)
theorem Sd (hP:0<P) (hB:0<B) (hV:V=(v1*B+v2)*P+Vl) (hW:W=(top*B+u3)*P+Wl) (h2:v2<B) (hl:Vl<P) (h:W<V*B):top<(v1+1)*B:=by
 have e1:V<=(v1+1)*(B*P):=by
  rw[hV,<-Nat.mul_assoc,Nat.add_mul v1 1 B,Nat.one_mul]
  have:=Nat.mul_le_mul_right P (show v1*B+v2+1<=v1*B+B by omega)
  rw[Nat.add_mul _ 1,Nat.one_mul]at this
  omega
 have e2:top*(B*P)<=W:=by
  rw[hW,<-Nat.mul_assoc]
  have:=Nat.mul_le_mul_right P (show top*B<=top*B+u3 by omega)
  omega
 have e3:top*(B*P)<(v1+1)*B*(B*P):=by
  have:=Nat.mul_le_mul_right B e1
  rw[show(v1+1)*(B*P)*B=(v1+1)*B*(B*P) by rw[Nat.mul_assoc,Nat.mul_comm (B*P),<-Nat.mul_assoc]]at this
  omega
 exact Nat.lt_of_mul_lt_mul_right e3
theorem acT (ht:x*v1+rest=top) (h:top<(v1+1)*B) (hr:B<=rest):x<B:=by
 rw[Nat.add_mul,Nat.one_mul]at h
 have:x*v1<B*v1:=by rw[Nat.mul_comm B];omega
 exact Nat.lt_of_mul_lt_mul_right this
theorem akH (hP:0<P) (hV:V=(v1*B+v2)*P+Vl) (hW:W=(top*B+u3)*P+Wl) (hv:0<v1) (hl:Vl<P) (hx:x<B) (ht:x*v1+rest=top) (h:x*v2<=rest*B+u3):x*V<W+V:=by
 have e1:x*(v1*B+v2)*P<=(top*B+u3)*P:=by
  refine Nat.mul_le_mul_right _ ?_
  rw[<-ht,Nat.add_mul,Nat.mul_add,Nat.mul_assoc]
  omega
 have e2:x*Vl<=x*P:=Nat.mul_le_mul_left _ aa
 have e3:x*P<B*P:=(Nat.mul_lt_mul_right hP).2 hx
 have e4:B*P<=V:=by
  rw[hV]
  have:1*B<=v1*B:=Nat.mul_le_mul_right _ hv
  have:=Nat.mul_le_mul_right P (show B<=v1*B+v2 by omega)
  omega
 have e5:x*V=x*(v1*B+v2)*P+x*Vl:=by rw[hV,Nat.mul_add,Nat.mul_assoc]
 omega
end knuth
theorem Av {R s k:Nat} (hs:s<32):aG (R/2^s) k=aG R k/2^s+aG R (k+1)%2^s*2^(32-s):=by
 unfold aG
 have hB:2^32=2^s*2^(32-s):=by rw[<-Nat.pow_add];congr 1;omega
 rw[Nat.div_div_eq_div_mul,Nat.mul_comm (2^s),<-Nat.div_div_eq_div_mul]
 have e:R/2^(32*(k+1))=R/2^(32*k)/2^32:=by rw[Nat.div_div_eq_div_mul,<-Nat.pow_add];congr 2
 rw[e]
 generalize R/2^(32*k)=X
 have hp:=Nat.two_pow_pos s
 have hp2:=Nat.two_pow_pos (32-s)
 have e1:X/2^32%2^32%2^s=X/2^32%2^s:=by
  rw[hB,Nat.mod_mul_right_mod]
 rw[e1]
 have e2:X=X%2^32+2^32*(X/2^32):=(Nat.mod_add_div X (2^32)).symm
 have e3:X/2^s=X%2^32/2^s+X/2^32*2^(32-s):=by
  have:X/2^s=(X%2^32+2^s*(2^(32-s)*(X/2^32)))/2^s:=by
   rw[<-Nat.mul_assoc,<-hB,<-e2]
  rw[this,Nat.add_mul_div_left _ _ hp,Nat.mul_comm (2^(32-s))]
 rw[e3]
 have h1:X%2^32/2^s<2^(32-s):=by
  rw[Nat.div_lt_iff_lt_mul hp,Nat.mul_comm,<-hB]
  exact Nat.mod_lt _ (Nat.two_pow_pos _)
 generalize X%2^32/2^s=a at*
 generalize X/2^32=b at*
 have h2:b%2^s*2^(32-s)+2^(32-s)<=2^32:=by
  rw[hB,<-Nat.succ_mul]
  exact Nat.mul_le_mul_right _ (Nat.mod_lt _ hp)
 have e4:b*2^(32-s)=b%2^s*2^(32-s)+2^32*(b/2^s):=by
  rw[hB,Nat.mul_assoc,Nat.mul_comm (2^(32-s)),<-Nat.mul_assoc,<-Nat.add_mul,Nat.mod_add_div]
 rw[e4,<-Nat.add_assoc,Nat.add_mul_mod_self_left]
 exact Nat.mod_eq_of_lt aa
theorem xN {a b:Nat} (ha:a<4294967296) (hb:b<4294967296):
  IntKind.u64.wrap ((BitVec.ofInt IntKind.u64.bits (IntKind.u64.wrap ((a:Int)*2^min (Int.toNat 32) IntKind.u64.bits))|||BitVec.ofInt IntKind.u64.bits (IntKind.u64.wrap (b:Int))).toNat:Int)=((a*4294967296+b:Nat):Int):=by
 have e1:IntKind.u64.wrap ((a:Int)*2^min (Int.toNat 32) IntKind.u64.bits)=((a*4294967296:Nat):Int):=by
  rw[yS,cR aa aa];omega
 have e2:IntKind.u64.wrap (b:Int)=((b:Nat):Int):=cR aa aa
 rw[e1,e2,wY aa aa]
 congr 1
 exact uI (a:=a) (b:=b) (i:=32) hb
theorem agB {c:Nat} (hc:c<2^64):IntKind.u64.wrap ((BitVec.ofInt IntKind.u64.bits (c:Int)&&&BitVec.ofInt IntKind.u64.bits 4294967295).toNat:Int)=((c%4294967296:Nat):Int):=by
 have:=abI (a:=c) (b:=4294967295) hc (by decide)
 rw[show((4294967295:Nat):Int)=4294967295 from rfl]at this
 rw[this]
 congr 1
 exact Nat.and_two_pow_sub_one_eq_mod c 32
theorem QL {u c b:Nat} (hu:u<4294967296) (hc:c<4294967296) (hb:b<=1):
  (IntKind.u64.wrap (IntKind.u64.wrap (IntKind.u64.wrap (u:Int)-(c:Int))-(b:Int))).fdiv (2^min (Int.toNat 63) IntKind.u64.bits)=((if c+b<=u then 0 else 1:Nat):Int)/\
   IntKind.u32.wrap (IntKind.u64.wrap (IntKind.u64.wrap (IntKind.u64.wrap (u:Int)-(c:Int))-(b:Int)))=(((u+4294967296-c-b)%4294967296:Nat):Int):=by
 rw[Fi,qn,qn,qn,nM]
 constructor
 ·split<;>omega
 ·omega
theorem Ts {c x y:Nat} (hc:c<4294967296) (hx:x<4294967296) (hy:y<4294967296):
  IntKind.u64.wrap ((c:Int)+IntKind.u64.wrap ((x:Int)*IntKind.u64.wrap (y:Int)))=((c+x*y:Nat):Int)/\c+x*y<2^64/\(c+x*y)/4294967296<4294967296:=by
 have h1:x*y<=(2^32-1)*(2^32-1):=Nat.mul_le_mul aa aa
 have e:(x:Int)*(y:Int)=((x*y:Nat):Int):=by simp
 rw[cR (x:=(y:Int)) aa aa,e]
 generalize x*y=p at*
 refine⟨?_,aa,aa⟩
 rw[cR (x:=(p:Int)) aa aa,cR aa aa]
 omega
theorem Sr {vn vo vV x yi ui b c B b':Nat} (hc:(c+x*yi)%4294967296<=4294967295) (hb:b<=1) (hu:ui<4294967296) (hb':b'=if(c+x*yi)%4294967296+b<=ui then 0 else 1) (h:vn+x*vV=vo+(c+b)*B):
  vn+(ui+4294967296-(c+x*yi)%4294967296-b)%4294967296*B+x*(vV+yi*B)=vo+ui*B+((c+x*yi)/4294967296+b')*(4294967296*B):=by
 have h1:=Nat.div_add_mod (c+x*yi) 4294967296
 generalize (c+x*yi)/4294967296=h at*
 generalize hr:(c+x*yi)%4294967296=r at*
 have e:(ui+4294967296-r-b)%4294967296+r+b=ui+4294967296*b':=by
  subst hb'
  split<;>omega
 generalize (ui+4294967296-r-b)%4294967296=un at*
 have e2:(un+r+b)*B=(ui+4294967296*b')*B:=by rw[e]
 have e3:(4294967296*h+r)*B=(c+x*yi)*B:=by rw[h1]
 grind
end Go.Am.B
