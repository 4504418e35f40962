/- natural.trim. -/
import Derived.Test.YtfjlccdmhpdiiaaGreatZ2
import Derived.Test.YtfjlccdmhpdiiaaGreatNames
set_option linter.unusedVariables false
variable {o q u y z:Nat->Nat}{A b c i j k l lq lu m n r s t v:Nat}
noncomputable section
namespace Go.Am.B
open Go Go.Am.N AV Proofs.Tryz IntKind
variable {f:Nat->AV}
theorem OR:aU 199 f199:=aS func199
theorem aas:aI T [] [] 30 [0,3] (before (aE f199) [1,1,0]) ⟨aN 0 [.ak 1 n (aB z)],[],0⟩=
  some (ag.leaf au.normal ([AV.ak 1 n (aB z),AV.int .i64 (n:Int)],[])):=ah
theorem aeg:aI T [] [8,15] 30 [0,3] [part (aE f199) [1,1,0,0,0]] ⟨[(0,.ak 1 n (aB z)),(3,.int .i64 k)],[],0⟩=
  some
 (ag.fork (decide ((k:Int)>0))
  (ag.aj
   [decide ((k:Int)>0)=true,
    0<=i64.wrap ((k:Int)-1)/\(i64.wrap ((k:Int)-1)).toNat<n]
   (ag.fork (bif true then((z (i64.wrap ((k:Int)-1)).toNat):Int)==0 else false)
    (ag.leaf au.normal ([AV.ak 1 n (aB z),AV.int .i64 (i64.wrap ((k:Int)-1))],[]))
    (ag.leaf (au.exit 0) ([AV.ak 1 n (aB z),AV.int .i64 (k:Int)],[]))))
  (ag.aj [decide ((k:Int)>0)=false]
   (ag.fork false (ag.leaf au.normal ([AV.ak 1 n (aB z),AV.int .i64 (i64.wrap ((k:Int)-1))],[]))
    (ag.leaf (au.exit 0) ([AV.ak 1 n (aB z),AV.int .i64 (k:Int)],[]))))):=ah
theorem agn:ct T [] [] 30 f199 (behind (aE f199) [1,1,0]) ⟨[(0,.ak 1 n (aB z)),(3,.int .i64 k)],[],0⟩=
  some
 (ag.aj [(0:Int)<=0/\0<=(k:Int)/\(k:Int)<=(k:Int)/\(k:Int)<=(n:Int)]
  (ag.leaf au.ret [AV.ak 1 ((k:Int).toNat-Int.toNat 0) fun i=>aB z (i+Int.toNat 0)])):=ah
theorem ac1 (K:Nat) (pre:aC):aQ P 199 K [.ak 1 n (aB z)] pre ⟨.mag (val n z),[],[n<2^62,∀i,i<n->z i<2^32]⟩:=by
 refine kK hT OR rfl aV rfl (fun need c h0=>?_) K pre;obtain⟨hn,hz⟩:n<2^62/\∀i,i<n->z i<2^32:=need;refine ax.hole [1,1,0] ah (aG.bE hT bw hm 30 [0,3] aas ah fun s' hv=>?_);refine ax.jr (i:=0) (y:=part (aE f199) [1,1,0,0,0]) ah (fun k:Nat=>⟨aA [0,3] [.ak 1 n (aB z),.int .i64 k],[],0⟩) (fun k=>k<=n/\∀i,k<=i->i<n->z i=0) id n
  (dP [] hv h0 rfl ⟨aM,aM,trivial⟩ trivial) ⟨bq,fun i h1 h2=>aa⟩ ?_
 rintro k ⟨hk,hzk⟩;refine ax.bE hT bw hm 30 [0,3] aeg ah ?_;have fin:(k=0\/z (k-1)≠0)->∀s',bD [0,3] s'=some ([.ak 1 n (aB z),.int .i64 k],[])->aG P c f199.ntmps (behind (aE f199) [1,1,0]) s' (Fin T f199 (.mag (val n z))):=by
  intro hk0 s' hv;refine aG.weak ah (dP (vs:=[.ak 1 n (aB z),.int .i64 k]) (ps:=[]) (nx:=0) [] hv h0 rfl ⟨aM,aM,trivial⟩ trivial)
   (aG.fin hT bw hm 30 agn ah ⟨⟨aa,aa,aa,aa⟩,?_⟩)
  have e:val n z=val k z:=nV hk hzk;refine mu (by rw[e,Dg (fun i hi=>hz i aa) hk0];simp) fun i hi=>?_;have hi':i<k:=by simpa using hi
  rw[e,qw (fun j hj=>hz j aa) hi'];rfl
 have hw:0<k->i64.wrap ((k:Int)-1)=((k-1:Nat):Int):=fun h=>by rw[wrap_i64 aa aa];omega
 refine⟨fun hb=>?_,fun hb=>?_⟩
 ·have h1:0<k:=by simpa using hb
  rw[hw h1];refine⟨⟨hb,aa,by simp;omega⟩,fun hc s' hv=>?_,fun hc s' hv=>?_⟩
  ·refine⟨k-1,dP [] hv h0 rfl ⟨aM,aM,trivial⟩ trivial,⟨aa,fun i h1 h2=>?_⟩,by simp;omega⟩;by_cases hi:i=k-1
   ·subst hi;simpa using hc
   ·exact hzk i aa h2
  ·exact fin (.inr (by simpa using hc)) s' hv
 ·have h1:k=0:=by simpa using hb
  refine⟨hb,fun hc=>by simp at hc,fun hc s' hv=>fin (.inl h1) s' hv⟩
def SC (N n:Nat):dI:=aJ (.mag N) [n<2^62]
def G1:aX:=[(199,ck (mq SC))]
theorem iD:bn P G1:=aH (cK (wA fun z n K hz need=>fun _=>ac1 K [] ⟨need,hz⟩)) bw
theorem Z9:aU 214 f214:=aS func214
theorem aeq:aI T G1 [13] 30 [0,1,5,6,20,21,22] (before (aE f214) [1,1,1,1,0,1]) ⟨aN 0 [.ak 1 n (aB z),.ak 1 m (aB y)],[],0⟩=
  let d:=(↑m:Int);let i:=(↑n:Int);let l:=int .i64 (0:Int);let k:=int .u64 (0:Int);let j:=int .u32 (0:Int);let f:=(2:Int)^47;let h:=ak 1 n fun a=>int .u32 (↑(z a):Int);let g:=ak 1 m fun a=>int .u32 (↑(y a):Int);let e:=i64.wrap (d+1);let b:=i64.wrap (i+1);some (ag.fork (decide (i<d)) (ag.aj [(0:Int)<=e/\e<=e/\e<=f/\e*(↑(4:Nat):Int)<=f] (ag.leaf au.normal ([g,h,own 53248 1 0 e.toNat,k,g,int .i64 d,l],[(53248,aq.mk true true 1 e.toNat fun x=>j)]))) (ag.aj [(0:Int)<=b/\b<=b/\b<=f/\b*(↑(4:Nat):Int)<=f] (ag.leaf au.normal ([h,g,own 36864 1 0 b.toNat,k,h,int .i64 i,l],[(36864,aq.mk true true 1 b.toNat fun x=>j)])))):=ah
abbrev Az:List Nat:=[1,1,1,1,0,1]
abbrev sP:List Nat:=[0,1,5,6,20,21,22]
theorem amc:aI T G1 [23,34] 30 [0,1,5,6,20,21,22] [part (aE f214) [1,1,1,1,0,1,0,0]] ⟨aA [0,1,5,6,20,21,22] [.ak 1 n (aB z),.ak 1 m (aB y),.own 7 1 0 (n+1),.int .u64 c,.ak 1 n (aB z),.int .i64 n,.int .i64 i],[(7,⟨true,true,1,n+1,aB o⟩)],8⟩=
  let h:=int .i64 (↑n:Int);let g:=(2:Int)^min (Int.toNat (32:Int)) u64.bits;let e:=n+1;let p:=ak 1 m fun a=>int .u32 (↑(y a):Int);let b:=(↑i:Int);let f:=ak 1 n fun a=>int .u32 (↑(z a):Int);let d:=(0:Int)<=b;let s:=[f,h,int .i64 (i64.wrap (b+1))];let r:=b.toNat+0;let q:=own 7 1 0 e;let l:=u64.wrap ((↑c:Int)+u64.wrap (↑(z b.toNat):Int));let k:=[d/\b.toNat<e,r<e];let t:=u64.wrap (l+u64.wrap (↑(y b.toNat):Int));some (ag.fork (decide (b<(↑n:Int))) (ag.aj [d/\b.toNat<n] (ag.fork (decide (b<(↑m:Int))) (ag.aj [d/\b.toNat<m] (ag.aj k (ag.aj [(0:Int)<=32] (ag.leaf au.normal (f::p::q::int .u64 (t.fdiv g)::s,[(7,aq.mk true true 1 e fun j=>if(j==r)=true then int .u32 (u32.wrap t)else aB o j)]))))) (ag.aj k (ag.aj [(0:Int)<=32] (ag.leaf au.normal (f::p::q::int .u64 (l.fdiv g)::s,[(7,aq.mk true true 1 e fun j=>if(j==r)=true then int .u32 (u32.wrap l)else aB o j)])))))) (ag.leaf (au.exit 0) ([f,p,q,int .u64 (↑c:Int),f,h,int .i64 b],[(7,aq.mk true true 1 e fun a=>int .u32 (↑(o a):Int))]))):=ah
theorem ajk:ct T G1 [] 30 f214 (behind (aE f214) [1,1,1,1,0,1]) ⟨aA [0,1,5,6,20,21,22] [.ak 1 n (aB z),.ak 1 m (aB y),.own 7 1 0 (n+1),.int .u64 c,.ak 1 n (aB z),.int .i64 n,.int .i64 i],[(7,⟨true,true,1,n+1,aB o⟩)],8⟩=
  let a:=n+1;let d:=int .u32 (u32.wrap (↑c:Int));let b:=(↑n:Int).toNat+0;some (ag.aj [(0:Int)<=(↑n:Int)/\(↑n:Int).toNat<a,b<a] (ag.aj [eU a fun i=>if(i+0==b)=true then d else aB o (i+0),a<2^62] (ag.leaf au.ret [mag (val a fun i=>numOf (if(i+0==b)=true then d else aB o (i+0)))]))):=ah
theorem Lq:val (min (i+1) m) y=val (min i m) y+(if i<m then y i else 0)*2^(32*i):=by
 by_cases h:i<m
 ·rw[Nat.min_eq_left aa,Nat.min_eq_left aa,if_pos h];rfl
 ·rw[Nat.min_eq_right aa,Nat.min_eq_right aa,if_neg h];simp
theorem WH {zi yi vz vy:Nat} {o':Nat->Nat} (hv:val i o+c*2^(32*i)=vz+vy) (ho:∀j,j<i->o' j=o j) (h1:o' i=(c+zi+yi)%4294967296):
  val (i+1) o'+(c+zi+yi)/4294967296*2^(32*(i+1))=(vz+zi*2^(32*i))+(vy+yi*2^(32*i)):=by
 rw[val,val_congr ho,h1,iV];have:=HL (B:=2^(32*i)) (c:=c) (z:=zi) (y:=yi) rfl hv;omega
theorem IT {c0:Ctx} (h0:c0.k0=bB) (hn:n<2^40) (hmn:m<=n) (hz:∀i,i<n->z i<2^32) (hy:∀i,i<m->y i<2^32) {K L:Nat} {f0:Nat->AV} {s':aK}
  (hv:bD sP s'=some ([.ak 1 n (aB z),.ak 1 m (aB y),.own K 1 0 L,.int .u64 0,.ak 1 n (aB z),.int .i64 n,.int .i64 0],[(K,⟨true,true,1,L,f0⟩)])) (hL:L=n+1) (hf:f0=aB fun _=>0):
  ax P c0 f214.ntmps (part (aE f214) Az) s' (eH (fun s''=>aG P c0 f214.ntmps (behind (aE f214) Az) s'' (Fin T f214 (.mag (val n z+val m y)))) (Fin T f214 (.mag (val n z+val m y)))):=by
 subst hL hf;refine ax.jr (i:=0) (y:=part (aE f214) [1,1,1,1,0,1,0,0]) ah
  (fun p:Nat×Nat×(Nat->Nat)=>⟨aA sP [.ak 1 n (aB z),.ak 1 m (aB y),.own 7 1 0 (n+1),.int .u64 (p.2.1:Nat),.ak 1 n (aB z),.int .i64 n,.int .i64 (p.1:Nat)],[(7,⟨true,true,1,n+1,aB p.2.2⟩)],8⟩)
  (fun p=>p.1<=n/\p.2.1<=1/\(∀j,j<n+1->p.2.2 j<2^32)/\val p.1 p.2.2+p.2.1*2^(32*p.1)=val p.1 z+val (min p.1 m) y)
  (fun p=>n-p.1) (0,0,fun _=>0)
  (dP [(7,K)] hv h0 (by simp[jb]) ⟨aM,aM,⟨rfl,cN rfl rfl rfl⟩,aM,aM,aM,aM,trivial⟩
   ⟨⟨K,_,rfl,by simp[look],ji rfl fun i _=>gm rfl⟩,trivial⟩)
  ⟨by simp,by simp,fun j _=>by simp,by simp[val]⟩ ?_
 rintro⟨i,c,o⟩ ⟨hi,hc,ho,hval⟩;simp only at hi hc ho hval;refine ax.bE hT iD hm 30 sP amc ah ?_;have key:∀{yi:Nat} {s':aK} {u v:Int} {f':Nat->AV},i<n->yi=(if i<m then y i else 0)->yi<2^32->
   bD sP s'=some ([.ak 1 n (aB z),.ak 1 m (aB y),.own 7 1 0 (n+1),.int .u64 u,.ak 1 n (aB z),.int .i64 n,.int .i64 v],[(7,⟨true,true,1,n+1,f'⟩)])->
   u=((c+z i+yi)/4294967296:Nat)->v=(i+1:Nat)->(∀j,f' j=if j=i then .int .u32 ((c+z i+yi)%4294967296:Nat)else aB o j)->
   ∃k:Nat×Nat×(Nat->Nat),(∃ρ,Le c0 ρ s' ⟨aA sP [.ak 1 n (aB z),.ak 1 m (aB y),.own 7 1 0 (n+1),.int .u64 (k.2.1:Nat),.ak 1 n (aB z),.int .i64 n,.int .i64 (k.1:Nat)],[(7,⟨true,true,1,n+1,aB k.2.2⟩)],8⟩)/\
    (k.1<=n/\k.2.1<=1/\(∀j,j<n+1->k.2.2 j<2^32)/\val k.1 k.2.2+k.2.1*2^(32*k.1)=val k.1 z+val (min k.1 m) y)/\n-k.1<n-i:=by
  intro yi s' u v f' hin hyi hyl hv hu hv1 hf;have hzi:=hz i hin;refine⟨(i+1,(c+z i+yi)/4294967296,fun j=>if j=i then(c+z i+yi)%4294967296 else o j),?_,⟨by simp;omega,by simp;omega,fun j hj=>?_,?_⟩,by simp;omega⟩
  ·exact dP [(7,7)] hv h0 rfl ⟨aM,aM,⟨rfl,cN rfl rfl rfl⟩,⟨rfl,gV hu⟩,aM,aM,⟨rfl,gV hv1⟩,trivial⟩
    ⟨⟨7,_,rfl,rfl,ji rfl fun j _=>by
     rw[hf j];simp only[aB];by_cases hj:j=i
     ·simp only[if_pos hj];exact gm rfl
     ·simp only[if_neg hj];exact gm rfl⟩,trivial⟩
  ·simp only;split
   ·omega
   ·exact ho j hj
  ·simp only;rw[Lq,<-hyi];exact WH hval (fun j hj=>if_neg aa) (if_pos rfl)
 have fin:i=n->∀s',bD sP s'=some ([.ak 1 n (aB z),.ak 1 m (aB y),.own 7 1 0 (n+1),.int .u64 (c:Nat),.ak 1 n (aB z),.int .i64 n,.int .i64 (i:Nat)],[(7,⟨true,true,1,n+1,aB o⟩)])->
   aG P c0 f214.ntmps (behind (aE f214) Az) s' (Fin T f214 (.mag (val n z+val m y))):=by
  intro hin s' hv;subst hin;rw[Nat.min_eq_right hmn]at hval;have e:∀j,j<i+1->numOf (if(j+0==(i:Int).toNat+0)=true then .int .u32 (u32.wrap (c:Int))else aB o (j+0))=if j=i then c else o j:=by
   intro j hj;have:=ho j hj;by_cases h:j=i
   ·simp[h,numOf,kB];omega
   ·simp[h,numOf,aB]
  refine aG.weak ah (dP (vs:=[.ak 1 i (aB z),.ak 1 m (aB y),.own 7 1 0 (i+1),.int .u64 (c:Nat),.ak 1 i (aB z),.int .i64 i,.int .i64 (i:Nat)])
    (ps:=[(7,⟨true,true,1,i+1,aB o⟩)]) (nx:=8) [(7,7)] hv h0 rfl ⟨aM,aM,⟨rfl,cN rfl rfl rfl⟩,aM,aM,aM,aM,trivial⟩
    ⟨⟨7,_,rfl,rfl,ji rfl fun j _=>gm rfl⟩,trivial⟩)
   (aG.fin hT iD hm 30 ajk ah ?_)
  simp only[ag.all,ay];refine⟨⟨aa,aa⟩,⟨fun j hj=>?_,aa⟩,?_⟩
  ·have:=ho j hj;by_cases h:j=i
   ·exact⟨c,aa,by simp[h,kB];omega⟩
   ·exact⟨o j,this,by simp[h,aB]⟩
  ·rw[val_congr e];refine dY (congrArg AV.mag ?_);rw[<-hval,val,val_congr (y:=o) fun j hj=>if_neg aa,if_pos rfl]
 simp only[ag.all,ay,br,bC,bg,Nat.add_zero,beq_iff_eq,p6,mI,mW];refine⟨fun hb=>?_,fun hb s' hv=>fin aa s' hv⟩;have h1:i<n:=aa;have hzi:=hz i h1;refine⟨aa,fun hb2=>?_,fun hb2=>?_⟩
 ·have h2:i<m:=aa;have hyi:=hy i h2;refine⟨aa,aa,aa,fun s' hv=>key (yi:=y i) h1 (by rw[if_pos h2]) hyi hv aa (by rw[wrap_i64 aa aa];omega) fun j=>?_⟩;split
  ·congr 1;omega
  ·rfl
 ·have h2:¬i<m:=aa;refine⟨aa,aa,fun s' hv=>key (yi:=0) h1 (by rw[if_neg h2]) aa hv aa (by rw[wrap_i64 aa aa];omega) fun j=>?_⟩;split
  ·congr 1;omega
  ·rfl
theorem adF (hz:∀i,i<n->z i<2^32) (hy:∀i,i<m->y i<2^32) (hn:n<2^40) (hm':m<2^40) (K:Nat) (pre:aC):
  aQ P 214 K [.ak 1 n (aB z),.ak 1 m (aB y)] pre (aJ (.mag (val n z+val m y)) []):=by
 refine kK hT Z9 rfl aV rfl (fun _ c h0=>?_) K pre;refine ax.hole Az ah (aG.bE hT iD hm 30 sP aeq ah ?_);simp only[ag.all,ay,br,bC];have hw:∀k:Nat,k<2^40->i64.wrap ((k:Int)+1)=((k+1:Nat):Int):=fun k hk=>by rw[wrap_i64 aa aa];omega
 rw[hw n hn,hw m hm'];simp only[bg];refine⟨fun hb=>⟨aa,fun s' hv=>?_⟩,fun hb=>⟨aa,fun s' hv=>?_⟩⟩
 ·have:=IT (m:=n) (y:=z) (z:=y) h0 hm' aa hy hz hv rfl rfl;rw[Nat.add_comm (val n z)];exact this
 ·exact IT h0 hn aa hz hy hv rfl rfl
def Fg (A n B m:Nat):dI:=aJ (.mag (A+B)) [n<2^40,m<2^40]
theorem Lr:aW P (ck (jj Fg)) 214:=
 cK (uS fun _ _ _ _ K hz hy need=>adF hz hy need.1 need.2 K [])
theorem ZW:aU 204 f204:=aS func204
theorem abF:aU 203 f203:=aS func203
theorem amh:aU 169 f169:=aS func169
theorem val_two:val 2 z=z 0+z 1*4294967296:=by simp[val]
theorem TM {x:Nat}:bX T G1 [] 30 f204 (aE f204) ⟨aN 0 [.int .u64 x],[],0⟩=
  let b:=int .u32 (0:Int);let a:=[int .u32 (u32.wrap (↑x:Int)),int .u32 (u32.wrap ((↑x:Int).fdiv ((2:Int)^min (Int.toNat (32:Int)) u64.bits)))];some (ag.aj [(0:Int)<=32,(2:Nat)*1<=2^24,eU 2 fun i=>nth a b (i+0),(2:Nat)<2^62] (ag.leaf au.ret [mag (val 2 fun i=>numOf (nth a b (i+0)))])):=ah
theorem ahp {x:Nat} (hx:x<2^64) (K:Nat) (pre:aC):aQ P 204 K [.int .u64 x] pre (aJ (.mag x) []):=by
 refine b9 hT iD hm ZW rfl aV rfl 30 TM (fun _=>?_) K pre;simp only[ag.all,ay,mW];refine⟨⟨aa,aa,fun i hi=>?_,aa⟩,dY (congrArg AV.mag ?_)⟩
 ·match i,hi with
  |0,_=>exact⟨x%2^32,aa,by simp[nth,kB]⟩
  |1,_=>exact⟨x/4294967296,aa,by simp[nth,mI];omega⟩
 ·rw[val_two];simp[nth,numOf,mI];omega
theorem ab2:aI T [] [] 30 [0,3,4] (before (aE f203) [1,1,0,1]) ⟨aN 0 [.ak 1 n (aB z)],[],0⟩=
  some (ag.leaf au.normal ([ak 1 n fun a=>int .u32 (↑(z a):Int),int .u64 (0:Int),int .i64 (i64.wrap ((↑n:Int)-1))],[])):=ah
theorem aer:aI T [] [9] 30 [0,3,4] [part (aE f203) [1,1,0,1,0,0]] ⟨aA [0,3,4] [.ak 1 n (aB z),.int .u64 v,.int .i64 ((k:Int)-1)],[],0⟩=
  let d:=ak 1 n fun a=>int .u32 (↑(z a):Int);let b:=(↑k:Int)-1;some (ag.fork (decide (b>=0)) (ag.aj [(0:Int)<=32,(0:Int)<=b/\b.toNat<n] (ag.leaf au.normal ([d,int .u64 (u64.wrap (↑(BitVec.ofInt u64.bits (u64.wrap ((↑v:Int)*2^min (Int.toNat (32:Int)) u64.bits))|||BitVec.ofInt u64.bits (u64.wrap (↑(z b.toNat):Int))).toNat:Int)),int .i64 (i64.wrap (b-1))],[]))) (ag.leaf (au.exit 0) ([d,int .u64 (↑v:Int),int .i64 b],[]))):=ah
theorem ah7:ct T [] [] 30 f203 (behind (aE f203) [1,1,0,1]) ⟨aA [0,3,4] [.ak 1 n (aB z),.int .u64 v,.int .i64 ((k:Int)-1)],[],0⟩=
  some (ag.leaf au.ret [int .u64 (↑v:Int)]):=ah
theorem Mb (h:v*2^(32*(k+1))+val (k+1) z=val n z):(v*4294967296+z k)*2^(32*k)+val k z=val n z:=by
 rw[<-h,val,iV,Nat.add_mul];rw[Nat.mul_assoc];omega
theorem Ye (hz:∀i,i<n->z i<2^32) (hn:n<=2) (K:Nat) (pre:aC):aQ P 203 K [.ak 1 n (aB z)] pre (aJ (.int .u64 (val n z:Nat)) []):=by
 refine kK hT abF rfl aV rfl (fun _ c h0=>?_) K pre;refine ax.hole [1,1,0,1] ah (aG.bE hT bw hm 30 [0,3,4] ab2 ah ?_);intro s' hv;have hv64:val n z<2^64:=by
  have h1:=gB hz;have h2:2^(32*n)<=2^(32*2):=Nat.pow_le_pow_right aa aa;omega
 refine ax.jr (i:=0) (y:=part (aE f203) [1,1,0,1,0,0]) ah
  (fun p:Nat×Nat=>⟨aA [0,3,4] [.ak 1 n (aB z),.int .u64 (p.2:Nat),.int .i64 ((p.1:Nat)-1:Int)],[],0⟩)
  (fun p=>p.1<=n/\p.2*2^(32*p.1)+val p.1 z=val n z) (fun p=>p.1) (n,0)
  (dP [] hv h0 rfl ⟨aM,aM,⟨rfl,gV (wrap_i64 aa aa)⟩,trivial⟩ trivial) ⟨by simp,by simp⟩ ?_
 rintro⟨k,v⟩ ⟨hk,hval⟩;simp only at hk hval;refine ax.bE hT bw hm 30 [0,3,4] aer ah ?_;simp only[ag.all,ay,br,bC];refine⟨fun hb=>?_,fun hb s' hv=>?_⟩
 ·obtain⟨j,rfl⟩:∃j,k=j+1:=⟨k-1,aa⟩
  have e:(((j+1:Nat):Int)-1).toNat=j:=aa;have hzj:=hz j aa;have hv32:v<2^32:=by
   rcases Nat.lt_or_ge v (2^32)with h|h
   ·exact h
   ·have h1:2^32*2^(32*(j+1))<=v*2^(32*(j+1)):=Nat.mul_le_mul_right _ h;have h2:2^32<=2^(32*(j+1)):=Nat.pow_le_pow_right aa aa;have h3:2^32*2^32<=2^32*2^(32*(j+1)):=Nat.mul_le_mul_left _ h2;omega
  rw[e];have hor:u64.wrap ((BitVec.ofInt u64.bits (u64.wrap ((v:Int)*2^min (Int.toNat 32) u64.bits))|||BitVec.ofInt u64.bits (u64.wrap (z j:Int))).toNat:Int)=
    ((v*4294967296+z j:Nat):Int):=by
   rw[xQ,cC (x:=(z j:Int)) aa aa,cC (x:=(v:Int)*4294967296) aa aa];rw[show(v:Int)*4294967296=((v*2^32:Nat):Int) by omega,uX aa aa,tQ hzj]
  refine⟨⟨aa,aa,aa⟩,fun s' hv=>⟨(j,v*4294967296+z j),dP [] hv h0 rfl ⟨aM,⟨rfl,gV hor⟩,⟨rfl,gV (by rw[wrap_i64 aa aa];simp only;omega)⟩,trivial⟩ trivial,
   ⟨by simp only;omega,Mb hval⟩,by simp⟩⟩
 ·have hk0:k=0:=aa;subst hk0;have hval:v=val n z:=by simpa [val]using hval
  subst hval;exact aG.weak ah (dP (vs:=[.ak 1 n (aB z),.int .u64 (val n z:Nat),.int .i64 (((0:Nat):Int)-1)]) (ps:=[]) (nx:=0) [] hv h0 rfl ⟨aM,aM,aM,trivial⟩ trivial)
   (aG.fin hT bw hm 30 ah7 ah (bV.refl _))
theorem adY:aI T G1 [14,19] 30 [0,1,5,4] (before (aE f169) [1,1,1,0,1]) ⟨aN 0 [.ak 1 n (aB z),.ak 1 m (aB y)],[],0⟩=
  let b:=val m fun i=>numOf (aB y i);let a:=val n fun i=>numOf (aB z i);let e:=(↑(nl b):Int);let d:=(↑(nl a):Int);some (ag.aj [eU n (aB z),n<2^62,eU m (aB y),m<2^62] (ag.fork (d !=e) (ag.fork (decide (d<e)) (ag.leaf au.ret ([mag a,mag b,tuple [],int .i64 (-1:Int)],[])) (ag.leaf au.ret ([mag a,mag b,tuple [],int .i64 (1:Int)],[]))) (ag.leaf au.normal ([mag a,mag b,int .i64 (i64.wrap (d-1)),int .i64 (0:Int)],[])))):=ah
theorem T5 {B:Nat}:aI T [] [24,35,44] 30 [0,1,5,4] [part (aE f169) [1,1,1,0,1,0,0]] ⟨aA [0,1,5,4] [.mag A,.mag B,.int .i64 ((k:Int)-1),.int .i64 0],[],0⟩=
  let g:=int .i64 (0:Int);let a:=(↑k:Int)-1;let b:=int .i64 a;let f:=(↑(aD A a.toNat):Int);let e:=(↑(aD B a.toNat):Int);let d:=[(0:Int)<=a/\a.toNat<nl A,(0:Int)<=a/\a.toNat<nl B];some (ag.fork (decide (a>=0)) (ag.aj d (ag.fork (f !=e) (ag.aj d (ag.fork (decide (f<e)) (ag.leaf au.ret ([mag A,mag B,b,int .i64 (-1:Int)],[])) (ag.leaf au.ret ([mag A,mag B,b,int .i64 (1:Int)],[])))) (ag.leaf au.normal ([mag A,mag B,int .i64 (i64.wrap (a-1)),g],[])))) (ag.leaf (au.exit 0) ([mag A,mag B,b,g],[]))):=ah
theorem aej {B:Nat}:ct T [] [] 30 f169 (behind (aE f169) [1,1,1,0,1]) ⟨aA [0,1,5,4] [.mag A,.mag B,.int .i64 ((k:Int)-1),.int .i64 0],[],0⟩=
  some (ag.leaf au.ret [int .i64 (0:Int)]):=ah
theorem WE (hz:∀i,i<n->z i<2^32) (hy:∀i,i<m->y i<2^32) (hn:n<2^40) (hm':m<2^40) (K:Nat) (pre:aC):
  aQ P 169 K [.ak 1 n (aB z),.ak 1 m (aB y)] pre (aJ (.int .i64 (dw (val n z) (val m y))) []):=by
 refine kK hT amh rfl aV rfl (fun _ c h0=>?_) K pre;refine ax.hole [1,1,1,0,1] ah (aG.bE hT iD hm 30 [0,1,5,4] adY ah ?_);have hnl:nl (val n z)<=n:=dL.2 (gB hz);generalize hA:val n z=A at*;generalize hB:val m y=B at*;simp only[ag.all,ay,br,bC,E5,hA,hB,bne_iff_ne,ne_eq,Int.natCast_inj,bne_eq_false_iff_eq];refine⟨⟨hU hz,aa,hU hy,aa⟩,fun hb=>⟨fun hb2 s' hv=>?_,fun hb2 s' hv=>?_⟩,fun hb s' hv=>?_⟩
 ·have h1:A<B:=AG aa;exact iw (us:=[.int .i64 (-1)]) (.inr rfl) hv ah (bP (by simp[dw,h1]))
 ·have h1:B<A:=AG aa;exact iw (us:=[.int .i64 1]) (.inr rfl) hv ah (bP (by simp[dw,h1];omega))
 refine ax.jr (i:=0) (y:=part (aE f169) [1,1,1,0,1,0,0]) ah
  (fun k:Nat=>⟨aA [0,1,5,4] [.mag A,.mag B,.int .i64 ((k:Int)-1),.int .i64 0],[],0⟩)
  (fun k=>k<=nl A/\∀j,k<=j->j<nl A->aD A j=aD B j) id (nl A)
  (dP [] hv h0 rfl ⟨aM,aM,⟨rfl,gV (wrap_i64 aa aa)⟩,aM,trivial⟩ trivial) ⟨by simp,fun j h1 h2=>aa⟩ ?_
 rintro k ⟨hk,hlim⟩;refine ax.bE hT bw hm 30 [0,1,5,4] T5 ah ?_;simp only[ag.all,ay,br,bC,bne_iff_ne,ne_eq,Int.natCast_inj,bne_eq_false_iff_eq];refine⟨fun hb2=>?_,fun hb2 s' hv=>?_⟩
 ·obtain⟨j,rfl⟩:∃j,k=j+1:=⟨k-1,aa⟩
  have e:(((j+1:Nat):Int)-1).toNat=j:=aa;rw[e];refine⟨⟨aa,aa⟩,fun hne=>⟨⟨aa,aa⟩,fun hlt s' hv=>?_,fun hlt s' hv=>?_⟩,fun heq s' hv=>?_⟩
  ·have h1:A<B:=B9 hb (k:=j) aa (fun i h1 h2=>hlim i aa h2) aa;exact iw (us:=[.int .i64 (-1)]) (.inr rfl) hv ah (bP (by simp[dw,h1]))
  ·have h1:B<A:=B9 hb.symm (k:=j) aa (fun i h1 h2=>(hlim i aa aa).symm) aa;exact iw (us:=[.int .i64 1]) (.inr rfl) hv ah (bP (by simp[dw,h1];omega))
  ·refine⟨j,dP [] hv h0 rfl ⟨aM,aM,⟨rfl,gV (by rw[wrap_i64 aa aa];omega)⟩,aM,trivial⟩ trivial,⟨aa,fun i h1 h2=>?_⟩,by simp⟩;by_cases hi:i=j
   ·subst hi;exact heq
   ·exact hlim i aa h2
 ·have hk0:k=0:=aa;subst hk0;have hAB:A=B:=E3 hb fun i hi=>hlim i aa hi;exact aG.weak ah (dP (vs:=[.mag A,.mag B,.int .i64 (((0:Nat):Int)-1),.int .i64 0]) (ps:=[]) (nx:=0) [] hv h0 rfl ⟨aM,aM,aM,aM,trivial⟩ trivial)
   (aG.fin hT bw hm 30 aej ah (bP (by simp[dw,hAB])))
def HX:Spec:=ck fun l=>match l with
 |[.int .u64 x]=>some (aJ (.mag x.toNat) [0<=x/\x<2^64])
 |_=>none
theorem Je:aW P HX 204:=by
 refine cK fun K args r hk hs _=>?_;split at hs
 ·rename_i x;simp only[az]at hs;subst hs;intro need;obtain⟨h1,h2⟩:0<=x/\x<2^64:=need;obtain⟨y,rfl⟩:=Int.eq_ofNat_of_zero_le h1;exact ahp (x:=y) aa K [] trivial
 ·simp at hs
def C2 (N n:Nat):dI:=aJ (.int .u64 (N:Nat)) [n<=2]
theorem amO:aW P (ck (mq C2)) 203:=
 cK (wA fun _ _ K hz need=>Ye hz need K [])
def AJ (A n B m:Nat):dI:=aJ (.int .i64 (dw A B)) [n<2^40,m<2^40]
theorem G9:aW P (ck (jj AJ)) 169:=
 cK (uS fun _ _ _ _ K hz hy need=>WE hz hy need.1 need.2 K [])
theorem UR:aU 215 f215:=aS func215
theorem agH:aU 236 f236:=aS func236
theorem ae6:aU 238 f238:=aS func238
def G2:aX:=(169,ck (jj AJ))::G1
theorem adH:bn P G2:=aH G9 iD
theorem Z5:aI T G2 [15] 30 [1,6,7,21,22,23,4,5] (before (aE f215) [1,1,1,1,1,0,1]) ⟨aN 0 [.ak 1 n (aB z),.ak 1 m (aB y)],[],0⟩=
  let d:=tuple [];let f:=int .i64 (0:Int);let e:=val m fun i=>numOf (aB y i);let b:=(↑n:Int);let g:=dw (val n fun i=>numOf (aB z i)) e;some (ag.aj [eU n (aB z),eU m (aB y),n<2^40,m<2^40] (ag.fork (decide (g<0)) (ag.leaf au.ret ([ak 1 m fun a=>int .u32 (↑(y a):Int),d,d,d,d,d,nil,int .i64 (7:Int)],[])) (ag.aj [eU m (aB y),m<2^62] (ag.aj [(0:Int)<=b/\b<=b/\b<=2^47/\b*(↑(4:Nat):Int)<=2^47] (ag.leaf au.normal ([mag e,own 45056 1 0 b.toNat,int .u64 (0:Int),ak 1 n fun a=>int .u32 (↑(z a):Int),int .i64 b,f,nil,f],[(45056,aq.mk true true 1 b.toNat fun x=>int .u32 (0:Int))])))))):=ah
theorem aby {B w:Nat}:aI T [] [24,32] 30 [1,6,7,21,22,23,4,5] [part (aE f215) [1,1,1,1,1,0,1,0,0]] ⟨aA [1,6,7,21,22,23,4,5] [.mag B,.own 7 1 0 n,.int .u64 w,.ak 1 n (aB z),.int .i64 n,.int .i64 i,.nil,.int .i64 0],[(7,⟨true,true,1,n,aB o⟩)],8⟩=
  let h:=int .i64 (↑n:Int);let g:=[nil,int .i64 (0:Int)];let s:=(2:Int)^min (Int.toNat (63:Int)) u64.bits;let r:=ak 1 n fun a=>int .u32 (↑(z a):Int);let l:=own 7 1 0 n;let d:=(↑i:Int);let m:=r::h::int .i64 (i64.wrap (d+1))::g;let e:=d.toNat;let f:=u64.wrap (↑(z e):Int);let b:=(0:Int)<=d/\e<n;let k:=e+0;let q:=u64.wrap (f-(↑w:Int));let p:=u64.wrap (f-u64.wrap ((↑w:Int)+u64.wrap (↑(aD B e):Int)));some (ag.fork (decide (d<(↑n:Int))) (ag.aj [b] (ag.fork (decide (d<(↑(nl B):Int))) (ag.aj [(0:Int)<=d/\e<nl B] (ag.aj [b,k<n] (ag.aj [(0:Int)<=63] (ag.leaf au.normal (mag B::l::int .u64 (p.fdiv s)::m,[(7,aq.mk true true 1 n fun j=>if(j==k)=true then int .u32 (u32.wrap p)else aB o j)]))))) (ag.aj [b,k<n] (ag.aj [(0:Int)<=63] (ag.leaf au.normal (mag B::l::int .u64 (q.fdiv s)::m,[(7,aq.mk true true 1 n fun j=>if(j==k)=true then int .u32 (u32.wrap q)else aB o j)])))))) (ag.leaf (au.exit 0) (mag B::l::int .u64 (↑w:Int)::r::h::int .i64 d::g,[(7,aq.mk true true 1 n fun a=>int .u32 (↑(o a):Int))]))):=ah
theorem ajT {B w:Nat}:ct T G1 [] 30 f215 (behind (aE f215) [1,1,1,1,1,0,1]) ⟨aA [1,6,7,21,22,23,4,5] [.mag B,.own 7 1 0 n,.int .u64 w,.ak 1 n (aB z),.int .i64 n,.int .i64 i,.nil,.int .i64 0],[(7,⟨true,true,1,n,aB o⟩)],8⟩=
  some (ag.aj [eU n fun i=>aB o (i+0),n<2^62] (ag.leaf au.ret [mag (val n fun i=>numOf (aB o (i+0))),int .i64 (0:Int)])):=ah
theorem V5:aI T G1 [] 30 [0,1,6,7,8] (before (aE f236) [1,1,1,0,1]) ⟨aN 0 [.ak 1 n (aB z),.int .u32 b],[],0⟩=
  let d:=(↑n:Int);some (ag.aj [(0:Int)<=d/\d<=d/\d<=2^47/\d*(↑(4:Nat):Int)<=2^47] (ag.leaf au.normal ([ak 1 n fun a=>int .u32 (↑(z a):Int),int .u32 (↑b:Int),own 16384 1 0 d.toNat,int .u64 (0:Int),int .i64 (i64.wrap (d-1))],[(16384,aq.mk true true 1 d.toNat fun x=>int .u32 (0:Int))]))):=ah
theorem Uz:aI T [] [16] 30 [0,1,6,7,8] [part (aE f236) [1,1,1,0,1,0,0]] ⟨aA [0,1,6,7,8] [.ak 1 n (aB z),.int .u32 b,.own 7 1 0 n,.int .u64 r,.int .i64 ((k:Int)-1)],[(7,⟨true,true,1,n,aB o⟩)],8⟩=
  let m:=int .u32 (↑b:Int);let i:=own 7 1 0 n;let g:=ak 1 n fun a=>int .u32 (↑(z a):Int);let e:=u64.wrap (↑b:Int);let d:=(↑k:Int)-1;let l:=(0:Int)<=d/\d.toNat<n;let h:=d.toNat+0;let f:=u64.wrap (↑(BitVec.ofInt u64.bits (u64.wrap ((↑r:Int)*2^min (Int.toNat (32:Int)) u64.bits))|||BitVec.ofInt u64.bits (u64.wrap (↑(z d.toNat):Int))).toNat:Int);some (ag.fork (decide (d>=0)) (ag.aj [(0:Int)<=32,l] (ag.aj [e≠(0:Int),l,h<n] (ag.aj [e≠(0:Int)] (ag.leaf au.normal ([g,m,i,int .u64 (f.tmod e),int .i64 (i64.wrap (d-1))],[(7,aq.mk true true 1 n fun j=>if(j==h)=true then int .u32 (u32.wrap (u64.wrap (f.tdiv e)))else aB o j)]))))) (ag.leaf (au.exit 0) ([g,m,i,int .u64 (↑r:Int),int .i64 d],[(7,aq.mk true true 1 n fun a=>int .u32 (↑(o a):Int))]))):=ah
theorem WZ:ct T G1 [] 30 f236 (behind (aE f236) [1,1,1,0,1]) ⟨aA [0,1,6,7,8] [.ak 1 n (aB z),.int .u32 b,.own 7 1 0 n,.int .u64 r,.int .i64 ((k:Int)-1)],[(7,⟨true,true,1,n,aB o⟩)],8⟩=
  some (ag.aj [eU n fun i=>aB o (i+0),n<2^62] (ag.leaf au.ret [mag (val n fun i=>numOf (aB o (i+0))),int .u32 (u32.wrap (↑r:Int))])):=ah
theorem ads:aI T G1 [] 30 [0,1,5,6,13,14,15] (before (aE f238) [1,1,1,0,1]) ⟨aN 0 [.ak 1 n (aB z),.int .i64 s],[],0⟩=
  let d:=ak 1 n fun a=>int .u32 (↑(z a):Int);let b:=i64.wrap ((↑n:Int)+1);some (ag.aj [(0:Int)<=b/\b<=b/\b<=2^47/\b*(↑(4:Nat):Int)<=2^47] (ag.leaf au.normal ([d,int .i64 (↑s:Int),own 16384 1 0 b.toNat,int .u64 (0:Int),d,int .i64 (↑n:Int),int .i64 (0:Int)],[(16384,aq.mk true true 1 b.toNat fun x=>int .u32 (0:Int))]))):=ah
theorem acW:aI T [] [16] 30 [0,1,5,6,13,14,15] [part (aE f238) [1,1,1,0,1,0,0]] ⟨aA [0,1,5,6,13,14,15] [.ak 1 n (aB z),.int .i64 s,.own 7 1 0 (n+1),.int .u64 c,.ak 1 n (aB z),.int .i64 n,.int .i64 i],[(7,⟨true,true,1,n+1,aB o⟩)],8⟩=
  let l:=int .i64 (↑s:Int);let k:=int .i64 (↑n:Int);let d:=n+1;let b:=(↑i:Int);let e:=ak 1 n fun a=>int .u32 (↑(z a):Int);let h:=b.toNat+0;let g:=own 7 1 0 d;let f:=u64.wrap (↑(BitVec.ofInt u64.bits (↑c:Int)|||BitVec.ofInt u64.bits (u64.wrap (u64.wrap (↑(z b.toNat):Int)*2^min (↑s:Int).toNat u64.bits))).toNat:Int);some (ag.fork (decide (b<(↑n:Int))) (ag.aj [(0:Int)<=b/\b.toNat<n] (ag.aj [(0:Int)<=(↑s:Int)] (ag.aj [(0:Int)<=b/\b.toNat<d,h<d] (ag.aj [(0:Int)<=32] (ag.leaf au.normal ([e,l,g,int .u64 (f.fdiv ((2:Int)^min (Int.toNat (32:Int)) u64.bits)),e,k,int .i64 (i64.wrap (b+1))],[(7,aq.mk true true 1 d fun j=>if(j==h)=true then int .u32 (u32.wrap f)else aB o j)])))))) (ag.leaf (au.exit 0) ([e,l,g,int .u64 (↑c:Int),e,k,int .i64 b],[(7,aq.mk true true 1 d fun a=>int .u32 (↑(o a):Int))]))):=ah
theorem akY {B x y w':Nat} (hr:r+y=x+w'*4294967296) (h:v=t):v+r*B+y*B=t+x*B+w'*(4294967296*B):=by
 subst h;have:(r+y)*B=(x+w'*4294967296)*B:=by rw[hr]
 grind
theorem KF {x y:Nat} (hx:x<2^32) (hy:y<=2^32):∃r w:Nat,r<2^32/\w<=1/\r+y=x+w*4294967296/\((x:Int)-y)%2^64%2^32=r/\((x:Int)-y)%2^64/9223372036854775808=w:=by
 rcases Nat.lt_or_ge x y with h|h
 ·exact⟨x+4294967296-y,1,aa,aa,aa,aa,aa⟩
 ·exact⟨x-y,0,aa,aa,aa,aa,aa⟩
abbrev wE:List Nat:=[1,6,7,21,22,23,4,5]
abbrev Dd (B n:Nat) (z:Nat->Nat) (K w i:Nat):List AV:=[.mag B,.own K 1 0 n,.int .u64 w,.ak 1 n (aB z),.int .i64 n,.int .i64 i,.nil,.int .i64 0]
theorem Zi (hz:∀i,i<n->z i<2^32) (hy:∀i,i<m->y i<2^32) (hn:n<2^40) (hm':m<2^40) (K:Nat) (pre:aC):
  aQ P 215 K [.ak 1 n (aB z),.ak 1 m (aB y)] pre (aJ (.tuple [.mag (val n z-val m y),.int .i64 (if val n z<val m y then 7 else 0)]) []):=by
 refine kK hT UR rfl aV rfl (fun _ c h0=>?_) K pre;refine ax.hole [1,1,1,1,1,0,1] ah (aG.bE hT adH hm 30 wE Z5 ah ?_);have hA:nl (val n z)<=n:=dL.2 (gB hz);have hAlt:=gB hz;generalize hB:val m y=B at*;simp only[ag.all,ay,br,bC,kJ,hB];refine⟨⟨hU hz,hU hy,aa,aa⟩,fun hb s' hv=>?_,fun hb=>⟨⟨hU hy,aa⟩,aa,fun s' hv=>?_⟩⟩
 ·have h1:val n z<B:=by
   unfold dw at hb;split at hb
   ·assumption
   ·split at hb<;>omega
  refine iw (us:=[.nil,.int .i64 7]) (.inr rfl) hv ah ⟨lT.trans (dY (congrArg AV.mag aa)),bP (by rw[if_pos h1]),trivial⟩
 have hBA:B<=val n z:=by
  unfold dw at hb;split at hb<;>omega
 have hnB:nl B<=n:=Nat.le_trans (iF hBA) hA;refine ax.jr (i:=0) (y:=part (aE f215) [1,1,1,1,1,0,1,0,0]) ah
  (fun p:Nat×Nat×(Nat->Nat)=>⟨aA wE (Dd B n z 7 p.2.1 p.1),[(7,⟨true,true,1,n,aB p.2.2⟩)],8⟩)
  (fun p=>p.1<=n/\p.2.1<=1/\(∀j,j<n->p.2.2 j<2^32)/\val p.1 p.2.2+val (min p.1 (nl B)) (aD B)=val p.1 z+p.2.1*2^(32*p.1))
  (fun p=>n-p.1) (0,0,fun _=>0)
  (dP [(7,45056)] hv h0 rfl ⟨aM,⟨rfl,cN rfl rfl rfl⟩,aM,aM,aM,aM,aM,aM,trivial⟩
   ⟨⟨_,_,rfl,rfl,gn rfl fun j _=>rfl⟩,trivial⟩)
  ⟨by simp,by simp,fun j _=>by simp,by simp[val]⟩ ?_
 rintro⟨i,w,o⟩ ⟨hi,hw,ho,hval⟩;simp only at hi hw ho hval;refine ax.bE hT bw hm 30 wE aby ah ?_;have key:∀{yi:Nat} {s':aK} {u v:Int} {f':Nat->AV} {r w':Nat},i<n->yi=(if i<nl B then aD B i else 0)->r<2^32->w'<=1->r+(w+yi)=z i+w'*4294967296->
   bD wE s'=some ([.mag B,.own 7 1 0 n,.int .u64 u,.ak 1 n (aB z),.int .i64 n,.int .i64 v,.nil,.int .i64 0],[(7,⟨true,true,1,n,f'⟩)])->
   u=(w':Nat)->v=(i+1:Nat)->(∀j,f' j=aB (cR o i r) j)->
   ∃k:Nat×Nat×(Nat->Nat),(∃ρ,Le c ρ s' ⟨aA wE (Dd B n z 7 k.2.1 k.1),[(7,⟨true,true,1,n,aB k.2.2⟩)],8⟩)/\
    (k.1<=n/\k.2.1<=1/\(∀j,j<n->k.2.2 j<2^32)/\val k.1 k.2.2+val (min k.1 (nl B)) (aD B)=val k.1 z+k.2.1*2^(32*k.1))/\n-k.1<n-i:=by
  intro yi s' u v f' r w' hin hyi hr hw1 hrw hv hu hv1 hf;refine⟨(i+1,w',cR o i r),dP [(7,7)] hv h0 rfl ⟨aM,⟨rfl,cN rfl rfl rfl⟩,⟨rfl,gV hu⟩,aM,aM,⟨rfl,gV hv1⟩,aM,aM,trivial⟩
   ⟨⟨_,_,rfl,rfl,gn rfl fun j _=>hf j⟩,trivial⟩,⟨by simp only;omega,hw1,jl hr ho,?_⟩,by simp only;omega⟩
  simp only;rw[Lq,<-hyi,tW,iV];show _=val i z+z i*2^(32*i)+_;have:=akY (B:=2^(32*i)) hrw hval;rw[Nat.add_mul]at this;omega
 have fin:i=n->∀s',bD wE s'=some (Dd B n z 7 w i,[(7,⟨true,true,1,n,aB o⟩)])->
   aG P c f215.ntmps (behind (aE f215) [1,1,1,1,1,0,1]) s' (Fin T f215 (.tuple [.mag (val n z-B),.int .i64 (if val n z<B then 7 else 0)])):=by
  intro hin s' hv;subst hin;rw[Nat.min_eq_right hnB,gL]at hval;have hlt:=gB ho;have hw0:w=0:=by
   rcases Nat.eq_zero_or_pos w with h|h
   ·exact h
   ·have:w=1:=aa;subst this;omega
  subst hw0;refine aG.weak ah (dP (vs:=Dd B i z 7 0 i) (ps:=[(7,⟨true,true,1,i,aB o⟩)]) (nx:=8) [(7,7)] hv h0 rfl
    ⟨aM,⟨rfl,cN rfl rfl rfl⟩,aM,aM,aM,aM,aM,aM,trivial⟩
    ⟨⟨_,_,rfl,rfl,gn rfl fun j _=>rfl⟩,trivial⟩)
   (aG.fin hT iD hm 30 ajT ah ?_)
  simp only[ag.all,ay,Nat.add_zero,kJ];exact⟨⟨hU ho,aa⟩,dY (congrArg AV.mag aa),bP (by rw[if_neg aa]),trivial⟩
 simp only[ag.all,ay,br,bC,bg,Nat.add_zero,beq_iff_eq];refine⟨fun hb=>?_,fun hb s' hv=>fin aa s' hv⟩;have h1:i<n:=aa;have hzi:=hz i h1;have hl:=ec (N:=B) (i:=i);have e1:u64.wrap (z i:Int)=(z i:Int):=cC aa aa;have e2:u64.wrap (aD B i:Int)=(aD B i:Int):=cC aa aa;have e3:u64.wrap ((w:Int)+(aD B i:Int))=((w+aD B i:Nat):Int):=by rw[cC aa aa];omega
 rw[e1,e2,e3];refine⟨aa,fun hb2=>?_,fun hb2=>?_⟩
 ·have h2:i<nl B:=aa;obtain⟨r,w',q1,q2,q3,q4,q5⟩:=KF hzi (y:=w+aD B i) aa;refine⟨aa,aa,aa,fun s' hv=>key (yi:=aD B i) h1 (by rw[if_pos h2]) q1 q2 q3 hv ?_ (by rw[wrap_i64 aa aa];omega) fun j=>iI ?_ j⟩
  ·rw[EE,p6];exact q5
  ·rw[mI,p6];exact q4
 ·have h2:¬i<nl B:=aa;obtain⟨r,w',q1,q2,q3,q4,q5⟩:=KF hzi (y:=w) aa;refine⟨aa,aa,fun s' hv=>key (yi:=0) h1 (by rw[if_neg h2]) q1 q2 q3 hv ?_ (by rw[wrap_i64 aa aa];omega) fun j=>iI ?_ j⟩
  ·rw[EE,p6];exact q5
  ·rw[mI,p6];exact q4
theorem W8 {x:Nat} (hr:r<2^32) (hx:x<2^32):
  u64.wrap ((BitVec.ofInt u64.bits (u64.wrap ((r:Int)*2^min (Int.toNat 32) u64.bits))|||BitVec.ofInt u64.bits (u64.wrap (x:Int))).toNat:Int)=((r*4294967296+x:Nat):Int):=by
 rw[xQ,cC (x:=(x:Int)) aa aa,cC (x:=(r:Int)*4294967296) aa aa];rw[show(r:Int)*4294967296=((r*2^32:Nat):Int) by omega,uX aa aa,tQ hx]
theorem RQ {z B vz q r':Nat} (h:v*b+r*(4294967296*B)+(vz+z*B)=t) (hq:r*4294967296+z=b*q+r'):(v+q*B)*b+r'*B+vz=t:=by
 have:(r*4294967296+z)*B=(b*q+r')*B:=by rw[hq]
 grind
abbrev Ea:List Nat:=[0,1,6,7,8]
abbrev Ph (n:Nat) (z:Nat->Nat) (b K r k:Nat):List AV:=[.ak 1 n (aB z),.int .u32 b,.own K 1 0 n,.int .u64 r,.int .i64 ((k:Int)-1)]
theorem Tt (hz:∀i,i<n->z i<2^32) (hn:n<2^40) (hb0:0<b) (hb32:b<2^32) (K:Nat) (pre:aC):
  aQ P 236 K [.ak 1 n (aB z),.int .u32 b] pre (aJ (.tuple [.mag (val n z/b),.int .u32 (val n z%b:Nat)]) []):=by
 refine kK hT agH rfl aV rfl (fun _ c h0=>?_) K pre;refine ax.hole [1,1,1,0,1] ah (aG.bE hT iD hm 30 Ea V5 ah ?_);simp only[ag.all,ay];refine⟨aa,fun s' hv=>?_⟩;refine ax.jr (i:=0) (y:=part (aE f236) [1,1,1,0,1,0,0]) ah
  (fun p:Nat×Nat×(Nat->Nat)=>⟨aA Ea (Ph n z b 7 p.2.1 p.1),[(7,⟨true,true,1,n,aB p.2.2⟩)],8⟩)
  (fun p=>p.1<=n/\p.2.1<b/\(∀j,j<n->p.2.2 j<2^32)/\(∀j,j<p.1->p.2.2 j=0)/\val n p.2.2*b+p.2.1*2^(32*p.1)+val p.1 z=val n z)
  (fun p=>p.1) (n,0,fun _=>0)
  (dP [(7,16384)] hv h0 rfl ⟨aM,aM,⟨rfl,cN rfl rfl rfl⟩,aM,⟨rfl,gV (wrap_i64 aa aa)⟩,trivial⟩
   ⟨⟨_,_,rfl,rfl,gn rfl fun j _=>rfl⟩,trivial⟩)
  ⟨by simp,hb0,fun j _=>by simp,fun j _=>rfl,?_⟩ ?_
 ·simp only;rw[nV (k:=0) aa fun _ _ _=>rfl];simp[val]
 rintro⟨k,r,o⟩ ⟨hk,hr,ho,ho0,hval⟩;simp only at hk hr ho ho0 hval;refine ax.bE hT bw hm 30 Ea Uz ah ?_;simp only[ag.all,ay,br,bC,Nat.add_zero,beq_iff_eq];have hbw:u64.wrap (b:Int)=(b:Int):=cC aa aa;refine⟨fun hb=>?_,fun hb s' hv=>?_⟩
 ·obtain⟨j,rfl⟩:∃j,k=j+1:=⟨k-1,aa⟩
  have e:(((j+1:Nat):Int)-1).toNat=j:=aa;have hzj:=hz j aa;have hor:=W8 (r:=r) (x:=z j) aa hzj;rw[e,hor,hbw];have hq1:(r*4294967296+z j)/b<2^32:=by
   rw[Nat.div_lt_iff_lt_mul hb0];have:(r+1)*4294967296<=b*4294967296:=Nat.mul_le_mul_right _ hr;omega
  have hdm:=Nat.div_add_mod (r*4294967296+z j) b;refine⟨⟨aa,aa,aa⟩,⟨aa,⟨aa,aa⟩,aa⟩,aa,fun s' hv=>⟨(j,(r*4294967296+z j)%b,cR o j ((r*4294967296+z j)/b)),?_,⟨by simp only;omega,Nat.mod_lt _ hb0,jl hq1 ho,fun i hi=>?_,?_⟩,by simp only;omega⟩⟩
  ·refine dP [(7,7)] hv h0 rfl ⟨aM,aM,⟨rfl,cN rfl rfl rfl⟩,⟨rfl,gV (Int.ofNat_tmod _ _).symm⟩,⟨rfl,gV ?_⟩,trivial⟩
    ⟨⟨_,_,rfl,rfl,gn rfl fun i _=>iI ?_ i⟩,trivial⟩
   ·rw[wrap_i64 aa aa];simp only;omega
   ·rw[<-Int.ofNat_tdiv];clear hdm;generalize (r*4294967296+z j)/b=q at hq1 ⊢;rw[cC aa aa,wrap_u32 aa aa]
  ·exact(gz (by simp only at hi;omega)).trans (ho0 i (by simp only at hi;omega))
  ·simp only;rw[r6 aa (ho0 j aa)];rw[iV,val]at hval;exact RQ hval hdm.symm
 ·have hk0:k=0:=aa;subst hk0;have hv2:val n o*b+r=val n z:=by simpa [val]using hval
  refine aG.weak ah (dP (vs:=Ph n z b 7 r 0) (ps:=[(7,⟨true,true,1,n,aB o⟩)]) (nx:=8) [(7,7)] hv h0 rfl
    ⟨aM,aM,⟨rfl,cN rfl rfl rfl⟩,aM,aM,trivial⟩
    ⟨⟨_,_,rfl,rfl,gn rfl fun j _=>rfl⟩,trivial⟩)
   (aG.fin hT iD hm 30 WZ ah ?_)
  simp only[ag.all,ay,Nat.add_zero,kJ];have hdiv:val n z/b=val n o:=by
   rw[<-hv2,Nat.mul_comm,Nat.mul_add_div hb0,Nat.div_eq_of_lt hr,Nat.add_zero]
  have hmod:val n z%b=r:=by
   rw[<-hv2,Nat.mul_comm,Nat.mul_add_mod,Nat.mod_eq_of_lt hr]
  exact⟨⟨hU ho,aa⟩,dY (congrArg AV.mag hdiv.symm),bP (by rw[hmod,wrap_u32 aa aa]),trivial⟩
theorem Zz {x:Nat} (hs:s<32) (hx:x<2^32):u64.wrap (u64.wrap (x:Int)*2^min (s:Int).toNat u64.bits)=((x*2^s:Nat):Int)/\x*2^s<2^64:=by
 have e:min (s:Int).toNat u64.bits=s:=by
  have:u64.bits=64:=rfl;omega
 have hlt:x*2^s<2^64:=by
  have h1:2^s<=2^31:=Nat.pow_le_pow_right aa aa;have h2:x*2^s<=2^32*2^31:=Nat.mul_le_mul aa h1;omega
 refine⟨?_,hlt⟩;rw[e,cC (x:=(x:Int)) aa aa];have:(x:Int)*2^s=((x*2^s:Nat):Int):=by simp
 rw[this];exact cC aa aa
theorem PO {x:Nat} (hs:s<32) (hx:x<2^32) (hc:c<2^s):
  u64.wrap ((BitVec.ofInt u64.bits (c:Int)|||BitVec.ofInt u64.bits (u64.wrap (u64.wrap (x:Int)*2^min (s:Int).toNat u64.bits))).toNat:Int)=((c+x*2^s:Nat):Int):=by
 obtain⟨h1,h2⟩:=Zz hs hx;have h3:2^s<=2^31:=Nat.pow_le_pow_right aa aa;rw[h1,uX aa h2,Nat.or_comm,tQ hc,Nat.add_comm]
theorem PY {x:Nat} (hs:s<32) (hx:x<2^32) (hc:c<2^s):c+x*2^s<2^63/\(c+x*2^s)/4294967296<2^s:=by
 have h3:2^s<=2^31:=Nat.pow_le_pow_right aa aa;have h4:(x+1)*2^s<=2^32*2^s:=Nat.mul_le_mul_right _ hx;rw[Nat.add_mul,Nat.one_mul]at h4;refine⟨aa,?_⟩;rw[Nat.div_lt_iff_lt_mul aa];omega
theorem Mt {B x S:Nat} (h:v+c*B=t*S):v+(c+x*S)%4294967296*B+(c+x*S)/4294967296*(4294967296*B)=(t+x*B)*S:=by
 have h1:=Nat.div_add_mod (c+x*S) 4294967296;generalize (c+x*S)/4294967296=q at*;generalize (c+x*S)%4294967296=r at*;have:(4294967296*q+r)*B=(c+x*S)*B:=by rw[h1]
 grind
abbrev Cd:List Nat:=[0,1,5,6,13,14,15]
abbrev PX (n s:Nat) (z:Nat->Nat) (K c i:Nat):List AV:=[.ak 1 n (aB z),.int .i64 s,.own K 1 0 (n+1),.int .u64 c,.ak 1 n (aB z),.int .i64 n,.int .i64 i]
theorem acZ (hz:∀i,i<n->z i<2^32) (hn:n<2^40) (hs:s<32) {c:Ctx} (h0:c.k0=bB) {Q:au->aK->Prop}
  (fin:∀(c':Nat) (o:Nat->Nat) (s':aK),c'<2^s->(∀j,j<n+1->o j<2^32)->val n o+c'*2^(32*n)=val n z*2^s->bD Cd s'=some (PX n s z 7 c' n,[(7,⟨true,true,1,n+1,aB o⟩)])->
   aG P c f238.ntmps (behind (aE f238) [1,1,1,0,1]) s' Q):
  ax P c f238.ntmps (aE f238) ⟨aN 0 [.ak 1 n (aB z),.int .i64 s],[],0⟩ Q:=by
 refine ax.hole [1,1,1,0,1] ah (aG.bE hT iD hm 30 Cd ads ah ?_);have hw:i64.wrap ((n:Int)+1)=((n+1:Nat):Int):=by rw[wrap_i64 aa aa];omega
 simp only[ag.all,ay,hw,bg];refine⟨aa,fun s' hv=>?_⟩;refine ax.jr (i:=0) (y:=part (aE f238) [1,1,1,0,1,0,0]) ah
  (fun p:Nat×Nat×(Nat->Nat)=>⟨aA Cd (PX n s z 7 p.2.1 p.1),[(7,⟨true,true,1,n+1,aB p.2.2⟩)],8⟩)
  (fun p=>p.1<=n/\p.2.1<2^s/\(∀j,j<n+1->p.2.2 j<2^32)/\val p.1 p.2.2+p.2.1*2^(32*p.1)=val p.1 z*2^s)
  (fun p=>n-p.1) (0,0,fun _=>0)
  (dP [(7,16384)] hv h0 rfl ⟨aM,aM,⟨rfl,cN rfl rfl rfl⟩,aM,aM,aM,aM,trivial⟩
   ⟨⟨_,_,rfl,rfl,gn rfl fun j _=>rfl⟩,trivial⟩)
  ⟨by simp,Nat.two_pow_pos s,fun j _=>by simp,by simp[val]⟩ ?_
 rintro⟨i,c',o⟩ ⟨hi,hc,ho,hval⟩;simp only at hi hc ho hval;refine ax.bE hT bw hm 30 Cd acW ah ?_;simp only[ag.all,ay,br,bC,Nat.add_zero,beq_iff_eq,bg];refine⟨fun hb=>?_,fun hb s' hv=>?_⟩
 ·have h1:i<n:=aa;have hzi:=hz i h1;have hor:=PO hs hzi hc;simp only[bg]at hor;rw[hor];obtain⟨b1,b2⟩:=PY hs hzi hc;refine⟨aa,aa,aa,aa,fun s' hv=>⟨(i+1,(c'+z i*2^s)/4294967296,cR o i ((c'+z i*2^s)%4294967296)),?_,⟨by simp only;omega,b2,jl aa ho,?_⟩,by simp only;omega⟩⟩
  ·refine dP [(7,7)] hv h0 rfl ⟨aM,aM,⟨rfl,cN rfl rfl rfl⟩,⟨rfl,gV ?_⟩,aM,aM,⟨rfl,gV ?_⟩,trivial⟩
    ⟨⟨_,_,rfl,rfl,gn rfl fun j _=>iI ?_ j⟩,trivial⟩
   ·rw[mW];simp only;omega
   ·rw[wrap_i64 aa aa];simp only;omega
   ·rw[kB]
  ·simp only;rw[tW,iV];exact Mt hval
 ·have hin:i=n:=aa;subst hin;exact fin c' o s' hc ho hval hv
theorem ZZ {c':Nat} (hs:s<32) (hc:c'<2^s):∀j,(if j=i then AV.int .u32 (u32.wrap (c':Int))else aB o j)=aB (cR o i c') j:=fun j=>iI (by
 have h3:2^s<=2^31:=Nat.pow_le_pow_right aa aa;exact wrap_u32 aa aa) j
def NY (A n B m:Nat):dI:=aJ (.tuple [.mag (A-B),.int .i64 (if A<B then 7 else 0)]) [n<2^40,m<2^40]
theorem aaE:aW P (ck (jj NY)) 215:=
 cK (uS fun _ _ _ _ K hz hy need=>Zi hz hy need.1 need.2 K [])
def MU (N n:Nat) (b:Int):dI:=aJ (.tuple [.mag (N/b.toNat),.int .u32 (N%b.toNat:Nat)]) [n<2^40,0<b,b<2^32]
theorem afN:aW P (ck (AD MU)) 236:=
 cK (ahJ fun z n i K hz need=>by
  obtain⟨h1,h2,h3⟩:n<2^40/\0<i/\i<2^32:=need;obtain⟨b,rfl⟩:=Int.eq_ofNat_of_zero_le (Int.le_of_lt h2);exact Tt hz h1 aa aa K [])
theorem adv:aU 200 f200:=aS func200
theorem abV:aU 237 f237:=aS func237
theorem ae0:aU 149 f149:=aS func149
abbrev mF:ByteArray:=⟨((List.range 256).map fun i=>UInt8.ofNat (bT i)).toArray⟩
def FF:Spec:=ck fun l=>match l with
 |[.int .u32 x]=>some (aJ (.int .i64 (bT x.toNat:Nat)) [0<=x/\x<2^32])
 |_=>none
theorem Zj {x:Nat}:bX T [] [4,8] 30 f200 (aE f200) ⟨aN 0 [.int .u32 x],[],0⟩=
  some (ag.fork (decide ((↑x:Int)>=65536)) (ag.aj [(0:Int)<=16] (ag.fork (decide ((↑x:Int).fdiv ((2:Int)^min (Int.toNat (16:Int)) u32.bits)>=256)) (ag.aj [(0:Int)<=8] (ag.aj [(0:Int)<=u8.wrap (((↑x:Int).fdiv ((2:Int)^min (Int.toNat (16:Int)) u32.bits)).fdiv ((2:Int)^min (Int.toNat (8:Int)) u32.bits))/\u8.wrap (((↑x:Int).fdiv ((2:Int)^min (Int.toNat (16:Int)) u32.bits)).fdiv ((2:Int)^min (Int.toNat (8:Int)) u32.bits))<(↑mF.size:Int)] (ag.leaf au.ret [int .i64 (i64.wrap (i64.wrap ((16:Int)+8)+i64.wrap (↑(nZ mF (u8.wrap (((↑x:Int).fdiv ((2:Int)^min (Int.toNat (16:Int)) u32.bits)).fdiv ((2:Int)^min (Int.toNat (8:Int)) u32.bits))).toNat):Int)))]))) (ag.aj [(0:Int)<=u8.wrap ((↑x:Int).fdiv ((2:Int)^min (Int.toNat (16:Int)) u32.bits))/\u8.wrap ((↑x:Int).fdiv ((2:Int)^min (Int.toNat (16:Int)) u32.bits))<(↑mF.size:Int)] (ag.leaf au.ret [int .i64 (i64.wrap ((16:Int)+i64.wrap (↑(nZ mF (u8.wrap ((↑x:Int).fdiv ((2:Int)^min (Int.toNat (16:Int)) u32.bits))).toNat):Int)))])))) (ag.fork (decide ((↑x:Int)>=256)) (ag.aj [(0:Int)<=8] (ag.aj [(0:Int)<=u8.wrap ((↑x:Int).fdiv ((2:Int)^min (Int.toNat (8:Int)) u32.bits))/\u8.wrap ((↑x:Int).fdiv ((2:Int)^min (Int.toNat (8:Int)) u32.bits))<(↑mF.size:Int)] (ag.leaf au.ret [int .i64 (i64.wrap (i64.wrap ((0:Int)+8)+i64.wrap (↑(nZ mF (u8.wrap ((↑x:Int).fdiv ((2:Int)^min (Int.toNat (8:Int)) u32.bits))).toNat):Int)))]))) (ag.aj [(0:Int)<=u8.wrap (↑x:Int)/\u8.wrap (↑x:Int)<(↑mF.size:Int)] (ag.leaf au.ret [int .i64 (i64.wrap ((0:Int)+i64.wrap (↑(nZ mF (u8.wrap (↑x:Int)).toNat):Int)))])))):=ah
theorem A4 (h:i<256):nZ mF i=bT i:=by
 have h8:bT i<=8:=iS.2 aa;unfold nZ;have:mF.data[i]?=some (UInt8.ofNat (bT i)):=by simp[mF,h]
 rw[this];simp only[UInt8.toNat_ofNat'];omega
theorem WK:mF.size=256:=by
 show(List.map _ (List.range 256)).toArray.size=256;simp
theorem Ah {x:Nat} {s:Int} (hs:0<=s) (h:s<32):(x:Int).fdiv (2^min s.toNat u32.bits)=((x/2^s.toNat:Nat):Int):=by
 have:u32.bits=32:=rfl;rw[this,Nat.min_eq_left aa,Int.fdiv_eq_ediv_of_nonneg _ (by exact Int.le_of_lt (Int.pow_pos (by decide)))];simp
theorem C5 {x:Nat} (h:x<256):u8.wrap (x:Int)=x:=by
 simp[IntKind.wrap,IntKind.bits,IntKind.signed];omega
theorem amC {x:Nat} (hx:x<2^32) (K:Nat) (pre:aC):aQ P 200 K [.int .u32 x] pre (aJ (.int .i64 (bT x:Nat)) []):=by
 refine b9 hT bw hm adv rfl aV rfl 30 Zj (fun _=>?_) K pre;have b8:∀i:Nat,i<256->bT i<=8:=fun i h=>iS.2 aa;rw[Ah (by decide) (by decide),Ah (by decide) (by decide),Ah (by decide) (by decide)];simp only[ag.all,ay,br,bC,WK,show Int.toNat 16=16 from rfl,show Int.toNat 8=8 from rfl];refine⟨fun h1=>⟨aa,fun h2=>⟨aa,?_⟩,fun h2=>?_⟩,fun h1=>⟨fun h2=>⟨aa,?_⟩,fun h2=>?_⟩⟩
 ·have h3:x/2^16/2^8<256:=aa;have e:bT x=16+(8+bT (x/2^16/2^8)):=by rw[v9 (k:=16) aa,v9 (x:=x/2^16) (k:=8) aa]
  rw[C5 h3];refine⟨aa,bP ?_⟩;rw[bg,A4 h3,e];have:=b8 _ h3;rw[wrap_i64 (x:=((bT (x/2^16/2^8):Nat):Int)) aa aa,wrap_i64 (x:=(16:Int)+8) aa aa,wrap_i64 aa aa];omega
 ·have h3:x/2^16<256:=aa;have e:bT x=16+bT (x/2^16):=by rw[v9 (k:=16) aa]
  rw[C5 h3];refine⟨aa,bP ?_⟩;rw[bg,A4 h3,e];have:=b8 _ h3;rw[wrap_i64 (x:=((bT (x/2^16):Nat):Int)) aa aa,wrap_i64 aa aa];omega
 ·have h3:x/2^8<256:=aa;have e:bT x=8+bT (x/2^8):=by rw[v9 (k:=8) aa]
  rw[C5 h3];refine⟨aa,bP ?_⟩;rw[bg,A4 h3,e];have:=b8 _ h3;rw[wrap_i64 (x:=((bT (x/2^8):Nat):Int)) aa aa,wrap_i64 (x:=(0:Int)+8) aa aa,wrap_i64 aa aa];omega
 ·have h3:x<256:=aa;rw[C5 h3];refine⟨aa,bP ?_⟩;rw[bg,A4 h3];have:=b8 _ h3;rw[wrap_i64 (x:=((bT x:Nat):Int)) aa aa,wrap_i64 aa aa];omega
theorem NH:aW P FF 200:=by
 refine cK fun K args r hk hs _=>?_;split at hs
 ·rename_i x;simp only[az]at hs;subst hs;intro need;obtain⟨h1,h2⟩:0<=x/\x<2^32:=need;obtain⟨y,rfl⟩:=Int.eq_ofNat_of_zero_le h1;exact amC (x:=y) aa K [] trivial
 ·simp at hs
theorem ZG {x:Nat}:bX T [(200,FF)] [] 30 f237 (aE f237) ⟨aN 0 [.int .u32 x],[],0⟩=
  some (ag.aj [(0:Int)<=(↑x:Int)/\(↑x:Int)<2^32] (ag.leaf au.ret [int .i64 (i64.wrap ((32:Int)-(↑(bT (↑x:Int).toNat):Int)))])):=ah
theorem Xq:bX T ((200,FF)::G1) [7] 30 f149 (aE f149) ⟨aN 0 [.ak 1 n (aB z)],[],0⟩=
  some (ag.aj [eU n (aB z),n<2^62] (ag.fork ((↑(nl (val n fun(i:Nat)=>numOf (aB z i))):Int)==0) (ag.leaf au.ret [int .i64 (0:Int)]) (ag.aj [(0:Int)<=i64.wrap ((↑(nl (val n fun(i:Nat)=>numOf (aB z i))):Int)-1)/\(i64.wrap ((↑(nl (val n fun(i:Nat)=>numOf (aB z i))):Int)-1)).toNat<nl (val n fun(i:Nat)=>numOf (aB z i)),(0:Int)<=(↑(aD (val n fun(i:Nat)=>numOf (aB z i)) (i64.wrap ((↑(nl (val n fun(i:Nat)=>numOf (aB z i))):Int)-1)).toNat):Int)/\(↑(aD (val n fun(i:Nat)=>numOf (aB z i)) (i64.wrap ((↑(nl (val n fun(i:Nat)=>numOf (aB z i))):Int)-1)).toNat):Int)<2^32] (ag.leaf au.ret [int .i64 (i64.wrap (i64.wrap ((32:Int)*i64.wrap ((↑(nl (val n fun(i:Nat)=>numOf (aB z i))):Int)-1))+(↑(bT (↑(aD (val n fun(i:Nat)=>numOf (aB z i)) (i64.wrap ((↑(nl (val n fun(i:Nat)=>numOf (aB z i))):Int)-1)).toNat):Int).toNat):Int)))])))):=ah
theorem akj {x:Nat} (hx:x<2^32) (K:Nat) (pre:aC):aQ P 237 K [.int .u32 x] pre (aJ (.int .i64 (32-bT x:Nat)) []):=by
 refine b9 hT (aH NH bw) hm abV rfl aV rfl 30 ZG (fun _=>?_) K pre;have h1:bT x<=32:=iS.2 hx;simp only[ag.all,ay];refine⟨aa,bP ?_⟩;rw[bg,wrap_i64 aa aa];omega
theorem Xm (hz:∀i,i<n->z i<2^32) (hn:n<2^40) (K:Nat) (pre:aC):aQ P 149 K [.ak 1 n (aB z)] pre (aJ (.int .i64 (bT (val n z):Nat)) []):=by
 refine b9 hT (aH NH iD) hm ae0 rfl aV rfl 30 Xq (fun _=>?_) K pre;have hnl:nl (val n z)<=n:=dL.2 (gB hz);simp only[ag.all,ay,kJ,beq_iff_eq,beq_eq_false_iff_ne,ne_eq];generalize val n z=N at*;refine⟨⟨hU hz,aa⟩,fun h=>bP ?_,fun h=>?_⟩
 ·have:N=0:=by
   rcases Nat.eq_zero_or_pos N with h1|h1
   ·exact h1
   ·have:=g8.2 (show N≠0 by omega);omega
  simp[this,bT]
 ·have h0:N≠0:=g8.1 aa;have hp:=g8.2 h0;have e:i64.wrap ((nl N:Int)-1)=((nl N-1:Nat):Int):=by rw[wrap_i64 aa aa];omega
  rw[e,bg,bg];have hl:=ec (N:=N) (i:=nl N-1);have hb:=O5 h0;have h32:bT (aD N (nl N-1))<=32:=iS.2 hl;refine⟨⟨aa,aa⟩,bP ?_⟩;rw[hb,wrap_i64 (x:=32*((nl N-1:Nat):Int)) aa aa,wrap_i64 aa aa];omega
def Nk:Spec:=ck fun l=>match l with
 |[.int .u32 x]=>some (aJ (.int .i64 (32-bT x.toNat:Nat)) [0<=x/\x<2^32])
 |_=>none
theorem aev:aW P Nk 237:=by
 refine cK fun K args r hk hs _=>?_;split at hs
 ·rename_i x;simp only[az]at hs;subst hs;intro need;obtain⟨h1,h2⟩:0<=x/\x<2^32:=need;obtain⟨y,rfl⟩:=Int.eq_ofNat_of_zero_le h1;exact akj (x:=y) aa K [] trivial
 ·simp at hs
def FA (N n:Nat):dI:=aJ (.int .i64 (bT N:Nat)) [n<2^40]
theorem Kx:aW P (ck (mq FA)) 149:=
 cK (wA fun _ _ K hz need=>Xm hz need K [])
theorem Wj:aU 201 f201:=aS func201
theorem aax:aU 142 f142:=aS func142
theorem acm:aU 170 f170:=aS func170
theorem afJ {b:Bool}:bX T [] [4] 30 f201 (aE f201) ⟨aN 0 [.ep b 1 n f],[],0⟩=
  some (ag.fork b (ag.leaf au.ret [nil]) (ag.aj [(0:Nat)*1<=2^24,((0:Nat)+n)*((4:Nat)+1)*2<=2^47] (ag.leaf au.ret [ak 1 ((0:Nat)+n) fun i=>if i+0<0 then nth [] (int .u32 (0:Int)) (i+0)else f (i+0-0)]))):=ah
theorem aia {B:Nat}:aI T [] [10] 30 [0,1,12,13,4] (before (aE f142) [1,1,0,1]) ⟨aN 0 [.mag A,.mag B],[],0⟩=
  some (ag.fork ((↑(nl A):Int)!=(↑(nl B):Int)) (ag.leaf au.ret ([mag A,mag B,tuple [],tuple [],AV.bool false],[])) (ag.leaf au.normal ([mag A,mag B,int .i64 (↑(nl A):Int),int .i64 (0:Int),AV.bool false],[]))):=ah
theorem aeR {B:Nat}:aI T [] [14,24] 30 [0,1,12,13,4] [part (aE f142) [1,1,0,1,0,0]] ⟨aA [0,1,12,13,4] [.mag A,.mag B,.int .i64 (nl A),.int .i64 i,.bool false],[],0⟩=
  let b:=(↑(nl A):Int);let a:=(↑i:Int);let d:=[mag A,mag B,int .i64 b,int .i64 a,AV.bool false];some (ag.fork (decide (a<b)) (ag.aj [(0:Int)<=a/\a.toNat<nl A,(0:Int)<=a/\a.toNat<nl B] (ag.fork ((↑(aD A a.toNat):Int)!=(↑(aD B a.toNat):Int)) (ag.leaf au.ret (d,[])) (ag.leaf au.normal ([mag A,mag B,int .i64 b,int .i64 (i64.wrap (a+1)),AV.bool false],[])))) (ag.leaf (au.exit 0) (d,[]))):=ah
theorem al6 {B:Nat}:ct T [] [] 30 f142 (behind (aE f142) [1,1,0,1]) ⟨aA [0,1,12,13,4] [.mag A,.mag B,.int .i64 (nl A),.int .i64 i,.bool false],[],0⟩=
  some (ag.leaf au.ret [AV.bool true]):=ah
theorem ZA:aI T G1 [] 30 [1,5,17,18,19] (before (aE f170) [1,1,0,1]) ⟨aN 0 [.ak 1 n (aB z),.ak 1 m (aB y)],[],0⟩=
  let b:=i64.wrap ((↑n:Int)+(↑m:Int));some (ag.aj [(0:Int)<=b/\b<=b/\b<=2^47/\b*(↑(4:Nat):Int)<=2^47] (ag.leaf au.normal ([ak 1 m fun a=>int .u32 (↑(y a):Int),own 24576 1 0 b.toNat,ak 1 n fun a=>int .u32 (↑(z a):Int),int .i64 (↑n:Int),int .i64 (0:Int)],[(24576,aq.mk true true 1 b.toNat fun x=>int .u32 (0:Int))]))):=ah
theorem U6:aI T G1 [20] 30 [1,5,17,18,19] (before (part (aE f170) [1,1,0,1,0,0]) [1,1,0]) ⟨aA [1,5,17,18,19] [.ak 1 m (aB y),.own 7 1 0 (n+m),.ak 1 n (aB z),.int .i64 n,.int .i64 i],[(7,⟨true,true,1,n+m,aB o⟩)],8⟩=
  let b:List AV×aC:=([ak 1 m fun a=>int .u32 (↑(y a):Int),own 7 1 0 (n+m),ak 1 n fun a=>int .u32 (↑(z a):Int),int .i64 (↑n:Int),int .i64 (↑i:Int)],[(7,aq.mk true true 1 (n+m) fun a=>int .u32 (↑(o a):Int))]);some (ag.fork (decide ((↑i:Int)<(↑n:Int))) (ag.leaf au.normal b) (ag.leaf (au.exit 0) b)):=ah
theorem ac0:aI T G1 [25] 30 [1,5,17,18,19,6,7,8,26,27,28] (before (part (aE f170) [1,1,0,1,0,0,1,1,0,0]) [1,1,1,0,1]) ⟨aA [1,5,17,18,19] [.ak 1 m (aB y),.own 7 1 0 (n+m),.ak 1 n (aB z),.int .i64 n,.int .i64 i],[(7,⟨true,true,1,n+m,aB o⟩)],8⟩=
  let d:=(↑i:Int);let k:=int .i64 (↑n:Int);let j:=own 7 1 0 (n+m);let h:=ak 1 n fun a=>int .u32 (↑(z a):Int);let g:Nat×aq:=(7,aq.mk true true 1 (n+m) fun a=>int .u32 (↑(o a):Int));let e:=ak 1 m fun a=>int .u32 (↑(y a):Int);let f:=(↑(z d.toNat):Int);let b:=int .i64 d;some (ag.aj [(0:Int)<=d/\d.toNat<n] (ag.fork (f==0) (ag.leaf (au.exit 1) ([e,j,h,k,b,b,int .u32 f,tuple [],tuple [],tuple [],tuple []],[g])) (ag.leaf au.normal ([e,j,h,k,b,b,int .u32 f,int .u64 (0:Int),e,int .i64 (↑m:Int),int .i64 (0:Int)],[g])))):=ah
theorem Zw {x:Nat}:aI T G1 [29] 30 [1,5,17,18,19,6,7,8,26,27,28] [part (part (aE f170) [1,1,0,1,0,0,1,1,0,0]) [1,1,1,0,1,0,0]] ⟨aA [1,5,17,18,19,6,7,8,26,27,28] [.ak 1 m (aB y),.own 7 1 0 (n+m),.ak 1 n (aB z),.int .i64 n,.int .i64 i,.int .i64 i,.int .u32 x,.int .u64 c,.ak 1 m (aB y),.int .i64 m,.int .i64 j],[(7,⟨true,true,1,n+m,aB o⟩)],8⟩=
  let f:=int .i64 (↑n:Int);let e:=int .u32 (↑x:Int);let d:=int .i64 (↑m:Int);let r:=own 7 1 0 (n+m);let b:=(↑j:Int);let q:=ak 1 n fun a=>int .u32 (↑(z a):Int);let h:=int .i64 (↑i:Int);let g:=ak 1 m fun a=>int .u32 (↑(y a):Int);let k:=i64.wrap ((↑i:Int)+b);let l:=k.toNat+0;let s:=[(0:Int)<=k/\k.toNat<n+m,l<n+m];let p:=u64.wrap ((↑c:Int)+u64.wrap (u64.wrap (u64.wrap (↑x:Int)*u64.wrap (↑(y b.toNat):Int))+u64.wrap (↑(o l):Int)));some (ag.fork (decide (b<(↑m:Int))) (ag.aj [(0:Int)<=b/\b.toNat<m] (ag.aj s (ag.aj s (ag.aj [(0:Int)<=32] (ag.leaf au.normal ([g,r,q,f,h,h,e,int .u64 (p.fdiv ((2:Int)^min (Int.toNat (32:Int)) u64.bits)),g,d,int .i64 (i64.wrap (b+1))],[(7,aq.mk true true 1 (n+m) fun j=>if(j==l)=true then int .u32 (u32.wrap p)else aB o j)])))))) (ag.leaf (au.exit 2) ([g,r,q,f,h,h,e,int .u64 (↑c:Int),g,d,int .i64 b],[(7,aq.mk true true 1 (n+m) fun a=>int .u32 (↑(o a):Int))]))):=ah
theorem YW {x:Nat}:aI T G1 [] 30 [1,5,17,18,19] (behind (part (aE f170) [1,1,0,1,0,0,1,1,0,0]) [1,1,1,0,1]) ⟨aA [1,5,17,18,19,6,7,8,26,27,28] [.ak 1 m (aB y),.own 7 1 0 (n+m),.ak 1 n (aB z),.int .i64 n,.int .i64 i,.int .i64 i,.int .u32 x,.int .u64 c,.ak 1 m (aB y),.int .i64 m,.int .i64 j],[(7,⟨true,true,1,n+m,aB o⟩)],8⟩=
  let b:=i64.wrap ((↑i:Int)+(↑m:Int));let d:=b.toNat+0;some (ag.aj [(0:Int)<=b/\b.toNat<n+m,d<n+m] (ag.leaf au.normal ([ak 1 m fun a=>int .u32 (↑(y a):Int),own 7 1 0 (n+m),ak 1 n fun a=>int .u32 (↑(z a):Int),int .i64 (↑n:Int),int .i64 (↑i:Int)],[(7,aq.mk true true 1 (n+m) fun j=>if(j==d)=true then int .u32 (u32.wrap (↑c:Int))else aB o j)]))):=ah
theorem aiZ:aI T G1 [] 30 [1,5,17,18,19] (behind (part (aE f170) [1,1,0,1,0,0]) [1,1,0]) ⟨aA [1,5,17,18,19] [.ak 1 m (aB y),.own 7 1 0 (n+m),.ak 1 n (aB z),.int .i64 n,.int .i64 i],[(7,⟨true,true,1,n+m,aB o⟩)],8⟩=
  some (ag.leaf au.normal ([ak 1 m fun a=>int .u32 (↑(y a):Int),own 7 1 0 (n+m),ak 1 n fun a=>int .u32 (↑(z a):Int),int .i64 (↑n:Int),int .i64 (i64.wrap ((↑i:Int)+1))],[(7,aq.mk true true 1 (n+m) fun a=>int .u32 (↑(o a):Int))])):=ah
theorem Zv:ct T G1 [] 30 f170 (behind (aE f170) [1,1,0,1]) ⟨aA [1,5,17,18,19] [.ak 1 m (aB y),.own 7 1 0 (n+m),.ak 1 n (aB z),.int .i64 n,.int .i64 i],[(7,⟨true,true,1,n+m,aB o⟩)],8⟩=
  some (ag.aj [eU (n+m) fun i=>aB o (i+0),n+m<2^62] (ag.leaf au.ret [mag (val (n+m) fun i=>numOf (aB o (i+0)))])):=ah
theorem Dy (hn:n<2^40) (K:Nat):aQ P 201 K [.ak 1 n f] [] (aJ (.ak 1 n f) []):=by
 refine OZ fun b hb=>?_;refine b9 hT bw hm Wj rfl aV rfl 30 afJ (fun _=>?_) K [];simp only[ag.all,ay];refine⟨fun h=>?_,fun h=>⟨⟨aa,aa⟩,tw aa fun i hi=>by simp⟩⟩;rw[hb h];exact iT aa
def BV:Spec:=ck fun l=>match l with
 |[.mag N]=>some (aJ (.mag N) [nl N<2^40])
 |[.nil]=>some (aJ (.mag 0) [])
 |[.ak es n f]=>if es==1 then some (aJ (.ak 1 n f) [n<2^40])else none
 |_=>none
theorem II:aW P BV 201:=by
 refine cK fun K args r hk hs _=>?_;split at hs
 ·rename_i N;simp only[az]at hs;subst hs;intro need;have:=gW (args:=[.mag N]) (Dy (n:=nl N) (f:=fun i=>.int .u32 (aD N i)) need K) rfl ⟨IS rfl fun i hi=>rfl,trivial⟩ [];exact DA (l':=[]) this id rfl rfl (mu rfl fun i hi=>rfl) trivial
 ·simp only[az]at hs;subst hs;intro need;have:=gW (args:=[.nil]) (Dy (n:=0) (f:=fun _=>.nil) aa K) rfl ⟨iT aa,trivial⟩ [];exact DA (l':=[]) this id rfl rfl (mu (by simp[nl]) fun i hi=>aa) trivial
 ·rename_i es n f;split at hs
  ·rename_i he;have he:es=1:=by simpa using he
   subst he;simp only[az]at hs;subst hs;exact fun need=>Dy need K trivial
  ·simp at hs
 ·simp at hs
theorem amM {B:Nat} (hA:nl A<2^40) (hB:nl B<2^40) (K:Nat) (pre:aC):aQ P 142 K [.mag A,.mag B] pre (aJ (.bool (decide (A=B))) []):=by
 refine kK hT aax rfl aV rfl (fun _ c h0=>?_) K pre;refine ax.hole [1,1,0,1] ah (aG.bE hT bw hm 30 [0,1,12,13,4] aia ah ?_);simp only[ag.all,bne_iff_ne,ne_eq,Int.natCast_inj,bne_eq_false_iff_eq];refine⟨fun hb s' hv=>?_,fun hb s' hv=>?_⟩
 ·exact iw (us:=[.bool false]) (.inr rfl) hv ah (gQ (decide_eq_false fun h=>hb (by rw[h])).symm)
 refine ax.jr (i:=0) (y:=part (aE f142) [1,1,0,1,0,0]) ah
  (fun i:Nat=>⟨aA [0,1,12,13,4] [.mag A,.mag B,.int .i64 (nl A),.int .i64 i,.bool false],[],0⟩)
  (fun i=>i<=nl A/\∀j,j<i->aD A j=aD B j) (fun i=>nl A-i) 0
  (dP [] hv h0 rfl ⟨aM,aM,aM,aM,aM,trivial⟩ trivial) ⟨aa,fun j h=>aa⟩ ?_
 rintro i ⟨hi,hlim⟩;refine ax.bE hT bw hm 30 [0,1,12,13,4] aeR ah ?_;simp only[ag.all,ay,br,bC,bne_iff_ne,ne_eq,Int.natCast_inj,bne_eq_false_iff_eq,bg];refine⟨fun h1=>⟨⟨aa,aa⟩,fun hne s' hv=>?_,fun heq s' hv=>?_⟩,fun h1 s' hv=>?_⟩
 ·exact iw (us:=[.bool false]) (.inr rfl) hv ah (gQ (decide_eq_false fun h=>hne (by rw[h])).symm)
 ·refine⟨i+1,dP [] hv h0 rfl ⟨aM,aM,aM,⟨rfl,gV (by rw[wrap_i64 aa aa];omega)⟩,aM,trivial⟩ trivial,⟨aa,fun j hj=>?_⟩,aa⟩;by_cases h:j=i
  ·subst h;exact heq
  ·exact hlim j aa
 ·have hAB:A=B:=E3 hb fun j hj=>hlim j aa;exact aG.weak ah (dP (vs:=[.mag A,.mag B,.int .i64 (nl A),.int .i64 i,.bool false]) (ps:=[]) (nx:=0) [] hv h0 rfl ⟨aM,aM,aM,aM,aM,trivial⟩ trivial)
   (aG.fin hT bw hm 30 al6 ah (gQ (decide_eq_true hAB).symm))
def jI:AV->Option Nat
 |.mag N=>some N
 |.nil=>some 0
 |_=>none
theorem mL {a:AV} {N:Nat} (h:jI a=some N):bV a (.mag N):=by
 cases a<;>simp only[jI,reduceCtorEq,az]at h
 case mag M=>subst h;exact .refl _
 case nil=>subst h;exact lT
def Fp:Spec:=ck fun l=>match l with
 |[a,b]=>match jI a,jI b with
  |some A,some B=>some (aJ (.bool (decide (A=B))) [nl A<2^40,nl B<2^40])
  |_,_=>none
 |_=>none
theorem RT:aW P Fp 142:=by
 refine cK fun K args r hk hs _=>?_;split at hs
 ·split at hs
  ·rename_i A B hA hB;simp only[az]at hs;subst hs;exact fun need=>gW (amM need.1 need.2 K []) hk ⟨mL hA,mL hB,trivial⟩ [] trivial
  ·simp at hs
 ·simp at hs
abbrev rQ:List Nat:=[1,5,17,18,19]
abbrev tB (n m:Nat) (z y:Nat->Nat) (K i:Nat):List AV:=[.ak 1 m (aB y),.own K 1 0 (n+m),.ak 1 n (aB z),.int .i64 n,.int .i64 i]
abbrev HA:List Nat:=[1,5,17,18,19,6,7,8,26,27,28]
abbrev L8 (n m:Nat) (z y:Nat->Nat) (K i x c j:Nat):List AV:=[.ak 1 m (aB y),.own K 1 0 (n+m),.ak 1 n (aB z),.int .i64 n,.int .i64 i,.int .i64 i,.int .u32 x,.int .u64 c,.ak 1 m (aB y),.int .i64 m,.int .i64 j]
theorem ahC (hz:∀i,i<n->z i<2^32) (hy:∀i,i<m->y i<2^32) (hn:n<2^40) (hm':m<2^40) (K:Nat) (pre:aC):
  aQ P 170 K [.ak 1 n (aB z),.ak 1 m (aB y)] pre (aJ (.mag (val n z*val m y)) []):=by
 refine kK hT acm rfl aV rfl (fun _ c0 h0=>?_) K pre;refine ax.hole [1,1,0,1] ah (aG.bE hT iD hm 30 rQ ZA ah ?_);have hw:i64.wrap ((n:Int)+(m:Int))=((n+m:Nat):Int):=by rw[wrap_i64 aa aa];omega
 simp only[ag.all,ay,hw,bg];refine⟨aa,fun s' hv=>?_⟩;refine ax.jr (i:=0) (y:=part (aE f170) [1,1,0,1,0,0]) ah
  (fun p:Nat×(Nat->Nat)=>⟨aA rQ (tB n m z y 7 p.1),[(7,⟨true,true,1,n+m,aB p.2⟩)],8⟩)
  (fun p=>p.1<=n/\(∀j,j<n+m->p.2 j<2^32)/\(∀j,p.1+m<=j->p.2 j=0)/\val (n+m) p.2=val p.1 z*val m y)
  (fun p=>n-p.1) (0,fun _=>0)
  (dP [(7,24576)] hv h0 rfl ⟨aM,⟨rfl,cN rfl rfl rfl⟩,aM,aM,aM,trivial⟩
   ⟨⟨_,_,rfl,rfl,gn rfl fun j _=>rfl⟩,trivial⟩)
  ⟨by simp,fun j _=>by simp,fun j _=>rfl,?_⟩ ?_
 ·simp only;rw[nV (k:=0) aa fun _ _ _=>rfl];simp[val]
 rintro⟨i,o⟩ ⟨hi,ho,ho0,hval⟩;simp only at hi ho ho0 hval;have next:∀{o':Nat->Nat} {s':aK},i<n->bD rQ s'=some (tB n m z y 7 i,[(7,⟨true,true,1,n+m,aB o'⟩)])->(∀j,j<n+m->o' j<2^32)->(∀j,i+1+m<=j->o' j=0)->
   val (n+m) o'=val (i+1) z*val m y->∀{QF:au->aK->Prop},
   aG P c0 f170.ntmps (behind (part (aE f170) [1,1,0,1,0,0]) [1,1,0]) s' (eH (fun s'=>∃k:Nat×(Nat->Nat),(∃ρ,Le c0 ρ s' ⟨aA rQ (tB n m z y 7 k.1),[(7,⟨true,true,1,n+m,aB k.2⟩)],8⟩)/\
    (k.1<=n/\(∀j,j<n+m->k.2 j<2^32)/\(∀j,k.1+m<=j->k.2 j=0)/\val (n+m) k.2=val k.1 z*val m y)/\n-k.1<n-i) QF):=by
  intro o' s' hin hv g1 g2 g3 QF;refine aG.weak ah (dP (vs:=tB n m z y 7 i) (ps:=[(7,⟨true,true,1,n+m,aB o'⟩)]) (nx:=8) [(7,7)] hv h0 rfl ⟨aM,⟨rfl,cN rfl rfl rfl⟩,aM,aM,aM,trivial⟩
    ⟨⟨_,_,rfl,rfl,gn rfl fun j _=>rfl⟩,trivial⟩)
   (aG.bE hT iD hm 30 rQ aiZ ah ?_)
  intro s' hv;exact⟨(i+1,o'),dP [(7,7)] hv h0 rfl ⟨aM,⟨rfl,cN rfl rfl rfl⟩,aM,aM,⟨rfl,gV (by rw[wrap_i64 aa aa];simp only;omega)⟩,trivial⟩
    ⟨⟨_,_,rfl,rfl,gn rfl fun j _=>rfl⟩,trivial⟩,⟨by simp only;omega,g1,g2,g3⟩,by simp only;omega⟩
 refine ax.hole [1,1,0] ah (aG.bE hT iD hm 30 rQ U6 ah ?_);simp only[ag.all,br,bC];refine⟨fun h1 s' hv=>?_,fun h1 s' hv=>?_⟩
 ·have hin:i<n:=aa;have hzi:=hz i hin;refine ax.jh (dP (vs:=tB n m z y 7 i) (ps:=[(7,⟨true,true,1,n+m,aB o⟩)]) (nx:=8) [(7,7)] hv h0 rfl ⟨aM,⟨rfl,cN rfl rfl rfl⟩,aM,aM,aM,trivial⟩
    ⟨⟨_,_,rfl,rfl,gn rfl fun j _=>rfl⟩,trivial⟩) ?_
  refine ax.qH (i:=1) (y:=part (aE f170) [1,1,0,1,0,0,1,1,0,0]) ah ?_;refine ax.hole [1,1,1,0,1] ah (aG.bE hT iD hm 30 HA ac0 ah ?_);simp only[ag.all,ay,bg,beq_iff_eq,beq_eq_false_iff_ne,ne_eq];refine⟨aa,fun hz0 s' hv=>?_,fun hz0 s' hv=>?_⟩
  ·refine gk ?_;exact(next hin (jF (ls:=rQ) (l:=[6,7,8,26,27,28]) (vs:=tB n m z y 7 i) hv rfl rfl) ho (fun j hj=>ho0 j aa) (by rw[hval,val,show z i=0 by omega];simp))
  refine ax.jr (i:=2) (y:=part (part (aE f170) [1,1,0,1,0,0,1,1,0,0]) [1,1,1,0,1,0,0]) ah
   (fun p:Nat×Nat×(Nat->Nat)=>⟨aA HA (L8 n m z y 7 i (z i) p.2.1 p.1),[(7,⟨true,true,1,n+m,aB p.2.2⟩)],8⟩)
   (fun p=>p.1<=m/\p.2.1<2^32/\(∀j,j<n+m->p.2.2 j<2^32)/\(∀j,i+m<=j->p.2.2 j=0)/\val (n+m) p.2.2+p.2.1*2^(32*(i+p.1))=val i z*val m y+z i*val p.1 y*2^(32*i))
   (fun p=>m-p.1) (0,0,o)
   (dP [(7,7)] hv h0 rfl ⟨aM,⟨rfl,cN rfl rfl rfl⟩,aM,aM,aM,aM,aM,aM,aM,aM,aM,trivial⟩
    ⟨⟨_,_,rfl,rfl,gn rfl fun j _=>rfl⟩,trivial⟩)
   ⟨by simp,by simp,ho,ho0,by simp[val,hval]⟩ ?_
  rintro⟨j,c,o⟩ ⟨hj,hc,ho,ho0,hval⟩;simp only at hj hc ho ho0 hval;refine ax.bE hT iD hm 30 HA Zw ah ?_;have hij:i64.wrap ((i:Int)+(j:Int))=((i+j:Nat):Int):=by rw[wrap_i64 aa aa];omega
  simp only[ag.all,ay,br,bC,hij,bg,Nat.add_zero,beq_iff_eq];refine⟨fun h2=>?_,fun h2 s' hv=>gk ?_⟩
  ·have hjm:j<m:=aa;obtain⟨m1,m2,m3⟩:=K7 hc hzi (hy j hjm) (ho (i+j) aa);rw[m1];refine⟨aa,aa,aa,aa,fun s' hv=>⟨(j+1,(c+z i*y j+o (i+j))/4294967296,cR o (i+j) ((c+z i*y j+o (i+j))%4294967296)),?_,⟨by simp only;omega,m3,jl aa ho,fun k hk=>?_,?_⟩,by simp only;omega⟩⟩
   ·refine dP [(7,7)] hv h0 rfl ⟨aM,⟨rfl,cN rfl rfl rfl⟩,aM,aM,aM,aM,aM,⟨rfl,gV ?_⟩,aM,aM,⟨rfl,gV ?_⟩,trivial⟩
     ⟨⟨_,_,rfl,rfl,gn rfl fun k _=>iI (by rw[kB]) k⟩,trivial⟩
    ·rw[mW];simp only;omega
    ·rw[wrap_i64 aa aa];simp only;omega
   ·exact(gz aa).trans (ho0 k hk)
   ·simp only;rw[show 32*(i+(j+1))=32*((i+j)+1) by omega,iV,val];have hset:=Ik (o:=o) (x:=(c+z i*y j+o (i+j))%4294967296) (show i+j<n+m by omega);exact Jt rfl (Nat.div_add_mod _ _) hset (by rw[<-Nat.pow_add];congr 1;omega) hval
  ·have hjm:j=m:=aa;subst hjm;refine aG.weak ah (dP (vs:=L8 n j z y 7 i (z i) c j) (ps:=[(7,⟨true,true,1,n+j,aB o⟩)]) (nx:=8) [(7,7)] hv h0 rfl
     ⟨aM,⟨rfl,cN rfl rfl rfl⟩,aM,aM,aM,aM,aM,aM,aM,aM,aM,trivial⟩
     ⟨⟨_,_,rfl,rfl,gn rfl fun j _=>rfl⟩,trivial⟩)
    (aG.bE hT iD hm 30 rQ YW ah ?_)
   simp only[ag.all,ay,hij,bg,Nat.add_zero,beq_iff_eq];refine⟨aa,fun s' hv=>?_⟩;have hf:(fun k=>if k=i+j then AV.int .u32 (u32.wrap (c:Int))else aB o k)=aB (cR o (i+j) c):=by
    funext k;exact iI (wrap_u32 aa aa) k
   rw[hf]at hv;refine next hin hv (jl hc ho) (fun k hk=>(gz aa).trans (ho0 k aa)) ?_
   rw[r6 aa (ho0 _ aa),hval,val,Nat.add_mul,Nat.mul_assoc,Nat.mul_assoc,Nat.mul_comm (val j y)]
 ·have hin:i=n:=aa;subst hin;refine tc (gk ?_);refine(aG.weak ah (dP (vs:=tB i m z y 7 i) (ps:=[(7,⟨true,true,1,i+m,aB o⟩)]) (nx:=8) [(7,7)] hv h0 rfl ⟨aM,⟨rfl,cN rfl rfl rfl⟩,aM,aM,aM,trivial⟩
    ⟨⟨_,_,rfl,rfl,gn rfl fun j _=>rfl⟩,trivial⟩)
   (aG.fin hT iD hm 30 Zv ah ?_))
  simp only[ag.all,ay,Nat.add_zero,kJ];exact⟨⟨hU ho,aa⟩,dY (congrArg AV.mag hval)⟩
def MP (A n B m:Nat):dI:=aJ (.mag (A*B)) [n<2^40,m<2^40]
theorem abg:aW P (ck (jj MP)) 170:=
 cK (uS fun _ _ _ _ K hz hy need=>ahC hz hy need.1 need.2 K [])
theorem akh:aI T G1 [] 30 [4] (behind (aE f238) [1,1,1,0,1]) ⟨aA [0,1,5,6,13,14,15] [.ak 1 n (aB z),.int .i64 s,.own 7 1 0 (n+1),.int .u64 c,.ak 1 n (aB z),.int .i64 n,.int .i64 i],[(7,⟨true,true,1,n+1,aB o⟩)],8⟩=
  let a:=n+1;let b:=(↑n:Int).toNat+0;some (ag.aj [(0:Int)<=(↑n:Int)/\(↑n:Int).toNat<a,b<a] (ag.leaf au.ret ([own 7 1 0 a],[(7,aq.mk true true 1 a fun j=>if(j==b)=true then int .u32 (u32.wrap (↑c:Int))else aB o j)]))):=ah
theorem aiG:aI T [] [] 30 [0,3] (before (aE f199) [1,1,0]) ⟨aN 0 [.own 0 1 0 n],[(0,⟨true,true,1,n,aB z⟩)],1⟩=
  some (ag.leaf au.normal ([own 0 1 0 n,int .i64 (↑n:Int)],[(0,aq.mk true true 1 n fun a=>int .u32 (↑(z a):Int))])):=ah
theorem VK:aI T [] [8,15] 30 [0,3] [part (aE f199) [1,1,0,0,0]] ⟨aA [0,3] [.own 0 1 0 n,.int .i64 k],[(0,⟨true,true,1,n,aB z⟩)],1⟩=
  let d:=(↑k:Int);let g:=own 0 1 0 n;let f:Nat×aq:=(0,aq.mk true true 1 n fun a=>int .u32 (↑(z a):Int));let e:=decide (d>0);let h:ag (List AV×aC):=ag.leaf (au.exit 0) ([g,int .i64 d],[f]);let b:=i64.wrap (d-1);let i:ag (List AV×aC):=ag.leaf au.normal ([g,int .i64 b],[f]);some (ag.fork e (ag.aj [e=true,(0:Int)<=b/\b.toNat<n,b.toNat+0<n] (ag.fork (bif true then(↑(z (b.toNat+0)):Int)==0 else false) i h)) (ag.aj [e=false] (ag.fork false i h))):=ah
theorem ZC:aI T [] [] 30 [2] (behind (aE f199) [1,1,0]) ⟨aA [0,3] [.own 0 1 0 n,.int .i64 k],[(0,⟨true,true,1,n,aB z⟩)],1⟩=
  let b:=(↑k:Int);some (ag.aj [(0:Int)<=0/\(0:Int)<=b/\b<=b/\b<=(↑n:Int)] (ag.leaf au.ret ([own 0 1 0 (b.toNat-Int.toNat (0:Int))],[(0,aq.mk true true 1 n fun a=>int .u32 (↑(z a):Int))]))):=ah
theorem amj (hz:∀i,i<n->z i<2^32) (hn:n<2^40) (hs:s<32) (K:Nat):
  aQ P 238 K [.ak 1 n (aB z),.int .i64 s] [] ⟨.own K 1 0 (n+1),[(K,⟨true,true,1,n+1,aB (aD (val n z*2^s))⟩)],[]⟩:=by
 refine nv hT ae6 (args0:=[.ak 1 n (aB z),.int .i64 s]) (pre0:=[]) (nx:=0) [] aV rfl ⟨aM,aM,trivial⟩ trivial (fun a k h=>by simp[bk,look]at h) (fun k o h=>?_) (fun _ c h0=>?_)
 ·simp only[look]at h;split at h
  ·rename_i he;have:K=k:=by simpa using he
   subst this;exact .inr ⟨bq,by unfold de;omega⟩
  ·simp at h
 have hk0:c.k0=bB:=by
  funext k;cases hk:c.k0 k with
  |none=>rfl
  |some x=>have:=h0 k x hk;simp[bk,look]at this
 refine acZ hz hn hs hk0 fun c' o s' hc ho hval hv=>?_;have h3:2^s<=2^31:=Nat.pow_le_pow_right aa aa;refine aG.fW hT iD hm 30 (nx:=8) hv (kO hk0) rfl ⟨⟨aa,fun _ _=>rfl⟩,trivial⟩ [4] akh ah ah ?_;simp only[ag.all,ay,Nat.add_zero,beq_iff_eq,bg,ZZ hs hc];refine⟨aa,fun s' hv=>⟨by simp,bk [(K,7)],B2 ⟨bq,by unfold de;omega⟩,.inr (uN (us:=[.own 7 1 0 (n+1)]) (ws:=[.own K 1 0 (n+1)]) (ps:=[(K,⟨true,true,1,n+1,aB (aD (val n z*2^s))⟩)]) hv ah ⟨⟨rfl,cN (by simp[bk,look]) rfl rfl⟩,trivial⟩ rfl rfl ⟨⟨7,_,by simp[bk,look],rfl,gn rfl fun j hj=>?_⟩,trivial⟩)⟩⟩;have ho':∀j,j<n+1->cR o n c' j<2^32:=jl aa ho;rw[<-hval,<-tW,aB,aB,qw ho' hj]
def Oe:Spec:=o6 fun K l=>match l with
 |[a,.int .i64 k]=>match sw a with
  |some (N,n,q)=>some ⟨.own K 1 0 (n+1),[(K,⟨true,true,1,n+1,aB (aD (N*2^k.toNat))⟩)],q++[n<2^40,0<=k,k<32]⟩
  |none=>none
 |_=>none
theorem T6:aW P Oe 238:=by
 refine sA fun K args r hk hs=>?_;split at hs
 ·rename_i a k;split at hs
  ·rename_i N n q hn;simp only[az]at hs;subst hs;intro need;obtain⟨n1,n2⟩:=dS.1 need;obtain⟨z,hz,rfl,hle⟩:=xI hn n1;obtain⟨h1,h2,h3⟩:n<2^40/\0<=k/\k<32:=n2;obtain⟨s,rfl⟩:=Int.eq_ofNat_of_zero_le h2;exact gW (amj hz h1 aa K) hk ⟨hle,.refl _,trivial⟩ [] trivial
  ·simp at hs
 ·simp at hs
theorem acU (hz:∀i,i<n->z i<2^32) (hn:n<2^62) (K:Nat) (hf:∀i,i<n->f i=aB z i):
  aQ P 199 K [.own k 1 0 n] [(k,⟨true,true,1,n,f⟩)] ⟨.own k 1 0 (nl (val n z)),[],[]⟩:=by
 refine nv hT OR (args0:=[.own 0 1 0 n]) (pre0:=[(0,⟨true,true,1,n,aB z⟩)]) (nx:=1) [(0,k)] aV (by simp[jb]) ⟨⟨rfl,cN rfl rfl rfl⟩,trivial⟩ ⟨⟨k,_,rfl,by simp[look],gn rfl hf⟩,trivial⟩
  (fun a x h=>?_) (fun x o h=>by simp[look]at h) (fun _ c h0=>?_)
 ·simp only[bk,look]at h;split at h
  ·simp only[az]at h;subst h;exact⟨_,by simp[look];rfl⟩
  ·simp at h
 have hk0:∀k x,c.k0 k=some x->k<1:=fun k x hk=>by
  have:=h0 k x hk;simp only[bk,look]at this;split at this
  ·rename_i h;simp at h;omega
  ·simp at this
 refine ax.hole [1,1,0] ah (aG.bE hT bw hm 30 [0,3] aiG ah fun s' hv=>?_);refine ax.iN (i:=0) (y:=part (aE f199) [1,1,0,0,0]) ah [0,3] 1 hk0 (fun k:Nat=>[.own 0 1 0 n,.int .i64 k]) (fun _=>[(0,⟨true,true,1,n,aB z⟩)]) (fun _=>rfl) (fun _=>⟨⟨aa,fun _ _=>rfl⟩,trivial⟩)
  (fun k=>k<=n/\∀i,k<=i->i<n->z i=0) id n hv ⟨bq,fun i h1 h2=>aa⟩ ?_
 rintro j ⟨hj,hzj⟩;refine ax.bE hT bw hm 30 [0,3] VK ah ?_;have fin:(j=0\/z (j-1)≠0)->∀s',bD [0,3] s'=some ([.own 0 1 0 n,.int .i64 j],[(0,⟨true,true,1,n,aB z⟩)])->aG P c f199.ntmps (behind (aE f199) [1,1,0]) s'
   (fun e s'=>(e=.normal\/e=.ret)/\∃τ,vW [(0,k)] K [(k,⟨true,true,1,n,f⟩)] τ/\(AL T f199 τ [(k,⟨true,true,1,n,f⟩)] ⟨.own k 1 0 (nl (val n z)),[],[]⟩ s'\/v7 T f199 τ [(k,⟨true,true,1,n,f⟩)] ⟨.own k 1 0 (nl (val n z)),[],[]⟩ s')):=by
  intro hj0 s' hv;refine aG.fW hT bw hm 30 (nx:=1) hv hk0 rfl ⟨⟨aa,fun _ _=>rfl⟩,trivial⟩ [2] ZC ah ah ?_;have e:val n z=val j z:=nV hj hzj;refine⟨⟨aa,aa,aa,aa⟩,fun s' hv=>⟨.inr rfl,bk [(k,0)],tL,.inr (uN (us:=[.own 0 1 0 ((j:Int).toNat-Int.toNat 0)]) (ws:=[.own k 1 0 (nl (val n z))]) (os:=[(0,⟨true,true,1,n,aB z⟩)]) (ps:=[(k,⟨true,true,1,n,f⟩)]) hv ah ⟨⟨rfl,cN (by simp[bk,look]) rfl ?_⟩,trivial⟩ rfl rfl ⟨⟨0,_,by simp[bk,look],rfl,ji rfl fun j hj=>?_⟩,trivial⟩)⟩⟩
  ·rw[e,Dg (fun i hi=>hz i aa) hj0];simp
  ·rw[hf j hj];exact gm rfl
 have hw:0<j->i64.wrap ((j:Int)-1)=((j-1:Nat):Int):=fun h=>by rw[wrap_i64 aa aa];omega
 refine⟨fun hb=>?_,fun hb=>?_⟩
 ·have h1:0<j:=by simpa using hb
  rw[hw h1];have hj1:j-1<n:=aa;refine⟨⟨hb,⟨aa,by rw[bg];exact hj1⟩,by rw[bg];exact hj1⟩,fun hc s' hv=>?_,fun hc s' hv=>?_⟩
  ·refine⟨j-1,hv,⟨aa,fun i h1 h2=>?_⟩,by simp;omega⟩;by_cases hi:i=j-1
   ·subst hi;simpa using hc
   ·exact hzj i aa h2
  ·exact gk (fin (.inr (by simpa using hc)) s' hv)
 ·have h1:j=0:=by simpa using hb
  refine⟨hb,fun hc=>by simp at hc,fun hc s' hv=>gk (fin (.inl h1) s' hv)⟩
def F5:Spec:=fun _ args pre=>match args,pre with
 |[.own k es s n],[(k',o)]=>if k==k'&&es==1&&s==0&&o.row&&o.wr&&o.es==1 then some ⟨.own k 1 0 (nl (val n fun i=>numOf (o.f i))),[],[eU n o.f,o.len=n,n<2^62]⟩else none
 |_,_=>none
theorem ZY:aW P F5 199:=by
 intro K args pre r hs;unfold F5 at hs;split at hs
 ·rename_i k es s n k' o;split at hs
  ·rename_i hc;simp only[Bool.and_eq_true,beq_iff_eq]at hc;obtain⟨⟨⟨⟨⟨rfl,rfl⟩,rfl⟩,h4⟩,h5⟩,h6⟩:=hc;simp only[az]at hs;subst hs;intro need;obtain⟨h1,h2,h3⟩:eU n o.f/\o.len=n/\n<2^62:=need;obtain⟨row,wr,es,len,f⟩:=o;simp only at h1 h2 h4 h5 h6;subst h2 h4 h5 h6;refine acU (z:=fun i=>numOf (f i)) (fun i hi=>?_) h3 K (fun i hi=>?_) trivial
   ·obtain⟨z,g1,g2⟩:=h1 i hi;simp only[g2,numOf];omega
   ·obtain⟨z,g1,g2⟩:=h1 i hi;simp[g2,numOf,aB]
  ·simp at hs
 ·simp at hs
theorem agq:aU 202 f202:=aS func202
def GD:aX:=(169,ck (jj AJ))::(201,BV)::(236,ck (AD MU))::(237,Nk)::(238,Oe)::G1
def GT:aX:=[(199,F5)]
abbrev oL:List Nat:=[1,1,1,1,1,1,1,0,1]
abbrev zh:Code:=part (aE f202) [1,1,1,1,1,1,1,0,1,0,0]
abbrev ru:Code:=part zh [1,0,0]
abbrev vt:Code:=part ru [1,1,1]
abbrev CG:Code:=part vt [1,1]
abbrev tG:Code:=part CG [1,1,0,1,0]
abbrev mo:Code:=part (aE f202) [1,1,1,1,1,1,1,1]
abbrev dJ:List Nat:=[4,9,10,11,12,13]
abbrev fL (lq s lu V:Nat) (j:Int):List AV:=[.own 8 1 0 lq,.int .i64 s,.own 7 1 0 lu,.mag V,.int .i64 (nl V),.int .i64 j]
abbrev dy (lq lu:Nat) (q u:Nat->Nat):aC:=[(7,⟨true,true,1,lu,aB u⟩),(8,⟨true,true,1,lq,aB q⟩)]
theorem ak1:aI T GD [] 60 [0,1,4,5,6] ((before (aE f202) oL).take 2) ⟨aN 0 [.ak 1 n (aB z),.ak 1 m (aB y)],[],0⟩=
  some (ag.aj [eU n (aB z),n<2^62,eU m (aB y),m<2^62] (ag.leaf au.normal ([mag (val n fun i=>numOf (aB z i)),mag (val m fun i=>numOf (aB y i)),nil,nil,int .i64 (0:Int)],[]))):=ah
theorem ahS {B:Nat}:aI T GD [30,34,41] 60 [0,1,4,5,6] (((before (aE f202) oL).drop 2).take 1) ⟨aA [0,1,4,5,6] [.mag A,.mag B,.nil,.nil,.int .i64 0],[],0⟩=
  let f:=int .u32 (0:Int);let d:=int .i64 (0:Int);let b:=2^40;let a:=(↑(aD B (Int.toNat (0:Int))):Int);let e:=int .u32 (↑(A%a.toNat):Int);some (ag.fork ((↑(nl B):Int)==0) (ag.leaf au.ret ([mag A,mag B,nil,nil,int .i64 (3:Int)],[])) (ag.aj [nl A<b,nl B<b] (ag.fork (decide (dw A B<0)) (ag.aj [nl A<b] (ag.leaf au.ret ([mag A,mag B,nil,mag A,d],[]))) (ag.fork ((↑(nl B):Int)==1) (ag.aj [(0:Int)<=0/\Int.toNat (0:Int)<nl B,nl A<b,(0:Int)<a,a<2^32] (ag.aj [(1:Nat)*1<=2^24,eU 1 fun i=>nth [e] f (i+0),(1:Nat)<2^62] (ag.leaf au.ret ([mag A,mag B,mag (A/a.toNat),mag (val 1 fun i=>numOf (nth [e] f (i+0))),d],[])))) (ag.leaf au.normal ([mag A,mag B,nil,nil,d],[])))))):=ah
theorem Zq {B:Nat}:aI T GD [] 60 [0,1,9] (((before (aE f202) oL).drop 3).take 1) ⟨aA [0,1,4,5,6] [.mag A,.mag B,.nil,.nil,.int .i64 0],[],0⟩=
  let a:=i64.wrap ((↑(nl B):Int)-1);let b:=(↑(aD B a.toNat):Int);some (ag.aj [(0:Int)<=a/\a.toNat<nl B,(0:Int)<=b/\b<2^32] (ag.leaf au.normal ([mag A,mag B,int .i64 (↑((32:Nat)-bT b.toNat):Int)],[]))):=ah
theorem aaA {B:Nat}:aI T GD [] 60 [9,10,11] (((before (aE f202) oL).drop 4).take 1) ⟨aA [0,1,9] [.mag A,.mag B,.int .i64 s],[],0⟩=
  let e:=nl B+1;let b:=(↑s:Int);let d:=2^b.toNat;some (ag.aj [nl A<2^40,(0:Int)<=b,b<32,nl B<2^40,(0:Int)<=b,b<32,eU e fun i=>aB (aD (B*d)) (i+0),e<2^62] (ag.leaf au.normal ([int .i64 b,own 8192 1 0 (nl A+1),mag (val e fun i=>numOf (aB (aD (B*d)) (i+0)))],[(8192,aq.mk true true 1 (nl A+1) fun a=>int .u32 (↑(aD (A*d) a):Int))]))):=ah
theorem aie {V:Nat}:aI T GD [] 60 dJ ((before (aE f202) oL).drop 5) ⟨aA [9,10,11] [.int .i64 s,.own 7 1 0 lu,.mag V],[(7,⟨true,true,1,lu,aB u⟩)],8⟩=
  let b:=i64.wrap ((↑lu:Int)-(↑(nl V):Int));some (ag.aj [(0:Int)<=b/\b<=b/\b<=2^47/\b*(↑(4:Nat):Int)<=2^47] (ag.leaf au.normal ([own 28680 1 0 b.toNat,int .i64 (↑s:Int),own 7 1 0 lu,mag V,int .i64 (↑(nl V):Int),int .i64 (i64.wrap ((↑b.toNat:Int)-1))],[(7,aq.mk true true 1 lu fun a=>int .u32 (↑(u a):Int)),(28680,aq.mk true true 1 b.toNat fun x=>int .u32 (0:Int))]))):=ah
theorem TN {V:Nat}:aI T GD [82] 60 dJ [part zh [0]] ⟨aA dJ (fL lq s lu V ((m:Int)-1)),dy lq lu q u,9⟩=
  let d:=(↑m:Int)-1;let b:List AV×aC:=([own 8 1 0 lq,int .i64 (↑s:Int),own 7 1 0 lu,mag V,int .i64 (↑(nl V):Int),int .i64 d],[(7,aq.mk true true 1 lu fun a=>int .u32 (↑(u a):Int)),(8,aq.mk true true 1 lq fun a=>int .u32 (↑(q a):Int))]);some (ag.fork (decide (d>=0)) (ag.leaf au.normal b) (ag.leaf (au.exit 1) b)):=ah
theorem aeN {V:Nat}:aI T GD [] 60 (dJ++[15,16]) (before ru [1,1,0]) ⟨aA dJ (fL lq s lu V (j:Nat)),dy lq lu q u,9⟩=
  let g:=(↑(nl V):Int);let f:=i64.wrap (g-1);let b:=i64.wrap ((↑j:Int)+g);let i:=(0:Int)<=f/\f.toNat<nl V;let e:=i64.wrap (b-1);let d:=u64.wrap (↑(aD V f.toNat):Int);let h:=u64.wrap (↑(BitVec.ofInt u64.bits (u64.wrap (u64.wrap (↑(u (b.toNat+0)):Int)*2^min (Int.toNat (32:Int)) u64.bits))|||BitVec.ofInt u64.bits (u64.wrap (↑(u (e.toNat+0)):Int))).toNat:Int);some (ag.aj [(0:Int)<=b/\b.toNat<lu,b.toNat+0<lu,(0:Int)<=32,(0:Int)<=e/\e.toNat<lu,e.toNat+0<lu] (ag.aj [i,d≠(0:Int),i,d≠(0:Int)] (ag.leaf au.normal ([own 8 1 0 lq,int .i64 (↑s:Int),own 7 1 0 lu,mag V,int .i64 g,int .i64 (↑j:Int),int .u64 (u64.wrap (h.tdiv d)),int .u64 (h.tmod d)],[(7,aq.mk true true 1 lu fun a=>int .u32 (↑(u a):Int)),(8,aq.mk true true 1 lq fun a=>int .u32 (↑(q a):Int))])))):=ah
theorem al1 {V rest:Nat} {x:Int}:aI T GD [120,141,153] 60 (dJ++[15,16]) [part ru [1,1,0,0,0]] ⟨aA (dJ++[15,16]) (fL lq s lu V (j:Nat)++[.int .u64 x,.int .u64 rest]),dy lq lu q u,9⟩=
  let h:=int .i64 (↑j:Int);let g:=int .i64 (↑s:Int);let f:=own 8 1 0 lq;let e:=own 7 1 0 lu;let b:=(↑(nl V):Int);let d:=decide (x>=4294967296);let t:List (Nat×aq):=[(7,aq.mk true true 1 lu fun a=>int .u32 (↑(u a):Int)),(8,aq.mk true true 1 lq fun a=>int .u32 (↑(q a):Int))];let m:=i64.wrap (b-1);let l:=i64.wrap (b-2);let i:=i64.wrap (i64.wrap ((↑j:Int)+b)-2);let p:ag (List AV×aC):=ag.leaf (au.exit 3) ([f,g,e,mag V,int .i64 b,h,int .u64 x,int .u64 (↑rest:Int)],t);let k:=u64.wrap (x*u64.wrap (↑(aD V l.toNat):Int));let v:=u64.wrap (↑(BitVec.ofInt u64.bits (u64.wrap ((↑rest:Int)*2^min (Int.toNat (32:Int)) u64.bits))|||BitVec.ofInt u64.bits (u64.wrap (↑(u (i.toNat+0)):Int))).toNat:Int);let o:=u64.wrap ((↑rest:Int)+u64.wrap (↑(aD V m.toNat):Int));let n:List AV×aC:=([f,g,e,mag V,int .i64 b,h,int .u64 (u64.wrap (x-1)),int .u64 o],t);let r:ag (List AV×aC):=ag.aj [(0:Int)<=m/\m.toNat<nl V] (ag.fork (decide (o>=4294967296)) (ag.leaf (au.exit 3) n) (ag.leaf au.normal n));some (ag.fork d (ag.aj [d=true] (ag.fork true r p)) (ag.aj [d=false,(0:Int)<=l/\l.toNat<nl V,(0:Int)<=32,(0:Int)<=i/\i.toNat<lu,i.toNat+0<lu] (ag.fork (bif false then true else decide (k>v)) r p))):=ah
theorem ahr {V x rest:Nat}:aI T GD [] 60 (dJ++[15,17,18,154,155,156]) (before vt [1,0,1]) ⟨aA (dJ++[15,16]) (fL lq s lu V (j:Nat)++[.int .u64 x,.int .u64 rest]),dy lq lu q u,9⟩=
  let d:=int .u64 (0:Int);let b:=int .i64 (↑(nl V):Int);some (ag.leaf au.normal ([own 8 1 0 lq,int .i64 (↑s:Int),own 7 1 0 lu,mag V,b,int .i64 (↑j:Int),int .u64 (↑x:Int),d,d,mag V,b,int .i64 (0:Int)],[(7,aq.mk true true 1 lu fun a=>int .u32 (↑(u a):Int)),(8,aq.mk true true 1 lq fun a=>int .u32 (↑(q a):Int))])):=ah
theorem div_mul {V x:Nat}:aI T GD [157] 60 (dJ++[15,17,18,154,155,156]) [part vt [1,0,1,0,0]] ⟨aA (dJ++[15,17,18,154,155,156]) (fL lq s lu V (j:Nat)++[.int .u64 x,.int .u64 b,.int .u64 c,.mag V,.int .i64 (nl V),.int .i64 i]),dy lq lu q u,9⟩=
  let k:=int .i64 (↑j:Int);let h:=(↑(nl V):Int);let g:=int .u64 (↑x:Int);let f:=int .i64 (↑s:Int);let v:=own 7 1 0 lu;let t:=own 8 1 0 lq;let d:=(↑i:Int);let r:Nat×aq:=(8,aq.mk true true 1 lq fun a=>int .u32 (↑(q a):Int));let l:=int .i64 h;let p:=u64.wrap ((↑c:Int)+u64.wrap ((↑x:Int)*u64.wrap (↑(aD V d.toNat):Int)));let m:=i64.wrap (d+(↑j:Int));let n:=m.toNat+0;let e:=[(0:Int)<=m/\m.toNat<lu,n<lu];let o:=u64.wrap (u64.wrap (u64.wrap (↑(u n):Int)-u64.wrap (↑(BitVec.ofInt u64.bits p&&&BitVec.ofInt u64.bits (4294967295:Int)).toNat:Int))-(↑b:Int));some (ag.fork (decide (d<h)) (ag.aj [(0:Int)<=d/\d.toNat<nl V] (ag.aj e (ag.aj e (ag.aj [(0:Int)<=63] (ag.aj [(0:Int)<=32] (ag.leaf au.normal ([t,f,v,mag V,l,k,g,int .u64 (o.fdiv ((2:Int)^min (Int.toNat (63:Int)) u64.bits)),int .u64 (p.fdiv ((2:Int)^min (Int.toNat (32:Int)) u64.bits)),mag V,l,int .i64 (i64.wrap (d+1))],[(7,aq.mk true true 1 lu fun j=>if(j==n)=true then int .u32 (u32.wrap o)else aB u j),r]))))))) (ag.leaf (au.exit 5) ([t,f,v,mag V,l,k,g,int .u64 (↑b:Int),int .u64 (↑c:Int),mag V,l,int .i64 d],[(7,aq.mk true true 1 lu fun a=>int .u32 (↑(u a):Int)),r]))):=ah
theorem afT {V x:Nat}:aI T GD [] 60 (dJ++[15,211]) (before CG [1,1,0,1]) ⟨aA (dJ++[15,17,18]) (fL lq s lu V (j:Nat)++[.int .u64 x,.int .u64 b,.int .u64 c]),dy lq lu q u,9⟩=
  let d:=i64.wrap ((↑j:Int)+(↑(nl V):Int));let e:=d.toNat+0;let g:=[(0:Int)<=d/\d.toNat<lu,e<lu];let f:=u64.wrap (u64.wrap (u64.wrap (↑(u e):Int)-(↑c:Int))-(↑b:Int));some (ag.aj g (ag.aj g (ag.aj [(0:Int)<=63] (ag.leaf au.normal ([own 8 1 0 lq,int .i64 (↑s:Int),own 7 1 0 lu,mag V,int .i64 (↑(nl V):Int),int .i64 (↑j:Int),int .u64 (↑x:Int),AV.bool (f.fdiv ((2:Int)^min (Int.toNat (63:Int)) u64.bits)!=0)],[(7,aq.mk true true 1 lu fun j=>if(j==e)=true then int .u32 (u32.wrap f)else aB u j),(8,aq.mk true true 1 lq fun a=>int .u32 (↑(q a):Int))]))))):=ah
theorem akI {V x:Nat}:aI T GD [] 60 (dJ++[15,18,214,215,216]) (before tG [1,1,0,1]) ⟨aA (dJ++[15]) (fL lq s lu V (j:Nat)++[.int .u64 x]),dy lq lu q u,9⟩=
  let b:=int .i64 (↑(nl V):Int);some (ag.leaf au.normal ([own 8 1 0 lq,int .i64 (↑s:Int),own 7 1 0 lu,mag V,b,int .i64 (↑j:Int),int .u64 (u64.wrap ((↑x:Int)-1)),int .u64 (0:Int),mag V,b,int .i64 (0:Int)],[(7,aq.mk true true 1 lu fun a=>int .u32 (↑(u a):Int)),(8,aq.mk true true 1 lq fun a=>int .u32 (↑(q a):Int))])):=ah
theorem div_add {V x:Nat}:aI T GD [217] 60 (dJ++[15,18,214,215,216]) [part tG [1,1,0,1,0,0]] ⟨aA (dJ++[15,18,214,215,216]) (fL lq s lu V (j:Nat)++[.int .u64 x,.int .u64 c,.mag V,.int .i64 (nl V),.int .i64 i]),dy lq lu q u,9⟩=
  let g:=int .i64 (↑s:Int);let f:=int .i64 (↑j:Int);let e:=(↑(nl V):Int);let d:=int .u64 (↑x:Int);let p:=own 8 1 0 lq;let o:=own 7 1 0 lu;let b:=(↑i:Int);let n:Nat×aq:=(8,aq.mk true true 1 lq fun a=>int .u32 (↑(q a):Int));let h:=int .i64 e;let k:=i64.wrap (b+(↑j:Int));let l:=k.toNat+0;let r:=[(0:Int)<=k/\k.toNat<lu,l<lu];let m:=u64.wrap ((↑c:Int)+u64.wrap (u64.wrap (↑(u l):Int)+u64.wrap (↑(aD V b.toNat):Int)));some (ag.fork (decide (b<e)) (ag.aj [(0:Int)<=b/\b.toNat<nl V] (ag.aj r (ag.aj r (ag.aj [(0:Int)<=32] (ag.leaf au.normal ([p,g,o,mag V,h,f,d,int .u64 (m.fdiv ((2:Int)^min (Int.toNat (32:Int)) u64.bits)),mag V,h,int .i64 (i64.wrap (b+1))],[(7,aq.mk true true 1 lu fun j=>if(j==l)=true then int .u32 (u32.wrap m)else aB u j),n])))))) (ag.leaf (au.exit 7) ([p,g,o,mag V,h,f,d,int .u64 (↑c:Int),mag V,h,int .i64 b],[(7,aq.mk true true 1 lu fun a=>int .u32 (↑(u a):Int)),n]))):=ah
theorem ajS {V x:Nat}:aI T GD [] 60 (dJ++[15]) (behind tG [1,1,0,1]) ⟨aA (dJ++[15,18]) (fL lq s lu V (j:Nat)++[.int .u64 x,.int .u64 c]),dy lq lu q u,9⟩=
  let d:=i64.wrap ((↑j:Int)+(↑(nl V):Int));let e:=(0:Int)<=d/\d.toNat<lu;let b:=d.toNat+0;some (ag.aj [e,b<lu,e,b<lu] (ag.leaf au.normal ([own 8 1 0 lq,int .i64 (↑s:Int),own 7 1 0 lu,mag V,int .i64 (↑(nl V):Int),int .i64 (↑j:Int),int .u64 (↑x:Int)],[(7,aq.mk true true 1 lu fun j=>if(j==b)=true then int .u32 (u32.wrap ((↑(u b):Int)+u32.wrap (↑c:Int)))else aB u j),(8,aq.mk true true 1 lq fun a=>int .u32 (↑(q a):Int))]))):=ah
theorem Xp {V x:Nat}:aI T GD [] 60 dJ (behind CG [1,1,0,1]) ⟨aA (dJ++[15]) (fL lq s lu V (j:Nat)++[.int .u64 x]),dy lq lu q u,9⟩=
  let b:=(↑j:Int);let d:=b.toNat+0;some (ag.aj [(0:Int)<=b/\b.toNat<lq,d<lq] (ag.leaf au.normal ([own 8 1 0 lq,int .i64 (↑s:Int),own 7 1 0 lu,mag V,int .i64 (↑(nl V):Int),int .i64 b],[(7,aq.mk true true 1 lu fun a=>int .u32 (↑(u a):Int)),(8,aq.mk true true 1 lq fun j=>if(j==d)=true then int .u32 (u32.wrap (↑x:Int))else aB q j)]))):=ah
theorem Vv {V:Nat}:aI T GD [] 60 dJ [part zh [1,1]] ⟨aA dJ (fL lq s lu V (j:Nat)),dy lq lu q u,9⟩=
  some (ag.leaf au.normal ([own 8 1 0 lq,int .i64 (↑s:Int),own 7 1 0 lu,mag V,int .i64 (↑(nl V):Int),int .i64 (i64.wrap ((↑j:Int)-1))],[(7,aq.mk true true 1 lu fun a=>int .u32 (↑(u a):Int)),(8,aq.mk true true 1 lq fun a=>int .u32 (↑(q a):Int))])):=ah
theorem ajV {V:Nat}:aI T GT [] 60 [4,5,9,261,262] (before mo [1,0,1]) ⟨aA dJ (fL lq s lu V (-1)),dy lq lu q u,9⟩=
  let b:=nl (val lu fun i=>numOf (aB u i));some (ag.aj [eU lu (aB u),lu=lu,lu<2^62] (ag.leaf au.normal ([own 8 1 0 lq,own 7 1 0 b,int .i64 (↑s:Int),int .i64 (↑b:Int),int .i64 (0:Int)],[(7,aq.mk true true 1 lu fun a=>int .u32 (↑(u a):Int)),(8,aq.mk true true 1 lq fun a=>int .u32 (↑(q a):Int))]))):=ah
theorem abu:aI T GT [263] 60 [4,5,9,261,262] (before (part mo [1,0,1,0,0]) [1,1,0]) ⟨aA [4,5,9,261,262] [.own 8 1 0 lq,.own 7 1 0 l,.int .i64 s,.int .i64 l,.int .i64 i],dy lq lu q u,9⟩=
  let b:List AV×aC:=([own 8 1 0 lq,own 7 1 0 l,int .i64 (↑s:Int),int .i64 (↑l:Int),int .i64 (↑i:Int)],[(7,aq.mk true true 1 lu fun a=>int .u32 (↑(u a):Int)),(8,aq.mk true true 1 lq fun a=>int .u32 (↑(q a):Int))]);some (ag.fork (decide ((↑i:Int)<(↑l:Int))) (ag.leaf au.normal b) (ag.leaf (au.exit 9) b)):=ah
theorem ab7:aI T GT [] 60 [4,5,9,25,261,262] (before (part mo [1,0,1,0,0,1,1,0,0]) [1,1]) ⟨aA [4,5,9,261,262] [.own 8 1 0 lq,.own 7 1 0 l,.int .i64 s,.int .i64 l,.int .i64 i],dy lq lu q u,9⟩=
  let b:=(↑i:Int);let e:=(0:Int)<=b/\b.toNat<l;let d:=b.toNat+0;some (ag.aj [e,d<lu,(0:Int)<=(↑s:Int),e,d<lu] (ag.leaf au.normal ([own 8 1 0 lq,own 7 1 0 l,int .i64 (↑s:Int),int .i64 b,int .i64 (↑l:Int),int .i64 b],[(7,aq.mk true true 1 lu fun j=>if(j==d)=true then int .u32 ((↑(u d):Int).fdiv ((2:Int)^min (↑s:Int).toNat u32.bits))else aB u j),(8,aq.mk true true 1 lq fun a=>int .u32 (↑(q a):Int))]))):=ah
theorem ag8:aI T GT [274,280] 60 [4,5,9,261,262] [part mo [1,0,1,0,0,1,1,0,0,1,1]] ⟨aA [4,5,9,25,261,262] [.own 8 1 0 lq,.own 7 1 0 l,.int .i64 s,.int .i64 i,.int .i64 l,.int .i64 i],dy lq lu q u,9⟩=
  let f:=(↑i:Int);let h:=(↑s:Int);let p:Nat×aq:=(8,aq.mk true true 1 lq fun a=>int .u32 (↑(q a):Int));let d:=(0:Int)<=f/\f.toNat<l;let b:=i64.wrap ((32:Int)-h);let k:=decide (h>0);let g:=f.toNat+0;let o:=[own 8 1 0 lq,own 7 1 0 l,int .i64 h,int .i64 (↑l:Int),int .i64 f];let e:=i64.wrap (f+1);let n:ag (List AV×aC):=ag.leaf au.normal (o,[(7,aq.mk true true 1 lu fun a=>int .u32 (↑(u a):Int)),p]);let m:ag (List AV×aC):=ag.aj [d,g<lu,(0:Int)<=e/\e.toNat<l,e.toNat+0<lu,(0:Int)<=b,d,g<lu] (ag.leaf au.normal (o,[(7,aq.mk true true 1 lu fun j=>if(j==g)=true then int .u32 (u32.wrap (↑(BitVec.ofInt u32.bits (↑(u g):Int)|||BitVec.ofInt u32.bits (u32.wrap ((↑(u (e.toNat+0)):Int)*2^min b.toNat u32.bits))).toNat:Int))else aB u j),p]));some (ag.fork k (ag.aj [k=true] (ag.fork (bif true then decide (e<(↑l:Int))else false) m n)) (ag.aj [k=false] (ag.fork false m n))):=ah
theorem ajO:aI T GT [] 60 [4,5,9,261,262] (behind (part mo [1,0,1,0,0]) [1,1,0]) ⟨aA [4,5,9,261,262] [.own 8 1 0 lq,.own 7 1 0 l,.int .i64 s,.int .i64 l,.int .i64 i],dy lq lu q u,9⟩=
  some (ag.leaf au.normal ([own 8 1 0 lq,own 7 1 0 l,int .i64 (↑s:Int),int .i64 (↑l:Int),int .i64 (i64.wrap ((↑i:Int)+1))],[(7,aq.mk true true 1 lu fun a=>int .u32 (↑(u a):Int)),(8,aq.mk true true 1 lq fun a=>int .u32 (↑(q a):Int))])):=ah
theorem adq:ct T G1 [] 60 f202 (behind mo [1,0,1]) ⟨aA [4,5,9,261,262] [.own 8 1 0 lq,.own 7 1 0 l,.int .i64 s,.int .i64 l,.int .i64 i],dy lq lu q u,9⟩=
  some (ag.aj [eU lq fun i=>aB q (i+0),lq<2^62,eU l fun i=>aB u (i+0),l<2^62] (ag.leaf au.ret [mag (val lq fun i=>numOf (aB q (i+0))),mag (val l fun i=>numOf (aB u (i+0))),int .i64 (0:Int)])):=ah
theorem val_add {z:Nat->Nat} {a:Nat}:∀{b:Nat},val (a+b) z=val a z+val b (fun i=>z (a+i))*2^(32*a)
 |0=>by simp[val]
 |b+1=>by
  rw[<-Nat.add_assoc,val,val_add (b:=b),val,Nat.add_mul,Nat.mul_assoc,<-Nat.pow_add,Nat.add_assoc];congr 3;congr 1;omega
theorem val_zero (h:∀i,i<n->z i=0):val n z=0:=by
 rw[nV (k:=0) aa fun i _ hi=>h i hi];rfl
theorem aam (h:val (n+1) z<2^(32*n)):z n=0:=by
 rw[val]at h;rcases Nat.eq_zero_or_pos (z n)with h1|h1
 ·exact h1
 ·have:1*2^(32*n)<=z n*2^(32*n):=Nat.mul_le_mul_right _ h1;omega
section knuth
variable {B P V W Vl Wl v1 v2 u3 top qt x rest:Nat}
theorem WS (hP:0<P) (hB:0<B) (hV:V=(v1*B+v2)*P+Vl) (hW:W=(top*B+u3)*P+Wl) (h3:u3<B) (hl:Wl<P) (hv:0<v1) (hq:qt*V<=W):qt<=top/v1:=by
 rw[Nat.le_div_iff_mul_le hv];have h1:qt*v1*(B*P)<=W:=by
  refine Nat.le_trans ?_ hq;rw[hV,Nat.mul_assoc];refine Nat.mul_le_mul_left _ ?_;rw[<-Nat.mul_assoc];have:=Nat.mul_le_mul_right P (show v1*B<=v1*B+v2 by omega);omega
 have h2:W<(top+1)*(B*P):=by
  rw[hW,<-Nat.mul_assoc,Nat.add_mul top 1 B,Nat.one_mul];have:=Nat.mul_le_mul_right P (show top*B+u3+1<=top*B+B by omega);rw[Nat.add_mul _ 1,Nat.one_mul]at this;omega
 have h3:=Nat.lt_of_mul_lt_mul_right (Nat.lt_of_le_of_lt h1 h2);omega
theorem aaU (hV:V=(v1*B+v2)*P+Vl) (hW:W=(top*B+u3)*P+Wl) (hl:Wl<P) (ht:x*v1+rest=top) (hq:qt*V<=W) (h:rest*B+u3<x*v2):qt<x:=by
 have h1:W<x*V:=by
  have e1:(top*B+u3+1)*P<=(x*(v1*B+v2))*P:=by
   refine Nat.mul_le_mul_right _ ?_;rw[<-ht,Nat.add_mul,Nat.mul_add,Nat.mul_assoc];omega
  have e2:(x*(v1*B+v2))*P<=x*V:=by
   rw[hV,Nat.mul_assoc];exact Nat.mul_le_mul_left _ aa
  rw[Nat.add_mul _ 1,Nat.one_mul]at e1;omega
 exact Nat.lt_of_mul_lt_mul_right (Nat.lt_of_le_of_lt hq h1)
theorem Zr (hq:qt*V<=W) (h:W<V*B):qt<B:=by
 rw[Nat.mul_comm V]at h;exact Nat.lt_of_mul_lt_mul_right (Nat.lt_of_le_of_lt hq h)
theorem aku (hP:0<P) (hB:0<B) (hV:V=(v1*B+v2)*P+Vl) (hW:W=(top*B+u3)*P+Wl) (h2:v2<B) (hl:Vl<P) (h:W<V*B):top<(v1+1)*B:=by
 have e1:V<=(v1+1)*(B*P):=by
  rw[hV,<-Nat.mul_assoc,Nat.add_mul v1 1 B,Nat.one_mul];have:=Nat.mul_le_mul_right P (show v1*B+v2+1<=v1*B+B by omega);rw[Nat.add_mul _ 1,Nat.one_mul]at this;omega
 have e2:top*(B*P)<=W:=by
  rw[hW,<-Nat.mul_assoc];have:=Nat.mul_le_mul_right P (show top*B<=top*B+u3 by omega);omega
 have e3:top*(B*P)<(v1+1)*B*(B*P):=by
  have:=Nat.mul_le_mul_right B e1;rw[show(v1+1)*(B*P)*B=(v1+1)*B*(B*P) by rw[Nat.mul_assoc,Nat.mul_comm (B*P),<-Nat.mul_assoc]]at this;omega
 exact Nat.lt_of_mul_lt_mul_right e3
theorem Z4 (ht:x*v1+rest=top) (h:top<(v1+1)*B) (hr:B<=rest):x<B:=by
 rw[Nat.add_mul,Nat.one_mul]at h;have:x*v1<B*v1:=by rw[Nat.mul_comm B];omega
 exact Nat.lt_of_mul_lt_mul_right this
theorem ame (hP:0<P) (hV:V=(v1*B+v2)*P+Vl) (hW:W=(top*B+u3)*P+Wl) (hv:0<v1) (hl:Vl<P) (hx:x<B) (ht:x*v1+rest=top) (h:x*v2<=rest*B+u3):x*V<W+V:=by
 have e1:x*(v1*B+v2)*P<=(top*B+u3)*P:=by
  refine Nat.mul_le_mul_right _ ?_;rw[<-ht,Nat.add_mul,Nat.mul_add,Nat.mul_assoc];omega
 have e2:x*Vl<=x*P:=Nat.mul_le_mul_left _ aa;have e3:x*P<B*P:=(Nat.mul_lt_mul_right hP).2 hx;have e4:B*P<=V:=by
  rw[hV];have:1*B<=v1*B:=Nat.mul_le_mul_right _ hv;have:=Nat.mul_le_mul_right P (show B<=v1*B+v2 by omega);omega
 have e5:x*V=x*(v1*B+v2)*P+x*Vl:=by rw[hV,Nat.mul_add,Nat.mul_assoc]
 omega
end knuth
theorem wT {R:Nat} (hs:s<32):aD (R/2^s) k=aD R k/2^s+aD R (k+1)%2^s*2^(32-s):=by
 unfold aD;have hB:2^32=2^s*2^(32-s):=by rw[<-Nat.pow_add];congr 1;omega
 rw[Nat.div_div_eq_div_mul,Nat.mul_comm (2^s),<-Nat.div_div_eq_div_mul];have e:R/2^(32*(k+1))=R/2^(32*k)/2^32:=by rw[Nat.div_div_eq_div_mul,<-Nat.pow_add];congr 2
 rw[e];generalize R/2^(32*k)=X;have hp:=Nat.two_pow_pos s;have hp2:=Nat.two_pow_pos (32-s);have e1:X/2^32%2^32%2^s=X/2^32%2^s:=by
  rw[hB,Nat.mod_mul_right_mod]
 rw[e1];have e2:X=X%2^32+2^32*(X/2^32):=(Nat.mod_add_div X (2^32)).symm;have e3:X/2^s=X%2^32/2^s+X/2^32*2^(32-s):=by
  have:X/2^s=(X%2^32+2^s*(2^(32-s)*(X/2^32)))/2^s:=by
   rw[<-Nat.mul_assoc,<-hB,<-e2]
  rw[this,Nat.add_mul_div_left _ _ hp,Nat.mul_comm (2^(32-s))]
 rw[e3];have h1:X%2^32/2^s<2^(32-s):=by
  rw[Nat.div_lt_iff_lt_mul hp,Nat.mul_comm,<-hB];exact Nat.mod_lt _ (Nat.two_pow_pos _)
 generalize X%2^32/2^s=a at*;generalize X/2^32=b at*;have h2:b%2^s*2^(32-s)+2^(32-s)<=2^32:=by
  rw[hB,<-Nat.succ_mul];exact Nat.mul_le_mul_right _ (Nat.mod_lt _ hp)
 have e4:b*2^(32-s)=b%2^s*2^(32-s)+2^32*(b/2^s):=by
  rw[hB,Nat.mul_assoc,Nat.mul_comm (2^(32-s)),<-Nat.mul_assoc,<-Nat.add_mul,Nat.mod_add_div]
 rw[e4,<-Nat.add_assoc,Nat.add_mul_mod_self_left];exact Nat.mod_eq_of_lt aa
theorem v8 {a:Nat} (ha:a<4294967296) (hb:b<4294967296):
  IntKind.u64.wrap ((BitVec.ofInt IntKind.u64.bits (IntKind.u64.wrap ((a:Int)*2^min (Int.toNat 32) IntKind.u64.bits))|||BitVec.ofInt IntKind.u64.bits (IntKind.u64.wrap (b:Int))).toNat:Int)=((a*4294967296+b:Nat):Int):=by
 have e1:IntKind.u64.wrap ((a:Int)*2^min (Int.toNat 32) IntKind.u64.bits)=((a*4294967296:Nat):Int):=by
  rw[xQ,cC aa aa];omega
 have e2:IntKind.u64.wrap (b:Int)=((b:Nat):Int):=cC aa aa;rw[e1,e2,uX aa aa];congr 1;exact tQ (a:=a) (b:=b) (i:=32) hb
theorem ams (hc:c<2^64):IntKind.u64.wrap ((BitVec.ofInt IntKind.u64.bits (c:Int)&&&BitVec.ofInt IntKind.u64.bits 4294967295).toNat:Int)=((c%4294967296:Nat):Int):=by
 have:=akp (a:=c) (b:=4294967295) hc (by decide);rw[show((4294967295:Nat):Int)=4294967295 from rfl]at this;rw[this];congr 1;exact Nat.and_two_pow_sub_one_eq_mod c 32
theorem QV {u:Nat} (hu:u<4294967296) (hc:c<4294967296) (hb:b<=1):
  (IntKind.u64.wrap (IntKind.u64.wrap (IntKind.u64.wrap (u:Int)-(c:Int))-(b:Int))).fdiv (2^min (Int.toNat 63) IntKind.u64.bits)=((if c+b<=u then 0 else 1:Nat):Int)/\
   IntKind.u32.wrap (IntKind.u64.wrap (IntKind.u64.wrap (IntKind.u64.wrap (u:Int)-(c:Int))-(b:Int)))=(((u+4294967296-c-b)%4294967296:Nat):Int):=by
 rw[EE,p6,p6,p6,mI];constructor
 ·split<;>omega
 ·omega
theorem ajP {x y:Nat} (hc:c<4294967296) (hx:x<4294967296) (hy:y<4294967296):
  IntKind.u64.wrap ((c:Int)+IntKind.u64.wrap ((x:Int)*IntKind.u64.wrap (y:Int)))=((c+x*y:Nat):Int)/\c+x*y<2^64/\(c+x*y)/4294967296<4294967296:=by
 have h1:x*y<=(2^32-1)*(2^32-1):=Nat.mul_le_mul aa aa;have e:(x:Int)*(y:Int)=((x*y:Nat):Int):=by simp
 rw[cC (x:=(y:Int)) aa aa,e];generalize x*y=p at*;refine⟨?_,aa,aa⟩;rw[cC (x:=(p:Int)) aa aa,cC aa aa];omega
theorem afi {vn vo vV x yi ui B b':Nat} (hc:(c+x*yi)%4294967296<=4294967295) (hb:b<=1) (hu:ui<4294967296) (hb':b'=if(c+x*yi)%4294967296+b<=ui then 0 else 1) (h:vn+x*vV=vo+(c+b)*B):
  vn+(ui+4294967296-(c+x*yi)%4294967296-b)%4294967296*B+x*(vV+yi*B)=vo+ui*B+((c+x*yi)/4294967296+b')*(4294967296*B):=by
 have h1:=Nat.div_add_mod (c+x*yi) 4294967296;generalize (c+x*yi)/4294967296=h at*;generalize hr:(c+x*yi)%4294967296=r at*;have e:(ui+4294967296-r-b)%4294967296+r+b=ui+4294967296*b':=by
  subst hb';split<;>omega
 generalize (ui+4294967296-r-b)%4294967296=un at*;have e2:(un+r+b)*B=(ui+4294967296*b')*B:=by rw[e]
 have e3:(4294967296*h+r)*B=(c+x*yi)*B:=by rw[h1]
 grind
end Go.Am.B
