/- rational.word, divisor, limbs; bits.Add64. -/
import Derived.Test.YtolopdkjjlfgjaaGreatB14
import Derived.Laws.Externs
set_option linter.unusedVariables false
namespace Go.Am.B
open Go Go.Am.N AV Proofs.Tryz IntKind
theorem aaI:bf 159 f159:=bg func159
theorem ajQ {n:Nat} {z:Nat->Nat}:aI T [] [] 30 [0,3,4] (before (aH f159) [1,1,0,1]) ⟨aU 0 [.ak 1 n (aB z)],[],0⟩=
  some (ag.leaf aq.normal ([ak 1 n fun a=>int .u32 (↑(z a):Int),int .u64 (0:Int),int .i64 (i64.wrap ((↑n:Int)-1))],[])):=ah
theorem ab6 {n k v:Nat} {z:Nat->Nat}:aI T [] [9] 30 [0,3,4] [part (aH f159) [1,1,0,1,0,0]] ⟨aC [0,3,4] [.ak 1 n (aB z),.int .u64 v,.int .i64 ((k:Int)-1)],[],0⟩=
  let c2:AV:=ak 1 n fun a=>int .u32 (↑(z a):Int);let c1:Int:=(↑k:Int)-1;some (ag.fork (decide (c1>=0)) (ag.aj [(0:Int)<=32,(0:Int)<=c1/\c1.toNat<n] (ag.leaf aq.normal ([c2,int .u64 (u64.wrap (↑(BitVec.ofInt u64.bits (u64.wrap ((↑v:Int)*2^min (Int.toNat (32:Int)) u64.bits))|||BitVec.ofInt u64.bits (u64.wrap (↑(z c1.toNat):Int))).toNat:Int)),int .i64 (i64.wrap (c1-1))],[]))) (ag.leaf (aq.exit 0) ([c2,int .u64 (↑v:Int),int .i64 c1],[]))):=ah
theorem aeT {n k v:Nat} {z:Nat->Nat}:cQ T [] [] 30 f159 (behind (aH f159) [1,1,0,1]) ⟨aC [0,3,4] [.ak 1 n (aB z),.int .u64 v,.int .i64 ((k:Int)-1)],[],0⟩=
  some (ag.leaf aq.ret [int .u64 (↑v:Int)]):=ah
theorem aa4 {n:Nat} {z:Nat->Nat} (hz:∀i,i<n->z i<2^32) (hn:n<=2) (K:Nat) (pre:aE):aQ P 159 K [.ak 1 n (aB z)] pre (aL (.int .u64 (val n z:Nat)) []):=by
 refine kO hT aaI rfl aX rfl (fun _ c h0=>?_) K pre
 refine ax.hole [1,1,0,1] ah (aG.bO hT cz hm 30 [0,3,4] ajQ ah ?_)
 intro s' hv
 have hv64:val n z<2^64:=by
  have h1:=g7 hz
  have h2:2^(32*n)<=2^(32*2):=Nat.pow_le_pow_right aa aa
  omega
 refine ax.jj (i:=0) (y:=part (aH f159) [1,1,0,1,0,0]) ah
  (fun p:Nat×Nat=>⟨aC [0,3,4] [.ak 1 n (aB z),.int .u64 (p.2:Nat),.int .i64 ((p.1:Nat)-1:Int)],[],0⟩)
  (fun p=>p.1<=n/\p.2*2^(32*p.1)+val p.1 z=val n z) (fun p=>p.1) (n,0)
  (eG [] hv h0 rfl ⟨aS,aS,⟨rfl,iK (wrap_i64 aa aa)⟩,trivial⟩ trivial) ⟨by simp,by simp⟩ ?_
 rintro⟨k,v⟩ ⟨hk,hval⟩
 simp only at hk hval
 refine ax.bO hT cz hm 30 [0,3,4] ab6 ah ?_
 simp only[ag.all,az,bB,bD]
 refine⟨fun hb=>?_,fun hb s' hv=>?_⟩
 ·obtain⟨j,rfl⟩:∃j,k=j+1:=⟨k-1,aa⟩
  have e:(((j+1:Nat):Int)-1).toNat=j:=aa
  have hzj:=hz j aa
  have hv32:v<2^32:=by
   rcases Nat.lt_or_ge v (2^32)with h|h
   ·exact h
   ·have h1:2^32*2^(32*(j+1))<=v*2^(32*(j+1)):=Nat.mul_le_mul_right _ h
    have h2:2^32<=2^(32*(j+1)):=Nat.pow_le_pow_right aa aa
    have h3:2^32*2^32<=2^32*2^(32*(j+1)):=Nat.mul_le_mul_left _ h2
    omega
  rw[e]
  have fP:u64.wrap ((BitVec.ofInt u64.bits (u64.wrap ((v:Int)*2^min (Int.toNat 32) u64.bits))|||BitVec.ofInt u64.bits (u64.wrap (z j:Int))).toNat:Int)=
    ((v*4294967296+z j:Nat):Int):=by
   rw[xu,cK (x:=(z j:Int)) aa aa,cK (x:=(v:Int)*4294967296) aa aa]
   rw[show(v:Int)*4294967296=((v*2^32:Nat):Int) by omega,vj aa aa,r6 hzj]
  refine⟨⟨aa,aa,aa⟩,fun s' hv=>⟨(j,v*4294967296+z j),eG [] hv h0 rfl ⟨aS,⟨rfl,iK fP⟩,⟨rfl,iK (by rw[wrap_i64 aa aa];simp only;omega)⟩,trivial⟩ trivial,
   ⟨by simp only;omega,Kx hval⟩,by simp⟩⟩
 ·have hk0:k=0:=aa
  subst hk0
  have hval:v=val n z:=by simpa [val]using hval
  subst hval
  exact aG.weak ah (eG (vs:=[.ak 1 n (aB z),.int .u64 (val n z:Nat),.int .i64 (((0:Nat):Int)-1)]) (ps:=[]) (nx:=0) [] hv h0 rfl ⟨aS,aS,aS,trivial⟩ trivial)
   (aG.fin hT cz hm 30 aeT ah (aW.refl _))
theorem ajp:aY P (cu (mZ BC)) 159:=
 cW (u9 fun _ _ K hz need=>aa4 hz need K [])
theorem agT:bf 179 f179:=bg func179
theorem T5:bf 180 f180:=bg func180
theorem aib {x y:Nat}:aI T [] [] 60 [0,1] (before (aH f179) [1,0]) ⟨aU 0 [.int .u64 x,.int .u64 y],[],0⟩=
  some (ag.leaf aq.normal ([int .u64 (↑x:Int),int .u64 (↑y:Int)],[])):=ah
theorem W4 {x y:Nat}:aI T [] [6] 60 [0,1] [part (aH f179) [1,0,0,0]] ⟨aC [0,1] [.int .u64 x,.int .u64 y],[],0⟩=
  let c1:Int:=(↑y:Int);some (ag.fork (c1 !=(0:Int)) (ag.aj [c1≠(0:Int)] (ag.leaf aq.normal ([int .u64 c1,int .u64 ((↑x:Int).tmod c1)],[]))) (ag.leaf (aq.exit 0) ([int .u64 (↑x:Int),int .u64 c1],[]))):=ah
theorem Ze {x y:Nat}:cQ T [] [] 60 f179 (behind (aH f179) [1,0]) ⟨aC [0,1] [.int .u64 x,.int .u64 y],[],0⟩=
  some (ag.leaf aq.ret [int .u64 (↑x:Int)]):=ah
theorem ajA {s n l x:Nat} {z:Nat->Nat}:aI T [] [11] 60 [0,1,4] (before (aH f180) [1,1,1]) ⟨aU 0 [.own 0 1 s n,.int .u64 x],[(0,⟨true,true,1,l,aB z⟩)],1⟩=
  let c4:AV:=int .u64 (↑x:Int);let c3:AV:=own 0 1 s n;let c2:Nat:=Int.toNat (0:Int);let c1:Nat×au:=(0,au.mk true true 1 l fun j=>if(j==c2+s)=true then int .u32 (u32.wrap (↑x:Int))else aB z j);some (ag.aj [(0:Int)<=0/\c2<n,c2+s<l] (ag.aj [(0:Int)<=32] (ag.fork ((↑x:Int).fdiv ((2:Int)^min (Int.toNat (32:Int)) u64.bits)==0) (ag.leaf aq.ret ([c3,c4,int .i64 (1:Int)],[c1])) (ag.leaf aq.normal ([c3,c4,int .i64 (0:Int)],[c1]))))):=ah
theorem ae8 {s n l x:Nat} {z:Nat->Nat}:aI T [] [] 60 [0,1,4] [part (aH f180) [1,1,1]] ⟨aC [0,1,4] [.own 0 1 s n,.int .u64 x,.int .i64 0],[(0,⟨true,true,1,l,aB z⟩)],1⟩=
  let c1:Nat:=Int.toNat (1:Int);some (ag.aj [(0:Int)<=32,(0:Int)<=1/\c1<n,c1+s<l] (ag.leaf aq.ret ([own 0 1 s n,int .u64 (↑x:Int),int .i64 (2:Int)],[(0,au.mk true true 1 l fun j=>if(j==c1+s)=true then int .u32 (u32.wrap ((↑x:Int).fdiv ((2:Int)^min (Int.toNat (32:Int)) u64.bits)))else aB z j)]))):=ah
theorem aj7 {x y:Nat} (K:Nat) (pre:aE):aQ P 179 K [.int .u64 x,.int .u64 y] pre (aL (.int .u64 (Nat.gcd x y:Nat)) []):=by
 refine kO hT agT rfl aX rfl (fun _ c h0=>?_) K pre
 have hk0:∀{nx:Nat} k x,c.k0 k=some x->k<nx:=kI h0
 refine ax.hole [1,0] ah (aG.bO hT cz hm 60 [0,1] aib ah fun s' hv=>cZ ?_)
 refine ax.jg (i:=0) (y:=part (aH f179) [1,0,0,0]) ah [0,1] 0 hk0 (fun p:Nat×Nat=>[.int .u64 (p.1:Nat),.int .u64 (p.2:Nat)]) (fun _=>[]) (fun _=>rfl) (fun _=>trivial)
  (fun p=>Nat.gcd p.1 p.2=Nat.gcd x y) (fun p=>p.2) (x,y) hv rfl ?_
 rintro⟨m,n⟩ hg
 simp only at hg
 refine ax.bO hT cz hm 60 [0,1] W4 ah ?_
 simp only[ag.all,az,bne_iff_ne,ne_eq,bne_eq_false_iff_eq]
 refine⟨fun hb=>⟨hb,fun s' hv=>?_⟩,fun hb s' hv=>gB (cZ ?_)⟩
 ·have hlt:=Nat.mod_lt m (show 0<n by omega)
  refine⟨(n,m%n),fe hv (by rw[<-Int.ofNat_tmod]) rfl,?_,hlt⟩
  rw[<-hg,Nat.gcd_comm m n,Nat.gcd_rec n m,Nat.gcd_comm]
 ·refine aG.C5 hT cz hm 60 (nx:=0) hv hk0 rfl trivial Ze ah ah (cw ?_)
  have:n=0:=aa
  rw[<-hg,this,Nat.gcd_zero_right]
def Pa:Spec:=cu fun l=>match l with
 |[.int .u64 x,.int .u64 y]=>some (aL (.int .u64 (Nat.gcd x.toNat y.toNat:Nat)) [0<=x,0<=y])
 |_=>none
theorem afy:aY P Pa 179:=by
 refine cW fun K args r hk hs _=>?_
 split at hs
 ·rename_i x y
  simp only[ay]at hs
  subst hs
  intro need
  obtain⟨h1,h2⟩:0<=x/\0<=y:=need
  obtain⟨a,rfl⟩:=Int.eq_ofNat_of_zero_le h1
  obtain⟨b,rfl⟩:=Int.eq_ofNat_of_zero_le h2
  exact aj7 K [] trivial
 ·simp at hs
def jk (z:Nat->Nat) (s x:Nat):Nat->Nat:=fun i=>if i=s then x%4294967296 else if i=s+1/\4294967296<=x then x/4294967296 else z i
def gD (x:Nat):Nat:=if x<4294967296 then 1 else 2
theorem agZ {k s n l x:Nat} {z:Nat->Nat} {f:Nat->AV} (hx:x<2^64) (h1:gD x<=n) (hs:s+n<=l) (hf:∀i,i<l->f i=aB z i) (K:Nat):
  aQ P 180 K [.own k 1 s n,.int .u64 x] [(k,⟨true,true,1,l,f⟩)] ⟨.int .i64 (gD x:Nat),[(k,⟨true,true,1,l,aB (jk z s x)⟩)],[]⟩:=by
 refine p6 hT T5 (args0:=[.own 0 1 s n,.int .u64 x]) (pre0:=[(0,⟨true,true,1,l,aB z⟩)]) (nx:=1) [(0,k)] aX (by simp[jb]) ⟨⟨rfl,eE rfl rfl rfl⟩,aS,trivial⟩ ⟨⟨k,_,rfl,by simp[look],gI rfl hf⟩,trivial⟩
  (fun a x h=>?_) (fun x o h=>?_) (fun _ c h0=>?_)
 ·simp only[bp,look]at h
  split at h
  ·simp only[ay]at h;subst h;exact⟨_,by simp[look];rfl⟩
  ·simp at h
 ·simp only[look]at h
  split at h
  ·rename_i he
   have:k=x:=by simpa using he
   subst this
   exact .inl ⟨_,by simp[look];rfl⟩
  ·simp at h
 have hk0:∀k x,c.k0 k=some x->k<1:=fun k x hk=>by
  have:=h0 k x hk
  simp only[bp,look]at this
  split at this
  ·rename_i h;simp at h;omega
  ·simp at this
 have key:∀{s':aN} {v:Int} {w:Nat->Nat},bE [0,1,4] s'=some ([.own 0 1 s n,.int .u64 x,.int .i64 v],[(0,⟨true,true,1,l,aB w⟩)])->v=(gD x:Nat)->w=jk z s x->
   ∃τ,uL [(0,k)] K [(k,⟨true,true,1,l,f⟩)] τ/\(AX T f180 τ [(k,⟨true,true,1,l,f⟩)] ⟨.int .i64 (gD x:Nat),[(k,⟨true,true,1,l,aB (jk z s x)⟩)],[]⟩ s'\/xZ T f180 τ [(k,⟨true,true,1,l,f⟩)] ⟨.int .i64 (gD x:Nat),[(k,⟨true,true,1,l,aB (jk z s x)⟩)],[]⟩ s'):=by
  intro s' v w hv hv1 hw
  refine⟨bp [(k,0)],xS,.inr (vH (vs:=[.own 0 1 s n,.int .u64 x,.int .i64 v]) (us:=[.int .i64 v]) (ws:=[.int .i64 (gD x:Nat)]) (os:=[(0,⟨true,true,1,l,aB w⟩)]) (ps:=[(k,⟨true,true,1,l,aB (jk z s x)⟩)]) hv ah ⟨⟨rfl,iK hv1⟩,trivial⟩ rfl (by simp[dm,jN,put]) ⟨⟨0,_,by simp[bp,look],rfl,gI rfl fun i hi=>by rw[hw]⟩,trivial⟩)⟩
 have h12:gD x=1\/gD x=2:=by unfold gD;split<;>simp
 have hset1:(fun j=>if j=s then AV.int .u32 (u32.wrap (x:Int))else aB z j)=aB (cV z s (x%4294967296)):=by
  funext j;exact iY (by rw[kX]) j
 refine ax.hole [1,1,1] ah (aG.bO hT cz hm 60 [0,1,4] ajA ah ?_)
 simp only[ag.all,az,beq_iff_eq,beq_eq_false_iff_ne,ne_eq,mR,Int.toNat_zero,Nat.zero_add,hset1]
 refine⟨⟨aa,aa⟩,aa,fun hb s' hv=>?_,fun hb s' hv=>cZ ?_⟩
 ·have hlt:x<4294967296:=aa
  refine gy ⟨.inr rfl,key hv (by unfold gD;rw[if_pos hlt];rfl) ?_⟩
  funext i
  unfold cV jk
  by_cases h:i=s
  ·simp[h]
  ·simp[h];omega
 ·have hge:4294967296<=x:=aa
  have h2:gD x=2:=by unfold gD;rw[if_neg aa]
  refine ax.gl hT cz hm 60 (nx:=1) hv hk0 rfl ⟨⟨aa,fun _ _=>rfl⟩,trivial⟩ [0,1,4] ae8 ah ?_
  simp only[ag.all,az,beq_iff_eq,beq_eq_false_iff_ne,ne_eq,mR,show Int.toNat 1=1 from rfl]
  refine⟨⟨aa,aa,aa⟩,fun s' hv=>?_⟩
  have hset2:(fun j=>if j=1+s then AV.int .u32 (u32.wrap ((x:Int)/4294967296))else aB (cV z s (x%4294967296)) j)=aB (cV (cV z s (x%4294967296)) (1+s) (x/4294967296)):=by
   funext j;exact iY (by rw[wrap_u32 aa aa];omega) j
  rw[hset2]at hv
  refine gy ⟨.inr rfl,key hv (by rw[h2];rfl) ?_⟩
  funext i
  unfold cV jk
  by_cases h:i=s
  ·simp[h]
  ·by_cases h':i=1+s
   ·simp[h',hge,Nat.add_comm]
   ·simp[h,h'];omega
def E7:Spec:=fun _ args pre=>match args,pre with
 |[.own k es s n,.int .u64 x],[(k',o)]=>if k==k'&&es==1&&o.row&&o.wr&&o.es==1 then some ⟨.int .i64 (gD x.toNat:Nat),[(k,⟨true,true,1,o.len,aB (jk (fun i=>numOf (o.f i)) s x.toNat)⟩)],[fm o.len o.f,0<=x/\x<2^64,gD x.toNat<=n,s+n<=o.len]⟩else none
 |_,_=>none
theorem X2:aY P E7 180:=by
 intro K args pre r hs
 unfold E7 at hs
 split at hs
 ·rename_i k es s n x k' o
  split at hs
  ·rename_i hc
   simp only[Bool.and_eq_true,beq_iff_eq]at hc
   obtain⟨⟨⟨⟨rfl,rfl⟩,h4⟩,h5⟩,h6⟩:=hc
   simp only[ay]at hs
   subst hs
   intro need
   obtain⟨h1,⟨h2,h2'⟩,h3,h7⟩:fm o.len o.f/\(0<=x/\x<2^64)/\gD x.toNat<=n/\s+n<=o.len:=need
   obtain⟨row,wr,es,len,f⟩:=o
   simp only at h1 h4 h5 h6 h7
   subst h4 h5 h6
   obtain⟨x,rfl⟩:=Int.eq_ofNat_of_zero_le h2
   refine agZ (z:=fun i=>numOf (f i)) aa h3 h7 (fun i hi=>?_) K trivial
   obtain⟨z,g1,g2⟩:=h1 i hi
   simp[g2,numOf,aB]
  ·simp at hs
 ·simp at hs
def NA:Spec:=cu fun l=>match l with
 |[.int .u64 x,.int .u64 y,.int .u64 z]=>some (aL (.tuple [.int .u64 ((x+y+z)%18446744073709551616),.int .u64 ((x+y+z)/18446744073709551616)]) [0<=x,0<=y,0<=z/\z<=1])
 |_=>none
theorem S7:aY P NA 177:=by
 refine cW fun K args r hk hs _=>?_
 split at hs
 ·rename_i x y z
  simp only[ay]at hs
  subst hs
  intro need
  obtain⟨h1,h2,h3,h4⟩:0<=x/\0<=y/\0<=z/\z<=1:=need
  refine⟨fun k o h=>by simp[look]at h,fun c D D' β w vs hw0 hMw hrel hD hK hv=>.inr ?_⟩
  match vs,hv with
  |[a,b,d],hv=>
   obtain⟨ha,hb,hd,_⟩:=hv
   have ha:=(ha.bY).int
   have hb:=(hb.bY).int
   have hd:=(hd.bY).int
   subst ha hb hd
   refine⟨.tuple #[.int .u64 ((x+y+z)%18446744073709551616),.int .u64 ((x+y+z)/18446744073709551616)],?_,β,?_,dN.refl _ _ _,[_,_],rfl,.cM (.int .nil) rfl,.cM (.int .nil) rfl,trivial⟩
   ·rw[run_callFunc_extern (e:=add64Entry) func177 ah ah ah (by rfl)]
    rw[run_add64 x y z h1 h2 h3 h4]
    rfl
   ·exact hrel.m8 hD
 ·simp at hs
end Go.Am.B
