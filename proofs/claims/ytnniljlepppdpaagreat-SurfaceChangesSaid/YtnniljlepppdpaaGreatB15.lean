/- rational.word, divisor, limbs; bits.Add64. -/
import Derived.Test.YtnniljlepppdpaaGreatB14
import Derived.Laws.Externs
set_option linter.unusedVariables false
namespace Go.Am.B
open Go Go.Am.N AV
theorem aiK:aT P E0 s4 (ay s4):=aU Proofs.Tryz.func271 ag ag ag
theorem afj {n:Nat} {z:Nat->Nat}:aG T [] [] 30 [0,3,4] (before (ay s4) [1,1,0,1]) ⟨aP 0 [.aq 1 n (aD z)],[],0⟩=
  some (ah.leaf ax.normal ([aq 1 n fun a=>int .u32 (↑(z a):Int),int .u64 (0:Int),int .i64 (IntKind.i64.wrap ((↑n:Int)-1))],[])):=ag
theorem Xp {n k v:Nat} {z:Nat->Nat}:aG T [] [9] 30 [0,3,4] [part (ay s4) [1,1,0,1,0,0]] ⟨aB [0,3,4] [.aq 1 n (aD z),.int .u64 v,.int .i64 ((k:Int)-1)],[],0⟩=
  let c2:AV:=aq 1 n fun a=>int .u32 (↑(z a):Int);let c1:Int:=(↑k:Int)-1;some (ah.fork (decide (c1>=0)) (ah.aj [(0:Int)<=32,(0:Int)<=c1/\c1.toNat<n] (ah.leaf ax.normal ([c2,int .u64 (IntKind.u64.wrap (↑(BitVec.ofInt IntKind.u64.bits (IntKind.u64.wrap ((↑v:Int)*2^min (Int.toNat (32:Int)) IntKind.u64.bits))|||BitVec.ofInt IntKind.u64.bits (IntKind.u64.wrap (↑(z c1.toNat):Int))).toNat:Int)),int .i64 (IntKind.i64.wrap (c1-1))],[]))) (ah.leaf (ax.exit 0) ([c2,int .u64 (↑v:Int),int .i64 c1],[]))):=ag
theorem al6 {n k v:Nat} {z:Nat->Nat}:cj T [] [] 30 s4 (behind (ay s4) [1,1,0,1]) ⟨aB [0,3,4] [.aq 1 n (aD z),.int .u64 v,.int .i64 ((k:Int)-1)],[],0⟩=
  some (ah.leaf ax.ret [int .u64 (↑v:Int)]):=ag
theorem agp {n:Nat} {z:Nat->Nat} (hz:∀i,i<n->z i<2^32) (hn:n<=2) (K:Nat) (pre:aE):aQ P E0 K [.aq 1 n (aD z)] pre (aJ (.int .u64 (val n z:Nat)) []):=by
 refine j9 hT aiK rfl aX rfl (fun _ c h0=>?_) K pre
 refine au.hole [1,1,0,1] ag (aH.bC hT bz hm 30 [0,3,4] afj ag ?_)
 intro s' hv
 have hv64:val n z<2^64:=by
  have h1:=gp hz
  have h2:2^(32*n)<=2^(32*2):=Nat.pow_le_pow_right aa aa
  omega
 refine au.iZ (i:=0) (y:=part (ay s4) [1,1,0,1,0,0]) ag
  (fun p:Nat×Nat=>⟨aB [0,3,4] [.aq 1 n (aD z),.int .u64 (p.2:Nat),.int .i64 ((p.1:Nat)-1:Int)],[],0⟩)
  (fun p=>p.1<=n/\p.2*2^(32*p.1)+val p.1 z=val n z) (fun p=>p.1) (n,0)
  (dH [] hv h0 rfl ⟨aM,aM,⟨rfl,gI (wrap_i64 aa aa)⟩,trivial⟩ trivial) ⟨by simp,by simp⟩ ?_
 rintro⟨k,v⟩ ⟨hk,hval⟩
 simp only at hk hval
 refine au.bC hT bz hm 30 [0,3,4] Xp ag ?_
 simp only[ah.all,aA,bq,bw]
 refine⟨fun hb=>?_,fun hb s' hv=>?_⟩
 ·obtain⟨j,rfl⟩:∃j,k=j+1:=⟨k-1,aa⟩
  have e:(((j+1:Nat):Int)-1).toNat=j:=aa
  have hzj:=hz j aa
  have hv32:v<2^32:=by
   rcases Nat.lt_or_ge v (2^32)with h|h
   ·exact h
   ·have h1:2^32*2^(32*(j+1))<=v*2^(32*(j+1)):=Nat.mul_le_mul_right _ h
    have h2:2^32<=2^(32*(j+1)):=Nat.pow_le_pow_right aa aa
    have h3:2^32*2^32<=2^32*2^(32*(j+1)):=Nat.mul_le_mul_left _ h2
    omega
  rw[e]
  have hor:IntKind.u64.wrap ((BitVec.ofInt IntKind.u64.bits (IntKind.u64.wrap ((v:Int)*2^min (Int.toNat 32) IntKind.u64.bits))|||BitVec.ofInt IntKind.u64.bits (IntKind.u64.wrap (z j:Int))).toNat:Int)=
    ((v*4294967296+z j:Nat):Int):=by
   rw[Bx,cu (x:=(z j:Int)) aa aa,cu (x:=(v:Int)*4294967296) aa aa]
   rw[show(v:Int)*4294967296=((v*2^32:Nat):Int) by omega,vW aa aa,sn hzj]
  refine⟨⟨aa,aa,aa⟩,fun s' hv=>⟨(j,v*4294967296+z j),dH [] hv h0 rfl ⟨aM,⟨rfl,gI hor⟩,⟨rfl,gI (by rw[wrap_i64 aa aa];simp only;omega)⟩,trivial⟩ trivial,
   ⟨by simp only;omega,MZ hval⟩,by simp⟩⟩
 ·have hk0:k=0:=aa
  subst hk0
  have hval:v=val n z:=by simpa [val]using hval
  subst hval
  exact aH.weak ag (dH (vs:=[.aq 1 n (aD z),.int .u64 (val n z:Nat),.int .i64 (((0:Nat):Int)-1)]) (ps:=[]) (nx:=0) [] hv h0 rfl ⟨aM,aM,aM,trivial⟩ trivial)
   (aH.fin hT bz hm 30 al6 ag (bN.refl _))
theorem agS:aW P (bY (mQ Du)) E0:=
 cJ (uL fun _ _ K hz need=>agp hz need K [])
theorem ab5:aT P CF th (ay th):=aU Proofs.Tryz.func272 ag ag ag
theorem ac7:aT P Ex xg (ay xg):=aU Proofs.Tryz.func273 ag ag ag
theorem WB {x y:Nat}:aG T [] [] 60 [0,1] (before (ay th) [1,0]) ⟨aP 0 [.int .u64 x,.int .u64 y],[],0⟩=
  some (ah.leaf ax.normal ([int .u64 (↑x:Int),int .u64 (↑y:Int)],[])):=ag
theorem X1 {x y:Nat}:aG T [] [6] 60 [0,1] [part (ay th) [1,0,0,0]] ⟨aB [0,1] [.int .u64 x,.int .u64 y],[],0⟩=
  let c1:Int:=(↑y:Int);some (ah.fork (c1 !=(0:Int)) (ah.aj [c1≠(0:Int)] (ah.leaf ax.normal ([int .u64 c1,int .u64 ((↑x:Int).tmod c1)],[]))) (ah.leaf (ax.exit 0) ([int .u64 (↑x:Int),int .u64 c1],[]))):=ag
theorem XK {x y:Nat}:cj T [] [] 60 th (behind (ay th) [1,0]) ⟨aB [0,1] [.int .u64 x,.int .u64 y],[],0⟩=
  some (ah.leaf ax.ret [int .u64 (↑x:Int)]):=ag
theorem ajO {s n l x:Nat} {z:Nat->Nat}:aG T [] [11] 60 [0,1,4] (before (ay xg) [1,1,1]) ⟨aP 0 [.own 0 1 s n,.int .u64 x],[(0,⟨true,true,1,l,aD z⟩)],1⟩=
  let c4:AV:=int .u64 (↑x:Int);let c3:AV:=own 0 1 s n;let c2:Nat:=Int.toNat (0:Int);let c1:Nat×ak:=(0,ak.mk true true 1 l fun j=>if(j==c2+s)=true then int .u32 (IntKind.u32.wrap (↑x:Int))else aD z j);some (ah.aj [(0:Int)<=0/\c2<n,c2+s<l] (ah.aj [(0:Int)<=32] (ah.fork ((↑x:Int).fdiv ((2:Int)^min (Int.toNat (32:Int)) IntKind.u64.bits)==0) (ah.leaf ax.ret ([c3,c4,int .i64 (1:Int)],[c1])) (ah.leaf ax.normal ([c3,c4,int .i64 (0:Int)],[c1]))))):=ag
theorem aoh {s n l x:Nat} {z:Nat->Nat}:aG T [] [] 60 [0,1,4] [part (ay xg) [1,1,1]] ⟨aB [0,1,4] [.own 0 1 s n,.int .u64 x,.int .i64 0],[(0,⟨true,true,1,l,aD z⟩)],1⟩=
  let c1:Nat:=Int.toNat (1:Int);some (ah.aj [(0:Int)<=32,(0:Int)<=1/\c1<n,c1+s<l] (ah.leaf ax.ret ([own 0 1 s n,int .u64 (↑x:Int),int .i64 (2:Int)],[(0,ak.mk true true 1 l fun j=>if(j==c1+s)=true then int .u32 (IntKind.u32.wrap ((↑x:Int).fdiv ((2:Int)^min (Int.toNat (32:Int)) IntKind.u64.bits)))else aD z j)]))):=ag
theorem acv {x y:Nat} (K:Nat) (pre:aE):aQ P CF K [.int .u64 x,.int .u64 y] pre (aJ (.int .u64 (Nat.gcd x y:Nat)) []):=by
 refine j9 hT ab5 rfl aX rfl (fun _ c h0=>?_) K pre
 have hk0:∀{nx:Nat} k x,c.k0 k=some x->k<nx:=kD h0
 refine au.hole [1,0] ag (aH.bC hT bz hm 60 [0,1] WB ag fun s' hv=>cO ?_)
 refine au.iJ (i:=0) (y:=part (ay th) [1,0,0,0]) ag [0,1] 0 hk0 (fun p:Nat×Nat=>[.int .u64 (p.1:Nat),.int .u64 (p.2:Nat)]) (fun _=>[]) (fun _=>rfl) (fun _=>trivial)
  (fun p=>Nat.gcd p.1 p.2=Nat.gcd x y) (fun p=>p.2) (x,y) hv rfl ?_
 rintro⟨m,n⟩ hg
 simp only at hg
 refine au.bC hT bz hm 60 [0,1] X1 ag ?_
 simp only[ah.all,aA,bne_iff_ne,ne_eq,bne_eq_false_iff_eq]
 refine⟨fun hb=>⟨hb,fun s' hv=>?_⟩,fun hb s' hv=>fO (cO ?_)⟩
 ·have hlt:=Nat.mod_lt m (show 0<n by omega)
  refine⟨(n,m%n),dQ hv (by rw[<-Int.ofNat_tmod]) rfl,?_,hlt⟩
  rw[<-hg,Nat.gcd_comm m n,Nat.gcd_rec n m,Nat.gcd_comm]
 ·refine aH.Dx hT bz hm 60 (nx:=0) hv hk0 rfl trivial XK ag ag (bK ?_)
  have:n=0:=aa
  rw[<-hg,this,Nat.gcd_zero_right]
def Od:Spec:=bY fun l=>match l with
 |[.int .u64 x,.int .u64 y]=>some (aJ (.int .u64 (Nat.gcd x.toNat y.toNat:Nat)) [0<=x,0<=y])
 |_=>none
theorem ae9:aW P Od CF:=by
 refine cJ fun K args r hk hs _=>?_
 split at hs
 ·rename_i x y
  simp only[az]at hs
  subst hs
  intro need
  obtain⟨h1,h2⟩:0<=x/\0<=y:=need
  obtain⟨a,rfl⟩:=Int.eq_ofNat_of_zero_le h1
  obtain⟨b,rfl⟩:=Int.eq_ofNat_of_zero_le h2
  exact acv K [] trivial
 ·simp at hs
def iD (z:Nat->Nat) (s x:Nat):Nat->Nat:=fun i=>if i=s then x%4294967296 else if i=s+1/\4294967296<=x then x/4294967296 else z i
def fL (x:Nat):Nat:=if x<4294967296 then 1 else 2
theorem ajU {k s n l x:Nat} {z:Nat->Nat} {f:Nat->AV} (hx:x<2^64) (h1:fL x<=n) (hs:s+n<=l) (hf:∀i,i<l->f i=aD z i) (K:Nat):
  aQ P Ex K [.own k 1 s n,.int .u64 x] [(k,⟨true,true,1,l,f⟩)] ⟨.int .i64 (fL x:Nat),[(k,⟨true,true,1,l,aD (iD z s x)⟩)],[]⟩:=by
 refine oe hT ac7 (args0:=[.own 0 1 s n,.int .u64 x]) (pre0:=[(0,⟨true,true,1,l,aD z⟩)]) (nx:=1) [(0,k)] aX (by simp[iQ]) ⟨⟨rfl,bW rfl rfl rfl⟩,aM,trivial⟩ ⟨⟨k,_,rfl,by simp[look],fS rfl hf⟩,trivial⟩
  (fun a x h=>?_) (fun x o h=>?_) (fun _ c h0=>?_)
 ·simp only[bp,look]at h
  split at h
  ·simp only[az]at h;subst h;exact⟨_,by simp[look];rfl⟩
  ·simp at h
 ·simp only[look]at h
  split at h
  ·rename_i he
   have:k=x:=by simpa using he
   subst this
   exact .inl ⟨_,by simp[look];rfl⟩
  ·simp at h
 have hk0:∀k x,c.k0 k=some x->k<1:=fun k x hk=>by
  have:=h0 k x hk
  simp only[bp,look]at this
  split at this
  ·rename_i h;simp at h;omega
  ·simp at this
 have key:∀{s':aK} {v:Int} {w:Nat->Nat},bA [0,1,4] s'=some ([.own 0 1 s n,.int .u64 x,.int .i64 v],[(0,⟨true,true,1,l,aD w⟩)])->v=(fL x:Nat)->w=iD z s x->
   ∃τ,v8 [(0,k)] K [(k,⟨true,true,1,l,f⟩)] τ/\(EY T xg τ [(k,⟨true,true,1,l,f⟩)] ⟨.int .i64 (fL x:Nat),[(k,⟨true,true,1,l,aD (iD z s x)⟩)],[]⟩ s'\/wT T xg τ [(k,⟨true,true,1,l,f⟩)] ⟨.int .i64 (fL x:Nat),[(k,⟨true,true,1,l,aD (iD z s x)⟩)],[]⟩ s'):=by
  intro s' v w hv hv1 hw
  refine⟨bp [(k,0)],tW,.inr (vK (vs:=[.own 0 1 s n,.int .u64 x,.int .i64 v]) (us:=[.int .i64 v]) (ws:=[.int .i64 (fL x:Nat)]) (os:=[(0,⟨true,true,1,l,aD w⟩)]) (ps:=[(k,⟨true,true,1,l,aD (iD z s x)⟩)]) hv ag ⟨⟨rfl,gI hv1⟩,trivial⟩ rfl (by simp[cQ,fz,put]) ⟨⟨0,_,by simp[bp,look],rfl,fS rfl fun i hi=>by rw[hw]⟩,trivial⟩)⟩
 have h12:fL x=1\/fL x=2:=by unfold fL;split<;>simp
 have hset1:(fun j=>if j=s then AV.int .u32 (IntKind.u32.wrap (x:Int))else aD z j)=aD (cH z s (x%4294967296)):=by
  funext j;exact iu (by rw[j3]) j
 refine au.hole [1,1,1] ag (aH.bC hT bz hm 60 [0,1,4] ajO ag ?_)
 simp only[ah.all,aA,beq_iff_eq,beq_eq_false_iff_ne,ne_eq,mM,Int.toNat_zero,Nat.zero_add,hset1]
 refine⟨⟨aa,aa⟩,aa,fun hb s' hv=>?_,fun hb s' hv=>cO ?_⟩
 ·have hlt:x<4294967296:=aa
  refine fM ⟨.inr rfl,key hv (by unfold fL;rw[if_pos hlt];rfl) ?_⟩
  funext i
  unfold cH iD
  by_cases h:i=s
  ·simp[h]
  ·simp[h];omega
 ·have hge:4294967296<=x:=aa
  have h2:fL x=2:=by unfold fL;rw[if_neg aa]
  refine au.fJ hT bz hm 60 (nx:=1) hv hk0 rfl ⟨⟨aa,fun _ _=>rfl⟩,trivial⟩ [0,1,4] aoh ag ?_
  simp only[ah.all,aA,beq_iff_eq,beq_eq_false_iff_ne,ne_eq,mM,show Int.toNat 1=1 from rfl]
  refine⟨⟨aa,aa,aa⟩,fun s' hv=>?_⟩
  have hset2:(fun j=>if j=1+s then AV.int .u32 (IntKind.u32.wrap ((x:Int)/4294967296))else aD (cH z s (x%4294967296)) j)=aD (cH (cH z s (x%4294967296)) (1+s) (x/4294967296)):=by
   funext j;exact iu (by rw[wrap_u32 aa aa];omega) j
  rw[hset2]at hv
  refine fM ⟨.inr rfl,key hv (by rw[h2];rfl) ?_⟩
  funext i
  unfold cH iD
  by_cases h:i=s
  ·simp[h]
  ·by_cases h':i=1+s
   ·simp[h',hge,Nat.add_comm]
   ·simp[h,h'];omega
def KO:Spec:=fun _ args pre=>match args,pre with
 |[.own k es s n,.int .u64 x],[(k',o)]=>if k==k'&&es==1&&o.row&&o.wr&&o.es==1 then some ⟨.int .i64 (fL x.toNat:Nat),[(k,⟨true,true,1,o.len,aD (iD (fun i=>numOf (o.f i)) s x.toNat)⟩)],[ek o.len o.f,0<=x/\x<2^64,fL x.toNat<=n,s+n<=o.len]⟩else none
 |_,_=>none
theorem anW:aW P KO Ex:=by
 intro K args pre r hs
 unfold KO at hs
 split at hs
 ·rename_i k es s n x k' o
  split at hs
  ·rename_i hc
   simp only[Bool.and_eq_true,beq_iff_eq]at hc
   obtain⟨⟨⟨⟨rfl,rfl⟩,h4⟩,h5⟩,h6⟩:=hc
   simp only[az]at hs
   subst hs
   intro need
   obtain⟨h1,⟨h2,h2'⟩,h3,h7⟩:ek o.len o.f/\(0<=x/\x<2^64)/\fL x.toNat<=n/\s+n<=o.len:=need
   obtain⟨row,wr,es,len,f⟩:=o
   simp only at h1 h4 h5 h6 h7
   subst h4 h5 h6
   obtain⟨x,rfl⟩:=Int.eq_ofNat_of_zero_le h2
   refine ajU (z:=fun i=>numOf (f i)) aa h3 h7 (fun i hi=>?_) K trivial
   obtain⟨z,g1,g2⟩:=h1 i hi
   simp[g2,numOf,aD]
  ·simp at hs
 ·simp at hs
def Qy:Spec:=bY fun l=>match l with
 |[.int .u64 x,.int .u64 y,.int .u64 z]=>some (aJ (.tuple [.int .u64 ((x+y+z)%18446744073709551616),.int .u64 ((x+y+z)/18446744073709551616)]) [0<=x,0<=y,0<=z/\z<=1])
 |_=>none
theorem akX:aW P Qy NU:=by
 refine cJ fun K args r hk hs _=>?_
 split at hs
 ·rename_i x y z
  simp only[az]at hs
  subst hs
  intro need
  obtain⟨h1,h2,h3,h4⟩:0<=x/\0<=y/\0<=z/\z<=1:=need
  refine⟨fun k o h=>by simp[look]at h,fun c D D' β w vs hw0 hMw hrel hD hK hv=>.inr ?_⟩
  match vs,hv with
  |[a,b,d],hv=>
   obtain⟨ha,hb,hd,_⟩:=hv
   have ha:=(ha.bT).int
   have hb:=(hb.bT).int
   have hd:=(hd.bT).int
   subst ha hb hd
   refine⟨.tuple #[.int .u64 ((x+y+z)%18446744073709551616),.int .u64 ((x+y+z)/18446744073709551616)],?_,β,?_,dc.refl _ _ _,[_,_],rfl,.cy (.int .nil) rfl,.cy (.int .nil) rfl,trivial⟩
   ·rw[run_callFunc_extern (e:=add64Entry) Proofs.Tryz.func268 ag ag ag (by rfl)]
    rw[run_add64 x y z h1 h2 h3 h4]
    rfl
   ·exact hrel.mC hD
 ·simp at hs
end Go.Am.B
