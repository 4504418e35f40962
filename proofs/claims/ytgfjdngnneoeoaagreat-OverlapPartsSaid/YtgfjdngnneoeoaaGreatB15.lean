/- rational.word, divisor, limbs; bits.Add64. -/
import Derived.Test.YtgfjdngnneoeoaaGreatB14
import Derived.Laws.Externs
set_option linter.unusedVariables false
namespace Go.Am.B
open Go Go.Am.N AV Proofs.Tryz IntKind
theorem Yr:aX 131 f131:=aM func131
theorem Wz {n:Nat} {z:Nat->Nat}:aL T [] [] 30 [0,3,4] (before (aF f131) [1,1,0,1]) ⟨aS 0 [.ak 1 n (aA z)],[],0⟩=
  some (ag.leaf aq.normal ([ak 1 n fun a=>int .u32 (↑(z a):Int),int .u64 (0:Int),int .i64 (i64.wrap ((↑n:Int)-1))],[])):=ah
theorem ahf {n k v:Nat} {z:Nat->Nat}:aL T [] [9] 30 [0,3,4] [part (aF f131) [1,1,0,1,0,0]] ⟨aG [0,3,4] [.ak 1 n (aA z),.int .u64 v,.int .i64 ((k:Int)-1)],[],0⟩=
  let c2:AV:=ak 1 n fun a=>int .u32 (↑(z a):Int);let c1:Int:=(↑k:Int)-1;some (ag.fork (decide (c1>=0)) (ag.aj [(0:Int)<=32,(0:Int)<=c1/\c1.toNat<n] (ag.leaf aq.normal ([c2,int .u64 (u64.wrap (↑(BitVec.ofInt u64.bits (u64.wrap ((↑v:Int)*2^min (Int.toNat (32:Int)) u64.bits))|||BitVec.ofInt u64.bits (u64.wrap (↑(z c1.toNat):Int))).toNat:Int)),int .i64 (i64.wrap (c1-1))],[]))) (ag.leaf (aq.exit 0) ([c2,int .u64 (↑v:Int),int .i64 c1],[]))):=ah
theorem aeU {n k v:Nat} {z:Nat->Nat}:cP T [] [] 30 f131 (behind (aF f131) [1,1,0,1]) ⟨aG [0,3,4] [.ak 1 n (aA z),.int .u64 v,.int .i64 ((k:Int)-1)],[],0⟩=
  some (ag.leaf aq.ret [int .u64 (↑v:Int)]):=ah
theorem Ur {n:Nat} {z:Nat->Nat} (hz:∀i,i<n->z i<2^32) (hn:n<=2) (K:Nat) (pre:aD):aN P 131 K [.ak 1 n (aA z)] pre (aH (.int .u64 (val n z:Nat)) []):=by
 refine jN hT Yr rfl aW rfl (fun _ c h0=>?_) K pre
 refine ay.hole [1,1,0,1] ah (aI.bH hT bD hm 30 [0,3,4] Wz ah ?_)
 intro s' hv
 have hv64:val n z<2^64:=by
  have h1:=ga hz
  have h2:2^(32*n)<=2^(32*2):=Nat.pow_le_pow_right aa aa
  omega
 refine ay.ji (i:=0) (y:=part (aF f131) [1,1,0,1,0,0]) ah
  (fun p:Nat×Nat=>⟨aG [0,3,4] [.ak 1 n (aA z),.int .u64 (p.2:Nat),.int .i64 ((p.1:Nat)-1:Int)],[],0⟩)
  (fun p=>p.1<=n/\p.2*2^(32*p.1)+val p.1 z=val n z) (fun p=>p.1) (n,0)
  (dI [] hv h0 rfl ⟨aP,aP,⟨rfl,gF (wrap_i64 aa aa)⟩,trivial⟩ trivial) ⟨by simp,by simp⟩ ?_
 rintro⟨k,v⟩ ⟨hk,hval⟩
 simp only at hk hval
 refine ay.bH hT bD hm 30 [0,3,4] ahf ah ?_
 simp only[ag.all,au,bz,bG]
 refine⟨fun hb=>?_,fun hb s' hv=>?_⟩
 ·obtain⟨j,rfl⟩:∃j,k=j+1:=⟨k-1,aa⟩
  have e:(((j+1:Nat):Int)-1).toNat=j:=aa
  have hzj:=hz j aa
  have hv32:v<2^32:=by
   rcases Nat.lt_or_ge v (2^32)with h|h
   ·exact h
   ·have h1:2^32*2^(32*(j+1))<=v*2^(32*(j+1)):=Nat.mul_le_mul_right _ h
    have h2:2^32<=2^(32*(j+1)):=Nat.pow_le_pow_right aa aa
    have h3:2^32*2^32<=2^32*2^(32*(j+1)):=Nat.mul_le_mul_left _ h2
    omega
  rw[e]
  have hor:u64.wrap ((BitVec.ofInt u64.bits (u64.wrap ((v:Int)*2^min (Int.toNat 32) u64.bits))|||BitVec.ofInt u64.bits (u64.wrap (z j:Int))).toNat:Int)=
    ((v*4294967296+z j:Nat):Int):=by
   rw[wo,cw (x:=(z j:Int)) aa aa,cw (x:=(v:Int)*4294967296) aa aa]
   rw[show(v:Int)*4294967296=((v*2^32:Nat):Int) by omega,s8 aa aa,qO hzj]
  refine⟨⟨aa,aa,aa⟩,fun s' hv=>⟨(j,v*4294967296+z j),dI [] hv h0 rfl ⟨aP,⟨rfl,gF hor⟩,⟨rfl,gF (by rw[wrap_i64 aa aa];simp only;omega)⟩,trivial⟩ trivial,
   ⟨by simp only;omega,Lf hval⟩,by simp⟩⟩
 ·have hk0:k=0:=aa
  subst hk0
  have hval:v=val n z:=by simpa [val]using hval
  subst hval
  exact aI.weak ah (dI (vs:=[.ak 1 n (aA z),.int .u64 (val n z:Nat),.int .i64 (((0:Nat):Int)-1)]) (ps:=[]) (nx:=0) [] hv h0 rfl ⟨aP,aP,aP,trivial⟩ trivial)
   (aI.fin hT bD hm 30 aeU ah (bp.refl _))
theorem Zm:bf P (bX (mh z6)) 131:=
 cM (tV fun _ _ K hz need=>Ur hz need K [])
theorem SM:aX 136 f136:=aM func136
theorem RK:aX 137 f137:=aM func137
theorem Ye {x y:Nat}:aL T [] [] 60 [0,1] (before (aF f136) [1,0]) ⟨aS 0 [.int .u64 x,.int .u64 y],[],0⟩=
  some (ag.leaf aq.normal ([int .u64 (↑x:Int),int .u64 (↑y:Int)],[])):=ah
theorem TV {x y:Nat}:aL T [] [6] 60 [0,1] [part (aF f136) [1,0,0,0]] ⟨aG [0,1] [.int .u64 x,.int .u64 y],[],0⟩=
  let c1:Int:=(↑y:Int);some (ag.fork (c1 !=(0:Int)) (ag.aj [c1≠(0:Int)] (ag.leaf aq.normal ([int .u64 c1,int .u64 ((↑x:Int).tmod c1)],[]))) (ag.leaf (aq.exit 0) ([int .u64 (↑x:Int),int .u64 c1],[]))):=ah
theorem P1 {x y:Nat}:cP T [] [] 60 f136 (behind (aF f136) [1,0]) ⟨aG [0,1] [.int .u64 x,.int .u64 y],[],0⟩=
  some (ag.leaf aq.ret [int .u64 (↑x:Int)]):=ah
theorem Ry {s n l x:Nat} {z:Nat->Nat}:aL T [] [11] 60 [0,1,4] (before (aF f137) [1,1,1]) ⟨aS 0 [.own 0 1 s n,.int .u64 x],[(0,⟨true,true,1,l,aA z⟩)],1⟩=
  let c4:AV:=int .u64 (↑x:Int);let c3:AV:=own 0 1 s n;let c2:Nat:=Int.toNat (0:Int);let c1:Nat×az:=(0,az.mk true true 1 l fun j=>if(j==c2+s)=true then int .u32 (u32.wrap (↑x:Int))else aA z j);some (ag.aj [(0:Int)<=0/\c2<n,c2+s<l] (ag.aj [(0:Int)<=32] (ag.fork ((↑x:Int).fdiv ((2:Int)^min (Int.toNat (32:Int)) u64.bits)==0) (ag.leaf aq.ret ([c3,c4,int .i64 (1:Int)],[c1])) (ag.leaf aq.normal ([c3,c4,int .i64 (0:Int)],[c1]))))):=ah
theorem aak {s n l x:Nat} {z:Nat->Nat}:aL T [] [] 60 [0,1,4] [part (aF f137) [1,1,1]] ⟨aG [0,1,4] [.own 0 1 s n,.int .u64 x,.int .i64 0],[(0,⟨true,true,1,l,aA z⟩)],1⟩=
  let c1:Nat:=Int.toNat (1:Int);some (ag.aj [(0:Int)<=32,(0:Int)<=1/\c1<n,c1+s<l] (ag.leaf aq.ret ([own 0 1 s n,int .u64 (↑x:Int),int .i64 (2:Int)],[(0,az.mk true true 1 l fun j=>if(j==c1+s)=true then int .u32 (u32.wrap ((↑x:Int).fdiv ((2:Int)^min (Int.toNat (32:Int)) u64.bits)))else aA z j)]))):=ah
theorem T1 {x y:Nat} (K:Nat) (pre:aD):aN P 136 K [.int .u64 x,.int .u64 y] pre (aH (.int .u64 (Nat.gcd x y:Nat)) []):=by
 refine jN hT SM rfl aW rfl (fun _ c h0=>?_) K pre
 have hk0:∀{nx:Nat} k x,c.k0 k=some x->k<nx:=jW h0
 refine ay.hole [1,0] ah (aI.bH hT bD hm 60 [0,1] Ye ah fun s' hv=>cL ?_)
 refine ay.iF (i:=0) (y:=part (aF f136) [1,0,0,0]) ah [0,1] 0 hk0 (fun p:Nat×Nat=>[.int .u64 (p.1:Nat),.int .u64 (p.2:Nat)]) (fun _=>[]) (fun _=>rfl) (fun _=>trivial)
  (fun p=>Nat.gcd p.1 p.2=Nat.gcd x y) (fun p=>p.2) (x,y) hv rfl ?_
 rintro⟨m,n⟩ hg
 simp only at hg
 refine ay.bH hT bD hm 60 [0,1] TV ah ?_
 simp only[ag.all,au,bne_iff_ne,ne_eq,bne_eq_false_iff_eq]
 refine⟨fun hb=>⟨hb,fun s' hv=>?_⟩,fun hb s' hv=>fK (cL ?_)⟩
 ·have hlt:=Nat.mod_lt m (show 0<n by omega)
  refine⟨(n,m%n),ee hv (by rw[<-Int.ofNat_tmod]) rfl,?_,hlt⟩
  rw[<-hg,Nat.gcd_comm m n,Nat.gcd_rec n m,Nat.gcd_comm]
 ·refine aI.AX hT bD hm 60 (nx:=0) hv hk0 rfl trivial P1 ah ah (bW ?_)
  have:n=0:=aa
  rw[<-hg,this,Nat.gcd_zero_right]
def FP:Spec:=bX fun l=>match l with
 |[.int .u64 x,.int .u64 y]=>some (aH (.int .u64 (Nat.gcd x.toNat y.toNat:Nat)) [0<=x,0<=y])
 |_=>none
theorem Sb:bf P FP 136:=by
 refine cM fun K args r hk hs _=>?_
 split at hs
 ·rename_i x y
  simp only[ax]at hs
  subst hs
  intro need
  obtain⟨h1,h2⟩:0<=x/\0<=y:=need
  obtain⟨a,rfl⟩:=Int.eq_ofNat_of_zero_le h1
  obtain⟨b,rfl⟩:=Int.eq_ofNat_of_zero_le h2
  exact T1 K [] trivial
 ·simp at hs
def iJ (z:Nat->Nat) (s x:Nat):Nat->Nat:=fun i=>if i=s then x%4294967296 else if i=s+1/\4294967296<=x then x/4294967296 else z i
def fH (x:Nat):Nat:=if x<4294967296 then 1 else 2
theorem ael {k s n l x:Nat} {z:Nat->Nat} {f:Nat->AV} (hx:x<2^64) (h1:fH x<=n) (hs:s+n<=l) (hf:∀i,i<l->f i=aA z i) (K:Nat):
  aN P 137 K [.own k 1 s n,.int .u64 x] [(k,⟨true,true,1,l,f⟩)] ⟨.int .i64 (fH x:Nat),[(k,⟨true,true,1,l,aA (iJ z s x)⟩)],[]⟩:=by
 refine nW hT RK (args0:=[.own 0 1 s n,.int .u64 x]) (pre0:=[(0,⟨true,true,1,l,aA z⟩)]) (nx:=1) [(0,k)] aW (by simp[jn]) ⟨⟨rfl,dx rfl rfl rfl⟩,aP,trivial⟩ ⟨⟨k,_,rfl,by simp[look],fP rfl hf⟩,trivial⟩
  (fun a x h=>?_) (fun x o h=>?_) (fun _ c h0=>?_)
 ·simp only[bA,look]at h
  split at h
  ·simp only[ax]at h;subst h;exact⟨_,by simp[look];rfl⟩
  ·simp at h
 ·simp only[look]at h
  split at h
  ·rename_i he
   have:k=x:=by simpa using he
   subst this
   exact .inl ⟨_,by simp[look];rfl⟩
  ·simp at h
 have hk0:∀k x,c.k0 k=some x->k<1:=fun k x hk=>by
  have:=h0 k x hk
  simp only[bA,look]at this
  split at this
  ·rename_i h;simp at h;omega
  ·simp at this
 have key:∀{s':aK} {v:Int} {w:Nat->Nat},bB [0,1,4] s'=some ([.own 0 1 s n,.int .u64 x,.int .i64 v],[(0,⟨true,true,1,l,aA w⟩)])->v=(fH x:Nat)->w=iJ z s x->
   ∃τ,tN [(0,k)] K [(k,⟨true,true,1,l,f⟩)] τ/\(ze T f137 τ [(k,⟨true,true,1,l,f⟩)] ⟨.int .i64 (fH x:Nat),[(k,⟨true,true,1,l,aA (iJ z s x)⟩)],[]⟩ s'\/uh T f137 τ [(k,⟨true,true,1,l,f⟩)] ⟨.int .i64 (fH x:Nat),[(k,⟨true,true,1,l,aA (iJ z s x)⟩)],[]⟩ s'):=by
  intro s' v w hv hv1 hw
  refine⟨bA [(k,0)],xb,.inr (s5 (vs:=[.own 0 1 s n,.int .u64 x,.int .i64 v]) (us:=[.int .i64 v]) (ws:=[.int .i64 (fH x:Nat)]) (os:=[(0,⟨true,true,1,l,aA w⟩)]) (ps:=[(k,⟨true,true,1,l,aA (iJ z s x)⟩)]) hv ah ⟨⟨rfl,gF hv1⟩,trivial⟩ rfl (by simp[cN,l5,put]) ⟨⟨0,_,by simp[bA,look],rfl,fP rfl fun i hi=>by rw[hw]⟩,trivial⟩)⟩
 have h12:fH x=1\/fH x=2:=by unfold fH;split<;>simp
 have hset1:(fun j=>if j=s then AV.int .u32 (u32.wrap (x:Int))else aA z j)=aA (cE z s (x%4294967296)):=by
  funext j;exact hU (by rw[jP]) j
 refine ay.hole [1,1,1] ah (aI.bH hT bD hm 60 [0,1,4] Ry ah ?_)
 simp only[ag.all,au,beq_iff_eq,beq_eq_false_iff_ne,ne_eq,lW,Int.toNat_zero,Nat.zero_add,hset1]
 refine⟨⟨aa,aa⟩,aa,fun hb s' hv=>?_,fun hb s' hv=>cL ?_⟩
 ·have hlt:x<4294967296:=aa
  refine fI ⟨.inr rfl,key hv (by unfold fH;rw[if_pos hlt];rfl) ?_⟩
  funext i
  unfold cE iJ
  by_cases h:i=s
  ·simp[h]
  ·simp[h];omega
 ·have hge:4294967296<=x:=aa
  have h2:fH x=2:=by unfold fH;rw[if_neg aa]
  refine ay.fE hT bD hm 60 (nx:=1) hv hk0 rfl ⟨⟨aa,fun _ _=>rfl⟩,trivial⟩ [0,1,4] aak ah ?_
  simp only[ag.all,au,beq_iff_eq,beq_eq_false_iff_ne,ne_eq,lW,show Int.toNat 1=1 from rfl]
  refine⟨⟨aa,aa,aa⟩,fun s' hv=>?_⟩
  have hset2:(fun j=>if j=1+s then AV.int .u32 (u32.wrap ((x:Int)/4294967296))else aA (cE z s (x%4294967296)) j)=aA (cE (cE z s (x%4294967296)) (1+s) (x/4294967296)):=by
   funext j;exact hU (by rw[wrap_u32 aa aa];omega) j
  rw[hset2]at hv
  refine fI ⟨.inr rfl,key hv (by rw[h2];rfl) ?_⟩
  funext i
  unfold cE iJ
  by_cases h:i=s
  ·simp[h]
  ·by_cases h':i=1+s
   ·simp[h',hge,Nat.add_comm]
   ·simp[h,h'];omega
def Em:Spec:=fun _ args pre=>match args,pre with
 |[.own k es s n,.int .u64 x],[(k',o)]=>if k==k'&&es==1&&o.row&&o.wr&&o.es==1 then some ⟨.int .i64 (fH x.toNat:Nat),[(k,⟨true,true,1,o.len,aA (iJ (fun i=>numOf (o.f i)) s x.toNat)⟩)],[eo o.len o.f,0<=x/\x<2^64,fH x.toNat<=n,s+n<=o.len]⟩else none
 |_,_=>none
theorem T3:bf P Em 137:=by
 intro K args pre r hs
 unfold Em at hs
 split at hs
 ·rename_i k es s n x k' o
  split at hs
  ·rename_i hc
   simp only[Bool.and_eq_true,beq_iff_eq]at hc
   obtain⟨⟨⟨⟨rfl,rfl⟩,h4⟩,h5⟩,h6⟩:=hc
   simp only[ax]at hs
   subst hs
   intro need
   obtain⟨h1,⟨h2,h2'⟩,h3,h7⟩:eo o.len o.f/\(0<=x/\x<2^64)/\fH x.toNat<=n/\s+n<=o.len:=need
   obtain⟨row,wr,es,len,f⟩:=o
   simp only at h1 h4 h5 h6 h7
   subst h4 h5 h6
   obtain⟨x,rfl⟩:=Int.eq_ofNat_of_zero_le h2
   refine ael (z:=fun i=>numOf (f i)) aa h3 h7 (fun i hi=>?_) K trivial
   obtain⟨z,g1,g2⟩:=h1 i hi
   simp[g2,numOf,aA]
  ·simp at hs
 ·simp at hs
def LD:Spec:=bX fun l=>match l with
 |[.int .u64 x,.int .u64 y,.int .u64 z]=>some (aH (.tuple [.int .u64 ((x+y+z)%18446744073709551616),.int .u64 ((x+y+z)/18446744073709551616)]) [0<=x,0<=y,0<=z/\z<=1])
 |_=>none
theorem Yi:bf P LD 139:=by
 refine cM fun K args r hk hs _=>?_
 split at hs
 ·rename_i x y z
  simp only[ax]at hs
  subst hs
  intro need
  obtain⟨h1,h2,h3,h4⟩:0<=x/\0<=y/\0<=z/\z<=1:=need
  refine⟨fun k o h=>by simp[look]at h,fun c D D' β w vs hw0 hMw hrel hD hK hv=>.inr ?_⟩
  match vs,hv with
  |[a,b,d],hv=>
   obtain⟨ha,hb,hd,_⟩:=hv
   have ha:=(ha.bP).int
   have hb:=(hb.bP).int
   have hd:=(hd.bP).int
   subst ha hb hd
   refine⟨.tuple #[.int .u64 ((x+y+z)%18446744073709551616),.int .u64 ((x+y+z)/18446744073709551616)],?_,β,?_,cX.refl _ _ _,[_,_],rfl,.cz (.int .nil) rfl,.cz (.int .nil) rfl,trivial⟩
   ·rw[run_callFunc_extern (e:=add64Entry) func139 ah ah ah (by rfl)]
    rw[run_add64 x y z h1 h2 h3 h4]
    rfl
   ·exact hrel.lK hD
 ·simp at hs
end Go.Am.B
