/- rational.word, divisor, limbs; bits.Add64. -/
import Derived.Test.YtnniljlepppdpaaGreatB14
import Derived.Laws.Externs
set_option linter.unusedVariables false
namespace Go.Am.B
open Go Go.Am.N AV
theorem Ts:aU P CH rN (az rN):=aT Proofs.Tryz.func271 ah ah ah
theorem ZV {n:Nat} {z:Nat->Nat}:aJ T [] [] 30 [0,3,4] (before (az rN) [1,1,0,1]) ⟨aQ 0 [.aq 1 n (aB z)],[],0⟩=
  some (ag.leaf ak.normal ([aq 1 n fun a=>int IntKind.u32 (↑(z a):Int),int IntKind.u64 (0:Int),int IntKind.i64 (IntKind.i64.wrap ((↑n:Int)-(1:Int)))],[])):=ah
theorem Wi {n k v:Nat} {z:Nat->Nat}:aJ T [] [9] 30 [0,3,4] [part (az rN) [1,1,0,1,0,0]] ⟨aF [0,3,4] [.aq 1 n (aB z),.int .u64 v,.int .i64 ((k:Int)-1)],[],0⟩=
  let c2:AV:=aq 1 n fun a=>int IntKind.u32 (↑(z a):Int);let c1:Int:=(↑k:Int)-(1:Int);some (ag.fork (decide (c1>=(0:Int))) (ag.aj [(0:Int)<=(32:Int),(0:Int)<=c1/\c1.toNat<n] (ag.leaf ak.normal ([c2,int IntKind.u64 (IntKind.u64.wrap (↑(BitVec.ofInt IntKind.u64.bits (IntKind.u64.wrap ((↑v:Int)*(2:Int)^min (Int.toNat (32:Int)) IntKind.u64.bits))|||BitVec.ofInt IntKind.u64.bits (IntKind.u64.wrap (↑(z c1.toNat):Int))).toNat:Int)),int IntKind.i64 (IntKind.i64.wrap (c1-(1:Int)))],[]))) (ag.leaf (ak.exit 0) ([c2,int IntKind.u64 (↑v:Int),int IntKind.i64 c1],[]))):=ah
theorem UG {n k v:Nat} {z:Nat->Nat}:cJ T [] [] 30 rN (behind (az rN) [1,1,0,1]) ⟨aF [0,3,4] [.aq 1 n (aB z),.int .u64 v,.int .i64 ((k:Int)-1)],[],0⟩=
  some (ag.leaf ak.ret [int IntKind.u64 (↑v:Int)]):=ah
theorem agl {n:Nat} {z:Nat->Nat} (hz:∀i,i<n->z i<2^32) (hn:n<=2) (K:Nat) (pre:aE):aD P CH K [.aq 1 n (aB z)] pre (aL (.int .u64 (val n z:Nat)) []):=by
 refine jL hT Ts rfl aW rfl (fun _ c h0=>?_) K pre
 refine ay.hole [1,1,0,1] ah (aG.bz hT bE hm 30 [0,3,4] ZV ah ?_)
 intro s' hv
 have hv64:val n z<2^64:=by
  have h1:=fD hz
  have h2:2^(32*n)<=2^(32*2):=Nat.pow_le_pow_right aa aa
  omega
 refine ay.iz (i:=0) (y:=part (az rN) [1,1,0,1,0,0]) ah
  (fun p:Nat×Nat=>⟨aF [0,3,4] [.aq 1 n (aB z),.int .u64 (p.2:Nat),.int .i64 ((p.1:Nat)-1:Int)],[],0⟩)
  (fun p=>p.1<=n/\p.2*2^(32*p.1)+val p.1 z=val n z) (fun p=>p.1) (n,0)
  (dr [] hv h0 rfl ⟨⟨rfl,aK rfl⟩,⟨rfl,aK rfl⟩,⟨rfl,ga (wrap_i64 aa aa)⟩,trivial⟩ trivial) ⟨by simp,by simp⟩ ?_
 rintro⟨k,v⟩ ⟨hk,hval⟩
 simp only at hk hval
 refine ay.bz hT bE hm 30 [0,3,4] Wi ah ?_
 simp only[ag.all,aA,bf,bt]
 refine⟨fun hb=>?_,fun hb s' hv=>?_⟩
 ·obtain⟨j,rfl⟩:∃j,k=j+1:=⟨k-1,aa⟩
  have e:(((j+1:Nat):Int)-1).toNat=j:=aa
  have hzj:=hz j aa
  have hv32:v<2^32:=by
   rcases Nat.lt_or_ge v (2^32)with h|h
   ·exact h
   ·have h1:2^32*2^(32*(j+1))<=v*2^(32*(j+1)):=Nat.mul_le_mul_right _ h
    have h2:2^32<=2^(32*(j+1)):=Nat.pow_le_pow_right aa aa
    have h3:2^32*2^32<=2^32*2^(32*(j+1)):=Nat.mul_le_mul_left _ h2
    omega
  rw[e]
  have hor:IntKind.u64.wrap ((BitVec.ofInt IntKind.u64.bits (IntKind.u64.wrap ((v:Int)*2^min (Int.toNat 32) IntKind.u64.bits))|||BitVec.ofInt IntKind.u64.bits (IntKind.u64.wrap (z j:Int))).toNat:Int)=
    ((v*4294967296+z j:Nat):Int):=by
   rw[xM,bZ (x:=(z j:Int)) aa aa,bZ (x:=(v:Int)*4294967296) aa aa]
   rw[show(v:Int)*4294967296=((v*2^32:Nat):Int) by omega,u9 aa aa,sn hzj]
  refine⟨⟨aa,aa,aa⟩,fun s' hv=>⟨(j,v*4294967296+z j),dr [] hv h0 rfl ⟨⟨rfl,aK rfl⟩,⟨rfl,ga hor⟩,⟨rfl,ga (by rw[wrap_i64 aa aa];simp only;omega)⟩,trivial⟩ trivial,
   ⟨by simp only;omega,OP hval⟩,by simp⟩⟩
 ·have hk0:k=0:=aa
  subst hk0
  have hval:v=val n z:=by simpa [val]using hval
  subst hval
  exact aG.weak ah (dr (vs:=[.aq 1 n (aB z),.int .u64 (val n z:Nat),.int .i64 (((0:Nat):Int)-1)]) (ps:=[]) (nx:=0) [] hv h0 rfl ⟨⟨rfl,aK rfl⟩,⟨rfl,aK rfl⟩,⟨rfl,aK rfl⟩,trivial⟩ trivial)
   (aG.fin hT bE hm 30 UG ah (bD.refl _))
theorem aer:∀K args pre r,bM (lN AX) K args pre=some r->aD P CH K args pre r:=
 ct (ve fun _ _ K hz need=>agl hz need K [])
theorem aiv:aU P Bx rD (az rD):=aT Proofs.Tryz.func272 ah ah ah
theorem SV:aU P zL vf (az vf):=aT Proofs.Tryz.func273 ah ah ah
theorem aej {x y:Nat}:aJ T [] [] 60 [0,1] (before (az rD) [1,0]) ⟨aQ 0 [.int .u64 x,.int .u64 y],[],0⟩=
  some (ag.leaf ak.normal ([int IntKind.u64 (↑x:Int),int IntKind.u64 (↑y:Int)],[])):=ah
theorem Xz {x y:Nat}:aJ T [] [6] 60 [0,1] [part (az rD) [1,0,0,0]] ⟨aF [0,1] [.int .u64 x,.int .u64 y],[],0⟩=
  let c1 : Int := (↑y : Int); some (ag.fork (c1 != (0 : Int)) (ag.aj [c1 ≠ (0 : Int)] (ag.leaf ak.normal ([int IntKind.u64 c1, int IntKind.u64 ((↑x : Int).tmod c1)], []))) (ag.leaf (ak.exit 0) ([int IntKind.u64 (↑x : Int), int IntKind.u64 c1], []))) := ah
theorem agN {x y:Nat}:cJ T [] [] 60 rD (behind (az rD) [1,0]) ⟨aF [0,1] [.int .u64 x,.int .u64 y],[],0⟩=
  some (ag.leaf ak.ret [int IntKind.u64 (↑x:Int)]):=ah
theorem Z0 {s n l x:Nat} {z:Nat->Nat}:aJ T [] [11] 60 [0,1,4] (before (az vf) [1,1,1]) ⟨aQ 0 [.own 0 1 s n,.int .u64 x],[(0,⟨true,true,1,l,aB z⟩)],1⟩=
  let c4:AV:=int IntKind.u64 (↑x:Int);let c3:AV:=own 0 1 s n;let c2:Nat:=Int.toNat (0:Int);let c1:Nat×ax:=(0,ax.mk true true 1 l fun j=>if(j==c2+s)=true then int IntKind.u32 (IntKind.u32.wrap (↑x:Int))else aB z j);some (ag.aj [(0:Int)<=(0:Int)/\c2<n,c2+s<l] (ag.aj [(0:Int)<=(32:Int)] (ag.fork ((↑x:Int).fdiv ((2:Int)^min (Int.toNat (32:Int)) IntKind.u64.bits)==(0:Int)) (ag.leaf ak.ret ([c3,c4,int IntKind.i64 (1:Int)],[c1])) (ag.leaf ak.normal ([c3,c4,int IntKind.i64 (0:Int)],[c1]))))):=ah
theorem ain {s n l x:Nat} {z:Nat->Nat}:aJ T [] [] 60 [0,1,4] [part (az vf) [1,1,1]] ⟨aF [0,1,4] [.own 0 1 s n,.int .u64 x,.int .i64 0],[(0,⟨true,true,1,l,aB z⟩)],1⟩=
  let c1:Nat:=Int.toNat (1:Int);some (ag.aj [(0:Int)<=(32:Int),(0:Int)<=(1:Int)/\c1<n,c1+s<l] (ag.leaf ak.ret ([own 0 1 s n,int IntKind.u64 (↑x:Int),int IntKind.i64 (2:Int)],[(0,ax.mk true true 1 l fun j=>if(j==c1+s)=true then int IntKind.u32 (IntKind.u32.wrap ((↑x:Int).fdiv ((2:Int)^min (Int.toNat (32:Int)) IntKind.u64.bits)))else aB z j)]))):=ah
theorem VA {x y:Nat} (K:Nat) (pre:aE):aD P Bx K [.int .u64 x,.int .u64 y] pre (aL (.int .u64 (Nat.gcd x y:Nat)) []):=by
 refine jL hT aiv rfl aW rfl (fun _ c h0=>?_) K pre
 have hk0:∀{nx:Nat} k x,c.k0 k=some x->k<nx:=jU h0
 refine ay.hole [1,0] ah (aG.bz hT bE hm 60 [0,1] aej ah fun s' hv=>cw ?_)
 refine ay.gP (i:=0) (y:=part (az rD) [1,0,0,0]) ah [0,1] 0 hk0 (fun p:Nat×Nat=>[.int .u64 (p.1:Nat),.int .u64 (p.2:Nat)]) (fun _=>[]) (fun _=>rfl) (fun _=>trivial)
  (fun p=>Nat.gcd p.1 p.2=Nat.gcd x y) (fun p=>p.2) (x,y) hv rfl ?_
 rintro⟨m,n⟩ hg
 simp only at hg
 refine ay.bz hT bE hm 60 [0,1] Xz ah ?_
 simp only[ag.all,aA,bne_iff_ne,ne_eq,bne_eq_false_iff_eq]
 refine⟨fun hb=>⟨hb,fun s' hv=>?_⟩,fun hb s' hv=>fc (cw ?_)⟩
 ·have hlt:=Nat.mod_lt m (show 0<n by omega)
  refine⟨(n,m%n),dH hv (by rw[<-Int.ofNat_tmod]) rfl,?_,hlt⟩
  rw[<-hg,Nat.gcd_comm m n,Nat.gcd_rec n m,Nat.gcd_comm]
 ·refine aG.CZ hT bE hm 60 (nx:=0) hv hk0 rfl trivial agN ah ah (bJ ?_)
  have:n=0:=aa
  rw[<-hg,this,Nat.gcd_zero_right]
def Oy:Spec:=bM fun l=>match l with
 |[.int .u64 x,.int .u64 y]=>some (aL (.int .u64 (Nat.gcd x.toNat y.toNat:Nat)) [0<=x,0<=y])
 |_=>none
theorem RP:∀K args pre r,Oy K args pre=some r->aD P Bx K args pre r:=by
 refine ct fun K args r hk hs _=>?_
 split at hs
 ·rename_i x y
  simp only[au]at hs
  subst hs
  intro need
  obtain⟨h1,h2⟩:0<=x/\0<=y:=need
  obtain⟨a,rfl⟩:=Int.eq_ofNat_of_zero_le h1
  obtain⟨b,rfl⟩:=Int.eq_ofNat_of_zero_le h2
  exact VA K [] trivial
 ·simp at hs
def gR (z:Nat->Nat) (s x:Nat):Nat->Nat:=fun i=>if i=s then x%4294967296 else if i=s+1/\4294967296<=x then x/4294967296 else z i
def e9 (x:Nat):Nat:=if x<4294967296 then 1 else 2
theorem adP {k s n l x:Nat} {z:Nat->Nat} {f:Nat->AV} (hx:x<2^64) (h1:e9 x<=n) (hs:s+n<=l) (hf:∀i,i<l->f i=aB z i) (K:Nat):
  aD P zL K [.own k 1 s n,.int .u64 x] [(k,⟨true,true,1,l,f⟩)] ⟨.int .i64 (e9 x:Nat),[(k,⟨true,true,1,l,aB (gR z s x)⟩)],[]⟩:=by
 refine mZ hT SV (args0:=[.own 0 1 s n,.int .u64 x]) (pre0:=[(0,⟨true,true,1,l,aB z⟩)]) (nx:=1) [(0,k)] aW (by simp[iO]) ⟨⟨rfl,cP rfl rfl rfl⟩,⟨rfl,aK rfl⟩,trivial⟩ ⟨⟨k,_,rfl,by simp[look],fq rfl hf⟩,trivial⟩
  (fun a x h=>?_) (fun x o h=>?_) (fun _ c h0=>?_)
 ·simp only[aY,look]at h
  split at h
  ·simp only[au]at h;subst h;exact⟨_,by simp[look];rfl⟩
  ·simp at h
 ·simp only[look]at h
  split at h
  ·rename_i he
   have:k=x:=by simpa using he
   subst this
   exact .inl ⟨_,by simp[look];rfl⟩
  ·simp at h
 have hk0:∀k x,c.k0 k=some x->k<1:=fun k x hk=>by
  have:=h0 k x hk
  simp only[aY,look]at this
  split at this
  ·rename_i h;simp at h;omega
  ·simp at this
 have key:∀{s':aH} {v:Int} {w:Nat->Nat},bk [0,1,4] s'=some ([.own 0 1 s n,.int .u64 x,.int .i64 v],[(0,⟨true,true,1,l,aB w⟩)])->v=(e9 x:Nat)->w=gR z s x->
   ∃τ,tu [(0,k)] K [(k,⟨true,true,1,l,f⟩)] τ/\(Ef T vf τ [(k,⟨true,true,1,l,f⟩)] ⟨.int .i64 (e9 x:Nat),[(k,⟨true,true,1,l,aB (gR z s x)⟩)],[]⟩ s'\/sW T vf τ [(k,⟨true,true,1,l,f⟩)] ⟨.int .i64 (e9 x:Nat),[(k,⟨true,true,1,l,aB (gR z s x)⟩)],[]⟩ s'):=by
  intro s' v w hv hv1 hw
  refine⟨aY [(k,0)],vc,.inr (sR (vs:=[.own 0 1 s n,.int .u64 x,.int .i64 v]) (us:=[.int .i64 v]) (ws:=[.int .i64 (e9 x:Nat)]) (os:=[(0,⟨true,true,1,l,aB w⟩)]) (ps:=[(k,⟨true,true,1,l,aB (gR z s x)⟩)]) hv ah ⟨⟨rfl,ga hv1⟩,trivial⟩ rfl (by simp[cA,eI,put]) ⟨⟨0,_,by simp[aY,look],rfl,fq rfl fun i hi=>by rw[hw]⟩,trivial⟩)⟩
 have h12:e9 x=1\/e9 x=2:=by unfold e9;split<;>simp
 have hset1:(fun j=>if j=s then AV.int .u32 (IntKind.u32.wrap (x:Int))else aB z j)=aB (cm z s (x%4294967296)):=by
  funext j;exact gE (by rw[jy]) j
 refine ay.hole [1,1,1] ah (aG.bz hT bE hm 60 [0,1,4] Z0 ah ?_)
 simp only[ag.all,aA,beq_iff_eq,beq_eq_false_iff_ne,ne_eq,lG,Int.toNat_zero,Nat.zero_add,hset1]
 refine⟨⟨aa,aa⟩,aa,fun hb s' hv=>?_,fun hb s' hv=>cw ?_⟩
 ·have hlt:x<4294967296:=aa
  refine ff ⟨.inr rfl,key hv (by unfold e9;rw[if_pos hlt];rfl) ?_⟩
  funext i
  unfold cm gR
  by_cases h:i=s
  ·simp[h]
  ·simp[h];omega
 ·have hge:4294967296<=x:=aa
  have h2:e9 x=2:=by unfold e9;rw[if_neg aa]
  refine ay.eW hT bE hm 60 (nx:=1) hv hk0 rfl ⟨⟨aa,fun _ _=>rfl⟩,trivial⟩ [0,1,4] ain ah ?_
  simp only[ag.all,aA,beq_iff_eq,beq_eq_false_iff_ne,ne_eq,lG,show Int.toNat 1=1 from rfl]
  refine⟨⟨aa,aa,aa⟩,fun s' hv=>?_⟩
  have hset2:(fun j=>if j=1+s then AV.int .u32 (IntKind.u32.wrap ((x:Int)/4294967296))else aB (cm z s (x%4294967296)) j)=aB (cm (cm z s (x%4294967296)) (1+s) (x/4294967296)):=by
   funext j;exact gE (by rw[wrap_u32 aa aa];omega) j
  rw[hset2]at hv
  refine ff ⟨.inr rfl,key hv (by rw[h2];rfl) ?_⟩
  funext i
  unfold cm gR
  by_cases h:i=s
  ·simp[h]
  ·by_cases h':i=1+s
   ·simp[h',hge,Nat.add_comm]
   ·simp[h,h'];omega
def Iy:Spec:=fun _ args pre=>match args,pre with
 |[.own k es s n,.int .u64 x],[(k',o)]=>if k==k'&&es==1&&o.row&&o.wr&&o.es==1 then some ⟨.int .i64 (e9 x.toNat:Nat),[(k,⟨true,true,1,o.len,aB (gR (fun i=>numOf (o.f i)) s x.toNat)⟩)],[dN o.len o.f,0<=x/\x<2^64,e9 x.toNat<=n,s+n<=o.len]⟩else none
 |_,_=>none
theorem acm:∀K args pre r,Iy K args pre=some r->aD P zL K args pre r:=by
 intro K args pre r hs
 unfold Iy at hs
 split at hs
 ·rename_i k es s n x k' o
  split at hs
  ·rename_i hc
   simp only[Bool.and_eq_true,beq_iff_eq]at hc
   obtain⟨⟨⟨⟨rfl,rfl⟩,h4⟩,h5⟩,h6⟩:=hc
   simp only[au]at hs
   subst hs
   intro need
   obtain⟨h1,⟨h2,h2'⟩,h3,h7⟩:dN o.len o.f/\(0<=x/\x<2^64)/\e9 x.toNat<=n/\s+n<=o.len:=need
   obtain⟨row,wr,es,len,f⟩:=o
   simp only at h1 h4 h5 h6 h7
   subst h4 h5 h6
   obtain⟨x,rfl⟩:=Int.eq_ofNat_of_zero_le h2
   refine adP (z:=fun i=>numOf (f i)) aa h3 h7 (fun i hi=>?_) K trivial
   obtain⟨z,g1,g2⟩:=h1 i hi
   simp[g2,numOf,aB]
  ·simp at hs
 ·simp at hs
def Kz:Spec:=bM fun l=>match l with
 |[.int .u64 x,.int .u64 y,.int .u64 z]=>some (aL (.tuple [.int .u64 ((x+y+z)%18446744073709551616),.int .u64 ((x+y+z)/18446744073709551616)]) [0<=x,0<=y,0<=z/\z<=1])
 |_=>none
theorem abO:∀K args pre r,Kz K args pre=some r->aD P PT K args pre r:=by
 refine ct fun K args r hk hs _=>?_
 split at hs
 ·rename_i x y z
  simp only[au]at hs
  subst hs
  intro need
  obtain⟨h1,h2,h3,h4⟩:0<=x/\0<=y/\0<=z/\z<=1:=need
  refine⟨fun k o h=>by simp[look]at h,fun c D D' β w vs hw0 hMw hrel hD hK hv=>.inr ?_⟩
  match vs,hv with
  |[a,b,d],hv=>
   obtain⟨ha,hb,hd,_⟩:=hv
   have ha:=(ha.bI).int
   have hb:=(hb.bI).int
   have hd:=(hd.bI).int
   subst ha hb hd
   refine⟨.tuple #[.int .u64 ((x+y+z)%18446744073709551616),.int .u64 ((x+y+z)/18446744073709551616)],?_,β,?_,cN.refl _ _ _,[_,_],rfl,.cj (.int .nil) rfl,.cj (.int .nil) rfl,trivial⟩
   ·rw[run_callFunc_extern (e:=add64Entry) Proofs.Tryz.func268 ah ah ah (by rfl)]
    rw[run_add64 x y z h1 h2 h3 h4]
    rfl
   ·exact hrel.lE hD
 ·simp at hs
end Go.Am.B
