/- rational.word, divisor, limbs; bits.Add64. -/
import Derived.Test.YtolopdkjjlfgjaaGreatB14
import Derived.Laws.Externs
set_option linter.unusedVariables false
namespace Go.Am.B
open Go Go.Am.N AV Proofs.Tryz IntKind
theorem YB:bC 159 f159:=bD func159
theorem Qi {n:Nat} {z:Nat->Nat}:aK T [] [] 30 [0,3,4] (before (aJ f159) [1,1,0,1]) ⟨bf 0 [.az 1 n (aD z)],[],0⟩=
  some (af.leaf au.normal ([az 1 n fun a=>int .u32 (↑(z a):Int),int .u64 (0:Int),int .i64 (i64.wrap ((↑n:Int)-1))],[])):=ah
theorem Tn {n k v:Nat} {z:Nat->Nat}:aK T [] [9] 30 [0,3,4] [part (aJ f159) [1,1,0,1,0,0]] ⟨aH [0,3,4] [.az 1 n (aD z),.int .u64 v,.int .i64 ((k:Int)-1)],[],0⟩=
  let c2:AV:=az 1 n fun a=>int .u32 (↑(z a):Int);let c1:Int:=(↑k:Int)-1;some (af.fork (decide (c1>=0)) (af.aj [(0:Int)<=32,(0:Int)<=c1/\c1.toNat<n] (af.leaf au.normal ([c2,int .u64 (u64.wrap (↑(BitVec.ofInt u64.bits (u64.wrap ((↑v:Int)*2^min (Int.toNat (32:Int)) u64.bits))|||BitVec.ofInt u64.bits (u64.wrap (↑(z c1.toNat):Int))).toNat:Int)),int .i64 (i64.wrap (c1-1))],[]))) (af.leaf (au.exit 0) ([c2,int .u64 (↑v:Int),int .i64 c1],[]))):=ah
theorem Q1 {n k v:Nat} {z:Nat->Nat}:dJ T [] [] 30 f159 (behind (aJ f159) [1,1,0,1]) ⟨aH [0,3,4] [.az 1 n (aD z),.int .u64 v,.int .i64 ((k:Int)-1)],[],0⟩=
  some (af.leaf au.ret [int .u64 (↑v:Int)]):=ah
theorem Uq {n:Nat} {z:Nat->Nat} (hz:∀i,i<n->z i<2^32) (hn:n<=2) (K:Nat) (pre:aG):aY P 159 K [.az 1 n (aD z)] pre (aT (.int .u64 (val n z:Nat)) []):=by
 refine lO hT YB rfl br rfl (fun _ c h0=>?_) K pre
 refine aA.hole [1,1,0,1] ah (aI.bM hT cK hm 30 [0,3,4] Qi ah ?_)
 intro s' hv
 have hv64:val n z<2^64:=by
  have h1:=ia hz
  have h2:2^(32*n)<=2^(32*2):=Nat.pow_le_pow_right aa aa
  omega
 refine aA.jG (i:=0) (y:=part (aJ f159) [1,1,0,1,0,0]) ah
  (fun p:Nat×Nat=>⟨aH [0,3,4] [.az 1 n (aD z),.int .u64 (p.2:Nat),.int .i64 ((p.1:Nat)-1:Int)],[],0⟩)
  (fun p=>p.1<=n/\p.2*2^(32*p.1)+val p.1 z=val n z) (fun p=>p.1) (n,0)
  (eC [] hv h0 rfl ⟨aU,aU,⟨rfl,iI (wrap_i64 aa aa)⟩,trivial⟩ trivial) ⟨by simp,by simp⟩ ?_
 rintro⟨k,v⟩ ⟨hk,hval⟩
 simp only at hk hval
 refine aA.bM hT cK hm 30 [0,3,4] Tn ah ?_
 simp only[af.all,aF,bI,bO]
 refine⟨fun hb=>?_,fun hb s' hv=>?_⟩
 ·obtain⟨j,rfl⟩:∃j,k=j+1:=⟨k-1,aa⟩
  have e:(((j+1:Nat):Int)-1).toNat=j:=aa
  have hzj:=hz j aa
  have hv32:v<2^32:=by
   rcases Nat.lt_or_ge v (2^32)with h|h
   ·exact h
   ·have h1:2^32*2^(32*(j+1))<=v*2^(32*(j+1)):=Nat.mul_le_mul_right _ h
    have h2:2^32<=2^(32*(j+1)):=Nat.pow_le_pow_right aa aa
    have h3:2^32*2^32<=2^32*2^(32*(j+1)):=Nat.mul_le_mul_left _ h2
    omega
  rw[e]
  have fT:u64.wrap ((BitVec.ofInt u64.bits (u64.wrap ((v:Int)*2^min (Int.toNat 32) u64.bits))|||BitVec.ofInt u64.bits (u64.wrap (z j:Int))).toNat:Int)=
    ((v*4294967296+z j:Nat):Int):=by
   rw[yz,cG (x:=(z j:Int)) aa aa,cG (x:=(v:Int)*4294967296) aa aa]
   rw[show(v:Int)*4294967296=((v*2^32:Nat):Int) by omega,uV aa aa,sH hzj]
  refine⟨⟨aa,aa,aa⟩,fun s' hv=>⟨(j,v*4294967296+z j),eC [] hv h0 rfl ⟨aU,⟨rfl,iI fT⟩,⟨rfl,iI (by rw[wrap_i64 aa aa];simp only;omega)⟩,trivial⟩ trivial,
   ⟨by simp only;omega,JP hval⟩,by simp⟩⟩
 ·have hk0:k=0:=aa
  subst hk0
  have hval:v=val n z:=by simpa [val]using hval
  subst hval
  exact aI.weak ah (eC (vs:=[.az 1 n (aD z),.int .u64 (val n z:Nat),.int .i64 (((0:Nat):Int)-1)]) (ps:=[]) (nx:=0) [] hv h0 rfl ⟨aU,aU,aU,trivial⟩ trivial)
   (aI.fin hT cK hm 30 Q1 ah (bg.refl _))
theorem afo:bF P (cw (mW BX)) 159:=
 cY (uE fun _ _ K hz need=>Uq hz need K [])
theorem QA:bC 179 f179:=bD func179
theorem afh:bC 180 f180:=bD func180
theorem ab6 {x y:Nat}:aK T [] [] 60 [0,1] (before (aJ f179) [1,0]) ⟨bf 0 [.int .u64 x,.int .u64 y],[],0⟩=
  some (af.leaf au.normal ([int .u64 (↑x:Int),int .u64 (↑y:Int)],[])):=ah
theorem abX {x y:Nat}:aK T [] [6] 60 [0,1] [part (aJ f179) [1,0,0,0]] ⟨aH [0,1] [.int .u64 x,.int .u64 y],[],0⟩=
  let c1:Int:=(↑y:Int);some (af.fork (c1 !=(0:Int)) (af.aj [c1≠(0:Int)] (af.leaf au.normal ([int .u64 c1,int .u64 ((↑x:Int).tmod c1)],[]))) (af.leaf (au.exit 0) ([int .u64 (↑x:Int),int .u64 c1],[]))):=ah
theorem Sj {x y:Nat}:dJ T [] [] 60 f179 (behind (aJ f179) [1,0]) ⟨aH [0,1] [.int .u64 x,.int .u64 y],[],0⟩=
  some (af.leaf au.ret [int .u64 (↑x:Int)]):=ah
theorem acE {s n l x:Nat} {z:Nat->Nat}:aK T [] [11] 60 [0,1,4] (before (aJ f180) [1,1,1]) ⟨bf 0 [.own 0 1 s n,.int .u64 x],[(0,⟨true,true,1,l,aD z⟩)],1⟩=
  let c4:AV:=int .u64 (↑x:Int);let c3:AV:=own 0 1 s n;let c2:Nat:=Int.toNat (0:Int);let c1:Nat×aC:=(0,aC.mk true true 1 l fun j=>if(j==c2+s)=true then int .u32 (u32.wrap (↑x:Int))else aD z j);some (af.aj [(0:Int)<=0/\c2<n,c2+s<l] (af.aj [(0:Int)<=32] (af.fork ((↑x:Int).fdiv ((2:Int)^min (Int.toNat (32:Int)) u64.bits)==0) (af.leaf au.ret ([c3,c4,int .i64 (1:Int)],[c1])) (af.leaf au.normal ([c3,c4,int .i64 (0:Int)],[c1]))))):=ah
theorem Ur {s n l x:Nat} {z:Nat->Nat}:aK T [] [] 60 [0,1,4] [part (aJ f180) [1,1,1]] ⟨aH [0,1,4] [.own 0 1 s n,.int .u64 x,.int .i64 0],[(0,⟨true,true,1,l,aD z⟩)],1⟩=
  let c1:Nat:=Int.toNat (1:Int);some (af.aj [(0:Int)<=32,(0:Int)<=1/\c1<n,c1+s<l] (af.leaf au.ret ([own 0 1 s n,int .u64 (↑x:Int),int .i64 (2:Int)],[(0,aC.mk true true 1 l fun j=>if(j==c1+s)=true then int .u32 (u32.wrap ((↑x:Int).fdiv ((2:Int)^min (Int.toNat (32:Int)) u64.bits)))else aD z j)]))):=ah
theorem Wm {x y:Nat} (K:Nat) (pre:aG):aY P 179 K [.int .u64 x,.int .u64 y] pre (aT (.int .u64 (Nat.gcd x y:Nat)) []):=by
 refine lO hT QA rfl br rfl (fun _ c h0=>?_) K pre
 have hk0:∀{nx:Nat} k x,c.k0 k=some x->k<nx:=lF h0
 refine aA.hole [1,0] ah (aI.bM hT cK hm 60 [0,1] ab6 ah fun s' hv=>cU ?_)
 refine aA.js (i:=0) (y:=part (aJ f179) [1,0,0,0]) ah [0,1] 0 hk0 (fun p:Nat×Nat=>[.int .u64 (p.1:Nat),.int .u64 (p.2:Nat)]) (fun _=>[]) (fun _=>rfl) (fun _=>trivial)
  (fun p=>Nat.gcd p.1 p.2=Nat.gcd x y) (fun p=>p.2) (x,y) hv rfl ?_
 rintro⟨m,n⟩ hg
 simp only at hg
 refine aA.bM hT cK hm 60 [0,1] abX ah ?_
 simp only[af.all,aF,bne_iff_ne,ne_eq,bne_eq_false_iff_eq]
 refine⟨fun hb=>⟨hb,fun s' hv=>?_⟩,fun hb s' hv=>gD (cU ?_)⟩
 ·have hlt:=Nat.mod_lt m (show 0<n by omega)
  refine⟨(n,m%n),eU hv (by rw[<-Int.ofNat_tmod]) rfl,?_,hlt⟩
  rw[<-hg,Nat.gcd_comm m n,Nat.gcd_rec n m,Nat.gcd_comm]
 ·refine aI.AH hT cK hm 60 (nx:=0) hv hk0 rfl trivial Sj ah ah (cu ?_)
  have:n=0:=aa
  rw[<-hg,this,Nat.gcd_zero_right]
def K9:Spec:=cw fun l=>match l with
 |[.int .u64 x,.int .u64 y]=>some (aT (.int .u64 (Nat.gcd x.toNat y.toNat:Nat)) [0<=x,0<=y])
 |_=>none
theorem aan:bF P K9 179:=by
 refine cY fun K args r hk hs _=>?_
 split at hs
 ·rename_i x y
  simp only[aB]at hs
  subst hs
  intro need
  obtain⟨h1,h2⟩:0<=x/\0<=y:=need
  obtain⟨a,rfl⟩:=Int.eq_ofNat_of_zero_le h1
  obtain⟨b,rfl⟩:=Int.eq_ofNat_of_zero_le h2
  exact Wm K [] trivial
 ·simp at hs
def jr (z:Nat->Nat) (s x:Nat):Nat->Nat:=fun i=>if i=s then x%4294967296 else if i=s+1/\4294967296<=x then x/4294967296 else z i
def gL (x:Nat):Nat:=if x<4294967296 then 1 else 2
theorem XZ {k s n l x:Nat} {z:Nat->Nat} {f:Nat->AV} (hx:x<2^64) (h1:gL x<=n) (hs:s+n<=l) (hf:∀i,i<l->f i=aD z i) (K:Nat):
  aY P 180 K [.own k 1 s n,.int .u64 x] [(k,⟨true,true,1,l,f⟩)] ⟨.int .i64 (gL x:Nat),[(k,⟨true,true,1,l,aD (jr z s x)⟩)],[]⟩:=by
 refine vS hT afh (args0:=[.own 0 1 s n,.int .u64 x]) (pre0:=[(0,⟨true,true,1,l,aD z⟩)]) (nx:=1) [(0,k)] br (by simp[jB]) ⟨⟨rfl,e9 rfl rfl rfl⟩,aU,trivial⟩ ⟨⟨k,_,rfl,by simp[look],gV rfl hf⟩,trivial⟩
  (fun a x h=>?_) (fun x o h=>?_) (fun _ c h0=>?_)
 ·simp only[bH,look]at h
  split at h
  ·simp only[aB]at h;subst h;exact⟨_,by simp[look];rfl⟩
  ·simp at h
 ·simp only[look]at h
  split at h
  ·rename_i he
   have:k=x:=by simpa using he
   subst this
   exact .inl ⟨_,by simp[look];rfl⟩
  ·simp at h
 have hk0:∀k x,c.k0 k=some x->k<1:=fun k x hk=>by
  have:=h0 k x hk
  simp only[bH,look]at this
  split at this
  ·rename_i h;simp at h;omega
  ·simp at this
 have key:∀{s':aL} {v:Int} {w:Nat->Nat},bp [0,1,4] s'=some ([.own 0 1 s n,.int .u64 x,.int .i64 v],[(0,⟨true,true,1,l,aD w⟩)])->v=(gL x:Nat)->w=jr z s x->
   ∃τ,uD [(0,k)] K [(k,⟨true,true,1,l,f⟩)] τ/\(Bx T f180 τ [(k,⟨true,true,1,l,f⟩)] ⟨.int .i64 (gL x:Nat),[(k,⟨true,true,1,l,aD (jr z s x)⟩)],[]⟩ s'\/xG T f180 τ [(k,⟨true,true,1,l,f⟩)] ⟨.int .i64 (gL x:Nat),[(k,⟨true,true,1,l,aD (jr z s x)⟩)],[]⟩ s'):=by
  intro s' v w hv hv1 hw
  refine⟨bH [(k,0)],Dm,.inr (zH (vs:=[.own 0 1 s n,.int .u64 x,.int .i64 v]) (us:=[.int .i64 v]) (ws:=[.int .i64 (gL x:Nat)]) (os:=[(0,⟨true,true,1,l,aD w⟩)]) (ps:=[(k,⟨true,true,1,l,aD (jr z s x)⟩)]) hv ah ⟨⟨rfl,iI hv1⟩,trivial⟩ rfl (by simp[dm,mK,put]) ⟨⟨0,_,by simp[bH,look],rfl,gV rfl fun i hi=>by rw[hw]⟩,trivial⟩)⟩
 have h12:gL x=1\/gL x=2:=by unfold gL;split<;>simp
 have hset1:(fun j=>if j=s then AV.int .u32 (u32.wrap (x:Int))else aD z j)=aD (cP z s (x%4294967296)):=by
  funext j;exact jg (by rw[k9]) j
 refine aA.hole [1,1,1] ah (aI.bM hT cK hm 60 [0,1,4] acE ah ?_)
 simp only[af.all,aF,beq_iff_eq,beq_eq_false_iff_ne,ne_eq,nk,Int.toNat_zero,Nat.zero_add,hset1]
 refine⟨⟨aa,aa⟩,aa,fun hb s' hv=>?_,fun hb s' hv=>cU ?_⟩
 ·have hlt:x<4294967296:=aa
  refine gO ⟨.inr rfl,key hv (by unfold gL;rw[if_pos hlt];rfl) ?_⟩
  funext i
  unfold cP jr
  by_cases h:i=s
  ·simp[h]
  ·simp[h];omega
 ·have hge:4294967296<=x:=aa
  have h2:gL x=2:=by unfold gL;rw[if_neg aa]
  refine aA.gC hT cK hm 60 (nx:=1) hv hk0 rfl ⟨⟨aa,fun _ _=>rfl⟩,trivial⟩ [0,1,4] Ur ah ?_
  simp only[af.all,aF,beq_iff_eq,beq_eq_false_iff_ne,ne_eq,nk,show Int.toNat 1=1 from rfl]
  refine⟨⟨aa,aa,aa⟩,fun s' hv=>?_⟩
  have hset2:(fun j=>if j=1+s then AV.int .u32 (u32.wrap ((x:Int)/4294967296))else aD (cP z s (x%4294967296)) j)=aD (cP (cP z s (x%4294967296)) (1+s) (x/4294967296)):=by
   funext j;exact jg (by rw[wrap_u32 aa aa];omega) j
  rw[hset2]at hv
  refine gO ⟨.inr rfl,key hv (by rw[h2];rfl) ?_⟩
  funext i
  unfold cP jr
  by_cases h:i=s
  ·simp[h]
  ·by_cases h':i=1+s
   ·simp[h',hge,Nat.add_comm]
   ·simp[h,h'];omega
def Gs:Spec:=fun _ args pre=>match args,pre with
 |[.own k es s n,.int .u64 x],[(k',o)]=>if k==k'&&es==1&&o.row&&o.wr&&o.es==1 then some ⟨.int .i64 (gL x.toNat:Nat),[(k,⟨true,true,1,o.len,aD (jr (fun i=>numOf (o.f i)) s x.toNat)⟩)],[fu o.len o.f,0<=x/\x<2^64,gL x.toNat<=n,s+n<=o.len]⟩else none
 |_,_=>none
theorem T5:bF P Gs 180:=by
 intro K args pre r hs
 unfold Gs at hs
 split at hs
 ·rename_i k es s n x k' o
  split at hs
  ·rename_i hc
   simp only[Bool.and_eq_true,beq_iff_eq]at hc
   obtain⟨⟨⟨⟨rfl,rfl⟩,h4⟩,h5⟩,h6⟩:=hc
   simp only[aB]at hs
   subst hs
   intro need
   obtain⟨h1,⟨h2,h2'⟩,h3,h7⟩:fu o.len o.f/\(0<=x/\x<2^64)/\gL x.toNat<=n/\s+n<=o.len:=need
   obtain⟨row,wr,es,len,f⟩:=o
   simp only at h1 h4 h5 h6 h7
   subst h4 h5 h6
   obtain⟨x,rfl⟩:=Int.eq_ofNat_of_zero_le h2
   refine XZ (z:=fun i=>numOf (f i)) aa h3 h7 (fun i hi=>?_) K trivial
   obtain⟨z,g1,g2⟩:=h1 i hi
   simp[g2,numOf,aD]
  ·simp at hs
 ·simp at hs
def K7:Spec:=cw fun l=>match l with
 |[.int .u64 x,.int .u64 y,.int .u64 z]=>some (aT (.tuple [.int .u64 ((x+y+z)%18446744073709551616),.int .u64 ((x+y+z)/18446744073709551616)]) [0<=x,0<=y,0<=z/\z<=1])
 |_=>none
theorem acq:bF P K7 177:=by
 refine cY fun K args r hk hs _=>?_
 split at hs
 ·rename_i x y z
  simp only[aB]at hs
  subst hs
  intro need
  obtain⟨h1,h2,h3,h4⟩:0<=x/\0<=y/\0<=z/\z<=1:=need
  refine⟨fun k o h=>by simp[look]at h,fun c D D' β w vs hw0 hMw hrel hD hK hv=>.inr ?_⟩
  match vs,hv with
  |[a,b,d],hv=>
   obtain⟨ha,hb,hd,_⟩:=hv
   have ha:=(ha.bT).int
   have hb:=(hb.bT).int
   have hd:=(hd.bT).int
   subst ha hb hd
   refine⟨.tuple #[.int .u64 ((x+y+z)%18446744073709551616),.int .u64 ((x+y+z)/18446744073709551616)],?_,β,?_,dD.refl _ _ _,[_,_],rfl,.cL (.int .nil) rfl,.cL (.int .nil) rfl,trivial⟩
   ·rw[run_callFunc_extern (e:=add64Entry) func177 ah ah ah (by rfl)]
    rw[run_add64 x y z h1 h2 h3 h4]
    rfl
   ·exact hrel.m7 hD
 ·simp at hs
end Go.Am.B
