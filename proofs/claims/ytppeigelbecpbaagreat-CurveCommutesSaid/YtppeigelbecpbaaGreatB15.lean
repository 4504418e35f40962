/- rational.word, divisor, limbs; bits.Add64. -/
import Derived.Test.YtppeigelbecpbaaGreatB14
import Derived.Laws.Externs
set_option linter.unusedVariables false
namespace Go.Am.B
open Go Go.Am.N AV
theorem ahR:aO P yo oN (au oN):=aQ akX (by kernel_rfl) (by kernel_rfl) (by kernel_rfl)
theorem adZ {n:Nat} {z:Nat→Nat}:aH T [] [] 30 [0,3,4] (before (au oN) [1,1,0,1]) ⟨aN 0 [.ak 1 n (ay z)],[],0⟩=
  some (aa.leaf aj.normal ([ak 1 n fun a↦int IntKind.u32 (↑(z a):Int),int IntKind.u64 (0:Int),int IntKind.i64 (IntKind.i64.wrap ((↑n:Int)-(1:Int)))],[])):=by kernel_rfl
theorem ajq {n k v:Nat} {z:Nat→Nat}:aH T [] [9] 30 [0,3,4] [part (au oN) [1,1,0,1,0,0]] ⟨aA [0,3,4] [.ak 1 n (ay z),.int .u64 v,.int .i64 ((k:Int)-1)],[],0⟩=
  let c2:AV:=ak 1 n fun a↦int IntKind.u32 (↑(z a):Int);let c1:Int:=(↑k:Int)-(1:Int);some (aa.fork (decide (c1≥(0:Int))) (aa.ag [(0:Int)≤(32:Int),(0:Int)≤c1∧c1.toNat<n] (aa.leaf aj.normal ([c2,int IntKind.u64 (IntKind.u64.wrap (↑(BitVec.ofInt IntKind.u64.bits (IntKind.u64.wrap ((↑v:Int)*(2:Int)^min (Int.toNat (32:Int)) IntKind.u64.bits))|||BitVec.ofInt IntKind.u64.bits (IntKind.u64.wrap (↑(z c1.toNat):Int))).toNat:Int)),int IntKind.i64 (IntKind.i64.wrap (c1-(1:Int)))],[]))) (aa.leaf (aj.exit 0) ([c2,int IntKind.u64 (↑v:Int),int IntKind.i64 c1],[]))):=by kernel_rfl
theorem UX {n k v:Nat} {z:Nat→Nat}:cm T [] [] 30 oN (behind (au oN) [1,1,0,1]) ⟨aA [0,3,4] [.ak 1 n (ay z),.int .u64 v,.int .i64 ((k:Int)-1)],[],0⟩=
  some (aa.leaf aj.ret [int IntKind.u64 (↑v:Int)]):=by kernel_rfl
theorem aj8 {n:Nat} {z:Nat→Nat} (hz:∀i,i<n→z i<2^32) (hn:n≤2) (K:Nat) (pre:aC):aB P yo K [.ak 1 n (ay z)] pre (aK (.int .u64 (val n z:Nat)) []):=by
 refine jk hT ahR rfl (of_decide_eq_true (by kernel_rfl)) rfl (fun _ c h0=>?_) K pre
 refine aq.hole [1,1,0,1] (by kernel_rfl) (aD.bf hT bk hm 30 [0,3,4] adZ (by kernel_rfl) ?_)
 intro s' hv
 have hv64:val n z<2^64:=by
  have h1:=fq hz
  have h2:2^(32*n)≤2^(32*2):=Nat.pow_le_pow_right (by omega) (by omega)
  omega
 refine aq.g8 (i:=0) (y:=part (au oN) [1,1,0,1,0,0]) (by kernel_rfl)
  (fun p:Nat×Nat=>⟨aA [0,3,4] [.ak 1 n (ay z),.int .u64 (p.2:Nat),.int .i64 ((p.1:Nat)-1:Int)],[],0⟩)
  (fun p=>p.1≤n∧p.2*2^(32*p.1)+val p.1 z=val n z) (fun p=>p.1) (n,0)
  (cX [] hv h0 rfl ⟨⟨rfl,aI rfl⟩,⟨rfl,aI rfl⟩,⟨rfl,fN (wrap_i64 (by omega) (by omega))⟩,trivial⟩ trivial) ⟨by simp,by simp⟩ ?_
 rintro⟨k,v⟩ ⟨hk,hval⟩
 simp only at hk hval
 refine aq.bf hT bk hm 30 [0,3,4] ajq (by kernel_rfl) ?_
 simp only[aa.all,ax,decide_eq_true_eq,decide_eq_false_iff_not]
 refine⟨fun hb=>?_,fun hb s' hv=>?_⟩
 ·obtain⟨j,rfl⟩:∃j,k=j+1:=⟨k-1,by omega⟩
  have e:(((j+1:Nat):Int)-1).toNat=j:=by omega
  have hzj:=hz j (by omega)
  have hv32:v<2^32:=by
   rcases Nat.lt_or_ge v (2^32)with h|h
   ·exact h
   ·have h1:2^32*2^(32*(j+1))≤v*2^(32*(j+1)):=Nat.mul_le_mul_right _ h
    have h2:2^32≤2^(32*(j+1)):=Nat.pow_le_pow_right (by omega) (by omega)
    have h3:2^32*2^32≤2^32*2^(32*(j+1)):=Nat.mul_le_mul_left _ h2
    omega
  rw[e]
  have hor:IntKind.u64.wrap ((BitVec.ofInt IntKind.u64.bits (IntKind.u64.wrap ((v:Int)*2^min (Int.toNat 32) IntKind.u64.bits))|||BitVec.ofInt IntKind.u64.bits (IntKind.u64.wrap (z j:Int))).toNat:Int)=
    ((v*4294967296+z j:Nat):Int):=by
   rw[vZ,bN (x:=(z j:Int)) (by omega) (by omega),bN (x:=(v:Int)*4294967296) (by omega) (by omega)]
   rw[show(v:Int)*4294967296=((v*2^32:Nat):Int) by omega,uI (by omega) (by omega),rM hzj]
  refine⟨⟨by omega,by omega,by omega⟩,fun s' hv=>⟨(j,v*4294967296+z j),cX [] hv h0 rfl ⟨⟨rfl,aI rfl⟩,⟨rfl,fN hor⟩,⟨rfl,fN (by rw[wrap_i64 (by omega) (by omega)];simp only;omega)⟩,trivial⟩ trivial,
   ⟨by simp only;omega,Oy hval⟩,by simp⟩⟩
 ·have hk0:k=0:=by omega
  subst hk0
  have hval:v=val n z:=by simpa [val]using hval
  subst hval
  exact aD.weak (by kernel_rfl) (cX (vs:=[.ak 1 n (ay z),.int .u64 (val n z:Nat),.int .i64 (((0:Nat):Int)-1)]) (ps:=[]) (nx:=0) [] hv h0 rfl ⟨⟨rfl,aI rfl⟩,⟨rfl,aI rfl⟩,⟨rfl,aI rfl⟩,trivial⟩ trivial)
   (aD.fin hT bk hm 30 UX (by kernel_rfl) (bB.refl _))
theorem Tq:∀K args pre r,bC (kW BQ) K args pre=some r→aB P yo K args pre r:=
 bV (s4 fun _ _ K hz need=>aj8 hz need K [])
theorem RA:aO P AX oD (au oD):=aQ abH (by kernel_rfl) (by kernel_rfl) (by kernel_rfl)
theorem akK:aO P AR ql (au ql):=aQ XZ (by kernel_rfl) (by kernel_rfl) (by kernel_rfl)
theorem acA {x y:Nat}:aH T [] [] 60 [0,1] (before (au oD) [1,0]) ⟨aN 0 [.int .u64 x,.int .u64 y],[],0⟩=
  some (aa.leaf aj.normal ([int IntKind.u64 (↑x:Int),int IntKind.u64 (↑y:Int)],[])):=by kernel_rfl
theorem VY {x y:Nat}:aH T [] [6] 60 [0,1] [part (au oD) [1,0,0,0]] ⟨aA [0,1] [.int .u64 x,.int .u64 y],[],0⟩=
  let c1 : Int := (↑y : Int); some (aa.fork (c1 != (0 : Int)) (aa.ag [c1 ≠ (0 : Int)] (aa.leaf aj.normal ([int IntKind.u64 c1, int IntKind.u64 ((↑x : Int).tmod c1)], []))) (aa.leaf (aj.exit 0) ([int IntKind.u64 (↑x : Int), int IntKind.u64 c1], []))) := by kernel_rfl
theorem aj0 {x y:Nat}:cm T [] [] 60 oD (behind (au oD) [1,0]) ⟨aA [0,1] [.int .u64 x,.int .u64 y],[],0⟩=
  some (aa.leaf aj.ret [int IntKind.u64 (↑x:Int)]):=by kernel_rfl
theorem agc {s n l x:Nat} {z:Nat→Nat}:aH T [] [11] 60 [0,1,4] (before (au ql) [1,1,1]) ⟨aN 0 [.own 0 1 s n,.int .u64 x],[(0,⟨true,true,1,l,ay z⟩)],1⟩=
  let c4:AV:=int IntKind.u64 (↑x:Int);let c3:AV:=own 0 1 s n;let c2:Nat:=Int.toNat (0:Int);let c1:Nat×ah:=((0:Nat),ah.mk true true 1 l fun j↦if(j==c2+s)=true then int IntKind.u32 (IntKind.u32.wrap (↑x:Int))else ay z j);some (aa.ag [(0:Int)≤(0:Int)∧c2<n,c2+s<l] (aa.ag [(0:Int)≤(32:Int)] (aa.fork ((↑x:Int).fdiv ((2:Int)^min (Int.toNat (32:Int)) IntKind.u64.bits)==(0:Int)) (aa.leaf aj.ret ([c3,c4,int IntKind.i64 (1:Int)],[c1])) (aa.leaf aj.normal ([c3,c4,int IntKind.i64 (0:Int)],[c1]))))):=by kernel_rfl
theorem aeW {s n l x:Nat} {z:Nat→Nat}:aH T [] [] 60 [0,1,4] [part (au ql) [1,1,1]] ⟨aA [0,1,4] [.own 0 1 s n,.int .u64 x,.int .i64 0],[(0,⟨true,true,1,l,ay z⟩)],1⟩=
  let c1:Nat:=Int.toNat (1:Int);some (aa.ag [(0:Int)≤(32:Int),(0:Int)≤(1:Int)∧c1<n,c1+s<l] (aa.leaf aj.ret ([own 0 1 s n,int IntKind.u64 (↑x:Int),int IntKind.i64 (2:Int)],[((0:Nat),ah.mk true true 1 l fun j↦if(j==c1+s)=true then int IntKind.u32 (IntKind.u32.wrap ((↑x:Int).fdiv ((2:Int)^min (Int.toNat (32:Int)) IntKind.u64.bits)))else ay z j)]))):=by kernel_rfl
theorem aip {x y:Nat} (K:Nat) (pre:aC):aB P AX K [.int .u64 x,.int .u64 y] pre (aK (.int .u64 (Nat.gcd x y:Nat)) []):=by
 refine jk hT RA rfl (of_decide_eq_true (by kernel_rfl)) rfl (fun _ c h0=>?_) K pre
 have hk0:∀{nx:Nat} k x,c.k0 k=some x→k<nx:=jl h0
 refine aq.hole [1,0] (by kernel_rfl) (aD.bf hT bk hm 60 [0,1] acA (by kernel_rfl) fun s' hv=>bY ?_)
 refine aq.gC (i:=0) (y:=part (au oD) [1,0,0,0]) (by kernel_rfl) [0,1] 0 hk0 (fun p:Nat×Nat=>[.int .u64 (p.1:Nat),.int .u64 (p.2:Nat)]) (fun _=>[]) (fun _=>rfl) (fun _=>trivial)
  (fun p=>Nat.gcd p.1 p.2=Nat.gcd x y) (fun p=>p.2) (x,y) hv rfl ?_
 rintro⟨m,n⟩ hg
 simp only at hg
 refine aq.bf hT bk hm 60 [0,1] VY (by kernel_rfl) ?_
 simp only[aa.all,ax,bne_iff_ne,ne_eq,bne_eq_false_iff_eq]
 refine⟨fun hb=>⟨hb,fun s' hv=>?_⟩,fun hb s' hv=>eV (bY ?_)⟩
 ·have hlt:=Nat.mod_lt m (show 0<n by omega)
  refine⟨(n,m%n),dm hv (by rw[←Int.ofNat_tmod]) rfl,?_,hlt⟩
  rw[←hg,Nat.gcd_comm m n,Nat.gcd_rec n m,Nat.gcd_comm]
 ·refine aD.DO hT bk hm 60 (nx:=0) hv hk0 rfl trivial aj0 (by kernel_rfl) (by kernel_rfl) (bw ?_)
  have:n=0:=by omega
  rw[←hg,this,Nat.gcd_zero_right]
def Kr:Spec:=bC fun l=>match l with
 |[.int .u64 x,.int .u64 y]=>some (aK (.int .u64 (Nat.gcd x.toNat y.toNat:Nat)) [0≤x,0≤y])
 |_=>none
theorem ajy:∀K args pre r,Kr K args pre=some r→aB P AX K args pre r:=by
 refine bV fun K args r hk hs _=>?_
 split at hs
 ·rename_i x y
  simp only[Option.some.injEq]at hs
  subst hs
  intro need
  obtain⟨h1,h2⟩:0≤x∧0≤y:=need
  obtain⟨a,rfl⟩:=Int.eq_ofNat_of_zero_le h1
  obtain⟨b,rfl⟩:=Int.eq_ofNat_of_zero_le h2
  exact aip K [] trivial
 ·simp at hs
def gH (z:Nat→Nat) (s x:Nat):Nat→Nat:=fun i=>if i=s then x%4294967296 else if i=s+1∧4294967296≤x then x/4294967296 else z i
def eP (x:Nat):Nat:=if x<4294967296 then 1 else 2
theorem XX {k s n l x:Nat} {z:Nat→Nat} {f:Nat→AV} (hx:x<2^64) (h1:eP x≤n) (hs:s+n≤l) (hf:∀i,i<l→f i=ay z i) (K:Nat):
  aB P AR K [.own k 1 s n,.int .u64 x] [(k,⟨true,true,1,l,f⟩)] ⟨.int .i64 (eP x:Nat),[(k,⟨true,true,1,l,ay (gH z s x)⟩)],[]⟩:=by
 refine mK hT akK (args0:=[.own 0 1 s n,.int .u64 x]) (pre0:=[(0,⟨true,true,1,l,ay z⟩)]) (nx:=1) [(0,k)] (of_decide_eq_true (by kernel_rfl)) (by simp[gD]) ⟨⟨rfl,cw rfl rfl rfl⟩,⟨rfl,aI rfl⟩,trivial⟩ ⟨⟨k,_,rfl,by simp[look],e9 rfl hf⟩,trivial⟩
  (fun a x h=>?_) (fun x o h=>?_) (fun _ c h0=>?_)
 ·simp only[aT,look]at h
  split at h
  ·simp only[Option.some.injEq]at h;subst h;exact⟨_,by simp[look];rfl⟩
  ·simp at h
 ·simp only[look]at h
  split at h
  ·rename_i he
   have:k=x:=by simpa using he
   subst this
   exact .inl ⟨_,by simp[look];rfl⟩
  ·simp at h
 have hk0:∀k x,c.k0 k=some x→k<1:=fun k x hk=>by
  have:=h0 k x hk
  simp only[aT,look]at this
  split at this
  ·rename_i h;simp at h;omega
  ·simp at this
 have key:∀{s':aF} {v:Int} {w:Nat→Nat},aX [0,1,4] s'=some ([.own 0 1 s n,.int .u64 x,.int .i64 v],[(0,⟨true,true,1,l,ay w⟩)])→v=(eP x:Nat)→w=gH z s x→
   ∃τ,sL [(0,k)] K [(k,⟨true,true,1,l,f⟩)] τ∧(Bq T ql τ [(k,⟨true,true,1,l,f⟩)] ⟨.int .i64 (eP x:Nat),[(k,⟨true,true,1,l,ay (gH z s x)⟩)],[]⟩ s'∨uT T ql τ [(k,⟨true,true,1,l,f⟩)] ⟨.int .i64 (eP x:Nat),[(k,⟨true,true,1,l,ay (gH z s x)⟩)],[]⟩ s'):=by
  intro s' v w hv hv1 hw
  refine⟨aT [(k,0)],qb,.inr (uj (vs:=[.own 0 1 s n,.int .u64 x,.int .i64 v]) (us:=[.int .i64 v]) (ws:=[.int .i64 (eP x:Nat)]) (os:=[(0,⟨true,true,1,l,ay w⟩)]) (ps:=[(k,⟨true,true,1,l,ay (gH z s x)⟩)]) hv (by kernel_rfl) ⟨⟨rfl,fN hv1⟩,trivial⟩ rfl (by simp[cj,er,put]) ⟨⟨0,_,by simp[aT,look],rfl,e9 rfl fun i hi=>by rw[hw]⟩,trivial⟩)⟩
 have h12:eP x=1∨eP x=2:=by unfold eP;split<;>simp
 have hset1:(fun j=>if j=s then AV.int .u32 (IntKind.u32.wrap (x:Int))else ay z j)=ay (bU z s (x%4294967296)):=by
  funext j;exact gu (by rw[jr]) j
 refine aq.hole [1,1,1] (by kernel_rfl) (aD.bf hT bk hm 60 [0,1,4] agc (by kernel_rfl) ?_)
 simp only[aa.all,ax,beq_iff_eq,beq_eq_false_iff_ne,ne_eq,kB,Int.toNat_zero,Nat.zero_add,hset1]
 refine⟨⟨by omega,by omega⟩,by omega,fun hb s' hv=>?_,fun hb s' hv=>bY ?_⟩
 ·have hlt:x<4294967296:=by omega
  refine eW ⟨.inr rfl,key hv (by unfold eP;rw[if_pos hlt];rfl) ?_⟩
  funext i
  unfold bU gH
  by_cases h:i=s
  ·simp[h]
  ·simp[h];omega
 ·have hge:4294967296≤x:=by omega
  have h2:eP x=2:=by unfold eP;rw[if_neg (by omega)]
  refine aq.eH hT bk hm 60 (nx:=1) hv hk0 rfl ⟨⟨by omega,fun _ _=>rfl⟩,trivial⟩ [0,1,4] aeW (by kernel_rfl) ?_
  simp only[aa.all,ax,beq_iff_eq,beq_eq_false_iff_ne,ne_eq,kB,show Int.toNat 1=1 from rfl]
  refine⟨⟨by omega,by omega,by omega⟩,fun s' hv=>?_⟩
  have hset2:(fun j=>if j=1+s then AV.int .u32 (IntKind.u32.wrap ((x:Int)/4294967296))else ay (bU z s (x%4294967296)) j)=ay (bU (bU z s (x%4294967296)) (1+s) (x/4294967296)):=by
   funext j;exact gu (by rw[wrap_u32 (by omega) (by omega)];omega) j
  rw[hset2]at hv
  refine eW ⟨.inr rfl,key hv (by rw[h2];rfl) ?_⟩
  funext i
  unfold bU gH
  by_cases h:i=s
  ·simp[h]
  ·by_cases h':i=1+s
   ·simp[h',hge,Nat.add_comm]
   ·simp[h,h'];omega
def E5:Spec:=fun _ args pre=>match args,pre with
 |[.own k es s n,.int .u64 x],[(k',o)]=>if k==k'&&es==1&&o.row&&o.wr&&o.es==1 then some ⟨.int .i64 (eP x.toNat:Nat),[(k,⟨true,true,1,o.len,ay (gH (fun i=>numOf (o.f i)) s x.toNat)⟩)],[dB o.len o.f,0≤x∧x<2^64,eP x.toNat≤n,s+n≤o.len]⟩else none
 |_,_=>none
theorem ahs:∀K args pre r,E5 K args pre=some r→aB P AR K args pre r:=by
 intro K args pre r hs
 unfold E5 at hs
 split at hs
 ·rename_i k es s n x k' o
  split at hs
  ·rename_i hc
   simp only[Bool.and_eq_true,beq_iff_eq]at hc
   obtain⟨⟨⟨⟨rfl,rfl⟩,h4⟩,h5⟩,h6⟩:=hc
   simp only[Option.some.injEq]at hs
   subst hs
   intro need
   obtain⟨h1,⟨h2,h2'⟩,h3,h7⟩:dB o.len o.f∧(0≤x∧x<2^64)∧eP x.toNat≤n∧s+n≤o.len:=need
   obtain⟨row,wr,es,len,f⟩:=o
   simp only at h1 h4 h5 h6 h7
   subst h4 h5 h6
   obtain⟨x,rfl⟩:=Int.eq_ofNat_of_zero_le h2
   refine XX (z:=fun i=>numOf (f i)) (by omega) h3 h7 (fun i hi=>?_) K trivial
   obtain⟨z,g1,g2⟩:=h1 i hi
   simp[g2,numOf,ay]
  ·simp at hs
 ·simp at hs
def OO:Spec:=bC fun l=>match l with
 |[.int .u64 x,.int .u64 y,.int .u64 z]=>some (aK (.tuple [.int .u64 ((x+y+z)%18446744073709551616),.int .u64 ((x+y+z)/18446744073709551616)]) [0≤x,0≤y,0≤z∧z≤1])
 |_=>none
theorem Tz:∀K args pre r,OO K args pre=some r→aB P HP K args pre r:=by
 refine bV fun K args r hk hs _=>?_
 split at hs
 ·rename_i x y z
  simp only[Option.some.injEq]at hs
  subst hs
  intro need
  obtain⟨h1,h2,h3,h4⟩:0≤x∧0≤y∧0≤z∧z≤1:=need
  refine⟨fun k o h=>by simp[look]at h,fun c D D' β w vs hw0 hMw hrel hD hK hv=>.inr ?_⟩
  match vs,hv with
  |[a,b,d],hv=>
   obtain⟨ha,hb,hd,_⟩:=hv
   have ha:=(ha.bq).int
   have hb:=(hb.bq).int
   have hd:=(hd.bq).int
   subst ha hb hd
   refine⟨.tuple #[.int .u64 ((x+y+z)%18446744073709551616),.int .u64 ((x+y+z)/18446744073709551616)],?_,β,?_,cy.refl _ _ _,[_,_],rfl,.bK (.int .nil) rfl,.bK (.int .nil) rfl,trivial⟩
   ·rw[run_callFunc_extern (e:=add64Entry) abT (by kernel_rfl) (by kernel_rfl) (by kernel_rfl) (by rfl)]
    rw[run_add64 x y z h1 h2 h3 h4]
    rfl
   ·exact hrel.k8 hD
 ·simp at hs
end Go.Am.B
