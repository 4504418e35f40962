/- ref01: up, shifted, times, down. -/
import Derived.Test.YtppeigelbecpbaaGreatB24
set_option linter.unusedVariables false
namespace Go.Am.B
open Go Go.Am.N AV
theorem afU:aO P xp nv (au nv):=aQ ai9 (by kernel_rfl) (by kernel_rfl) (by kernel_rfl)
theorem abY:aO P v9 Ap (au Ap):=aQ ahP (by kernel_rfl) (by kernel_rfl) (by kernel_rfl)
theorem aem:aO P wk AA (au AA):=aQ acD (by kernel_rfl) (by kernel_rfl) (by kernel_rfl)
theorem ahv:aO P xM nZ (au nZ):=aQ ahN (by kernel_rfl) (by kernel_rfl) (by kernel_rfl)
abbrev qU:List Nat:=[0,1,5,6,7]
abbrev Bz (A n l c i K:Nat):List AV:=[.mag A,.int .i64 n,.own K 1 0 l,.int .u64 c,.int .i64 i]
noncomputable abbrev JT:Code:=part (au nv) [1,1,1,0,1,0,0]
def Nf:aR:=[(nL,tN),(pP,AO),(tA,FJ)]
theorem Um:aY P Nf:=aG x9 (aG BG (aG JV bk))
theorem Rp {A n:Nat}:aH T eu [] 60 qU (before (au nv) [1,1,1,0,1]) ⟨aN 0 [.mag A,.int .i64 n],[],0⟩=
  let c1:Int:=IntKind.i64.wrap ((↑n:Int).tdiv (32:Int));some (aa.ag [(32:Int)≠(0:Int),(0:Int)≤c1∧c1≤c1∧c1≤(2:Int)^47∧c1*(↑(4:Nat):Int)≤(2:Int)^47] (aa.leaf aj.normal ([mag A,int IntKind.i64 (↑n:Int),own 12288 1 0 c1.toNat,int IntKind.u64 (0:Int),int IntKind.i64 (0:Int)],[((12288:Nat),ah.mk true true 1 c1.toNat fun x↦int IntKind.u32 (0:Int))]))):=by kernel_rfl
theorem ah3 {A n l c i:Nat} {o:Nat→Nat}:aH T eu [14] 60 qU [JT] ⟨aA qU (Bz A n l c i 7),cR 7 l o,8⟩=
  let c4:Int:=(↑n:Int).tmod (32:Int);let c3:AV:=int IntKind.i64 (↑n:Int);let c2:Int:=(↑i:Int);let c1:Int:=IntKind.u64.wrap (↑(BitVec.ofInt IntKind.u64.bits (↑c:Int)|||BitVec.ofInt IntKind.u64.bits (IntKind.u64.wrap (IntKind.u64.wrap (↑(az A c2.toNat):Int)*(2:Int)^min c4.toNat IntKind.u64.bits))).toNat:Int);some (aa.fork (decide (c2<(↑(nl A):Int))) (aa.ag [(0:Int)≤c2∧c2.toNat<nl A,(32:Int)≠(0:Int),(0:Int)≤c4] (aa.ag [(1:Nat)*1≤2^24,(l+1)*((4:Nat)+1)*2≤2^47] (aa.ag [(0:Int)≤(32:Int)] (aa.leaf aj.normal ([mag A,c3,own 77832 1 0 (l+1),int IntKind.u64 (c1.fdiv ((2:Int)^min (Int.toNat (32:Int)) IntKind.u64.bits)),int IntKind.i64 (IntKind.i64.wrap (c2+(1:Int)))],[((77832:Nat),ah.mk true true 1 (l+1) fun i↦if i<l then ay o i else nth [int IntKind.u32 (IntKind.u32.wrap c1)] (int IntKind.u32 (0:Int)) (i-l+0))]))))) (aa.leaf (aj.exit 0) ([mag A,c3,own 7 1 0 l,int IntKind.u64 (↑c:Int),int IntKind.i64 c2],[((7:Nat),ah.mk true true 1 l fun a↦int IntKind.u32 (↑(o a):Int))]))):=by kernel_rfl
theorem akA {A n l c i:Nat} {o:Nat→Nat}:cm T eu [] 60 nv (behind (au nv) [1,1,1,0,1]) ⟨aA qU (Bz A n l c i 7),cR 7 l o,8⟩=
  let c3:AV:=int IntKind.u32 (0:Int);let c2:Nat:=l+1;let c1:AV:=int IntKind.u32 (IntKind.u32.wrap (↑c:Int));some (aa.ag [(1:Nat)*1≤2^24,c2*((4:Nat)+1)*2≤2^47,dB c2 fun i↦if i+0<l then ay o (i+0)else nth [c1] c3 (i+0-l+0),c2<2^40] (aa.leaf aj.ret [mag (val c2 fun i↦numOf (if i+0<l then ay o (i+0)else nth [c1] c3 (i+0-l+0)))])):=by kernel_rfl
theorem abo {A n:Nat}:bF T eu [7] 60 Ap (au Ap) ⟨aN 0 [.mag A,.int .i64 n],[],0⟩=
  let c1:Int:=(↑n:Int);some (aa.fork ((↑(nl A):Int)==(0:Int)) (aa.leaf aj.ret [nil]) (aa.ag [(0:Int)≤c1∧c1≤c1∧c1≤(2:Int)^47∧c1*(↑(4:Nat):Int)≤(2:Int)^47,(c1.toNat+nl A)*((4:Nat)+1)*2≤2^47] (aa.leaf aj.ret [ak 1 (c1.toNat+nl A) fun i↦if i+0<c1.toNat then int IntKind.u32 (0:Int)else int IntKind.u32 (↑(az A (i+0-c1.toNat)):Int)]))):=by kernel_rfl
theorem X9 {A b:Nat}:bF T Nf [] 60 AA (au AA) ⟨aN 0 [.mag A,.int .u32 b],[],0⟩=
  let c1:Int:=IntKind.u64.wrap (↑b:Int);some (aa.ag [(0:Int)≤c1∧c1<(2:Int)^64,nl A<2^39,nl c1.toNat<2^39] (aa.leaf aj.ret [mag (A*c1.toNat)])):=by kernel_rfl
abbrev me:List Nat:=[0,1,5,6]
abbrev vl (a:Nat→Nat) (l n i K:Nat):List AV:=[.ak 1 l (ay a),.int .i64 n,.own K 1 0 l,.int .i64 i]
noncomputable abbrev NK:Code:=part (au nZ) [1,1,1,1,0,1,0,0]
theorem aeY {A n:Nat}:aH T eu [12] 60 (me++[4]) (before (au nZ) [1,1,1,1,0,1]) ⟨aN 0 [.mag A,.int .i64 n],[],0⟩=
  let c5:AV:=int IntKind.i64 (↑n:Int);let c3:Int:=(↑(nl A):Int);let c2:Int:=IntKind.i64.wrap ((↑n:Int).tdiv (32:Int));let c1:Nat:=c3.toNat-c2.toNat;let c4:Int:=(↑c1:Int);some (aa.ag [(32:Int)≠(0:Int)] (aa.fork (decide (c2≥c3)) (aa.leaf aj.ret ([mag A,c5,tuple [],tuple [],nil],[])) (aa.ag [(32:Int)≠(0:Int),(0:Int)≤c2∧c2≤c3∧c3≤c3∧c3≤c3] (aa.ag [(0:Int)≤c4∧c4≤c4∧c4≤(2:Int)^47∧c4*(↑(4:Nat):Int)≤(2:Int)^47] (aa.leaf aj.normal ([ak 1 c1 fun i↦int IntKind.u32 (↑(az A (i+c2.toNat)):Int),c5,own 53248 1 0 c4.toNat,int IntKind.i64 (0:Int),nil],[((53248:Nat),ah.mk true true 1 c4.toNat fun x↦int IntKind.u32 (0:Int))])))))):=by kernel_rfl
theorem akr {n l i:Nat} {a o:Nat→Nat}:aH T eu [23,35] 60 me [NK] ⟨aA me (vl a l n i 7),cR 7 l o,8⟩=
  let c13:Int:=(↑l:Int);let c12:Int:=(↑n:Int).tmod (32:Int);let c11:AV:=int IntKind.i64 (↑n:Int);let c9:AV:=own 7 1 0 l;let c8:Int:=(↑i:Int);let c6:AV:=ak 1 l fun a_1↦int IntKind.u32 (↑(a a_1):Int);let c5:Int:=(2:Int)^min c12.toNat IntKind.u64.bits;let c4:Nat:=c8.toNat;let c1:Int:=IntKind.i64.wrap (c8+(1:Int));let c10:Int:=IntKind.u64.wrap (↑(a c4):Int);let c7:Nat:=c4+0;let c2:List AV:=[c6,c11,c9,int IntKind.i64 c1];let c3:List Prop:=[(32:Int)≠(0:Int),(0:Int)≤c12,(0:Int)≤c8∧c4<l,c7<l];some (aa.fork (decide (c8<c13)) (aa.ag [(0:Int)≤c8∧c4<l] (aa.fork (decide (c1<c13)) (aa.ag [(0:Int)≤c1∧c1.toNat<l,(0:Int)≤(32:Int)] (aa.ag c3 (aa.leaf aj.normal (c2,[((7:Nat),ah.mk true true 1 l fun j↦if(j==c7)=true then int IntKind.u32 (IntKind.u32.wrap ((IntKind.u64.wrap (↑(BitVec.ofInt IntKind.u64.bits c10|||BitVec.ofInt IntKind.u64.bits (IntKind.u64.wrap (IntKind.u64.wrap (↑(a c1.toNat):Int)*(2:Int)^min (Int.toNat (32:Int)) IntKind.u64.bits))).toNat:Int)).fdiv c5))else ay o j)])))) (aa.ag c3 (aa.leaf aj.normal (c2,[((7:Nat),ah.mk true true 1 l fun j↦if(j==c7)=true then int IntKind.u32 (IntKind.u32.wrap (c10.fdiv c5))else ay o j)]))))) (aa.leaf (aj.exit 0) ([c6,c11,c9,int IntKind.i64 c8],[((7:Nat),ah.mk true true 1 l fun a↦int IntKind.u32 (↑(o a):Int))]))):=by kernel_rfl
theorem VT {n l i:Nat} {a o:Nat→Nat}:cm T eu [] 60 nZ (behind (au nZ) [1,1,1,1,0,1]) ⟨aA me (vl a l n i 7),cR 7 l o,8⟩=
  some (aa.ag [dB l fun i↦ay o (i+0),l<2^40] (aa.leaf aj.ret [mag (val l fun i↦numOf (ay o (i+0)))])):=by kernel_rfl
theorem CM {c:Ctx} (h0:∀nx k x,c.k0 k=some x→k<nx):c.k0=aW:=by
 funext k
 cases hk:c.k0 k with
 |none=>rfl
 |some x=>have:=h0 0 k x hk;omega
theorem Nb {o:Nat→Nat} {l:Nat} {v:Int} {x:Nat} (hv:v=(x:Nat)) {j:Nat} (hj:j<l+1):(if j<l then ay o j else nth [.int .u32 v] (.int .u32 0) (j-l))=ay (bU o l x) j:=by
 by_cases h:j<l
 ·rw[if_pos h];unfold ay;rw[fm (by omega)]
 ·have:j=l:=by omega
  subst this
  rw[if_neg h,hv]
  simp[nth,ay,jM]
theorem afu {A n:Nat} (hA:nl A<2^39) (hn:n<2^43) (K:Nat):aB P xp K [.mag A,.int .i64 n] [] (aK (.mag (A*2^n)) []):=by
 refine iq hT afU rfl (of_decide_eq_true (by kernel_rfl)) rfl (fun _ c0 h0=>?_) K []
 have hk0:=CM h0
 refine aq.hole [1,1,1,0,1] (by kernel_rfl) (aD.bf hT eA hm 60 qU Rp (by kernel_rfl) ?_)
 have hw:IntKind.i64.wrap ((n:Int).tdiv 32)=((n/32:Nat):Int):=by
  rw[show(n:Int).tdiv 32=((n/32:Nat):Int)from(Int.ofNat_tdiv n 32).symm]
  exact ef rfl (by omega)
 have hmd:(n:Int).tmod 32=((n%32:Nat):Int):=(Int.ofNat_tmod n 32).symm
 rw[hw]
 obtain⟨k,hk⟩:∃k,k=n/32:=⟨_,rfl⟩
 obtain⟨s,hs⟩:∃s,s=n%32:=⟨_,rfl⟩
 rw[←hs]at hmd
 rw[←hk]
 simp only[aa.all,ax,Int.toNat_natCast]
 refine⟨by omega,fun s' hv=>bY ?_⟩
 refine aq.g8 (i:=0) (y:=JT) (by kernel_rfl) (fun p:Nat×Nat×(Nat→Nat)=>⟨aA qU (Bz A n (k+p.1) p.2.1 p.1 7),cR 7 (k+p.1) p.2.2,8⟩)
  (fun p=>p.1≤nl A∧p.2.1<2^s∧(∀j,j<k+p.1→p.2.2 j<2^32)∧val (k+p.1) p.2.2+p.2.1*2^(32*(k+p.1))=val p.1 (az A)*2^(32*k)*2^s)
  (fun p=>nl A-p.1) (0,0,fun _=>0)
  (cX [(7,12288)] hv hk0 rfl ⟨⟨rfl,aI rfl⟩,⟨rfl,aI rfl⟩,⟨rfl,cw rfl rfl rfl⟩,⟨rfl,aI rfl⟩,⟨rfl,aI rfl⟩,trivial⟩ ⟨⟨_,_,rfl,rfl,e9 rfl fun j _=>rfl⟩,trivial⟩)
  ⟨by simp,Nat.two_pow_pos s,fun _ _=>by simp,?_⟩ ?_
 ·simp only
  rw[val_zero fun _ _=>rfl]
  simp[val]
 rintro⟨i,c,o⟩ ⟨hi,hc,ho,hval⟩
 simp only at hi hc ho hval
 have hs32:s<32:=by omega
 have h31:2^s≤2^31:=Nat.pow_le_pow_right (by omega) (by omega)
 have hzi:=de (N:=A) (i:=i)
 refine aq.bf hT eA hm 60 qU ah3 (by kernel_rfl) ?_
 rw[hmd]
 have hor:=My hs32 hzi hc
 obtain⟨b1,b2⟩:=QE hs32 hzi hc
 simp only[aa.all,ax,decide_eq_true_eq,decide_eq_false_iff_not,Int.toNat_natCast,Nat.add_zero]at hor ⊢
 rw[hor]
 refine⟨fun hb=>⟨⟨by omega,by omega,by omega⟩,⟨by omega,by omega⟩,by omega,fun s' hv=>⟨(i+1,(c+az A i*2^s)/4294967296,bU o (k+i) ((c+az A i*2^s)%4294967296)),?_,⟨by simp only;omega,b2,fun j hj=>?_,?_⟩,by simp only;omega⟩⟩,fun hb s' hv=>eV ?_⟩
 ·refine cX (vs:=Bz A n (k+(i+1)) ((c+az A i*2^s)/4294967296) (i+1) 7) (ps:=cR 7 (k+(i+1)) (bU o (k+i) ((c+az A i*2^s)%4294967296))) [(7,77832)] hv hk0 rfl ⟨⟨rfl,aI rfl⟩,⟨rfl,aI rfl⟩,⟨rfl,cw rfl rfl rfl⟩,⟨rfl,fN ?_⟩,⟨rfl,fN ?_⟩,trivial⟩
   ⟨⟨_,_,rfl,rfl,e9 rfl fun j hj=>Nb (by rw[jr]) (by omega)⟩,trivial⟩
  ·rw[kB];omega
  ·rw[wrap_i64 (by omega) (by omega)];omega
 ·simp only at hj ⊢
  unfold bU
  split
  ·omega
  ·exact ho j (by omega)
 ·simp only
  have:=NZ (x:=az A i) hval
  rw[show k+(i+1)=(k+i)+1 by omega,qO,gz,this,val]
  congr 1
  rw[Nat.add_mul,Nat.mul_assoc,←Nat.pow_add,show 32*i+32*k=32*(k+i) by omega]
 ·have hin:i=nl A:=by omega
  show aD P c0 nv.ntmps (behind (au nv) [1,1,1,0,1]) s' _
  refine aD.jz hT eA hm 60 hv (h0 _) rfl (gx (by omega)) akA (by kernel_rfl) (by kernel_rfl) ?_
  simp only[aa.all,ax,Nat.add_zero]
  have ho':∀j,j<k+i+1→bU o (k+i) c j<2^32:=fun j hj=>by
   unfold bU
   split
   ·omega
   ·exact ho j (by omega)
  have e:∀j,j<k+i+1→(if j<k+i then ay o j else nth [.int .u32 (IntKind.u32.wrap (c:Int))] (.int .u32 0) (j-(k+i)))=ay (bU o (k+i) c) j:=fun j hj=>Nb (wrap_u32 (by omega) (by omega)) hj
  refine⟨⟨by omega,by omega,fun j hj=>?_,by omega⟩,dc (congrArg AV.mag ?_)⟩
  ·exact⟨_,ho' j hj,e j hj⟩
  ·rw[val_congr (y:=bU o (k+i) c) fun j hj=>(congrArg numOf (e j hj)).trans IE,qO,hval,hin,fJ,Nat.mul_assoc,←Nat.pow_add]
   congr 2
   omega
def Lc:Spec:=bC fun l=>match l with
 |[a,.int .i64 n]=>match iD a with
  |some A=>some (aK (.mag (A*2^n.toNat)) [nl A<2^39,0≤n,n<2^43])
  |none=>none
 |_=>none
theorem Fw {f:FuncId} {g:Nat→Int→AV} {l:Nat→List Prop} {m:Int} (h:∀{A n:Nat},ax (l A)→(n:Int)<m→∀K,aB P f K [.mag A,.int .i64 n] [] (aK (g A n) [])):∀K args pre r,bC (fun a=>match a with
 |[a,.int .i64 n]=>match iD a with
  |some A=>some (aK (g A n) (l A++[0≤n,n<m]))
  |none=>none
 |_=>none) K args pre=some r→aB P f K args pre r:=by
 refine bV fun K args r hk hs _=>?_
 split at hs
 ·split at hs
  ·rename_i A hA
   simp only[Option.some.injEq]at hs
   subst hs
   intro need
   obtain⟨h1,h2,h3⟩:=dG.1 need
   rename_i n _
   obtain⟨n,rfl⟩:=Int.eq_ofNat_of_zero_le h2
   exact gb (h h1 h3 K) hk ⟨kU hA,.refl _,trivial⟩ [] trivial
  ·simp at hs
 ·simp at hs
theorem RI:∀K args pre r,Lc K args pre=some r→aB P xp K args pre r:=
 Fw (g:=fun A n=>.mag (A*2^n.toNat)) (l:=fun A=>[nl A<2^39]) (m:=2^43) fun {A n} h hn K=>by
  have:=afu (A:=A) (n:=n) h (by omega) K
  simpa using this
theorem SA {A n:Nat} (hA:nl A<2^40) (hn:n<2^40) (K:Nat):aB P v9 K [.mag A,.int .i64 n] [] (aK (.mag (A*2^(32*n))) []):=by
 refine bJ hT eA hm abY rfl (of_decide_eq_true (by kernel_rfl)) rfl 60 abo (fun _=>?_) K []
 simp only[aa.all,ax,beq_iff_eq,beq_eq_false_iff_ne,ne_eq,Int.toNat_natCast,Nat.add_zero]
 refine⟨fun hb=>?_,fun hb=>⟨⟨by omega,by omega⟩,?_⟩⟩
 ·have:A=0:=iJ.1 (by omega)
  subst this
  rw[Nat.zero_mul];exact jV
 ·have hA0:A≠0:=fun h=>hb (by rw[h];rfl)
  have hlt:A*2^(32*n)<2^(32*(n+nl A)):=by
   rw[show 32*(n+nl A)=32*nl A+32*n by omega,Nat.pow_add]
   exact(Nat.mul_lt_mul_right (Nat.two_pow_pos _)).2 mQ
  have hval:A*2^(32*n)=val (n+nl A) (fun i=>if i<n then 0 else az A (i-n)):=by
   rw[val_add,val_zero fun i hi=>if_pos hi,Nat.zero_add]
   congr 1
   have:=fJ (N:=A)
   conv=>lhs;rw[←this]
   exact val_congr fun i hi=>by rw[if_neg (by omega)];congr 1;omega
  have hz:∀i,i<n+nl A→(if i<n then 0 else az A (i-n))<2^32:=fun i _=>by
   split
   ·omega
   ·exact de
  refine kG ?_ fun i hi=>?_
  ·rw[hval]
   refine Cf hz (.inr ?_)
   have hp:=fY.2 hA0
   rw[if_neg (by omega),show n+nl A-1-n=nl A-1 by omega]
   exact Cm hA0
  ·rw[hval,pn hz hi]
   split<;>rfl
def ND:Spec:=bC fun l=>match l with
 |[a,.int .i64 n]=>match iD a with
  |some A=>some (aK (.mag (A*2^(32*n.toNat))) [nl A<2^40,0≤n,n<2^40])
  |none=>none
 |_=>none
theorem agX:∀K args pre r,ND K args pre=some r→aB P v9 K args pre r:=
 Fw (g:=fun A n=>.mag (A*2^(32*n.toNat))) (l:=fun A=>[nl A<2^40]) (m:=2^40) fun {A n} h hn K=>by
  have:=SA (A:=A) (n:=n) h (by omega) K
  simpa using this
theorem aga {A b:Nat} (hA:nl A<2^39) (hb:b<2^32) (K:Nat):aB P wk K [.mag A,.int .u32 b] [] (aK (.mag (A*b)) []):=by
 refine bJ hT Um hm aem rfl (of_decide_eq_true (by kernel_rfl)) rfl 60 X9 (fun _=>?_) K []
 have e:IntKind.u64.wrap (b:Int)=(b:Int):=bN (by omega) (by omega)
 rw[e]
 simp only[aa.all,ax,Int.toNat_natCast]
 have:nl b≤1:=cT.2 (by omega)
 exact⟨⟨by omega,hA,by omega⟩,.refl _⟩
def O0:Spec:=bC fun l=>match l with
 |[a,.int .u32 b]=>match iD a with
  |some A=>some (aK (.mag (A*b.toNat)) [nl A<2^39,0≤b,b<2^32])
  |none=>none
 |_=>none
theorem abW:∀K args pre r,O0 K args pre=some r→aB P wk K args pre r:=by
 refine bV fun K args r hk hs _=>?_
 split at hs
 ·rename_i a b
  split at hs
  ·rename_i A hA
   simp only[Option.some.injEq]at hs
   subst hs
   intro need
   obtain⟨h1,h2,h3⟩:nl A<2^39∧0≤b∧b<2^32:=need
   obtain⟨b,rfl⟩:=Int.eq_ofNat_of_zero_le h2
   exact gb (aga h1 (by omega) K) hk ⟨kU hA,.refl _,trivial⟩ [] trivial
  ·simp at hs
 ·simp at hs
theorem aiO {A k i:Nat}:az A (i+k)=az (A/2^(32*k)) i:=by
 unfold az
 rw[Nat.div_div_eq_div_mul,←Nat.pow_add]
 congr 3
 omega
theorem aj9 {a b s:Nat} (ha:a<2^32) (hb:b<2^32) (hs:s<32):(b*4294967296+a)/2^s%4294967296=a/2^s+b%2^s*2^(32-s):=by
 have:=A5 (R:=b*4294967296+a) (k:=0) hs
 have l0:az (b*4294967296+a) 0=a:=by unfold az;simp;omega
 have l1:az (b*4294967296+a) (0+1)=b:=by unfold az;simp;omega
 rw[l0,l1]at this
 rw[←this]
 unfold az
 simp
theorem aej {A n:Nat} (hA:nl A<2^40) (hn:n<2^62) (K:Nat):aB P xM K [.mag A,.int .i64 n] [] (aK (.mag (A/2^n)) []):=by
 refine iq hT ahv rfl (of_decide_eq_true (by kernel_rfl)) rfl (fun _ c0 h0=>?_) K []
 have hk0:=CM h0
 refine aq.hole [1,1,1,1,0,1] (by kernel_rfl) (aD.bf hT eA hm 60 (me++[4]) aeY (by kernel_rfl) ?_)
 have hw:IntKind.i64.wrap ((n:Int).tdiv 32)=((n/32:Nat):Int):=by
  rw[show(n:Int).tdiv 32=((n/32:Nat):Int)from(Int.ofNat_tdiv n 32).symm]
  exact ef rfl (by omega)
 have hmd:(n:Int).tmod 32=((n%32:Nat):Int):=(Int.ofNat_tmod n 32).symm
 rw[hw]
 obtain⟨k,hk⟩:∃k,k=n/32:=⟨_,rfl⟩
 obtain⟨s,hs⟩:∃s,s=n%32:=⟨_,rfl⟩
 rw[←hs]at hmd
 rw[←hk]
 have hnk:2^n=2^(32*k)*2^s:=by rw[←Nat.pow_add];congr 1;omega
 simp only[aa.all,ax,decide_eq_true_eq,decide_eq_false_iff_not,Int.toNat_natCast]
 refine⟨by omega,fun hb s' hv=>eW (.inl ?_),fun hb=>⟨⟨by omega,by omega⟩,by omega,fun s' hv=>bY ?_⟩⟩
 ·refine fZ (us:=[.nil]) (.inr rfl) hv (by kernel_rfl) ?_
  have:A/2^n=0:=by
   rw[hnk,←Nat.div_div_eq_div_mul,Nat.div_eq_of_lt (cT.1 (show nl A≤k by omega)),Nat.zero_div]
  rw[this];exact jV
 have hkA:k<nl A:=by omega
 have hv:=hH (ls:=me) (l:=[4]) (vs:=[.ak 1 (nl A-k) fun i=>.int .u32 (az A (i+k):Nat),.int .i64 n,.own 53248 1 0 (nl A-k),.int .i64 0]) hv rfl rfl
 obtain⟨R,hR⟩:∃R,R=A/2^(32*k):=⟨_,rfl⟩
 obtain⟨l,hl⟩:∃l,l=nl A-k:=⟨_,rfl⟩
 have hRl:R<2^(32*l):=by
  rw[hR,Nat.div_lt_iff_lt_mul (Nat.two_pow_pos _),←Nat.pow_add,←Nat.mul_add]
  exact cT.1 (show nl A≤l+k by omega)
 have hfun:(fun i=>AV.int .u32 (az A (i+k):Nat))=ay (az R):=by
  funext i;unfold ay;rw[aiO,hR]
 rw[hfun,←hl]at hv
 refine aq.g8 (i:=0) (y:=NK) (by kernel_rfl) (fun p:Nat×(Nat→Nat)=>⟨aA me (vl (az R) l n p.1 7),cR 7 l p.2,8⟩)
  (fun p=>p.1≤l∧∀j,j<p.1→p.2 j=az (R/2^s) j)
  (fun p=>l-p.1) (0,fun _=>0)
  (cX [(7,53248)] hv hk0 rfl ⟨⟨rfl,aI rfl⟩,⟨rfl,aI rfl⟩,⟨rfl,cw rfl rfl rfl⟩,⟨rfl,aI rfl⟩,trivial⟩ ⟨⟨_,_,rfl,rfl,e9 rfl fun j _=>rfl⟩,trivial⟩)
  ⟨by simp,fun j hj=>by simp only at hj;omega⟩ ?_
 rintro⟨i,o⟩ ⟨hi,ho⟩
 simp only at hi ho
 have hs32:s<32:=by omega
 have ha:=de (N:=R) (i:=i)
 have hb':=de (N:=R) (i:=i+1)
 refine aq.bf hT eA hm 60 me akr (by kernel_rfl) ?_
 have w1:IntKind.i64.wrap ((i:Int)+1)=if i<l then((i+1:Nat):Int)else IntKind.i64.wrap ((i:Int)+1):=by
  split
  ·exact ef (by omega) (by omega)
  ·rfl
 simp only[aa.all,ax,decide_eq_true_eq,decide_eq_false_iff_not,Int.toNat_natCast,Nat.add_zero,beq_iff_eq]
 have next:∀{s':aF} {v:Int},i<l→v=((az (R/2^s) i:Nat):Int)→aX me s'=some (vl (az R) l n (i+1) 7,[(7,⟨true,true,1,l,fun j=>if j=i then .int .u32 v else ay o j⟩)])→
   ∃p:Nat×(Nat→Nat),(∃ρ,Le c0 ρ s' ⟨aA me (vl (az R) l n p.1 7),cR 7 l p.2,8⟩)∧(p.1≤l∧∀j,j<p.1→p.2 j=az (R/2^s) j)∧l-p.1<l-i:=by
  intro s' v hil hv1 hv
  refine⟨(i+1,bU o i (az (R/2^s) i)),mM (dm hv rfl ?_) (h0 _) rfl (gx (by omega)),⟨by simp only;omega,fun j hj=>?_⟩,by simp only;omega⟩
  ·simp only[cR]
   congr 3
   funext j
   exact gu hv1 j
  ·simp only at hj ⊢
   unfold bU
   split
   ·rename_i h;rw[h]
   ·exact ho j (by omega)
 refine⟨fun hb=>?_,fun hb s' hv=>eV ?_⟩
 ·have hil:i<l:=by omega
  rw[if_pos hil]at w1
  rw[w1,hmd]
  have hf:∀x:Nat,(x:Int).fdiv (2^min ((s:Int).toNat) IntKind.u64.bits)=((x/2^s:Nat):Int):=fun x=>by
   have:min ((s:Int).toNat) IntKind.u64.bits=s:=by
    have:IntKind.u64.bits=64:=rfl
    omega
   rw[this,Int.fdiv_eq_ediv_of_nonneg _ (by exact Int.le_of_lt (Int.pow_pos (by decide)))]
   simp
  have wa:IntKind.u64.wrap (az R i:Int)=((az R i:Nat):Int):=bN (by omega) (by omega)
  have hor:IntKind.u64.wrap ((BitVec.ofInt IntKind.u64.bits (IntKind.u64.wrap (az R i:Int))|||BitVec.ofInt IntKind.u64.bits (IntKind.u64.wrap (IntKind.u64.wrap (az R (i+1):Int)*2^min (Int.toNat 32) IntKind.u64.bits))).toNat:Int)=((az R (i+1)*4294967296+az R i:Nat):Int):=by
   rw[BitVec.or_comm,bN (x:=(az R (i+1):Int)) (by omega) (by omega)]
   exact tq hb' ha
  simp only[Int.toNat_natCast]
  refine⟨by omega,fun h1=>⟨⟨by omega,by omega⟩,⟨by omega,by omega,by omega,by omega⟩,fun s' hv=>next hil ?_ hv⟩,fun h1=>⟨⟨by omega,by omega,by omega,by omega⟩,fun s' hv=>next hil ?_ hv⟩⟩
  ·rw[hor]
   have:=hf (az R (i+1)*4294967296+az R i)
   simp only[Int.toNat_natCast]at this
   rw[this,jr,aj9 ha hb' hs32,A5 hs32]
  ·rw[wa]
   have:=hf (az R i)
   simp only[Int.toNat_natCast]at this
   have hd:=Nat.div_le_self (az R i) (2^s)
   rw[this,jr,A5 hs32,iV (A:=R) (i:=i+1) (cT.2 (Nat.lt_of_lt_of_le hRl (Nat.pow_le_pow_right (by omega) (by omega)))),Nat.zero_mod,Nat.zero_mul,Nat.add_zero,Nat.mod_eq_of_lt (by omega)]
 ·have hil:i=l:=by omega
  show aD P c0 nZ.ntmps (behind (au nZ) [1,1,1,1,0,1]) s' _
  refine aD.jz hT eA hm 60 hv (h0 _) rfl (gx (by omega)) VT (by kernel_rfl) (by kernel_rfl) ?_
  simp only[aa.all,ax,Nat.add_zero,jn]
  refine⟨⟨fR fun j hj=>?_,by omega⟩,dc (congrArg AV.mag ?_)⟩
  ·rw[ho j (by omega)];exact de
  ·rw[val_congr (y:=az (R/2^s)) fun j hj=>ho j (by omega),oQ (Nat.lt_of_le_of_lt (Nat.div_le_self _ _) hRl),hR,hnk,Nat.div_div_eq_div_mul]
def IY:Spec:=bC fun l=>match l with
 |[a,.int .i64 n]=>match iD a with
  |some A=>some (aK (.mag (A/2^n.toNat)) [nl A<2^40,0≤n,n<2^62])
  |none=>none
 |_=>none
theorem XB:∀K args pre r,IY K args pre=some r→aB P xM K args pre r:=
 Fw (g:=fun A n=>.mag (A/2^n.toNat)) (l:=fun A=>[nl A<2^40]) (m:=2^62) fun {A n} h hn K=>by
  have:=aej (A:=A) (n:=n) h (by omega) K
  simpa using this
end Go.Am.B
