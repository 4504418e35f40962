/- bernstein.copied, whose list may be written to; bernstein.ToPowers. -/
import Derived.Test.YtolopdkjjlfgjaaGreatY7
import Derived.Test.YtolopdkjjlfgjaaGreatZ2
set_option linter.unusedVariables false
noncomputable section
namespace Go.Am.B
open Go Go.Am.N AV ag au IntKind Proofs.Tryz
def af:Nat:=68719476736
def cU (n:Nat) (k:Nat->Rat):Prop:=∀i,i<n->Sz (k i) af
abbrev yW:Code:=aK f157
abbrev A0:List Nat:=[3,9,10,11]
abbrev G4 (n:Nat) (k:Nat->Rat) (s i:Nat):List AV:=[.own 0 3 0 n,bG k n s,.int .i64 n,.int .i64 i]
def Od:Spec:=sN fun K l=>match l with
 |[v]=>match(kL af).read v with
  |some ((n,k),q)=>some ⟨.own K 3 0 n,[(K,cI n k af)],q++[n<2^40,cU n k]⟩
  |none=>none
 |_=>none
def u5:bE:=zG::(157,Od)::(158,Hl)::iC
abbrev Bf:Code:=aK f115
abbrev x9:Code:=part Bf [1,1,1,0,1,0,0]
abbrev zu:Code:=part x9 [1,1,0,0]
abbrev tU:List Nat:=[0,3,4,17,18,19]
abbrev De (m:Nat) (p:Nat->Rat) (k:Nat):List AV:=[bG p (m+1) af,.own 0 3 0 (m+1-k),.own 1 3 0 k,bG (fun i=>((bn m i:Int):Rat)) (m+1) 64,.int .i64 (m+1:Nat),.int .i64 k]
abbrev l8 (m:Nat) (d x:Nat->Rat) (k:Nat):aI:=[(1,cI k x af),(0,cI (m+1) d af)]
abbrev Ar:List Nat:=[0,3,4,17,18,19,38,39]
abbrev Hu (m:Nat) (p:Nat->Rat) (k i:Nat):List AV:=[bG p (m+1) af,.own 0 3 0 (m+1-k),.own 1 3 0 (k+1),bG (fun i=>((bn m i:Int):Rat)) (m+1) 64,.int .i64 (m+1:Nat),.int .i64 k,.int .i64 (m-k:Nat),.int .i64 i]
theorem Ra:bu 115 f115:=bC func115
theorem ajN {m:Nat} {p:Nat->Rat}:aL T u5 [] 60 tU (before Bf [1,1,1,0,1]) ⟨aZ 0 [bG p (m+1) af],[],0⟩=
  let a:=m+1;let e:=(↑a:Int);let d:=e-1;let b:=if d<0 then(0:Int)else d;some (aj [cL (fun i=>rat (p i) af) a af,a<2^40,cU a fun i=>aN (rat (p i) af)] (aj [(0:Int)<=0/\(0:Int)<=e/\e<=2^47/\e*(↑(56:Nat):Int)<=2^47] (aj [-(2:Int)^63<=d/\d<2^63,(0:Int)<=b,b<=40] (leaf normal ([aq 3 a fun i=>rat (p i) af,own 8192 3 0 a,own 24576 3 0 0,aq 3 (b.toNat+1) fun i=>rat (↑(↑(bn b.toNat i):Int):Rat) 64,int i64 (↑(b.toNat+1):Int),int i64 0],[(24576,aA.mk true true 3 0 fun x=>rat 0 1),(8192,aA.mk true true 3 a fun i=>rat (aN (rat (p i) af)) af)]))))):=ah
theorem UB {m k:Nat} {p d x:Nat->Rat}:aL T u5 [20] 60 tU (before x9 [1,1,0]) ⟨aH tU (De m p k),l8 m d x k,2⟩=
  let a:=m+1;let b:List AV×aI:=([aq 3 a fun i=>rat (p i) af,own 0 3 0 (a-k),own 1 3 0 k,aq 3 a fun i=>rat (↑(↑(bn m i):Int):Rat) 64,int i64 (↑a:Int),int i64 (↑k:Int)],[(1,aA.mk true true 3 k fun i=>rat (x i) af),(0,aA.mk true true 3 a fun i=>rat (d i) af)]);some (fork (decide ((↑k:Int)<(↑a:Int))) (leaf normal b) (leaf (exit 0) b)):=ah
theorem Sf {m k:Nat} {p d x:Nat->Rat}:aL T u5 [200027] 60 Ar (before zu [1,1,1,0,1]) ⟨aH tU (De m p k),l8 m d x k,2⟩=
  let b:=(↑k:Int);let f:=Int.toNat (0:Int);let a:=m+1;let e:=(↑(a-k):Int)-1;some (aj [(0:Int)<=b/\b.toNat<a,(0:Nat)<1] (aj [(b==(↑a:Int))=false] (aj [(0:Nat)<1,(0:Int)<=0/\f<a-k,f+0<a,(64:Nat)<2^42,af<2^42,(1:Nat)*3<=2^24,(k+1)*((56:Nat)+1)*2<=2^47] (aj [-(2:Int)^63<=e/\e<2^63] (leaf normal ([aq 3 a fun i=>rat (p i) af,own 0 3 0 (a-k),own 69634 3 0 (k+1),aq 3 a fun i=>rat (↑(↑(bn m i):Int):Rat) 64,int i64 (↑a:Int),int i64 b,int i64 e,int i64 0],[(69634,aA.mk true true 3 (k+1) fun i=>if i<k then rat (x i) af else nth [rat ((↑(↑(bn m b.toNat):Int):Rat)*d (f+0)) ((64:Nat)+af)] (rat 0 1) (i-k+0)),(0,aA.mk true true 3 a fun i=>rat (d i) af)])))))):=ah
theorem adQ {m k i:Nat} {p d x:Nat->Rat}:aL T u5 [40] 60 Ar [part zu [1,1,1,0,1,0,0]] ⟨aH Ar (Hu m p k i),l8 m d x (k+1),2⟩=
  let l:=af<2^42;let e:=(↑(m-k):Int);let t:=own 1 3 0 (k+1);let f:=(↑i:Int);let o:=(2:Int)^63;let q:Nat×aA:=(1,aA.mk true true 3 (k+1) fun i=>rat (x i) af);let a:=m+1;let h:=(0:Int)<=f/\f.toNat<a-k;let g:=own 0 3 0 (a-k);let s:=aq 3 a fun i=>rat (p i) af;let r:=aq 3 a fun i=>rat (↑(↑(bn m i):Int):Rat) 64;let n:=f.toNat+0;let b:=f+1;some (fork (decide (f<e)) (aj [-o<=b/\b<o,(0:Int)<=b/\b.toNat<a-k,b.toNat+0<a,h,n<a,l,l,h,n<a] (aj [-o<=b/\b<o] (leaf normal ([s,g,t,r,int i64 (↑a:Int),int i64 (↑k:Int),int i64 e,int i64 b],[q,(0,aA.mk true true 3 a fun j=>rat (bif j==n then d (b.toNat+0)-d n else d j) (bif j==n then af+af+1 else af))])))) (leaf (exit 2) ([s,g,t,r,int i64 (↑a:Int),int i64 (↑k:Int),int i64 e,int i64 f],[q,(0,aA.mk true true 3 a fun i=>rat (d i) af)]))):=ah
theorem air {m k i:Nat} {p d x:Nat->Rat}:aL T u5 [] 60 tU (behind zu [1,1,1,0,1]++[part x9 [1,1,1]]) ⟨aH Ar (Hu m p k i),l8 m d x (k+1),2⟩=
  let f:=(↑k:Int)+1;let b:=m+1;let e:=(2:Int)^63;let a:=(↑(b-k):Int)-1;some (aj [-e<=a/\a<e,(0:Int)<=0/\(0:Int)<=a/\a<=a/\a<=(↑(b-k):Int)] (aj [-e<=f/\f<e] (leaf normal ([aq 3 b fun i=>rat (p i) af,own 0 3 0 (a.toNat-Int.toNat (0:Int)),own 1 3 0 (k+1),aq 3 b fun i=>rat (↑(↑(bn m i):Int):Rat) 64,int i64 (↑b:Int),int i64 f],[(1,aA.mk true true 3 (k+1) fun i=>rat (x i) af),(0,aA.mk true true 3 b fun i=>rat (d i) af)])))):=ah
theorem ac2 {m k:Nat} {p d x:Nat->Rat}:dc T u5 [] 60 f115 [part Bf [1,1,1,1]] ⟨aH tU (De m p k),l8 m d x k,2⟩=
  some (leaf ret [aq 3 k fun i=>rat (x (i+0)) af]):=ah
theorem Q2:bu 157 f157:=bC func157
theorem TT {n s:Nat} {k:Nat->Rat}:aL T GZ [] 60 A0 (before yW [1,1,0,1]) ⟨aZ 0 [bG k n s],[],0⟩=
  let a:=(↑n:Int);some (aj [(0:Int)<=a/\a<=a/\a<=2^47/\a*(↑(56:Nat):Int)<=2^47] (leaf normal ([own 12288 3 0 a.toNat,aq 3 n fun i=>rat (k i) s,int i64 a,int i64 0],[(12288,aA.mk true true 3 a.toNat fun x=>rat 0 1)]))):=ah
theorem aip {n s i:Nat} {k x:Nat->Rat}:aL T GZ [12] 60 A0 [part yW [1,1,0,1,0,0]] ⟨aH A0 (G4 n k s i),[(0,cI n x af)],1⟩=
  let e:=(↑n:Int);let g:=own 0 3 0 n;let f:=aq 3 n fun i=>rat (k i) s;let a:=(↑i:Int);let d:=a+1;let h:=(0:Int)<=a/\a.toNat<n;let b:=a.toNat+0;some (fork (decide (a<e)) (aj [h,(0:Nat)<1] (aj [(0:Nat)<1,s<2^42,(1:Nat)<2^42,h,b<n] (aj [-(2:Int)^63<=d/\d<2^63] (leaf normal ([g,f,int i64 e,int i64 d],[(0,aA.mk true true 3 n fun j=>rat (bif j==b then k a.toNat+0 else x j) (bif j==b then s+1+1 else af))]))))) (leaf (exit 0) ([g,f,int i64 e,int i64 a],[(0,aA.mk true true 3 n fun i=>rat (x i) af)]))):=ah
theorem TZ {n s i:Nat} {k x:Nat->Rat}:aL T GZ [] 60 [2] [part yW [1,1,1]] ⟨aH A0 (G4 n k s i),[(0,cI n x af)],1⟩=
  some (leaf ret ([own 0 3 0 n],[(0,aA.mk true true 3 n fun i=>rat (x i) af)])):=ah
theorem cP:af=2^36:=rfl
theorem nS {rl:List (Nat×Nat)} {i j zt z w:Nat} {t:Rat} {x y:Nat->Rat} (h1:bf (.rat t zt) (.rat (y i) w)) (h2:j≠i->bf (.rat (x j) z) (.rat (y j) w)):oy rl (.rat (bif j==i then t else x j) (bif j==i then zt else z)) (.rat (y j) w):=by
 refine .inr ⟨rfl,?_⟩
 by_cases h:j=i
 ·subst h;rw[beq_self_eq_true];exact h1
 ·rw[show(j==i)=false by simpa using h];exact h2 h
theorem F8 {α:Type} {i j:Nat} {a b:α} (h:j≠i):(if j<i+1 then a else b)=if j<i then a else b:=by
 by_cases h1:j<i
 ·rw[if_pos h1,if_pos aa]
 ·rw[if_neg h1,if_neg aa]
theorem ahr {args:List AV} {n:Nat} {k:Nat->Rat} {l:List Prop} (ha:aC l->iF (bD []) args [bG k n af]) (hn:aC l->n<2^40/\cU n k) (K:Nat):aW P 157 K args [] ⟨pz [.own K 3 0 n],[(K,cI n k af)],l⟩:=by
 refine DP hT Q2 ha bh fun need c hk=>?_
 obtain⟨hn,hz⟩:=hn need
 have hW:=cP
 refine az.qZ hT qP hm [1,1,0,1] (i:=0) (y:=part yW [1,1,0,1,0,0]) (z:=part yW [1,1,1]) ah ah ah Q2.dst hk (f1:=[]) (f2:=[12]) 60 A0 1 (fun i:Nat=>G4 n k af i) (fun i=>[(0,cI n (fun j=>if j<i then k j else 0) af)])
  (fun i=>i<=n) (fun i=>i=n) (fun i=>n-i) (fun _=>False) ⟨_,TT,?_⟩ (fun i hi=>⟨_,aip,?_⟩) (fun i hi=>?_) (fun _ _ h=>h.elim)
 ·simp only[ag.all,aC,bS]
  exact⟨aa,0,Nat.zero_le _,[(0,12288)],rfl,rfl,rfl,bF rfl rfl rfl (fun i hi=>.inr ⟨rfl,dG (if_neg (Nat.not_lt_zero i)).symm aa⟩) trivial⟩
 ·simp only[ag.all,aC,bI,bR,bS,Nat.add_zero]
  refine⟨fun h2=>⟨aa,aa,aa,i+1,aa,by dsimp only;omega,[(0,0)],rfl,rfl,rfl,bF rfl rfl rfl (fun j hj=>?_) trivial⟩,fun h2=>⟨rfl,i,aa,[(0,0)],rfl,rfl,rfl,bF rfl rfl rfl (fun j hj=>bT rfl rfl) trivial⟩⟩
  exact nS (x:=fun j=>if j<i then k j else 0) (y:=fun j=>if j<i+1 then k j else 0) (eM ((Rat.add_zero _).trans (if_pos (Nat.lt_succ_self i)).symm) (by show Sz (if i<i+1 then _ else _) _;rw[if_pos (Nat.lt_succ_self i)];exact hz i aa)) fun hj=>dG (F8 hj).symm aX
 ·subst hi
  refine az.bU hT qP hm 60 [2] TZ ah fun s' hs'=>⟨.inr rfl,[2],_,[.own 0 3 0 i],_,0,_,hs',ah,⟨⟨rfl,eR (by simp[bD,look]) rfl rfl⟩,trivial⟩,rfl,iQ rfl fun j hj=>?_⟩
  rw[if_pos hj];exact fR rfl
theorem TO:bp P Od 157:=by
 refine xC fun K args r hk hs=>?_
 split at hs
 ·rename_i v
  split at hs
  ·rename_i n k q hv
   simp only[aB]at hs
   subst hs
   exact ahr (fun hn=>Ef hk (by cases v<;>first|rfl|simp[kL,tQ]at hv) ⟨(kL af).ok hv (ia.1 hn).1,trivial⟩) (fun hn=>have:=(ia (a:=q) (b:=[n<2^40,cU n k]).1 hn).2;⟨this.1,this.2⟩) K
  ·simp at hs
 ·simp at hs
theorem QM:bY P u5:=iu (aM TO (aM QC iG))
theorem cU.up {n:Nat} {k:Nat->Rat} {i z:Nat} (h:cU n k) (hi:i<n):bf (.rat (k i) z) (.rat (k i) af):=eM rfl (h i hi)
def uJ (n:Nat) (p:Nat->Rat):Prop:=(∀k i,k+i<n->Sz (gr p k i) af)/\cU n (fj n p)
theorem adH {m:Nat} {p:Nat->Rat} (hm1:m<=40) (hz:uJ (m+1) p) (K:Nat):aW P 115 K [bG p (m+1) af] [] (aO (bG (fj (m+1) p) (m+1) af) []):=by
 refine jj (r:=aO (bG (fj (m+1) p) (m+1) af) []) hT Ra rfl bh rfl (fun _ cx h0=>?_) K []
 have hk:=nr h0
 have hW:=cP
 have hd:∀k i,k+i<=m->Sz (gr p k i) af:=fun k i h=>hz.1 k i aa
 refine az.rI hT QM hm (x:=Bf) [1,1,1,0,1] (i:=0) (y:=x9) (z:=part Bf [1,1,1,1]) ah ah ah Ra.dst [1,1,0] (j:=1) (x1:=zu) (zb:=part x9 [1,1,1]) ah ah ah [1,1,1,0,1] (i2:=2) (y2:=part zu [1,1,1,0,1,0,0]) ah ah rfl hk
  (f1:=[]) (f2:=[20]) (f3:=[200027]) (f4:=[40]) (f5:=[]) 60 tU Ar 2 2 (fun k:Nat=>De m p k) (fun k=>l8 m (lD m p k) (fj (m+1) p) k) (fun k=>k<=m+1) (fun k=>k=m+1) (fun k=>m+1-k) (fun k=>k<m+1) (fun _=>False) (fun _=>False)
  (fun k (i:Nat)=>Hu m p k i) (fun k i=>l8 m (jB m p k i) (fj (m+1) p) (k+1)) (fun k i=>i<=m-k) (fun k i=>i=m-k) (fun k i=>m-k-i)
  ⟨_,ajN,?_⟩ (fun k hk=>⟨_,UB,?_⟩) (fun k hk hG=>⟨_,Sf,?_⟩) (fun k hk hG i hi=>⟨_,adQ,?_⟩) (fun k hk hG i hi=>⟨_,air,?_⟩) (fun k hk=>?_) (fun _ _ h=>h.elim) (fun _ _ h=>h.elim)
 ·simp only[ag.all,aC]
  have e1:(if((m+1:Nat):Int)-1<0 then 0 else((m+1:Nat):Int)-1)=(m:Nat):=by rw[if_neg aa];omega
  rw[e1]
  refine⟨⟨eO aX,aa,fun i hi=>hd 0 i aa⟩,aa,aa,0,aa,[(0,8192),(1,24576)],rfl,rfl,rfl,bF rfl rfl rfl (fun i hi=>absurd hi (Nat.not_lt_zero i)) (bF rfl rfl rfl (fun i hi=>bT rfl ?_) trivial)⟩
  show AV.rat (p i) af=AV.rat (lD m p 0 i) af
  unfold lD;rw[Nat.zero_min];rfl
 ·simp only[ag.all,aC,bI,bR]
  exact⟨fun h=>⟨aa,[(0,0),(1,1)],rfl,rfl,rfl,bF rfl rfl rfl (fun i hi=>bT rfl rfl) (bF rfl rfl rfl (fun i hi=>bT rfl rfl) trivial)⟩,fun h=>⟨rfl,k,aa,[(0,0),(1,1)],rfl,rfl,rfl,bF rfl rfl rfl (fun i hi=>bT rfl rfl) (bF rfl rfl rfl (fun i hi=>bT rfl rfl) trivial)⟩⟩
 ·simp only[ag.all,aC,bS,beq_eq_false_iff_ne]
  have e0:(0:Int).toNat=0:=rfl
  refine⟨aa,aa,aa,aa,0,aa,[(0,0),(1,69634)],rfl,?_,rfl,bF rfl rfl rfl (fun i hi=>?_) (bF rfl rfl rfl (fun i hi=>bT rfl ?_) trivial)⟩
  ·rw[show((m+1-k:Nat):Int)-1=(m-k:Nat) by omega];rfl
  ·refine .inr ⟨?_,?_⟩
   ·split
    ·rfl
    ·rw[show i-k+0=0 by omega];rfl
   ·split
    ·exact .refl _
    ·rw[show i-k+0=0 by omega,show i=k by omega]
     exact eM (by rw[B6 aa];rfl) (hz.2 k hG)
  ·show AV.rat (lD m p k i) af=AV.rat (jB m p k 0 i) af
   unfold jB;rw[if_neg (Nat.not_lt_zero i)]
 ·simp only[ag.all,aC,bI,bR,bS,Nat.add_zero]
  have e1:((i:Int)+1).toNat=i+1:=aa
  rw[e1]
  refine⟨fun h=>⟨aa,aa,i+1,aa,by dsimp only;omega,[(0,0),(1,1)],rfl,rfl,rfl,bF rfl rfl rfl (fun j hj=>bT rfl rfl) (bF rfl rfl rfl (fun j hj=>?_) trivial)⟩,fun h=>⟨rfl,i,aa,[(0,0),(1,1)],rfl,rfl,rfl,bF rfl rfl rfl (fun j hj=>bT rfl rfl) (bF rfl rfl rfl (fun j hj=>bT rfl rfl) trivial)⟩⟩
  have h3:=fun j=>P4 (m:=m) (k:=k) (i:=i) (j:=j) (p:=p) aa
  exact nS (x:=jB m p k i) (y:=jB m p k (i+1)) (eM ((if_pos rfl).symm.trans (h3 i)) (by unfold jB;rw[if_pos (Nat.lt_succ_self i)];exact hd _ _ aa)) fun hj=>dG ((if_neg hj).symm.trans (h3 j)) aX
 ·subst hi
  simp only[ag.all,aC]
  refine⟨aa,aa,k+1,aa,by dsimp only;omega,[(0,0),(1,1)],rfl,?_,rfl,bF rfl rfl rfl (fun j hj=>bT rfl rfl) (bF rfl rfl rfl (fun j hj=>bT rfl ?_) trivial)⟩
  ·rw[show(((m+1-k:Nat):Int)-1).toNat-(0:Int).toNat=m+1-(k+1) by omega];rfl
  ·show AV.rat (jB m p k (m-k) j) af=AV.rat (lD m p (k+1) j) af
   rw[NP]
 ·subst hk
  exact az.nR ((aJ.fin hT QM hm 60 ac2 ah (jk fun _ _=>.refl _)).mono fun _ _ h=>.inl h)
def BT:Spec:=ef (kC (kL af) kN) (fun a=>bG (fj a.1.1 a.1.2) a.1.1 af) fun a=>[1<=a.1.1,a.1.1<=41,uJ a.1.1 a.1.2]
theorem ahb:bp P BT 115:=dy fun⟨⟨n,p⟩,_⟩ K hn=>by
 obtain⟨h1,h2,h3⟩:=hn
 simp only at h1 h2 h3
 obtain⟨m,rfl⟩:∃m,n=m+1:=⟨n-1,aa⟩
 exact adH aa h3 K
end Go.Am.B
namespace Go.Am
def g8 (e:Nat) (d:Nat->Rat) (k:Nat) (r:Nat->Rat) (i:Nat):Rat:=if k<=i/\i<k+e+1 then r i-r (k+e)/d e*d (i-k)else r i
def cC (e:Nat) (d a:Nat->Rat) (R:Nat):Nat->Nat->Rat
 |0=>a
 |j+1=>g8 e d (R-1-j) (cC e d a R j)
def ej (e:Nat) (d a:Nat->Rat) (R k:Nat):Rat:=cC e d a R (R-1-k) (k+e)/d e
theorem M8 {e k:Nat} {d r:Nat->Rat} (hd:d e≠0):g8 e d k r (k+e)=0:=by
 unfold g8
 rw[if_pos (by omega),show k+e-k=e by omega,Rat.div_mul_cancel hd,Rat.sub_self]
theorem Zt {e k:Nat} {d r:Nat->Rat} (h:r (k+e)=0):g8 e d k r=r:=by
 funext i
 unfold g8
 split
 ·rw[h,Rat.div_def,Rat.zero_mul,Rat.zero_mul];grind
 ·rfl
section
variable {n e R:Nat} {d a:Nat->Rat}
def gj (n R L:Nat):Nat:=min (n-L) R
theorem Fg (hR:R=n-e) {L:Nat} (hL:L<=n) (hz:∀i,L<=i->i<n->cC e d a R (gj n R L) i=0):∀m,m<=L->(∀i,L-m<=i->i<n->cC e d a R (gj n R L) i=0)->cC e d a R (gj n R (L-m))=cC e d a R (gj n R L)
 |0,_,_=>rfl
 |m+1,hm,h=>by
  have ih:=Fg hR hL hz m (by omega) (fun i h1 h2=>h i (by omega) h2)
  rw[<-ih]
  by_cases h1:n-(L-m)<R
  ·rw[show gj n R (L-(m+1))=n-(L-m)+1 by unfold gj;omega,show gj n R (L-m)=n-(L-m) by unfold gj;omega]
   show g8 e d (R-1-(n-(L-m))) (cC e d a R (n-(L-m)))=_
   refine Zt ?_
   rw[show n-(L-m)=gj n R (L-m) by unfold gj;omega,ih]
   exact h _ (by unfold gj;omega) (by unfold gj;omega)
  ·rw[show gj n R (L-(m+1))=gj n R (L-m) by unfold gj;omega]
structure lF (n e R:Nat) (d a:Nat->Rat) (L:Nat) (x q:Nat->Rat):Prop where
 le:L<=n
 AQ:∀i,i<L->x i=cC e d a R (gj n R L) i
 zero:∀i,L<=i->i<n->cC e d a R (gj n R L) i=0
 top:L=0\/cC e d a R (gj n R L) (L-1)≠0
 quo:∀k,k<R->q k=if k+e<L then 0 else ej e d a R k
theorem lF.start (hR:R=n-e) (ha:n=0\/a (n-1)≠0):lF n e R d a n a fun _=>0 where
 le:=Nat.le_refl _
 AQ i hi:=by rw[show gj n R n=0 by unfold gj;omega];rfl
 zero i h1 h2:=by omega
 top:=by rw[show gj n R n=0 by unfold gj;omega];exact ha
 quo k hk:=by rw[if_pos (by omega)]
def fN (e:Nat) (d x:Nat->Rat) (k:Nat) (f:Rat) (i j:Nat):Rat:=if k<=j/\j<k+i then x j-f*d (j-k)else x j
variable {L:Nat} {x q:Nat->Rat}
theorem lF.quot (hR:R=n-e) (h:lF n e R d a L x q) (hL:e<L):x (L-1)/d e=ej e d a R (L-1-e):=by
 have:=h.le
 unfold ej
 rw[h.AQ _ (by omega),show gj n R L=R-1-(L-1-e) by unfold gj;omega,show L-1-e+e=L-1 by omega]
theorem lF.NZ (hR:R=n-e) (h:lF n e R d a L x q) (hL:e<L) {i j:Nat} (hi:i<=e) (hj:j<L-1) (hij:j<L-1-e+i):fN e d x (L-1-e) (x (L-1)/d e) i j=cC e d a R (n-L+1) j:=by
 have hl:=h.le
 have e1:gj n R L=n-L:=by unfold gj;omega
 show _=g8 e d (R-1-(n-L)) (cC e d a R (n-L)) j
 rw[show R-1-(n-L)=L-1-e by omega]
 unfold fN g8
 rw[show L-1-e+e=L-1 by omega,<-e1,<-h.AQ j (by omega),<-h.AQ (L-1) (by omega)]
 by_cases hk:L-1-e<=j
 ·rw[if_pos ⟨hk,hij⟩,if_pos (by omega)]
 ·rw[if_neg (by omega),if_neg (by omega)]
theorem lF.next (hR:R=n-e) (hd:d e≠0) (h:lF n e R d a L x q) (hL:e<L):
  lF n e R d a (bO (fN e d x (L-1-e) (x (L-1)/d e) e) (L-1)) (fN e d x (L-1-e) (x (L-1)/d e) e) fun j=>if j=L-1-e then x (L-1)/d e else q j:=by
 have hl:=h.le
 have hu:∀j,j<L-1->fN e d x (L-1-e) (x (L-1)/d e) e j=cC e d a R (n-L+1) j:=fun j hj=>h.NZ hR hL (Nat.le_refl _) hj (by omega)
 have e1:gj n R L=n-L:=by unfold gj;omega
 have e2:gj n R (L-1)=n-L+1:=by unfold gj;omega
 obtain⟨M,hM⟩:∃M,M=bO (fN e d x (L-1-e) (x (L-1)/d e) e) (L-1):=⟨_,rfl⟩
 have hM2:M=bO (cC e d a R (n-L+1)) (L-1):=by rw[hM];exact DR hu
 have hMl:M<=L-1:=by rw[hM2];exact fK
 have hz1:∀i,L-1<=i->i<n->cC e d a R (n-L+1) i=0:=fun i h1 h2=>by
  show g8 e d (R-1-(n-L)) (cC e d a R (n-L)) i=0
  rw[show R-1-(n-L)=L-1-e by omega]
  by_cases h3:i=L-1
  ·have:=M8 (k:=L-1-e) (r:=cC e d a R (n-L)) hd
   rwa [show L-1-e+e=i by omega]at this
  ·unfold g8
   rw[if_neg (by omega),<-e1]
   exact h.zero i (by omega) h2
 have hz:∀i,M<=i->i<n->cC e d a R (n-L+1) i=0:=fun i h1 h2=>by
  rcases Nat.lt_or_ge i (L-1)with h3|h3
  ·exact EH (by rw[<-hM2];exact h1) h3
  ·exact hz1 i h3 h2
 have hs:cC e d a R (gj n R M)=cC e d a R (n-L+1):=by
  have:=Fg (d:=d) (a:=a) hR (L:=L-1) (by omega) (by rw[e2];exact hz1) (L-1-M) (by omega) (by rw[e2,show L-1-(L-1-M)=M by omega];exact hz)
  rwa [show L-1-(L-1-M)=M by omega,e2]at this
 rw[<-hM]
 refine⟨by omega,fun i hi=>by rw[hs];exact hu i (by omega),fun i h1 h2=>by rw[hs];exact hz i h1 h2,?_,fun k hk=>?_⟩
 ·rw[hs]
  rcases Nat.eq_zero_or_pos M with h0|h0
  ·exact .inl h0
  ·right
   rw[hM2]at h0 ⊢
   exact E3 h0
 ·show(if k=L-1-e then x (L-1)/d e else q k)=_
  by_cases h1:k=L-1-e
  ·rw[if_pos h1,if_neg (by omega),h.quot hR hL,h1]
  ·rw[if_neg h1,h.quo k hk]
   by_cases h2:k+e<M
   ·rw[if_pos h2,if_pos (by omega)]
   ·rw[if_neg h2]
    by_cases h3:k+e<L
    ·rw[if_pos h3]
     -- a round that did nothing
     have hk2:k+e<L-1:=by omega
     unfold ej
     have e3:=Fg (d:=d) (a:=a) hR (L:=L-1) (by omega) (by rw[e2];exact hz1) (L-1-(k+e+1)) (by omega) (by rw[e2,show L-1-(L-1-(k+e+1))=k+e+1 by omega];exact fun i h1 h2=>hz i (by omega) h2)
     rw[show L-1-(L-1-(k+e+1))=k+e+1 by omega,e2]at e3
     rw[show R-1-k=gj n R (k+e+1) by unfold gj;omega,e3,hz (k+e) (by omega) (by omega),Rat.div_def,Rat.zero_mul]
    ·rw[if_neg h3]
theorem lF.fin (hR:R=n-e) (h:lF n e R d a L x q) (hL:L<=e):L=bO (cC e d a R R) n/\(∀i,i<L->x i=cC e d a R R i)/\∀k,k<R->q k=ej e d a R k:=by
 have hl:=h.le
 have e1:gj n R L=R:=by unfold gj;omega
 have hz:=h.zero
 have ht:=h.top
 have ha:=h.AQ
 rw[e1]at hz ht ha
 refine⟨?_,ha,fun k hk=>by rw[h.quo k hk,if_neg (by omega)]⟩
 have:=FY (k:=cC e d a R R) (n:=L) (m:=n-L) fun i h1 h2=>hz i h1 (by omega)
 rw[show L+(n-L)=n by omega,qj ht]at this
 exact this.symm
end
end Go.Am
namespace Go.Am
abbrev PP:=Nat×(Nat->Rat)
def dj (a d:PP):PP:=(bO (cC (d.1-1) d.2 a.2 (a.1-(d.1-1)) (a.1-(d.1-1))) a.1,cC (d.1-1) d.2 a.2 (a.1-(d.1-1)) (a.1-(d.1-1)))
def fE (a d:PP):PP:=(bO (ej (d.1-1) d.2 a.2 (a.1-(d.1-1))) (a.1-(d.1-1)),ej (d.1-1) d.2 a.2 (a.1-(d.1-1)))
def cN (n:Nat) (c:Nat->Rat) (i:Nat):Rat:=c i/c (n-1)
def dM (a:PP):PP:=(a.1,cN a.1 a.2)
def cV (c:Nat->Rat) (i:Nat):Rat:=((i+1:Nat):Int)*c (i+1)
def bz (a:PP):PP:=(bO (cV a.2) (a.1-1),cV a.2)
def Trim (a:PP):Prop:=a.1=0\/a.2 (a.1-1)≠0
theorem mI {k:Nat->Rat} {n:Nat}:Trim (bO k n,k):=by
 rcases Nat.eq_zero_or_pos (bO k n)with h|h
 ·exact .inl h
 ·exact .inr (E3 h)
theorem qI {a d:PP}:Trim (dj a d):=mI
theorem yz {a d:PP}:Trim (fE a d):=mI
theorem eC {a:PP}:Trim (bz a):=mI
theorem mO {a:PP} (h:Trim a):Trim (dM a):=by
 rcases h with h|h
 ·exact .inl h
 ·right
  show cN a.1 a.2 (a.1-1)≠0
  unfold cN
  rw[Rat.div_def,Rat.mul_inv_cancel _ h];decide
theorem NN {n e R:Nat} {d a:Nat->Rat} (hR:R=n-e) (hd:d e≠0):∀j,j<=R->∀i,n-j<=i->i<n->cC e d a R j i=0
 |0,_,i,h1,h2=>by omega
 |j+1,hj,i,h1,h2=>by
  show g8 e d (R-1-j) (cC e d a R j) i=0
  by_cases h:i=R-1-j+e
  ·rw[h];exact M8 hd
  ·unfold g8
   rw[if_neg (by omega)]
   exact NN hR hd j (by omega) i (by omega) h2
theorem oA {a d:PP} (hd:0<d.1) (ht:Trim d):(dj a d).1<d.1:=by
 show bO _ _<_
 have h0:d.2 (d.1-1)≠0:=by rcases ht with h|h;omega;exact h
 have:=fun i=>NN (n:=a.1) (a:=a.2) (rfl) h0 _ (Nat.le_refl (a.1-(d.1-1))) i
 rcases Nat.lt_or_ge a.1 d.1 with h|h
 ·exact Nat.lt_of_le_of_lt fK h
 ·have e1:=FY (k:=cC (d.1-1) d.2 a.2 (a.1-(d.1-1)) (a.1-(d.1-1))) (n:=d.1-1) (m:=a.1-(d.1-1)) fun i h1 h2=>this i (by omega) (by omega)
  rw[show d.1-1+(a.1-(d.1-1))=a.1 by omega]at e1
  rw[e1]
  have:=fK (k:=cC (d.1-1) d.2 a.2 (a.1-(d.1-1)) (a.1-(d.1-1))) (n:=d.1-1)
  omega
def fZ (s:PP×PP):PP×PP:=if s.2.1=0 then s else(s.2,dM (dj s.1 s.2))
def bW (s:PP×PP):Nat->PP×PP
 |0=>s
 |j+1=>fZ (bW s j)
theorem lC {s:PP×PP} (h1:Trim s.1) (h2:Trim s.2):∀j,Trim (bW s j).1/\Trim (bW s j).2
 |0=>⟨h1,h2⟩
 |j+1=>by
  have:=lC h1 h2 j
  show Trim (fZ _).1/\Trim (fZ _).2
  unfold fZ
  split
  ·exact this
  ·exact⟨this.2,mO qI⟩
theorem yN {s:PP×PP} (h1:Trim s.1) (h2:Trim s.2):∀j,(bW s j).2.1<=s.2.1-j
 |0=>Nat.le_refl _
 |j+1=>by
  have:=yN h1 h2 j
  have ht:=lC h1 h2 j
  show(fZ _).2.1<=_
  unfold fZ
  split
  ·rename_i h;rw[h];exact Nat.zero_le _
  ·rename_i h
   have:=oA (a:=(bW s j).1) (d:=(bW s j).2) (by omega) ht.2
   show(dj _ _).1<=_
   omega
theorem Gl {s:PP×PP} {j:Nat} (h:(bW s j).2.1=0):∀m,bW s (j+m)=bW s j
 |0=>rfl
 |m+1=>by
  show fZ (bW s (j+m))=_
  rw[Gl h m]
  unfold fZ
  rw[if_pos h]
theorem uN {s:PP×PP} (h:0<s.1.1):∀j,0<(bW s j).1.1
 |0=>h
 |j+1=>by
  have:=uN h j
  show 0<(fZ _).1.1
  unfold fZ
  split
  ·exact this
  ·dsimp only;omega
theorem xF {s:PP×PP} {B:Nat} (ha:s.1.1<=B) (hb:s.2.1<=B) (h1:Trim s.1) (h2:Trim s.2):∀j,(bW s j).1.1<=B
 |0=>ha
 |j+1=>by
  have:=xF ha hb h1 h2 j
  have h3:=yN h1 h2 j
  show(fZ _).1.1<=_
  unfold fZ
  split
  ·exact this
  ·dsimp only;omega
def bN (a b:PP):PP:=dM (bW (a,b) b.1).1
theorem ajk {a b:PP} (h1:Trim a) (h2:Trim b) {j:Nat} (hj:j<=b.1) (h:(bW (a,b) j).2.1=0):dM (bW (a,b) j).1=bN a b:=by
 have:=Gl h (b.1-j)
 rw[show j+(b.1-j)=b.1 by omega]at this
 unfold bN
 rw[this]
theorem j9 {a b:PP} (h1:Trim a) (h2:Trim b):Trim (bN a b):=mO (lC (s:=(a,b)) h1 h2 _).1
theorem mh {a b:PP} (h:0<a.1):0<(bN a b).1:=uN (s:=(a,b)) h _
def bg (a:PP):PP:=if a.1=0 then(0,a.2)else dM (fE a (bN a (bz a)))
def mL (s:PP×PP):PP×PP:=(s.2,((dj s.1 s.2).1,fun i=>((-1:Int):Rat)*(dj s.1 s.2).2 i))
def bH (s:PP×PP):Nat->PP×PP
 |0=>s
 |j+1=>mL (bH s j)
theorem xk {a:PP} {r:Rat} (h:Trim a) (hr:r≠0):Trim (a.1,fun i=>r*a.2 i):=by
 rcases h with h|h
 ·exact .inl h
 ·right
  show r*a.2 (a.1-1)≠0
  intro h0
  rcases Rat.mul_eq_zero.1 h0 with h1|h1
  ·exact hr h1
  ·exact h h1
theorem mU {s:PP×PP} (h1:Trim s.1) (h2:Trim s.2):∀j,Trim (bH s j).1/\Trim (bH s j).2
 |0=>⟨h1,h2⟩
 |j+1=>⟨(mU h1 h2 j).2,xk (a:=dj (bH s j).1 (bH s j).2) qI (by decide)⟩
def stM (s:PP×PP):Nat->Nat->Nat
 |0,j=>j
 |f+1,j=>if(bH s j).2.1=0 then j else stM s f (j+1)
def eo (s:PP×PP):Nat:=stM s s.2.1 0
theorem Kh {s:PP×PP} (h1:Trim s.1) (h2:Trim s.2):∀f j,(bH s j).2.1<=f->j<=stM s f j/\stM s f j<=j+f/\(bH s (stM s f j)).2.1=0/\∀i,j<=i->i<stM s f j->(bH s i).2.1≠0
 |0,j,h=>⟨Nat.le_refl _,by show j<=_;omega,by show(bH s j).2.1=0;omega,fun i h1 h2=>by have:i<j:=h2;omega⟩
 |f+1,j,h=>by
  unfold stM
  split
  ·rename_i h0
   exact⟨Nat.le_refl _,by omega,h0,fun i h1 h2=>by omega⟩
  ·rename_i h0
   have hr:=oA (a:=(bH s j).1) (d:=(bH s j).2) (by omega) (mU h1 h2 j).2
   have hr:(bH s (j+1)).2.1<(bH s j).2.1:=hr
   obtain⟨g1,g2,g3,g4⟩:=Kh h1 h2 f (j+1) (by omega)
   refine⟨by omega,by omega,g3,fun i k1 k2=>?_⟩
   rcases Nat.eq_or_lt_of_le k1 with h|h
   ·subst h;exact h0
   ·exact g4 i h k2
theorem lS {s:PP×PP} (h1:Trim s.1) (h2:Trim s.2):eo s<=s.2.1/\(bH s (eo s)).2.1=0/\∀i,i<eo s->(bH s i).2.1≠0:=by
 obtain⟨_,g2,g3,g4⟩:=Kh h1 h2 s.2.1 0 (Nat.le_refl _)
 exact⟨by unfold eo;omega,g3,fun i hi=>g4 i (Nat.zero_le _) hi⟩
theorem HP {s:PP×PP} {B:Nat} (ha:s.1.1<=B) (hb:s.2.1<=B) (h1:Trim s.1) (h2:Trim s.2):∀j,j<=eo s->(bH s j).1.1<=B/\(bH s j).2.1<=B
 |0,_=>⟨ha,hb⟩
 |j+1,hj=>by
  have ih:=HP ha hb h1 h2 j (by omega)
  have h0:=(lS h1 h2).2.2 j (by omega)
  have hr:(bH s (j+1)).2.1<(bH s j).2.1:=oA (a:=(bH s j).1) (d:=(bH s j).2) (by omega) (mU h1 h2 j).2
  exact⟨ih.2,by omega⟩
def eG (a:PP):PP×PP:=(bg a,bz (bg a))
theorem iI {a:PP}:Trim (bg a):=by
 unfold bg
 split
 ·exact .inl rfl
 ·exact mO yz
def gi (n:Nat) (k:Nat->Rat) (t:Rat):Nat->Rat
 |0=>0
 |m+1=>gi n k t m*t+k (n-1-m)
def b9 (a:PP) (t:Rat):Rat:=gi a.1 a.2 t a.1
def cq (s:Nat->Int):Nat->Int×Nat
 |0=>(0,0)
 |i+1=>(if s i=0 then(cq s i).1 else s i,if s i*(cq s i).1<0 then(cq s i).2+1 else(cq s i).2)
end Go.Am
namespace Go.Am.B
open Go Go.Am.N AV ag au IntKind Proofs.Tryz
def eV:Nat:=68719477736
abbrev og:Code:=aK f114
abbrev pH:List Nat:=[0]
def vt:Spec:=ef (kC (kL af) kN) (fun a=>bG a.1.2 (bO a.1.2 a.1.1) af) fun a=>[a.1.1<2^40]
def Nb:Spec:=ef (kC kR (kC kR kN)) (fun a=>.rat (a.1.1/a.2.1.1) (a.1.2+a.2.1.2)) fun a=>[a.1.2<2^42,a.2.1.2<2^42]
def LG:bE:=zG::(142,jU kR kR Dh sj)::iC
def um:bE:=zG::(158,Hl)::(171,Nb)::iC
abbrev yh:Code:=aK f137
abbrev yR:Code:=part yh [1,1,1,1,0,1,0,0]
abbrev B9:Code:=part yR [1,1,0,0]
abbrev I9 (m:Nat):AV:=bG (fun i=>((bn m i:Int):Rat)) (m+1) 64
abbrev ur:List Nat:=[0,4,5,25,26]
abbrev Cx (m:Nat) (c:Nat->Rat) (i:Nat):List AV:=[bG c (m+1) af,I9 m,.own 0 3 0 (m+1),.int .i64 (m+1:Nat),.int .i64 i]
abbrev Bg:List Nat:=[0,4,5,25,26,6,30,31,32]
abbrev It (m:Nat) (c:Nat->Rat) (i k:Nat):List AV:=[bG c (m+1) af,I9 m,.own 0 3 0 (m+1),.int .i64 (m+1:Nat),.int .i64 i,.int .i64 i,I9 i,.int .i64 (i+1:Nat),.int .i64 k]
abbrev zg:Code:=aK f121
abbrev yZ:List Nat:=[3,5,11,12,13]
abbrev HT (n:Nat) (c:Nat->Rat) (i:Nat):List AV:=[.ptr 1 0 3 0 [],.own 0 3 0 n,bG c n af,.int .i64 n,.int .i64 i]
abbrev ya:Code:=aK f73
abbrev pn:List Nat:=[0,3,4]
abbrev xb (n:Nat) (c:Nat->Rat) (i:Nat):List AV:=[bG c n af,.own 0 3 0 i,.int .i64 (i+1:Nat)]
def Cz:bE:=zG::(114,vt)::iC
theorem IF:bu 114 f114:=bC func114
theorem adF:bu 171 f171:=bC func171
theorem Q9:bu 137 f137:=bC func137
theorem Y9:bu 121 f121:=bC func121
theorem abQ:bu 73 f73:=bC func73
theorem aay {n:Nat} {k:Nat->Rat}:aL T GZ [] 60 pH (before og [1,0]) ⟨aZ 0 [bG k n af],[],0⟩=
  some (leaf normal ([aq 3 n fun i=>rat (k i) af],[])):=ah
theorem Uj {n:Nat} {k:Nat->Rat}:aL T GZ [6,15] 60 pH [part og [1,0,0,0]] ⟨aH pH [bG k n af],[],0⟩=
  let e:=(↑n:Int);let b:=(2:Int)^63;let g:ag (List AV×aI):=leaf (exit 0) ([aq 3 n fun i=>rat (k i) af],[]);let d:=decide (e>0);let a:=e-1;let f:ag (List AV×aI):=aj [-b<=a/\a<b,(0:Int)<=0/\(0:Int)<=a/\a<=a/\a<=e] (leaf normal ([aq 3 (a.toNat-Int.toNat (0:Int)) fun i=>rat (k (i+Int.toNat (0:Int))) af],[]));some (fork d (aj [d=true,-b<=a/\a<b,(0:Int)<=a/\a.toNat<n,af<2^42] (fork (bif true then bK (k a.toNat)==0 else false) f g)) (aj [d=false] (fork false f g))):=ah
theorem aif {n:Nat} {k:Nat->Rat}:dc T GZ [] 60 f114 [part og [1,1]] ⟨aH pH [bG k n af],[],0⟩=
  some (leaf ret [aq 3 n fun i=>rat (k i) af]):=ah
theorem Ve {q r:Rat} {n m:Nat}:cy T LG [] 60 f171 (aK f171) ⟨aZ 0 [.rat q n,.rat r m],[],0⟩=
  let a:=0<1;some (aj [a,a,n<2^42,m<2^42,a] (aj [a,a] (aj [a] (leaf ret [rat (q/r) (n+m)])))):=ah
theorem ajM {m:Nat} {c:Nat->Rat}:aL T um [200016,11] 60 ur (before yh [1,1,1,1,0,1]) ⟨aZ 0 [bG c (m+1) af],[],0⟩=
  let a:=(↑(m+1):Int);let b:=a-1;some (aj [(bif a==0 then true else decide (a>41))=false] (aj [-(2:Int)^63<=b/\b<2^63,(0:Int)<=b,b<=40] (aj [(0:Int)<=a/\a<=a/\a<=2^47/\a*(↑(56:Nat):Int)<=2^47] (leaf normal ([aq 3 (m+1) fun i=>rat (c i) af,aq 3 (b.toNat+1) fun i=>rat (↑(↑(bn b.toNat i):Int):Rat) 64,own 69632 3 0 a.toNat,int i64 (↑a.toNat:Int),int i64 0],[(69632,aA.mk true true 3 a.toNat fun x=>rat 0 1)]))))):=ah
theorem WV {m i:Nat} {c x:Nat->Rat}:aL T um [27] 60 ur (before yR [1,1,0]) ⟨aH ur (Cx m c i),[(0,cI (m+1) x af)],1⟩=
  let a:=m+1;let b:List AV×aI:=([aq 3 a fun i=>rat (c i) af,aq 3 a fun i=>rat (↑(↑(bn m i):Int):Rat) 64,own 0 3 0 a,int i64 (↑a:Int),int i64 (↑i:Int)],[(0,aA.mk true true 3 a fun i=>rat (x i) af)]);some (fork (decide ((↑i:Int)<(↑a:Int))) (leaf normal b) (leaf (exit 0) b)):=ah
theorem aiK {m i:Nat} {c x:Nat->Rat}:aL T um [] 60 Bg (before B9 [1,1]) ⟨aH ur (Cx m c i),[(0,cI (m+1) x af)],1⟩=
  let b:=m+1;let a:=(↑i:Int);some (aj [(0:Int)<=a,a<=40] (leaf normal ([aq 3 b fun i=>rat (c i) af,aq 3 b fun i=>rat (↑(↑(bn m i):Int):Rat) 64,own 0 3 0 b,int i64 (↑b:Int),int i64 a,int i64 a,aq 3 (a.toNat+1) fun i=>rat (↑(↑(bn a.toNat i):Int):Rat) 64,int i64 (↑(a.toNat+1):Int),int i64 0],[(0,aA.mk true true 3 b fun i=>rat (x i) af)]))):=ah
theorem WE {m i k:Nat} {c x:Nat->Rat}:aL T um [33] 60 Bg [part B9 [1,1,0,0]] ⟨aH Bg (It m c i k),[(0,cI (m+1) x af)],1⟩=
  let e:=64+64;let p:=(↑i:Int);let q:=(↑(i+1):Int);let r:=aq 3 (i+1) fun i_1=>rat (↑(↑(bn i i_1):Int):Rat) 64;let g:=2^42;let b:=(↑k:Int);let a:=m+1;let d:=int i64 p;let f:=b+1;let n:=(0:Int)<=p/\p.toNat<a;let l:=(0:Int)<=b/\b.toNat<a;let h:=own 0 3 0 a;let t:=aq 3 a fun i=>rat (c i) af;let s:=aq 3 a fun i=>rat (↑(↑(bn m i):Int):Rat) 64;let o:=p.toNat+0;some (fork (decide (b<q)) (aj [(0:Int)<=b/\b.toNat<i+1,(0:Nat)<1] (aj [n,o<a,(0:Nat)<1,l,(64:Nat)<g,(64:Nat)<g,l,e<g,af<g,af<g,e+af<g,n,o<a] (aj [-(2:Int)^63<=f/\f<2^63] (leaf normal ([t,s,h,int i64 (↑a:Int),d,d,r,int i64 q,int i64 f],[(0,aA.mk true true 3 a fun j=>rat (bif j==o then x o+(↑(↑(bn i b.toNat):Int):Rat)/(↑(↑(bn m b.toNat):Int):Rat)*c b.toNat else x j) (bif j==o then af+(e+af)+1 else af))]))))) (leaf (exit 2) ([t,s,h,int i64 (↑a:Int),d,d,r,int i64 q,int i64 b],[(0,aA.mk true true 3 a fun i=>rat (x i) af)]))):=ah
theorem aaK {m i k:Nat} {c x:Nat->Rat}:aL T um [] 60 ur [part yR [1,1,1]] ⟨aH Bg (It m c i k),[(0,cI (m+1) x af)],1⟩=
  let b:=(↑i:Int)+1;let a:=m+1;some (aj [-(2:Int)^63<=b/\b<2^63] (leaf normal ([aq 3 a fun i=>rat (c i) af,aq 3 a fun i=>rat (↑(↑(bn m i):Int):Rat) 64,own 0 3 0 a,int i64 (↑a:Int),int i64 b],[(0,aA.mk true true 3 a fun i=>rat (x i) af)]))):=ah
theorem Sw {m i:Nat} {c x:Nat->Rat}:dc T um [] 60 f137 [part yh [1,1,1,1,1]] ⟨aH ur (Cx m c i),[(0,cI (m+1) x af)],1⟩=
  some (leaf ret [aq 3 (m+1) fun i=>rat (x (i+0)) af,int i64 0]):=ah
theorem Tc {n s:Nat} {c:Nat->Rat} {r:Rat}:aL T GZ [] 60 yZ (before zg [1,1,0,1]) ⟨aZ 0 [bG c n af,.rat r s],[],0⟩=
  let a:=(↑n:Int);some (aj [(0:Int)<=a/\a<=a/\a<=2^47/\a*(↑(56:Nat):Int)<=2^47] (leaf normal ([ptr 0 0 (eE (rat r s)).size 0 [],own 16384 3 0 a.toNat,aq 3 n fun i=>rat (c i) af,int i64 a,int i64 0],[(16384,aA.mk true true 3 a.toNat fun x=>rat 0 1),(0,aA.mk false true (eE (rat r s)).size 1 fun x=>rat r s)]))):=ah
theorem aaW {n s i:Nat} {c x:Nat->Rat} {r:Rat}:aL T GZ [14] 60 yZ [part zg [1,1,0,1,0,0]] ⟨aH yZ (HT n c i),[(0,cI n x af),(1,⟨false,true,3,1,fun _=>.rat r s⟩)],2⟩=
  let b:=(↑n:Int);let l:=own 0 3 0 n;let d:=0<1;let k:=ptr 1 0 3 0 [];let h:=aq 3 n fun i=>rat (c i) af;let g:Nat×aA:=((1:Nat),ij fun x=>rat r s);let a:=(↑i:Int);let f:=a+1;let m:=(0:Int)<=a/\a.toNat<n;let e:=a.toNat+0;some (fork (decide (a<b)) (aj [m,d] (aj [d,d,s<2^42,af<2^42,m,e<n] (aj [-(2:Int)^63<=f/\f<2^63] (leaf normal ([k,l,h,int i64 b,int i64 f],[(0,aA.mk true true 3 n fun j=>rat (bif j==e then r*c a.toNat else x j) (bif j==e then s+af else af)),g]))))) (leaf (exit 0) ([k,l,h,int i64 b,int i64 a],[(0,aA.mk true true 3 n fun i=>rat (x i) af),g]))):=ah
theorem acF {n s i:Nat} {c x:Nat->Rat} {r:Rat}:dc T GZ [] 60 f121 [part zg [1,1,1]] ⟨aH yZ (HT n c i),[(0,cI n x af),(1,⟨false,true,3,1,fun _=>.rat r s⟩)],2⟩=
  some (leaf ret [aq 3 n fun i=>rat (x (i+0)) af]):=ah
theorem afA {n:Nat} {c:Nat->Rat}:aL T Cz [] 60 pn (before ya [1,1,0,1]) ⟨aZ 0 [bG c n af],[],0⟩=
  some (leaf normal ([aq 3 n fun i=>rat (c i) af,nil,int i64 1],[])):=ah
theorem W7 {n i:Nat} {c x:Nat->Rat}:aL T Cz [8] 60 pn [part ya [1,1,0,1,0,0]] ⟨aH pn (xb n c i),[(0,cI i x af)],1⟩=
  let d:=i+1;let f:=aq 3 n fun i=>rat (c i) af;let b:=(2:Int)^63;let a:=(↑d:Int);let e:=a+1;let g:=Max.max 1 (ck a.natAbs);some (fork (decide (a<(↑n:Int))) (aj [-b<=a,a<b,(0:Int)<=a/\a.toNat<n,g<2^42,af<2^42,(1:Nat)*3<=2^24,d*((56:Nat)+1)*2<=2^47] (aj [-b<=e/\e<b] (leaf normal ([f,own 53249 3 0 d,int i64 e],[(53249,aA.mk true true 3 d fun i_1=>if i_1<i then rat (x i_1) af else nth [rat ((↑a:Rat)*c a.toNat) (g+af)] (rat 0 1) (i_1-i+0))])))) (leaf (exit 0) ([f,own 0 3 0 i,int i64 a],[(0,aA.mk true true 3 i fun i=>rat (x i) af)]))):=ah
theorem T8 {n i:Nat} {c x:Nat->Rat}:dc T Cz [] 60 f73 [part ya [1,1,1]] ⟨aH pn (xb n c i),[(0,cI i x af)],1⟩=
  some (aj [cL (fun i=>rat (x (i+0)) af) i af,i<2^40] (leaf ret [aq 3 (bO (fun i=>aN (rat (x (i+0)) af)) i) fun i=>rat (aN (rat (x (i+0)) af)) af])):=ah
theorem pS {q:Rat}:(bK q==0)=decide (q=0):=by
 unfold bK
 by_cases h:q=0
 ·simp[h]
 ·simp only[h,decide_false]
  split
  ·rfl
  ·split
   ·rfl
   ·grind
theorem Zv {n:Nat} {k:Nat->Rat} (hn:n<2^40) (K:Nat):aW P 114 K [bG k n af] [] (aO (bG k (bO k n) af) []):=by
 have hW:=cP
 refine jA (r:=aO (bG k (bO k n) af) []) hT qP hm IF rfl bh rfl [1,0] (i:=0) (y:=part og [1,0,0,0]) (z:=part og [1,1]) ah ah ah (f1:=[]) (f2:=[6,15]) (f3:=[]) 60 pH 0
  (fun j:Nat=>[bG k j af]) (fun _=>[]) (fun j=>j<=n/\bO k j=bO k n) (fun j=>j=bO k n) (fun j=>j) (fun _=>⟨⟨_,aay,?_⟩,fun j hj=>⟨_,Uj,?_⟩,fun j hj=>⟨_,aif,?_⟩⟩) K []
 ·simp only[ag.all,aC]
  exact⟨n,⟨aX,rfl⟩,en.vals rfl⟩
 ·obtain⟨h1,h2⟩:=hj
  simp only[ag.all,aC,cond_true,pS,bI,bR]
  refine⟨fun h=>⟨⟨aa,aa,aa,aa⟩,fun h3=>⟨aa,j-1,⟨aa,?_⟩,by dsimp only;omega,?_⟩,fun h3=>⟨rfl,j,?_,en.vals rfl⟩⟩,fun h=>⟨aa,fun h3=>absurd h3 (by decide),fun _=>⟨rfl,j,?_,en.vals rfl⟩⟩⟩
  ·rw[<-h2]
   obtain⟨m,rfl⟩:∃m,j=m+1:=⟨j-1,aa⟩
   rw[show(((m+1:Nat):Int)-1).toNat=m by omega]at h3
   show bO k m=_
   rw[bO,if_pos h3]
  ·rw[show((j:Int)-1).toNat-(0:Int).toNat=j-1 by omega]
   exact en.vals rfl
  ·rw[<-h2]
   obtain⟨m,rfl⟩:∃m,j=m+1:=⟨j-1,aa⟩
   rw[show(((m+1:Nat):Int)-1).toNat=m by omega]at h3
   exact(qj (.inr h3)).symm
  ·rw[<-h2,show j=0 by omega];rfl
 ·rw[hj];exact .refl _
theorem Gn:bp P vt 114:=dy fun⟨⟨n,k⟩,_⟩ K hn=>Zv hn K
theorem abg:bY P LG:=iu (aM (jX fun _ _ K hn=>EM hn.1 hn.2 K) iG)
theorem Yw:bp P Nb 171:=dy fun⟨⟨q,n⟩,⟨r,m⟩,_⟩ K hn=>by
 obtain⟨h1,h2⟩:=hn
 refine cB hT abg hm adF rfl bh rfl 60 Ve (fun _=>?_) K []
 simp only[ag.all,aC]
 exact⟨⟨aa,aa,h1,h2,aa⟩,⟨aa,aa⟩,aa,.refl _⟩
theorem OQ:bY P um:=iu (aM QC (aM Yw iG))
def ki (n:Nat) (c:Nat->Rat):Prop:=∀i k,i<n->k<=i+1->Sz (lU n c i k) af
def m7 (n:Nat) (c:Nat->Rat) (i k j:Nat):Rat:=if j<i then gE n c j else if j=i then lU n c i k else 0
theorem agf {m:Nat} {c:Nat->Rat} (hm1:m<=40) (hz:ki (m+1) c) (K:Nat):aW P 137 K [bG c (m+1) af] [] (aO (.tuple [bG (gE (m+1) c) (m+1) af,.int .i64 0]) []):=by
 refine jj (r:=aO (.tuple [bG (gE (m+1) c) (m+1) af,.int .i64 0]) []) hT Q9 rfl bh rfl (fun _ cx h0=>?_) K []
 have hk:=nr h0
 have hW:=cP
 refine az.rI hT OQ hm (x:=yh) [1,1,1,1,0,1] (i:=0) (y:=yR) (z:=part yh [1,1,1,1,1]) ah ah ah Q9.dst [1,1,0] (j:=1) (x1:=B9) (zb:=part yR [1,1,1]) ah ah ah [1,1] (i2:=2) (y2:=part B9 [1,1,0,0]) ah ah rfl hk
  (f1:=[200016,11]) (f2:=[27]) (f3:=[]) (f4:=[33]) (f5:=[]) 60 ur Bg 1 1 (fun i:Nat=>Cx m c i) (fun i=>[(0,cI (m+1) (m7 (m+1) c i 0) af)]) (fun i=>i<=m+1) (fun i=>i=m+1) (fun i=>m+1-i) (fun i=>i<m+1) (fun _=>False) (fun _=>False)
  (fun i (k:Nat)=>It m c i k) (fun i k=>[(0,cI (m+1) (m7 (m+1) c i k) af)]) (fun i k=>k<=i+1) (fun i k=>k=i+1) (fun i k=>i+1-k)
  ⟨_,ajM,?_⟩ (fun i hi=>⟨_,WV,?_⟩) (fun i hi hG=>⟨_,aiK,?_⟩) (fun i hi hG k hk=>⟨_,WE,?_⟩) (fun i hi hG k hk=>⟨_,aaK,?_⟩) (fun i hi=>?_) (fun _ _ h=>h.elim) (fun _ _ h=>h.elim)
 ·simp only[ag.all,aC,bS]
  have e1:(((m+1:Nat):Int)-1).toNat=m:=aa
  have e2:(((m+1:Nat):Int)==0)=false:=by rw[beq_eq_false_iff_ne];omega
  rw[e1,e2]
  simp only[cond_false,bR]
  refine⟨aa,⟨aa,aa,aa⟩,aa,0,aa,[(0,69632)],rfl,rfl,rfl,bF rfl rfl rfl (fun j hj=>.inr ⟨rfl,dG ?_ aa⟩) trivial⟩
  unfold m7;rw[if_neg (Nat.not_lt_zero j)];split<;>rfl
 ·simp only[ag.all,aC,bI,bR]
  exact⟨fun h=>⟨aa,[(0,0)],rfl,rfl,rfl,bF rfl rfl rfl (fun i hi=>bT rfl rfl) trivial⟩,fun h=>⟨rfl,i,aa,[(0,0)],rfl,rfl,rfl,bF rfl rfl rfl (fun i hi=>bT rfl rfl) trivial⟩⟩
 ·simp only[ag.all,aC,bS]
  exact⟨aa,0,aa,[(0,0)],rfl,rfl,rfl,bF rfl rfl rfl (fun i hi=>bT rfl rfl) trivial⟩
 ·simp only[ag.all,aC,bI,bR,bS,Nat.add_zero]
  refine⟨fun h=>⟨aa,aa,aa,k+1,aa,by dsimp only;omega,[(0,0)],rfl,rfl,rfl,bF rfl rfl rfl (fun j hj=>?_) trivial⟩,fun h=>⟨rfl,k,aa,[(0,0)],rfl,rfl,rfl,bF rfl rfl rfl (fun j hj=>bT rfl rfl) trivial⟩⟩
  have e1:∀q,m7 (m+1) c i q i=lU (m+1) c i q:=fun q=>by unfold m7;rw[if_neg (Nat.lt_irrefl i),if_pos rfl]
  exact nS (x:=m7 (m+1) c i k) (y:=m7 (m+1) c i (k+1)) (eM (by rw[e1,e1];rfl) (by rw[e1];exact hz i (k+1) hG aa)) fun hj=>dG (by unfold m7;rw[if_neg hj,if_neg hj]) aX
 ·subst hk
  simp only[ag.all,aC]
  refine⟨aa,i+1,aa,by dsimp only;omega,[(0,0)],rfl,rfl,rfl,bF rfl rfl rfl (fun j hj=>bT rfl ?_) trivial⟩
  show AV.rat (m7 (m+1) c i (i+1) j) af=AV.rat (m7 (m+1) c (i+1) 0 j) af
  unfold m7
  by_cases h1:j<i
  ·rw[if_pos h1,if_pos aa]
  ·by_cases h2:j=i
   ·subst h2;rw[if_neg h1,if_pos rfl,if_pos aa];rfl
   ·rw[if_neg h1,if_neg h2,if_neg aa];split<;>rfl
 ·subst hi
  refine az.nR ((aJ.fin hT OQ hm 60 Sw ah ?_).mono fun _ _ h=>.inl h)
  refine⟨jk fun i hi=>dG ?_ aX,.refl _,trivial⟩
  show m7 (m+1) c (m+1) 0 i=_
  unfold m7;rw[if_pos hi]
def Kc:Spec:=ef (kC (kL af) kN) (fun a=>.tuple [bG (gE a.1.1 a.1.2) a.1.1 af,.int .i64 0]) fun a=>[1<=a.1.1,a.1.1<=41,ki a.1.1 a.1.2]
theorem SX:bp P Kc 137:=dy fun⟨⟨n,p⟩,_⟩ K hn=>by
 obtain⟨h1,h2,h3⟩:=hn
 simp only at h1 h2 h3
 obtain⟨m,rfl⟩:∃m,n=m+1:=⟨n-1,aa⟩
 exact agf aa h3 K
theorem vT:eV=af+1000:=rfl
theorem afd {n:Nat} {c:Nat->Rat} {r:Rat} (hn:n<2^40) (hz:cU n fun i=>r*c i) (K:Nat):aW P 121 K [bG c n af,.rat r eV] [] (aO (bG (fun i=>r*c i) n af) []):=by
 have hW:=cP
 have hX:=vT
 refine jA (r:=aO (bG (fun i=>r*c i) n af) []) hT qP hm Y9 rfl bh rfl [1,1,0,1] (i:=0) (y:=part zg [1,1,0,1,0,0]) (z:=part zg [1,1,1]) ah ah ah (f1:=[]) (f2:=[14]) (f3:=[]) 60 yZ 2
  (fun i:Nat=>HT n c i) (fun i=>[(0,cI n (fun j=>if j<i then r*c j else 0) af),(1,⟨false,true,3,1,fun _=>.rat r eV⟩)]) (fun i=>i<=n) (fun i=>i=n) (fun i=>n-i) (fun _=>⟨⟨_,Tc,?_⟩,fun i hi=>⟨_,aaW,?_⟩,fun i hi=>⟨_,acF,?_⟩⟩) K []
 ·simp only[ag.all,aC,bS]
  exact⟨aa,0,Nat.zero_le _,[(0,16384),(1,0)],rfl,rfl,rfl,bF rfl rfl rfl (fun i hi=>.inr ⟨rfl,dG (if_neg (Nat.not_lt_zero i)).symm aa⟩) (dD trivial)⟩
 ·simp only[ag.all,aC,bI,bR,bS,Nat.add_zero]
  refine⟨fun h2=>⟨aa,aa,aa,i+1,aa,by dsimp only;omega,[(0,0),(1,1)],rfl,rfl,rfl,bF rfl rfl rfl (fun j hj=>?_) (dD trivial)⟩,fun h2=>⟨rfl,i,aa,[(0,0),(1,1)],rfl,rfl,rfl,bF rfl rfl rfl (fun j hj=>bT rfl rfl) (dD trivial)⟩⟩
  exact nS (x:=fun j=>if j<i then r*c j else 0) (y:=fun j=>if j<i+1 then r*c j else 0) (eM (if_pos (Nat.lt_succ_self i)).symm (by show Sz (if i<i+1 then _ else _) _;rw[if_pos (Nat.lt_succ_self i)];exact hz i aa)) fun hj=>dG (F8 hj).symm aX
 ·subst hi
  simp only[ag.all,aC]
  exact jk fun j hj=>by rw[Nat.add_zero,if_pos hj];exact .refl _
def FC:Spec:=ef (kC (kL af) (kC (fu eV) kN)) (fun a=>bG (fun i=>a.2.1*a.1.2 i) a.1.1 af) fun a=>[a.1.1<2^40,cU a.1.1 fun i=>a.2.1*a.1.2 i]
theorem JZ:bp P FC 121:=dy fun⟨⟨n,c⟩,r,_⟩ K hn=>afd hn.1 hn.2 K
theorem ad9:bY P Cz:=iu (aM Gn iG)
theorem VS {n:Nat} {c:Nat->Rat} (hn:n<2^40) (hz:cU (n-1) (cV c)) (K:Nat):aW P 73 K [bG c n af] [] (aO (bG (cV c) (bO (cV c) (n-1)) af) []):=by
 have hW:=cP
 refine jA (r:=aO (bG (cV c) (bO (cV c) (n-1)) af) []) hT ad9 hm abQ rfl bh rfl [1,1,0,1] (i:=0) (y:=part ya [1,1,0,1,0,0]) (z:=part ya [1,1,1]) ah ah ah (f1:=[]) (f2:=[8]) (f3:=[]) 60 pn 1
  (fun i:Nat=>xb n c i) (fun i=>[(0,cI i (cV c) af)]) (fun i=>i<=n-1) (fun i=>i=n-1) (fun i=>n-1-i) (fun _=>⟨⟨_,afA,?_⟩,fun i hi=>⟨_,W7,?_⟩,fun i hi=>⟨_,T8,?_⟩⟩) K []
 ·simp only[ag.all,aC]
  exact⟨0,aa,[],rfl,rfl,rfl,l6 rfl aa aa trivial⟩
 ·have hb:(max 1 (ck ((i+1:Nat):Int).natAbs))<=64:=by
   rw[Int.natAbs_natCast]
   have:=kJ (x:=i+1) (k:=64)|>.2 aa
   omega
  simp only[ag.all,aC,bI,bR,bS]
  refine⟨fun h2=>⟨aa,aa,i+1,aa,by dsimp only;omega,[(0,53249)],rfl,?_,rfl,bF rfl rfl rfl (fun j hj=>?_) trivial⟩,fun h2=>⟨rfl,i,aa,[(0,0)],rfl,rfl,rfl,bF rfl rfl rfl (fun j hj=>bT rfl rfl) trivial⟩⟩
  ·rw[show((i+1:Nat):Int)+1=((i+1+1:Nat):Int) by omega];rfl
  ·refine .inr ⟨?_,?_⟩
   ·split
    ·rfl
    ·rw[show j-i+0=0 by omega];rfl
   ·split
    ·exact .refl _
    ·rw[show j-i+0=0 by omega,show j=i by omega]
     exact eM rfl (hz i aa)
 ·subst hi
  simp only[ag.all,aC]
  exact⟨⟨eO aX,aa⟩,.refl _⟩
def r9:Spec:=ef (kC (kL af) kN) (fun a=>bG (cV a.1.2) (bO (cV a.1.2) (a.1.1-1)) af) fun a=>[a.1.1<2^40,cU (a.1.1-1) (cV a.1.2)]
theorem EK:bp P r9 73:=dy fun⟨⟨n,c⟩,_⟩ K hn=>VS hn.1 hn.2 K
def vc (f:Nat->AV) (n s:Nat):Prop:=∀i,i<n->keys (f i)=[]/\bf (f i) (.rat (aN (f i)) s)
def ze:Spec:=fun _ args pre=>match args,pre with
 |[.own k 3 0 n],[(k',⟨true,true,3,m,f⟩)]=>match k'==k with
  |true=>some ⟨.own k 3 0 (bO (fun i=>aN (f i)) n),[(k,cI m (fun i=>aN (f i)) af)],[n<=m,n<2^40,vc f m af]⟩
  |false=>none
 |_,_=>none
abbrev xJ:FuncId:=141
abbrev BX:Func:=f141
def M4:Spec:=sN fun K l=>match l with
 |[v]=>match(kL af).read v with
  |some ((0,k),q)=>some (aO (bG k 0 af) q)
  |some ((n+1,k),q)=>some ⟨.own K 3 0 (n+1),[(K,cI (n+1) k af)],q++[n+1<2^30]⟩
  |none=>none
 |_=>none
def QJ:bE:=zG::(142,jU kR kR Dh sj)::(121,FC)::iC
def Jl (n:Nat):Nat:=if n=0 then 1 else n
def Ni (n:Nat) (c:Nat->Rat) (i:Nat):Rat:=if n=0 then 0 else gE n c i
def Lz:bE:=zG::(137,Kc)::iC
def Ld:bE:=zG::(115,BT)::(114,vt)::iC
theorem LC:bu xJ BX:=bC func141
theorem agM:bu 135 f135:=bC func135
theorem aam:bu 81 f81:=bC func81
theorem Zy:bu 57 f57:=bC func57
theorem aaa {n m:Nat} {x:Nat->Rat}:aL T GZ [] 60 pH (before og [1,0]) ⟨aZ 0 [.own 0 3 0 n],[(0,cI m x af)],1⟩=
  some (leaf normal ([own 0 3 0 n],[(0,aA.mk true true 3 m fun i=>rat (x i) af)])):=ah
theorem adm {n m:Nat} {x:Nat->Rat}:aL T GZ [6,15] 60 pH [part og [1,0,0,0]] ⟨aH pH [.own 0 3 0 n],[(0,cI m x af)],1⟩=
  let e:=(↑n:Int);let b:=(2:Int)^63;let g:Nat×aA:=(0,aA.mk true true 3 m fun i=>rat (x i) af);let h:ag (List AV×aI):=leaf (exit 0) ([own 0 3 0 n],[g]);let d:=decide (e>0);let a:=e-1;let f:ag (List AV×aI):=aj [-b<=a/\a<b,(0:Int)<=0/\(0:Int)<=a/\a<=a/\a<=e] (leaf normal ([own 0 3 0 (a.toNat-Int.toNat (0:Int))],[g]));some (fork d (aj [d=true,-b<=a/\a<b,(0:Int)<=a/\a.toNat<n,a.toNat+0<m,af<2^42] (fork (bif true then bK (x (a.toNat+0))==0 else false) f h)) (aj [d=false] (fork false f h))):=ah
theorem aj4 {n m:Nat} {x:Nat->Rat}:aL T GZ [] 60 [2] [part og [1,1]] ⟨aH pH [.own 0 3 0 n],[(0,cI m x af)],1⟩=
  some (leaf ret ([own 0 3 0 n],[(0,aA.mk true true 3 m fun i=>rat (x i) af)])):=ah
theorem ZK {n:Nat} {k:Nat->Rat}:aL T [nG] [] 60 [2] [aK BX] ⟨aZ 0 [.fq false 3 n (fun i=>.rat (k i) af)],[],0⟩=
  some (aj [(0:Nat)*3<=2^24,((0:Nat)+n)*((56:Nat)+1)*2<=2^47] (leaf ret ([own 20480 3 0 ((0:Nat)+n)],[(20480,aA.mk true true 3 ((0:Nat)+n) fun i=>rat (k (i-0)) af)]))):=ah
theorem Ye {b:Bool} {k:Nat->Rat}:cy T [zG] [4] 60 BX (aK BX) ⟨aZ 0 [.fq b 3 0 (fun i=>.rat (k i) af)],[],0⟩=
  some (fork b (leaf ret [nil]) (aj [(0:Nat)*3<=2^24,((0:Nat)+0)*((56:Nat)+1)*2<=2^47] (leaf ret [aq 3 0 fun i=>rat (k (i+0-0)) af]))):=ah
theorem Sn {n:Nat} {c:Nat->Rat}:cy T QJ [7] 60 f135 (aK f135) ⟨aZ 0 [bG c n af],[],0⟩=
  let d:=Max.max 1 (ck (Int.natAbs (1:Int)));let b:=(2:Int)^63;let a:=(↑n:Int)-1;let e:=(↑(1:Int):Rat)/c a.toNat;some (fork ((↑n:Int)==0) (leaf ret [nil]) (aj [-b<=1,(1:Int)<b,-b<=a/\a<b,(0:Int)<=a/\a.toNat<n,d<2^42,af<2^42,(0:Nat)<1] (aj [(0:Nat)<1,cL (fun i=>rat (c i) af) n af,d+af<=eV,n<2^40,cU n fun i=>e*aN (rat (c i) af)] (leaf ret [aq 3 n fun i=>rat (e*aN (rat (c i) af)) af])))):=ah
theorem afl {n:Nat} {c:Nat->Rat}:cy T Lz [7] 60 f81 (aK f81) ⟨aZ 0 [bG c n af],[],0⟩=
  some (fork ((↑n:Int)==0) (aj [(1:Nat)*3<=2^24] (leaf ret [aq 3 1 fun i=>nth [agg [AV.bool (decide ((0:Rat)<0)),mag (↑(nat_lit 0):Int).natAbs,mag (if 1=1 then 0 else 1)]] (rat 0 1) (i+0)])) (aj [cL (fun i=>rat (c i) af) n af,(1:Nat)<=n,n<=41,ki n fun i=>aN (rat (c i) af)] (leaf ret [aq 3 n fun i=>rat (gE n (fun i=>aN (rat (c i) af)) i) af]))):=ah
theorem adk {n:Nat} {c:Nat->Rat}:cy T Ld [] 60 f57 (aK f57) ⟨aZ 0 [bG c n af],[],0⟩=
  some (aj [cL (fun i=>rat (c i) af) n af,(1:Nat)<=n,n<=41,uJ n fun i=>aN (rat (c i) af),cL (fun i=>rat (fj n (fun i=>aN (rat (c i) af)) i) af) n af,n<2^40] (leaf ret [aq 3 (bO (fun i=>aN (rat (fj n (fun i=>aN (rat (c i) af)) i) af)) n) fun i=>rat (aN (rat (fj n (fun i=>aN (rat (c i) af)) i) af)) af])):=ah
theorem ag7 {kk n m:Nat} {x:Nat->Rat} (hn:n<2^40) (hnm:n<=m) (c:Ctx) (hk:Kept [0] c):az P c f114.ntmps og ⟨aZ 0 [.own 0 3 0 n],[(0,cI m x af)],1⟩ (Il f114 kk [.own kk 3 0 (bO x n)] (cI m x af)):=by
 have hW:=cP
 have re:∀j,en [0] ([.own 0 3 0 j],[((0:Nat),cI m x af)]) [.own 0 3 0 j] [(0,cI m x af)] 1:=fun j=>⟨[(0,0)],rfl,rfl,rfl,oM trivial⟩
 refine az.qZ hT qP hm [1,0] (i:=0) (y:=part og [1,0,0,0]) (z:=part og [1,1]) ah ah ah IF.dst hk (f1:=[]) (f2:=[6,15]) 60 pH 1
  (fun j:Nat=>[.own 0 3 0 j]) (fun _=>[(0,cI m x af)]) (fun j=>j<=n/\bO x j=bO x n) (fun j=>j=bO x n) (fun j=>j) (fun _=>False) ⟨_,aaa,?_⟩ (fun j hj=>⟨_,adm,?_⟩) (fun j hj=>?_) (fun _ _ h=>h.elim)
 ·simp only[ag.all,aC]
  exact⟨n,⟨aX,rfl⟩,re n⟩
 ·obtain⟨h1,h2⟩:=hj
  simp only[ag.all,aC,cond_true,pS,bI,bR,Nat.add_zero]
  refine⟨fun h=>⟨⟨aa,aa,aa,aa,aa⟩,fun h3=>⟨aa,j-1,⟨aa,?_⟩,by dsimp only;omega,?_⟩,fun h3=>⟨rfl,j,?_,re j⟩⟩,fun h=>⟨aa,fun h3=>absurd h3 (by decide),fun _=>⟨rfl,j,?_,re j⟩⟩⟩
  ·rw[<-h2]
   obtain⟨m,rfl⟩:∃m,j=m+1:=⟨j-1,aa⟩
   rw[show(((m+1:Nat):Int)-1).toNat=m by omega]at h3
   show bO x m=_
   rw[bO,if_pos h3]
  ·rw[show((j:Int)-1).toNat-(0:Int).toNat=j-1 by omega]
   exact re (j-1)
  ·rw[<-h2]
   obtain⟨m,rfl⟩:∃m,j=m+1:=⟨j-1,aa⟩
   rw[show(((m+1:Nat):Int)-1).toNat=m by omega]at h3
   exact(qj (.inr h3)).symm
  ·rw[<-h2,show j=0 by omega];rfl
 ·subst hj
  exact az.bU hT qP hm 60 [2] aj4 ah fun s' hs'=>⟨.inr rfl,[2],_,[.own 0 3 0 (bO x n)],_,_,hs',ah,⟨⟨rfl,eR (by simp[bD,look]) rfl rfl⟩,trivial⟩,rfl,iQ rfl fun i hi=>fR rfl⟩
theorem ahe:bp P ze 114:=by
 intro K args pre r h
 unfold ze at h
 split at h
 ·rename_i k n k' m f
  split at h
  ·rename_i hc
   have hc:=eq_of_beq hc
   subst hc
   simp only[aB]at h
   subst h
   intro need
   have h0:=need
   obtain⟨n1,n2,n3⟩:=need
   exact Qj hT IF (rest:=[]) (ws:=[.own k' 3 0 _]) (o2:=⟨true,true,3,m,f⟩) (o:=cI m (fun i=>aN (f i)) af) rfl rfl bh (fun ρ=>iQ rfl fun i hi=>jD (n3 i hi).1 (n3 i hi).2) (fun _ c hk=>ag7 n2 n1 c hk) K h0
  ·simp at h
 ·simp at h
theorem ae9 {args:List AV} {n:Nat} {k:Nat->Rat} {l:List Prop} (ha:aC l->iF (bD []) args [.fq false 3 n (fun i=>.rat (k i) af)]) (hn:aC l->n<2^30) (K:Nat):aW P xJ K args [] ⟨pz [.own K 3 0 n],[(K,cI n k af)],l⟩:=by
 refine DP hT LC ha bh fun need c hk=>?_
 have h2:=hn need
 refine az.bU hT (gM cJ) hm 60 [2] ZK ah ?_
 simp only[ag.all,aC]
 exact⟨⟨aa,aa⟩,fun s' hs'=>⟨.inr trivial,[2],_,[.own 20480 3 0 (0+n)],_,20480,_,hs',ah,⟨⟨rfl,eR (by simp[bD,look]) rfl aa⟩,trivial⟩,rfl,iQ aa fun i hi=>fR rfl⟩⟩
theorem aaw {n:Nat} {k:Nat->Rat} {l:List Prop} (hn:aC l->1<=n/\n<2^30) (K:Nat):aW P xJ K [bG k n af] [] ⟨pz [.own K 3 0 n],[(K,cI n k af)],l⟩:=by
 refine HW fun b hb=>?_
 intro need
 have h1:=hn need
 cases b
 ·exact ae9 (args:=[.fq false 3 n (fun i=>.rat (k i) af)]) (fun _=>⟨aY,trivial⟩) (fun h=>(hn h).2) K need
 ·have:=hb rfl
  omega
theorem adR {k:Nat->Rat} (K:Nat):aW P xJ K [bG k 0 af] [] (aO (bG k 0 af) []):=by
 refine HW fun b hb=>?_
 refine cB hT (iu cJ) hm LC rfl bh rfl 60 Ye (fun _=>?_) K []
 simp only[ag.all,aC]
 exact⟨fun _=>mT aa,fun _=>⟨⟨aa,aa⟩,jk fun i hi=>absurd hi (Nat.not_lt_zero i)⟩⟩
theorem Sj:bp P M4 xJ:=by
 refine xC fun K args r hk hs=>?_
 split at hs
 ·rename_i v
  split at hs
  ·rename_i k q hv
   simp only[aB]at hs
   subst hs
   intro need
   exact iz (adR K) hk ⟨(kL af).ok hv need,trivial⟩ [] trivial
  ·rename_i n k q hv
   simp only[aB]at hs
   subst hs
   intro need
   obtain⟨hn1,hn2⟩:=ia.1 need
   exact iz (aaw (l:=q++[n+1<2^30]) (fun h=>⟨Nat.succ_pos n,(ia (a:=q) (b:=[n+1<2^30]).1 h).2⟩) K) hk ⟨(kL af).ok hv hn1,trivial⟩ [] need
  ·simp at hs
 ·simp at hs
theorem Tu:bY P QJ:=iu (aM (jX fun _ _ K hn=>EM hn.1 hn.2 K) (aM JZ iG))
theorem Ms {n:Nat} {c:Nat->Rat} (i:Nat):((1:Int):Rat)/c (n-1)*c i=cN n c i:=by
 unfold cN;rw[Rat.div_def,Rat.div_def,Rat.mul_comm];congr 1;exact Rat.one_mul _
theorem aeA {n:Nat} {c:Nat->Rat} (hn:n<2^40) (hz:cU n (cN n c)) (K:Nat):aW P 135 K [bG c n af] [] (aO (bG (cN n c) n af) []):=by
 have hW:=cP
 have hX:=vT
 refine cB hT Tu hm agM rfl bh rfl 60 Sn (fun _=>?_) K []
 simp only[ag.all,aC,beq_iff_eq,beq_eq_false_iff_ne]
 refine⟨fun h=>?_,fun h=>?_⟩
 ·rw[show n=0 by omega];exact mT aa
 ·rw[show((n:Int)-1).toNat=n-1 by omega]
  have hb:ck (Int.natAbs 1)=1:=by decide
  refine⟨⟨aa,aa,aa,aa,by rw[hb];decide,aa,aa⟩,⟨aa,eO aX,?_,hn,fun i hi=>by show Sz (_*c i) _;rw[Ms];exact hz i hi⟩,jk fun i hi=>dG (Ms i) aX⟩
  rw[hb,Nat.max_self];omega
def ED:Spec:=ef (kC (kL af) kN) (fun a=>bG (cN a.1.1 a.1.2) a.1.1 af) fun a=>[a.1.1<2^40,cU a.1.1 (cN a.1.1 a.1.2)]
theorem LY:bp P ED 135:=dy fun⟨⟨n,c⟩,_⟩ K hn=>aeA hn.1 hn.2 K
theorem Tv:bY P Lz:=iu (aM SX iG)
theorem ajz {n:Nat} {c:Nat->Rat} (hn:n<=41) (hz:ki n c) (K:Nat):aW P 81 K [bG c n af] [] (aO (bG (Ni n c) (Jl n) af) []):=by
 refine cB hT Tv hm aam rfl bh rfl 60 afl (fun _=>?_) K []
 simp only[ag.all,aC,beq_iff_eq,beq_eq_false_iff_ne]
 refine⟨fun h=>⟨aa,?_⟩,fun h=>⟨⟨eO aX,aa,hn,hz⟩,?_⟩⟩
 ·obtain rfl:n=0:=aa
  refine jk (n:=1) fun i hi=>?_
  obtain rfl:i=0:=aa
  exact p8
 ·have e1:Jl n=n:=if_neg aa
  rw[e1]
  exact jk fun i hi=>dG (if_neg (show¬n=0 by omega)).symm aX
theorem Wi:bY P Ld:=iu (aM ahb (aM Gn iG))
theorem abM {n:Nat} {c:Nat->Rat} (h1:1<=n) (h2:n<=41) (h3:uJ n c) (K:Nat):aW P 57 K [bG c n af] [] (aO (bG (fj n c) (bO (fj n c) n) af) []):=by
 refine cB hT Wi hm Zy rfl bh rfl 60 adk (fun _=>?_) K []
 simp only[ag.all,aC]
 exact⟨⟨eO aX,h1,h2,h3,eO aX,aa⟩,.refl _⟩
def xU:Spec:=fun K args pre=>match ze K args pre with
 |some r=>some r
 |none=>vt K args pre
def rB:bE:=zG::(xJ,M4)::(114,xU)::(142,jU kR kR Dh sj)::iC
abbrev wR:Code:=aK f88
abbrev Ii:Code:=part wR [1,1,1,1,0,0,0]
abbrev zZ:Code:=part Ii [1,0]
abbrev uu:List Nat:=[1,4,5,6]
abbrev yg (e:Nat) (d:Nat->Rat) (R L:Nat):List AV:=[bG d (e+1) af,.own 1 3 0 R,.own 0 3 0 L,.int .i64 e]
abbrev Bk (n R:Nat) (x q:Nat->Rat):aI:=[(0,cI n x af),(1,cI R q af)]
abbrev zE:List Nat:=[1,4,5,6,7,8,55,56,57]
abbrev FF (e:Nat) (d:Nat->Rat) (R L k i:Nat):List AV:=[bG d (e+1) af,.own 1 3 0 R,.own 0 3 0 L,.int .i64 e,.int .i64 k,.ptr 2 0 3 0 [],bG d e af,.int .i64 e,.int .i64 i]
abbrev ES (n R:Nat) (x q:Nat->Rat) (f:Rat):aI:=[(2,⟨false,true,3,1,fun _=>.rat f af⟩),(0,cI n x af),(1,cI R q af)]
theorem GC:bu 88 f88:=bC func88
theorem Tg {e:Nat} {a d:Nat->Rat}:cy T rB [200020,200029] 60 f88 (aK f88) ⟨aZ 0 [bG a 0 af,bG d (e+1) af],[],0⟩=
  let g:=rat 0 1;let f:=(↑(0:Nat):Int);let b:=(↑(e+1):Int)-1;some (aj [cL (fun i=>rat (a i) af) 0 af] (aj [-(2:Int)^63<=b/\b<2^63] (aj [decide (f>b)=false] (aj [decide (f>b)=false] (aj [cL (fun x=>g) 0 af,(0:Nat)<2^40] (leaf ret [aq 3 0 fun i=>rat (aN g) af,aq 3 0 fun i=>rat (aN (rat (a i) af)) af])))))):=ah
theorem akg {n e:Nat} {a d:Nat->Rat}:aL T rB [20] 60 uu (before wR [1,1,1,1,0]) ⟨aZ 0 [bG a (n+1) af,bG d (e+1) af],[],0⟩=
  let h:=(2:Int)^63;let k:=aq 3 (e+1) fun i=>rat (d i) af;let g:=(↑(e+1):Int)-1;let f:=n+1;let l:=[own 12288 3 0 f,int i64 g];let j:Nat×aA:=(12288,aA.mk true true 3 f fun i=>rat (aN (rat (a i) af)) af);let b:=(↑f:Int)-g;some (aj [cL (fun i=>rat (a i) af) (n+1) af,f<2^30] (aj [-h<=g/\g<h] (fork (decide ((↑f:Int)>g)) (aj [-h<=b/\b<h,(0:Int)<=b/\b<=b/\b<=2^47/\b*(↑(56:Nat):Int)<=2^47] (leaf normal (k::own 69632 3 0 b.toNat::l,[j,(69632,aA.mk true true 3 b.toNat fun x=>rat 0 1)]))) (leaf normal (k::nil::l,[j]))))):=ah
theorem YQ {n e R L:Nat} {d x q:Nat->Rat}:aL T rB [29] 60 uu (before Ii [1]) ⟨aH uu (yg e d R L),Bk n R x q,2⟩=
  let a:List AV×aI:=([aq 3 (e+1) fun i=>rat (d i) af,own 1 3 0 R,own 0 3 0 L,int i64 (↑e:Int)],[(0,aA.mk true true 3 n fun i=>rat (x i) af),(1,aA.mk true true 3 R fun i=>rat (q i) af)]);some (fork (decide ((↑L:Int)>(↑e:Int))) (leaf normal a) (leaf (exit 0) a)):=ah
theorem abi {n e R L:Nat} {d x q:Nat->Rat}:aL T rB [] 60 zE (before zZ [1,1,1,0,1]) ⟨aH uu (yg e d R L),Bk n R x q,2⟩=
  let l:=af<2^42;let k:=Int.toNat (0:Int);let f:=(2:Int)^63;let a:=(↑e:Int);let b:=(↑L:Int)-1;let h:=b.toNat+0;let g:=(b-a).toNat+0;some (aj [-f<=b/\b<f,-f<=b-a/\b-a<f] (aj [-f<=b/\b<f,(0:Int)<=b/\b.toNat<L,h<n,(0:Int)<=a/\a.toNat<e+1,l,l,(0:Nat)<1] (aj [(0:Nat)<1,(0:Int)<=b-a/\(b-a).toNat<R,g<R] (aj [(0:Int)<=0/\(0:Int)<=a/\a<=a/\a<=(↑(e+1):Int)] (leaf normal ([aq 3 (e+1) fun i=>rat (d i) af,own 1 3 0 R,own 0 3 0 L,int i64 a,int i64 (b-a),ptr 81922 0 3 0 [],aq 3 (a.toNat-k) fun i=>rat (d (i+k)) af,int i64 (↑(a.toNat-k):Int),int i64 0],[((81922:Nat),ij fun j=>if(j==0)=true then eE (rA (x h/d a.toNat) (af+af))else rat 0 1),(0,aA.mk true true 3 n fun i=>rat (x i) af),(1,aA.mk true true 3 R fun j=>rat (bif j==g then x h/d a.toNat else q j) (bif j==g then af+af else af))])))))):=ah
theorem ahh {n e R L k i:Nat} {d x q:Nat->Rat} {f:Rat}:aL T rB [58] 60 zE [part zZ [1,1,1,0,1,0,0]] ⟨aH zE (FF e d R L k i),ES n R x q f,3⟩=
  let r:=own 0 3 0 L;let p:=own 1 3 0 R;let g:=0<1;let o:=ptr 2 0 3 0 [];let a:=int i64 (↑e:Int);let z:=aq 3 e fun i=>rat (d i) af;let u:=2^42;let l:=(↑i:Int);let y:=aq 3 (e+1) fun i=>rat (d i) af;let w:Nat×aA:=(1,aA.mk true true 3 R fun i=>rat (q i) af);let v:Nat×aA:=((2:Nat),ij fun x=>rat f af);let m:=(2:Int)^63;let h:=l+1;let b:=(↑k:Int)+l;let s:=(0:Int)<=b/\b.toNat<L;let t:=b.toNat+0;some (fork (decide (l<(↑e:Int))) (aj [(0:Int)<=l/\l.toNat<e,g] (aj [-m<=b/\b<m,-m<=b/\b<m,s,t<n,g,g,af<u,af<u,af<u,af+af<u,s,t<n] (aj [-m<=h/\h<m] (leaf normal ([y,p,r,a,int i64 (↑k:Int),o,z,a,int i64 h],[v,(0,aA.mk true true 3 n fun j=>rat (bif j==t then x t-f*d l.toNat else x j) (bif j==t then af+(af+af)+1 else af)),w]))))) (leaf (exit 2) ([y,p,r,a,int i64 (↑k:Int),o,z,a,int i64 l],[v,(0,aA.mk true true 3 n fun i=>rat (x i) af),w]))):=ah
theorem ab9 {n e R L k i:Nat} {d x q:Nat->Rat} {f:Rat}:aL T rB [] 60 uu (behind zZ [1,1,1,0,1]) ⟨aH zE (FF e d R L k i),ES n R x q f,3⟩=
  let a:=(↑L:Int)-1;let b:=a.toNat-Int.toNat (0:Int);some (aj [-(2:Int)^63<=a/\a<2^63,(0:Int)<=0/\(0:Int)<=a/\a<=a/\a<=(↑L:Int),b<=n,b<2^40,vc (fun i=>rat (x i) af) n af] (leaf normal ([aq 3 (e+1) fun i=>rat (d i) af,own 1 3 0 R,own 0 3 0 (bO (fun i=>aN (rat (x i) af)) b),int i64 (↑e:Int)],[(0,aA.mk true true 3 n fun i=>rat (aN (rat (x i) af)) af),(1,aA.mk true true 3 R fun i=>rat (q i) af)]))):=ah
theorem Ue {n e R L:Nat} {d x q:Nat->Rat}:dc T rB [] 60 f88 [part wR [1,1,1,1,1]] ⟨aH uu (yg e d R L),Bk n R x q,2⟩=
  some (aj [R<=R,R<2^40,vc (fun i=>rat (q i) af) R af] (leaf ret [aq 3 (bO (fun i=>aN (rat (q i) af)) R) fun i=>rat (aN (rat (q (i+0)) af)) af,aq 3 L fun i=>rat (x (i+0)) af])):=ah
theorem aaM:bp P xU 114:=by
 intro K args pre r h
 unfold xU at h
 split at h
 ·rename_i h1
  exact ahe K args pre r (h1.trans h)
 ·exact Gn K args pre r h
theorem G7:bY P rB:=iu (aM Sj (aM aaM (aM (jX fun _ _ K hn=>EM hn.1 hn.2 K) iG)))
def oq (n e:Nat) (d a:Nat->Rat):Prop:=(∀j,j<=n-e->cU n (cC e d a (n-e) j))/\cU (n-e) (ej e d a (n-e))
abbrev wq (n e:Nat) (d a:Nat->Rat):AV:=.tuple [bG (ej e d a (n-e)) (bO (ej e d a (n-e)) (n-e)) af,bG (cC e d a (n-e) (n-e)) (bO (cC e d a (n-e) (n-e)) n) af]
theorem Q7 {e:Nat} {a d:Nat->Rat} (he:e<2^30) (K:Nat):aW P 88 K [bG a 0 af,bG d (e+1) af] [] (aO (wq 0 e d a) []):=by
 refine cB hT G7 hm GC rfl bh rfl 60 Tg (fun _=>?_) K []
 simp only[ag.all,aC,bR]
 have e0:bO (ej e d a (0-e)) (0-e)=0:=by rw[Nat.zero_sub];rfl
 refine⟨fun i hi=>absurd hi (Nat.not_lt_zero i),aa,aa,aa,⟨fun i hi=>absurd hi (Nat.not_lt_zero i),aa⟩,?_⟩
 show bf _ _/\bf _ _/\True
 rw[e0]
 exact⟨jk fun i hi=>absurd hi (Nat.not_lt_zero i),jk fun i hi=>absurd hi (Nat.not_lt_zero i),trivial⟩
theorem Qg {n e:Nat} {a d:Nat->Rat} (hn:n+1<2^30) (he:e<2^30) (ha:a n≠0) (hd:d e≠0) (hz:oq (n+1) e d a) (K:Nat):aW P 88 K [bG a (n+1) af,bG d (e+1) af] [] (aO (wq (n+1) e d a) []):=by
 refine jj (r:=aO (wq (n+1) e d a) []) hT GC rfl bh rfl (fun _ cx h0=>?_) K []
 have hk:=nr h0
 have hW:=cP
 obtain⟨N,hN⟩:∃N,N=n+1:=⟨_,rfl⟩
 obtain⟨R,hR⟩:∃R,R=N-e:=⟨_,rfl⟩
 have hRr:R=n+1-e:=aa
 unfold oq at hz
 rw[<-hN,<-hR]at hz
 obtain⟨hzR,hzQ⟩:=hz
 refine az.Vj hT G7 hm (x:=wR) [1,1,1,1,0] (i:=0) (y:=Ii) ah ah GC.dst [1] (j:=1) (x1:=zZ) ah ah ah [1,1,1,0,1] (i2:=2) (y2:=part zZ [1,1,1,0,1,0,0]) ah ah rfl ah hk
  (f1:=[20]) (f2:=[29]) (f3:=[]) (f4:=[58]) (f5:=[]) 60 uu zE 2 3 (fun a:Nat×(Nat->Rat)×(Nat->Rat)=>yg e d R a.1) (fun a=>Bk N R a.2.1 a.2.2) (fun b=>lF N e R d a b.1 b.2.1 b.2.2/\cU N b.2.1) (fun b=>lF N e R d a b.1 b.2.1 b.2.2/\b.1<=e) (fun b=>b.1) (fun b=>e<b.1) (fun _=>False) (fun _=>False)
  (fun b (i:Nat)=>FF e d R b.1 (b.1-1-e) i) (fun b i=>ES N R (fN e d b.2.1 (b.1-1-e) (b.2.1 (b.1-1)/d e) i) (fun j=>if j=b.1-1-e then b.2.1 (b.1-1)/d e else b.2.2 j) (b.2.1 (b.1-1)/d e)) (fun b i=>i<=e/\cU N (fN e d b.2.1 (b.1-1-e) (b.2.1 (b.1-1)/d e) i)) (fun b i=>i=e/\cU N (fN e d b.2.1 (b.1-1-e) (b.2.1 (b.1-1)/d e) e)) (fun _ i=>e-i)
  ⟨_,akg,?_⟩ (fun b ⟨hb,hx⟩=>⟨_,YQ,?_⟩) (fun b ⟨hb,hx⟩ hG=>⟨_,abi,?_⟩) (fun b ⟨hb,hx⟩ hG i ⟨hi,hxi⟩=>⟨_,ahh,?_⟩) (fun b ⟨hb,hx⟩ hG i ⟨hi,hxi⟩=>⟨_,ab9,?_⟩) (fun b s' ⟨hb,hle⟩ hs'=>?_) (fun _ _ h=>h.elim) (fun _ _ h=>h.elim)
 ·simp only[ag.all,aC,bI,bR]
  have hs0:lF N e R d a N a fun _=>0:=lF.start hR (.inr (by rw[hN];exact ha))
  have hsz:cU N a:=hzR 0 (Nat.zero_le _)
  refine⟨⟨eO aX,hn⟩,aa,fun h=>⟨aa,(N,a,fun _=>0),⟨hs0,hsz⟩,[(0,12288),(1,69632)],rfl,?_,rfl,bF rfl rfl hN.symm (fun j hj=>bT rfl rfl) (bF rfl rfl aa (fun j hj=>.inr ⟨rfl,dG rfl aa⟩) trivial)⟩,fun h=>?_⟩
  ·rw[show((n+1:Nat):Int)-(((e+1:Nat):Int)-1)=(R:Nat) by omega,show((e+1:Nat):Int)-1=(e:Nat) by omega,bS,<-hN];rfl
  ·have h0:R=0:=aa
   clear hzR hzQ
   subst h0
   refine⟨(N,a,fun _=>0),⟨hs0,hsz⟩,[(0,12288)],rfl,?_,rfl,bF rfl rfl hN.symm (fun j hj=>bT rfl rfl) (l6 rfl aa aa trivial)⟩
   rw[show((e+1:Nat):Int)-1=(e:Nat) by omega,<-hN];rfl
 ·obtain⟨L,x,q⟩:=b
  simp only[ag.all,aC,bI,bR]
  have re:en [] ([aq 3 (e+1) fun i=>rat (d i) af,own 1 3 0 R,own 0 3 0 L,int i64 (↑e:Int)],[(0,aA.mk true true 3 N fun i=>rat (x i) af),(1,aA.mk true true 3 R fun i=>rat (q i) af)]) (yg e d R L) (Bk N R x q) 2:=⟨[(0,0),(1,1)],rfl,rfl,rfl,bF rfl rfl rfl (fun j hj=>bT rfl rfl) (bF rfl rfl rfl (fun j hj=>bT rfl rfl) trivial)⟩
  exact⟨fun h=>⟨aa,re⟩,fun h=>⟨rfl,(L,x,q),⟨hb,by dsimp only;omega⟩,re⟩⟩
 ·obtain⟨L,x,q⟩:=b
  have hl:=hb.le
  have hG:e<L:=hG
  dsimp only at hl hb
  have hq:=hb.quot hR hG
  have hf:Sz (x (L-1)/d e) af:=by rw[hq];exact hzQ _ aa
  simp only[ag.all,aC,Nat.add_zero]
  rw[show((L:Int)-1).toNat=L-1 by omega,show((L:Int)-1-(e:Int)).toNat=L-1-e by omega,bS]
  have hu0:fN e d x (L-1-e) (x (L-1)/d e) 0=x:=by funext j;unfold fN;rw[if_neg aa]
  refine⟨aa,aa,aa,aa,0,⟨Nat.zero_le _,by rw[hu0];exact hx⟩,[(0,0),(1,1),(2,81922)],rfl,?_,rfl,?_⟩
  ·rw[show(L:Int)-1-(e:Int)=(L-1-e:Nat) by omega];rfl
  ·refine kg rfl rfl (.inr ⟨rfl,eM rfl hf⟩) (bF rfl rfl rfl (fun j hj=>.inr ⟨rfl,dG (by rw[hu0]) aX⟩) (bF rfl rfl rfl (fun j hj=>?_) trivial))
   exact nS (x:=q) (y:=fun j=>if j=L-1-e then x (L-1)/d e else q j) (eM (if_pos rfl).symm (by show Sz (if _ then _ else _) _;rw[if_pos rfl];exact hf)) fun hj=>dG (if_neg hj).symm aX
 ·obtain⟨L,x,q⟩:=b
  have hl:=hb.le
  have hG:e<L:=hG
  dsimp only at hl hb hi hxi
  simp only[ag.all,aC,bI,bR,Nat.add_zero]
  rw[show((L-1-e:Nat):Int)+(i:Int)=(L-1-e+i:Nat) by omega,bS,bS]
  generalize hf:x (L-1)/d e=f at*
  have h1:∀j,j≠L-1-e+i->fN e d x (L-1-e) f i j=fN e d x (L-1-e) f (i+1) j:=fun j hj=>by
   unfold fN
   by_cases h2:L-1-e<=j/\j<L-1-e+i
   ·rw[if_pos h2,if_pos aa]
   ·rw[if_neg h2,if_neg aa]
  have h2:fN e d x (L-1-e) f i (L-1-e+i)-f*d i=fN e d x (L-1-e) f (i+1) (L-1-e+i):=by
   unfold fN
   rw[if_neg aa,if_pos aa,show L-1-e+i-(L-1-e)=i by omega]
  refine⟨fun h=>?_,fun h=>⟨rfl,i,⟨aa,by rw[show i=e by omega]at hxi;exact hxi⟩,[(0,0),(1,1),(2,2)],rfl,rfl,rfl,dD (bF rfl rfl rfl (fun j hj=>bT rfl rfl) (bF rfl rfl rfl (fun j hj=>bT rfl rfl) trivial))⟩⟩
  have hs:Sz (fN e d x (L-1-e) f (i+1) (L-1-e+i)) af:=by
   subst hf
   rw[hb.NZ hR hG (i:=i+1) aa aa aa]
   exact hzR _ aa _ aa
  refine⟨aa,aa,aa,i+1,⟨aa,fun j hj=>?_⟩,by dsimp only;omega,[(0,0),(1,1),(2,2)],rfl,rfl,rfl,dD (bF rfl rfl rfl (fun j hj=>?_) (bF rfl rfl rfl (fun j hj=>bT rfl rfl) trivial))⟩
  ·by_cases h3:j=L-1-e+i
   ·rw[h3];exact hs
   ·rw[<-h1 j h3];exact hxi j hj
  ·exact nS (x:=fN e d x (L-1-e) f i) (y:=fN e d x (L-1-e) f (i+1)) (eM h2 hs) fun hj=>dG (h1 j hj) aX
 ·obtain⟨L,x,q⟩:=b
  have hl:=hb.le
  have hG:e<L:=hG
  dsimp only at hl hb hi hxi
  subst hi
  simp only[ag.all,aC]
  rw[show((L:Int)-1).toNat-(0:Int).toNat=L-1 by omega]
  exact⟨⟨aa,aa,aa,aa,fun j hj=>⟨rfl,.refl _⟩⟩,(_,_,_),⟨hb.next hR hd hG,hxi⟩,Nat.lt_of_le_of_lt fK (show L-1<L by omega),[(0,0),(1,1)],rfl,rfl,rfl,bF rfl rfl rfl (fun j hj=>bT rfl rfl) (bF rfl rfl rfl (fun j hj=>bT rfl rfl) trivial)⟩
 ·obtain⟨L,x,q⟩:=b
  dsimp only at hb hle
  obtain⟨f1,f2,f3⟩:=hb.fin hR hle
  have hl:=hb.le
  rw[show behind wR [1,1,1,1,0]=[part wR [1,1,1,1,1]]from by kernel_rfl]
  refine aJ.weak rfl hs' (aJ.mono (fun _ _ h=>.inl h) (aJ.fin hT G7 hm 60 Ue ah ?_))
  simp only[ag.all,aC,Nat.add_zero]
  refine⟨⟨aX,aa,fun j hj=>⟨rfl,.refl _⟩⟩,?_⟩
  show bf _ _/\bf _ _/\True
  rw[<-hN,<-hR,<-f1,<-DR (k:=q) f3]
  exact⟨jk fun i hi=>dG (f3 i (Nat.lt_of_lt_of_le hi fK)) aX,jk fun i hi=>dG (f2 i hi) aX,trivial⟩
def CO:Spec:=ef (kC (kL af) (kC (kL af) kN)) (fun a=>wq a.1.1 (a.2.1.1-1) a.2.1.2 a.1.2) fun a=>[a.1.1<2^30,1<=a.2.1.1,a.2.1.1<2^30,a.1.1=0\/a.1.2 (a.1.1-1)≠0,a.2.1.2 (a.2.1.1-1)≠0,oq a.1.1 (a.2.1.1-1) a.2.1.2 a.1.2]
theorem Hx:bp P CO 88:=dy fun⟨⟨n,a⟩,⟨m,d⟩,_⟩ K hn=>by
 obtain⟨h1,h2,h3,h4,h5,h6⟩:=hn
 simp only at h1 h2 h3 h4 h5 h6
 obtain⟨e,rfl⟩:∃e,m=e+1:=⟨m-1,aa⟩
 cases n with
 |zero=>exact Q7 aa K
 |succ n=>exact Qg h1 aa (by simpa using h4) h5 h6 K
abbrev aD (a:PP):AV:=bG a.2 a.1 af
def B1:bE:=zG::(88,CO)::(135,ED)::iC
abbrev As:Code:=aK f72
abbrev pF:List Nat:=[0,1]
abbrev xO (s:PP×PP):List AV:=[aD s.1,aD s.2]
def nk (a d:PP):Prop:=oq a.1 (d.1-1) d.2 a.2
def oB (s:PP×PP):Prop:=(∀j,(bW s j).2.1≠0->nk (bW s j).1 (bW s j).2/\cU (dj (bW s j).1 (bW s j).2).1 (cN (dj (bW s j).1 (bW s j).2).1 (dj (bW s j).1 (bW s j).2).2))/\cU (bN s.1 s.2).1 (bN s.1 s.2).2
def yI:Spec:=ef (kC (kL af) (kC (kL af) kN)) (fun a=>aD (bN a.1 a.2.1)) fun a=>[a.1.1<2^30,a.2.1.1<2^30,Trim a.1,Trim a.2.1,oB (a.1,a.2.1)]
def x8 (a:PP):Prop:=a.1≠0->oB (a,bz a)/\nk a (bN a (bz a))/\cU (bg a).1 (bg a).2
def JC:bE:=zG::(88,CO)::(135,ED)::(73,r9)::(72,yI)::iC
theorem Z2:bu 72 f72:=bC func72
theorem XD:bu 80 f80:=bC func80
theorem ZI {s:PP×PP}:aL T B1 [] 60 pF (before As [1,0]) ⟨aZ 0 [aD s.1,aD s.2],[],0⟩=
  some (leaf normal ([aq 3 s.fst.fst fun i=>rat (s.fst.snd i) af,aq 3 s.snd.fst fun i=>rat (s.snd.snd i) af],[])):=ah
theorem ahF {a b:PP}:aL T B1 [9] 60 pF [part As [1,0,0,0]] ⟨aH pF [aD a,aD b],[],0⟩=
  let g:=aq 3 b.fst fun i=>rat (b.snd i) af;let e:=b.fst-1;let d:=a.fst-e;let f:=bO (cC e (fun i=>aN (rat (b.snd i) af)) (fun i=>aN (rat (a.snd i) af)) d d) a.fst;some (fork (decide ((↑b.fst:Int)>0)) (aj [cL (fun i=>rat (a.snd i) af) a.fst af,cL (fun i=>rat (b.snd i) af) b.fst af,a.fst<2^30,(1:Nat)<=b.fst,b.fst<2^30,a.fst=0\/aN (rat (a.snd (a.fst-1)) af)≠0,aN (rat (b.snd e) af)≠0,oq a.fst e (fun i=>aN (rat (b.snd i) af)) fun i=>aN (rat (a.snd i) af)] (aj [cL (fun i=>rat (cC e (fun i=>aN (rat (b.snd i) af)) (fun i=>aN (rat (a.snd i) af)) d d i) af) f af,f<2^40,cU f (cN f fun i=>aN (rat (cC e (fun i=>aN (rat (b.snd i) af)) (fun i=>aN (rat (a.snd i) af)) d d i) af))] (leaf normal ([g,aq 3 f fun i=>rat (cN f (fun i=>aN (rat (cC e (fun i=>aN (rat (b.snd i) af)) (fun i=>aN (rat (a.snd i) af)) d d i) af)) i) af],[])))) (leaf (exit 0) ([aq 3 a.fst fun i=>rat (a.snd i) af,g],[]))):=ah
theorem abx {a b:PP}:dc T B1 [] 60 f72 [part As [1,1]] ⟨aH pF [aD a,aD b],[],0⟩=
  some (aj [cL (fun i=>rat (a.snd i) af) a.fst af,a.fst<2^40,cU a.fst (cN a.fst fun i=>aN (rat (a.snd i) af))] (leaf ret [aq 3 a.fst fun i=>rat (cN a.fst (fun i=>aN (rat (a.snd i) af)) i) af])):=ah
theorem ac9 {a:PP}:cy T JC [7] 60 f80 (aK f80) ⟨aZ 0 [aD a],[],0⟩=
  let d:=a.fst;let k:=2^30;let g:=d-1;let n:Nat×(Nat->Rat):=(d,fun i=>aN (rat (a.snd i) af));let m:=cL (fun i=>rat (a.snd i) af) d af;let j:=bO (cV fun i=>aN (rat (a.snd i) af)) g;let l:Nat×(Nat->Rat):=(j,fun i=>aN (rat (cV (fun i=>aN (rat (a.snd i) af)) i) af));let f:PP:=(bW (n,l) j).fst;let b:=f.fst;let e:=b-1;let h:=bO (ej e (fun i=>aN (rat (cN b f.snd i) af)) (fun i=>aN (rat (a.snd i) af)) (d-e)) (d-e);some (fork ((↑d:Int)==0) (leaf ret [nil]) (aj [m,d<2^40,cU g (cV fun i=>aN (rat (a.snd i) af)),m,cL (fun i=>rat (cV (fun i=>aN (rat (a.snd i) af)) i) af) j af,d<k,j<k,Trim n,Trim l,oB (n,l),m,cL (fun i=>rat (cN b f.snd i) af) b af,d<k,(1:Nat)<=b,b<k,d=0\/aN (rat (a.snd g) af)≠0,aN (rat (cN b f.snd e) af)≠0,oq d e (fun i=>aN (rat (cN b f.snd i) af)) fun i=>aN (rat (a.snd i) af)] (aj [cL (fun i=>rat (ej e (fun i=>aN (rat (cN b f.snd i) af)) (fun i=>aN (rat (a.snd i) af)) (d-e) i) af) h af,h<2^40,cU h (cN h fun i=>aN (rat (ej e (fun i=>aN (rat (cN b f.snd i) af)) (fun i=>aN (rat (a.snd i) af)) (d-e) i) af))] (leaf ret [aq 3 h fun i=>rat (cN h (fun i=>aN (rat (ej e (fun i=>aN (rat (cN b f.snd i) af)) (fun i=>aN (rat (a.snd i) af)) (d-e) i) af)) i) af])))):=ah
theorem aia:bY P B1:=iu (aM Hx (aM LY iG))
theorem Z0 {a b:PP} (ha:a.1<2^30) (hb:b.1<2^30) (ta:Trim a) (tb:Trim b) (hz:oB (a,b)) (K:Nat):aW P 72 K [aD a,aD b] [] (aO (aD (bN a b)) []):=by
 obtain⟨s,hs⟩:∃s,s=(a,b):=⟨_,rfl⟩
 have hT1:=lC (s:=s) (by rw[hs];exact ta) (by rw[hs];exact tb)
 have hL:=yN (s:=s) (by rw[hs];exact ta) (by rw[hs];exact tb)
 have hB:=xF (s:=s) (B:=2^30-1) (by rw[hs];dsimp only;omega) (by rw[hs];dsimp only;omega) (by rw[hs];exact ta) (by rw[hs];exact tb)
 have hb2:s.2.1=b.1:=by rw[hs]
 rw[<-hs]at hz
 refine jA (r:=aO (aD (bN a b)) []) hT aia hm Z2 rfl bh rfl [1,0] (i:=0) (y:=part As [1,0,0,0]) (z:=part As [1,1]) ah ah ah (f1:=[]) (f2:=[9]) (f3:=[]) 60 pF 0
  (fun j:Nat=>xO (bW s j)) (fun _=>[]) (fun j=>j<=b.1) (fun j=>j<=b.1/\(bW s j).2.1=0) (fun j=>(bW s j).2.1) (fun _=>⟨⟨_,ZI (s:=(a,b)),?_⟩,fun j hj=>⟨_,ahF,?_⟩,fun j hj=>⟨_,abx,?_⟩⟩) K []
 ·simp only[ag.all,aC]
  exact⟨0,Nat.zero_le _,by rw[hs];exact en.vals rfl⟩
 ·have h1:=hT1 j
  have h2:=hL j
  have h3:=hB j
  have h4:=hB (j+1)
  have h5:=hz.1 j
  have e1:(bW s j).2.1≠0->bW s (j+1)=((bW s j).2,dM (dj (bW s j).1 (bW s j).2)):=fun h=>if_neg h
  have e2:=hL (j+1)
  obtain⟨x,y,hx⟩:∃x y,bW s j=(x,y):=⟨_,_,rfl⟩
  rw[hx]at h1 h2 h3 h5 e1
  dsimp only at h1 h2 h3 h5 e1
  simp only[ag.all,aC,bI,bR,hx]
  refine⟨fun h=>?_,fun h=>⟨rfl,j,⟨hj,by rw[hx];dsimp only;omega⟩,by show en _ _ (xO (bW s j)) _ _;rw[hx];exact en.vals rfl⟩⟩
  have hy:y.1≠0:=aa
  have e1:=e1 hy
  rw[e1]at h4 e2
  have hr:(dj x y).1<y.1:=oA aa h1.2
  have ty:y.2 (y.1-1)≠0:=by rcases h1.2 with h|h;omega;exact h
  refine⟨⟨eO aX,eO aX,aa,aa,aa,h1.1,ty,(h5 hy).1⟩,⟨eO aX,by show(dj x y).1<_;omega,(h5 hy).2⟩,j+1,aa,?_,?_⟩
  ·show(bW s (j+1)).2.1<(bW s j).2.1
   rw[e1,hx];exact hr
  ·show en _ _ (xO (bW s (j+1))) _ _
   rw[e1];exact en.vals rfl
 ·obtain⟨hj,h0⟩:=hj
  have hg:dM (bW s j).1=bN a b:=by rw[hs]at h0 ⊢;exact ajk ta tb hj h0
  have h3:=hB j
  have hz2:=hz.2
  rw[show s.1=a by rw[hs],show s.2=b by rw[hs],<-hg]at hz2
  rw[<-hg]
  simp only[ag.all,aC]
  exact⟨⟨eO aX,aa,hz2⟩,.refl _⟩
theorem Dw:bp P yI 72:=dy fun⟨a,b,_⟩ K hn=>Z0 hn.1 hn.2.1 hn.2.2.1 hn.2.2.2.1 hn.2.2.2.2 K
theorem ac0:bY P JC:=iu (aM Hx (aM LY (aM EK (aM Dw iG))))
theorem NB {a:PP} (ha:a.1<2^30) (ta:Trim a) (hd:cU (a.1-1) (cV a.2)) (hz:x8 a) (K:Nat):aW P 80 K [aD a] [] (aO (aD (bg a)) []):=by
 refine cB hT ac0 hm XD rfl bh rfl 60 ac9 (fun _=>?_) K []
 simp only[ag.all,aC,beq_iff_eq,beq_eq_false_iff_ne]
 refine⟨fun h=>?_,fun h=>?_⟩
 ·have h0:a.1=0:=aa
  unfold bg
  rw[if_pos h0];exact mT aa
 ·have h0:a.1≠0:=aa
  obtain⟨z1,z2,z3⟩:=hz h0
  have e0:bg a=dM (fE a (bN a (bz a))):=if_neg h0
  rw[e0]at z3 ⊢
  have hd1:(bz a).1<=a.1-1:=fK
  have hg:=xF (s:=(a,bz a)) (B:=a.1) aX (by dsimp only;omega) ta eC (bz a).1
  have hgp:0<(bN a (bz a)).1:=mh aa
  have tg:Trim (bN a (bz a)):=j9 ta eC
  have tg':(bN a (bz a)).2 ((bN a (bz a)).1-1)≠0:=by rcases tg with h|h;omega;exact h
  have hq:(fE a (bN a (bz a))).1<=a.1:=Nat.le_trans fK (Nat.sub_le _ _)
  exact⟨⟨eO aX,aa,hd,eO aX,eO aX,ha,Nat.lt_of_le_of_lt hd1 aa,ta,eC,z1,eO aX,eO aX,ha,hgp,Nat.lt_of_le_of_lt hg ha,ta,tg',z2⟩,⟨eO aX,Nat.lt_of_le_of_lt hq aa,z3⟩,.refl _⟩
def PS:Spec:=ef (kC (kL af) kN) (fun a=>aD (bg a.1)) fun a=>[a.1.1<2^30,Trim a.1,cU (a.1.1-1) (cV a.1.2),x8 a.1]
theorem ai1:bp P PS 80:=dy fun⟨a,_⟩ K hn=>NB hn.1 hn.2.1 hn.2.2.1 hn.2.2.2 K
abbrev CU (n:Nat) (s:PP×PP):AV:=.aq 1 n fun i=>aD (bH s i).1
abbrev nX (n:Nat) (s:PP×PP):aA:=⟨true,true,1,n,fun i=>aD (bH s i).1⟩
def BM:bE:=zG::(88,CO)::(121,FC)::(73,r9)::(80,PS)::iC
abbrev yy:Code:=aK f59
abbrev zn:List Nat:=[3,4,5]
abbrev DN (s:PP×PP) (j:Nat):List AV:=[aD (bH s j).1,.own 0 1 0 (j+1),aD (bH s j).2]
def A6 (s:PP×PP):Prop:=∀j,j<eo s->nk (bH s j).1 (bH s j).2/\cU (bH s (j+1)).2.1 (bH s (j+1)).2.2
theorem VP:bu 59 f59:=bC func59
theorem TK {a:PP}:aL T BM [] 60 zn (before yy [1,1,1,0,1]) ⟨aZ 0 [aD a],[],0⟩=
  let d:Nat×(Nat->Rat):=(a.fst,fun i=>aN (rat (a.snd i) af));let b:PP:=bg d;some (aj [cL (fun i=>rat (a.snd i) af) a.fst af,a.fst<2^30,Trim d,cU (a.fst-1) (cV fun i=>aN (rat (a.snd i) af)),x8 d] (aj [(1:Nat)*1<=2^24] (aj [cL (fun i=>rat (b.snd i) af) b.fst af,b.fst<2^40,cU (b.fst-1) (cV fun i=>aN (rat (b.snd i) af))] (leaf normal ([aq 3 b.fst fun i=>rat (b.snd i) af,own 20480 1 0 1,aq 3 (bO (cV fun i=>aN (rat (b.snd i) af)) (b.fst-1)) fun i=>rat (cV (fun i=>aN (rat (b.snd i) af)) i) af],[(20480,aA.mk true true 1 1 fun i=>nth [aq 3 b.fst fun i=>rat (b.snd i) af] nil i)]))))):=ah
theorem ad6 {x y:PP} {s:PP×PP} {j:Nat}:aL T BM [16] 60 zn [part yy [1,1,1,0,1,0,0]] ⟨aH zn [aD x,.own 0 1 0 (j+1),aD y],[(0,nX (j+1) s)],1⟩=
  let e:=(-1:Int);let h:=aq 3 y.fst fun i=>rat (y.snd i) af;let d:=j+1;let b:=y.fst-1;let g:=d+1;let a:=x.fst-b;let f:=bO (cC b (fun i=>aN (rat (y.snd i) af)) (fun i=>aN (rat (x.snd i) af)) a a) x.fst;some (fork (decide ((↑y.fst:Int)>0)) (aj [(1:Nat)*1<=2^24,g*((24:Nat)+1)*2<=2^47] (aj [cL (fun i=>rat (x.snd i) af) x.fst af,cL (fun i=>rat (y.snd i) af) y.fst af,x.fst<2^30,(1:Nat)<=y.fst,y.fst<2^30,x.fst=0\/aN (rat (x.snd (x.fst-1)) af)≠0,aN (rat (y.snd b) af)≠0,oq x.fst b (fun i=>aN (rat (y.snd i) af)) fun i=>aN (rat (x.snd i) af)] (aj [-(2:Int)^63<=e,e<2^63,cL (fun i=>rat (cC b (fun i=>aN (rat (y.snd i) af)) (fun i=>aN (rat (x.snd i) af)) a a i) af) f af,Max.max 1 (ck e.natAbs)<=eV,f<2^40,cU f fun i=>(↑e:Rat)*aN (rat (cC b (fun i=>aN (rat (y.snd i) af)) (fun i=>aN (rat (x.snd i) af)) a a i) af)] (leaf normal ([h,own 24577 1 0 g,aq 3 f fun i=>rat ((↑e:Rat)*aN (rat (cC b (fun i=>aN (rat (y.snd i) af)) (fun i=>aN (rat (x.snd i) af)) a a i) af)) af],[(24577,aA.mk true true 1 g fun i=>if i<d then aD (bH s i).fst else nth [aq 3 y.fst fun i=>rat (y.snd i) af] nil (i-d+0))]))))) (leaf (exit 0) ([aq 3 x.fst fun i=>rat (x.snd i) af,own 0 1 0 d,h],[(0,aA.mk true true 1 d fun i=>aq 3 (bH s i).fst.fst fun i_1=>rat ((bH s i).fst.snd i_1) af)]))):=ah
theorem aaz {s:PP×PP} {j:Nat}:dc T BM [] 60 f59 [part yy [1,1,1,1]] ⟨aH zn (DN s j),[(0,nX (j+1) s)],1⟩=
  some (leaf ret [aq 1 (j+1) fun i=>aq 3 (bH s (i+0)).fst.fst fun i_1=>rat ((bH s (i+0)).fst.snd i_1) af]):=ah
theorem ag5:bY P BM:=iu (aM Hx (aM JZ (aM EK (aM ai1 iG))))
theorem UY {a:PP} (ha:a.1<2^30) (ta:Trim a) (hd:cU (a.1-1) (cV a.2)) (hz:x8 a) (hd2:cU ((bg a).1-1) (cV (bg a).2)) (hs:A6 (eG a)) (K:Nat):aW P 59 K [aD a] [] (aO (CU (eo (eG a)+1) (eG a)) []):=by
 obtain⟨s,hss⟩:∃s,s=eG a:=⟨_,rfl⟩
 have t1:Trim s.1:=by rw[hss];exact iI
 have t2:Trim s.2:=by rw[hss];exact eC
 have hTr:=mU t1 t2
 obtain⟨g1,g2,g3⟩:=lS t1 t2
 have hfl:(bg a).1<=a.1:=by
  unfold bg;split
  ·exact Nat.zero_le _
  ·exact Nat.le_trans fK (Nat.sub_le _ _)
 have hdl:(bz (bg a)).1<=(bg a).1-1:=fK
 have hB:=HP (s:=s) (B:=2^30-1) (by rw[hss];show(bg a).1<=_;omega) (by rw[hss];show(bz (bg a)).1<=_;omega) t1 t2
 have hg0:s.2.1=(bz (bg a)).1:=by rw[hss];rfl
 have hg:eo s<2^30:=aa
 rw[<-hss]at hs ⊢
 refine jA (r:=aO (CU (eo s+1) s) []) hT ag5 hm VP rfl bh rfl [1,1,1,0,1] (i:=0) (y:=part yy [1,1,1,0,1,0,0]) (z:=part yy [1,1,1,1]) ah ah ah (f1:=[]) (f2:=[16]) (f3:=[]) 60 zn 1
  (fun j:Nat=>DN s j) (fun j=>[(0,nX (j+1) s)]) (fun j=>j<=eo s) (fun j=>j=eo s) (fun j=>eo s-j) (fun _=>⟨⟨_,TK,?_⟩,fun j hj=>⟨_,ad6 (x:=(bH s j).1) (y:=(bH s j).2),?_⟩,fun j hj=>⟨_,aaz,?_⟩⟩) K []
 ·simp only[ag.all,aC]
  refine⟨⟨eO aX,ha,ta,hd,hz⟩,aa,⟨eO aX,Nat.lt_of_le_of_lt hfl aa,hd2⟩,0,Nat.zero_le _,[(0,20480)],rfl,by rw[hss];rfl,rfl,bF rfl rfl rfl (fun i hi=>?_) trivial⟩
  obtain rfl:i=0:=aa
  rw[hss];exact bT rfl rfl
 ·have h1:=hTr j
  have h3:=hB j hj
  have hb:ck (Int.natAbs (-1))=1:=by decide
  have hW:=cP
  have hX:=vT
  simp only[ag.all,aC,bI,bR]
  refine⟨fun h=>?_,fun h=>?_⟩
  ·have hy:(bH s j).2.1≠0:=aa
   have hjl:j<eo s:=by
    rcases Nat.lt_or_ge j (eo s)with h|h
    ·exact h
    ·exact absurd (by rw[show j=eo s by omega];exact g2) hy
   have hr:(dj (bH s j).1 (bH s j).2).1<(bH s j).2.1:=oA aa h1.2
   have ty:(bH s j).2.2 ((bH s j).2.1-1)≠0:=by rcases h1.2 with h|h;omega;exact h
   refine⟨⟨aa,aa⟩,⟨eO aX,eO aX,aa,aa,aa,h1.1,ty,(hs j hjl).1⟩,⟨aa,aa,eO aX,by rw[hb,Nat.max_self];omega,by show(dj (bH s j).1 (bH s j).2).1<_;omega,(hs j hjl).2⟩,j+1,hjl,by dsimp only;omega,[(0,24577)],rfl,rfl,rfl,bF rfl rfl rfl (fun i hi=>?_) trivial⟩
   by_cases hi2:i<j+1
   ·rw[if_pos hi2];exact bT rfl rfl
   ·rw[if_neg hi2,show i-(j+1)+0=0 by omega,show i=j+1 by omega];exact bT rfl rfl
  ·have hjl:j=eo s:=by
    rcases Nat.lt_or_ge j (eo s)with h'|h'
    ·have:=g3 j h';omega
    ·omega
   exact⟨rfl,j,hjl,[(0,0)],rfl,rfl,rfl,bF rfl rfl rfl (fun i hi=>bT rfl rfl) trivial⟩
 ·subst hj
  exact .refl _
abbrev sK:Nat:=4096
abbrev ls (k:Nat->Rat) (n:Nat):AV:=bG k n sK
abbrev M5 (n:Nat) (k:Nat->Rat) (i:Nat):List AV:=[ls k n,.ptr 0 0 3 0 [],.int .i64 i,.int .i64 0,.int .i64 0]
theorem akd {a b:Rat}:g7 a b>=0↔b<=a:=by
 have:=@CY a b
 constructor
 ·intro h
  have:¬a<b:=fun h'=>by have:=CY.2 h';omega
  grind
 ·intro h
  have:¬g7 a b<0:=fun h'=>by have:=CY.1 h';grind
  omega
def Qa (n:Nat) (k:Nat->Rat) (t:Rat):Prop:=t<k 0\/k (n-1)<t
instance {n:Nat} {k:Nat->Rat} {t:Rat}:Decidable (Qa n k t):=inferInstanceAs (Decidable (t<k 0\/k (n-1)<t))
def RT (k:Nat->Rat) (i:Nat) (t:Rat) (d j:Nat):Rat:=if j=0 then 0 else fr (k (i-d+(j-1))) (k (i-d+(j-1)+(d+1))) t*vB k i t d (j-1)
abbrev sB:Nat:=536870912
theorem Vy:bu 56 f56:=bC func56
theorem afr:bu 113 f113:=bC func113
def AE (k:Nat->Rat) (t:Rat):Nat->Nat
 |0=>0
 |i+1=>AE k t i+if k i=t then 1 else 0
def Sx (k:Nat->Rat) (i:Nat):Prop:=i=0\/k i≠k (i-1)
instance {k:Nat->Rat} {i:Nat}:Decidable (Sx k i):=inferInstanceAs (Decidable (i=0\/k i≠k (i-1)))
def Yb (n:Nat) (k:Nat->Rat) (p:Nat) (t:Rat):Prop:=((t=k 0\/t=k (n-1))/\AE k t n≠p+1)\/(¬(t=k 0\/t=k (n-1))/\p<AE k t n)
instance {n:Nat} {k:Nat->Rat} {p:Nat} {t:Rat}:Decidable (Yb n k p t):=inferInstanceAs (Decidable (((t=k 0\/t=k (n-1))/\AE k t n≠p+1)\/(¬(t=k 0\/t=k (n-1))/\p<AE k t n)))
def loadT (o:Oper):Nat:=match o.op with
 |.load t _=>t
 |_=>0
def aak (o:Oper):Nat:=match o.op with
 |.binOp _ t _ _ _=>t
 |_=>0
def VO (o:Oper):Array TypeId:=match o.op with
 |.call c=>c.argTypes
 |_=>#[]
def Yo (o:Oper):Nat:=match o.op with
 |.unOp _ t _=>t
 |_=>0
def L9:Code->Code×Code
 |.block _ (.rangeFunc _ _ x y)=>(x,y)
 |_=>(.skip,.skip)
def fF (a:PP) (t:Rat):Prop:=∀m,m<=a.1->Sz (gi a.1 a.2 t m) af
abbrev R3:FuncId:=127
abbrev Ek:FuncId:=163
abbrev vY:Code:=aK f163
def br (v:AV):PP:=match tQ v with
 |some (n,f)=>(n,fun i=>aN (f i))
 |none=>(0,fun _=>0)
abbrev eH (n:Nat) (c:Nat->PP):AV:=.aq 1 n fun i=>aD (c i)
def mW:Kind (Nat×(Nat->PP)):=⟨fun v=>match v with
 |.aq 1 n f=>some ((n,fun i=>br (f i)),[∀i,i<n->bf (f i) (aD (br (f i)))])
 |_=>none,fun a=>eH a.1 a.2,fun {v a q} h hq=>by
  split at h
  ·simp only[aB,Prod.mk.injEq]at h
   obtain⟨rfl,rfl⟩:=h
   exact jk hq
  ·simp at h⟩
def lT:Spec:=ef (kC (kL af) (kC (fu af) kN)) (fun a=>.rat (b9 a.1 a.2.1) af) fun a=>[a.1.1<2^40,fF a.1 a.2.1]
def de (c:Nat->PP) (t:Rat) (i:Nat):Int:=bK (b9 (c i) t)
def Co:bE:=zG::(66,lT)::iC
abbrev yU:Code:=aK f122
abbrev Aq:List Nat:=[3,5,6,10,11,12]
abbrev Ei (n:Nat) (c:Nat->PP) (l:Int) (m i:Nat):List AV:=[.ptr 0 0 3 0 [],.int .i64 l,.int .i64 m,eH n c,.int .i64 n,.int .i64 i]
def cj (n:Nat) (c:Nat->PP) (t:Rat):Prop:=∀i,i<n->(c i).1<2^40/\fF (c i) t
def PT:Spec:=ef (kC mW (kC (fu af) kN)) (fun a=>.int .i64 ((cq (de a.1.2 a.2.1) a.1.1).2:Nat)) fun a=>[a.1.1<2^40,cj a.1.1 a.1.2 a.2.1]
def Oj:bE:=nG::(122,PT)::(66,lT)::iC
def dn (n:Nat) (c:Nat->PP) (a b:Rat):Int:=if a>=b then 0 else((cq (de c a) n).2:Int)-((cq (de c b) n).2:Int)-(if b9 (c 0) b=0 then 1 else 0)
theorem Xr:bu R3 f127:=bC func127
theorem Ih:bu Ek f163:=bC func163
theorem Ro:bu 66 f66:=bC func66
theorem ain:bu 122 f122:=bC func122
theorem adx:bu 60 f60:=bC func60
abbrev QT:Nat:=loadT (fD vY [0] 0)
abbrev M9:Nat:=loadT (fD vY [1,0,0,1,0,0,0] 5)
abbrev pbI:Nat:=aak (fD vY [0] 2)
theorem TL:Ls vY QT M9 pbI:=⟨ah,⟨ah,ah,ah⟩,⟨ah,ah,ah⟩,⟨ah,ah,ah⟩,⟨ah,ah,ah⟩,⟨ah,ah,ah⟩,⟨ah,ah,ah⟩,⟨ah,ah,ah⟩,⟨ah,ah,ah⟩,⟨ah,ah,ah⟩,⟨ah,ah,ah⟩,⟨ah,ah,ah⟩,⟨ah,ah,ah⟩,
 ⟨VO (fD vY [1,0,0,1,0,0,0] 6),ah,ah,ah⟩,⟨Yo (fD vY [1,0,0,1,0,0,0] 7),ah,ah,ah⟩,⟨ah,ah,ah⟩,⟨ah,ah,ah⟩,⟨ah,ah,ah⟩⟩
theorem Xz {n s:Nat} {k:Nat->Rat} (hn:n<2^62):El P Ek [.cu (bG k n s)] n (fun i=>.int .i64 ((n:Int)-1-i)) (fun i=>.rat (k (n-1-i)) s):=
 aeH hT (tiS:=(look QT T).getD ⟨.bool,0,0,.nil⟩) (tiE:=(look M9 T).getD ⟨.bool,0,0,.nil⟩) ah ah ah ah Ih.get Ih.body ah ah TL (f:=fun i=>.rat (k i) s) hn ah fun i hi=>⟨rfl,rfl⟩
def AA:bE:=nG::(R3,Jj T [sG] [] 20 f127)::iC
abbrev zH:List Nat:=[3,4,5,9]
abbrev IJ (a:PP):List AV:=[.ptr 0 0 3 0 [],.ptr 1 0 3 0 [],.ptr 2 0 3 0 [],.func Ek [.cu (aD a)]]
abbrev tR (q:Rat) (s:Nat):aA:=⟨false,true,3,1,fun _=>.rat q s⟩
abbrev rQ (t x:Rat):aI:=[(2,tR x af),(1,tR 0 1),(0,tR t af)]
abbrev IA:List Nat:=[3,4,5,9,7]
abbrev RQ (a:PP):List AV:=[.ptr 0 0 3 0 [],.ptr 1 0 3 0 [],.ptr 2 0 3 0 [],.func Ek [.cu (aD a)],.ptr 3 0 3 0 []]
abbrev s5:Code:=aK f66
abbrev PO:Code:=(L9 (part s5 [1,1,0,1])).1
abbrev O0:Code:=(L9 (part s5 [1,1,0,1])).2
theorem akA {a:PP} {t:Rat}:aL T AA [] 60 zH (before s5 [1,1,0,1]) ⟨aZ 0 [aD a,.rat t af],[],0⟩=
  let b:aA:=ij fun x=>rat 0 1;some (leaf normal ([ptr 0 0 (eE (rat t af)).size 0 [],ptr 4096 0 3 0 [],ptr 8192 0 3 0 [],func 163 [(aq 3 a.fst fun i=>rat (a.snd i) af).cu]],[((8192:Nat),b),((4096:Nat),b),(0,aA.mk false true (eE (rat t af)).size 1 fun x=>rat t af)])):=ah
theorem Wk {a:PP} {t x v:Rat} {u:Int}:aL T AA [] 60 IA [PO] ⟨aH (zH++[10,11]) (IJ a++[.int .i64 u,.rat v af]),rQ t x,3⟩=
  let b:=rat 0 1;some (aj [(0:Nat)<1] (leaf normal ([ptr 0 0 3 0 [],ptr 1 0 3 0 [],ptr 2 0 3 0 [],func 163 [(aq 3 a.fst fun i=>rat (a.snd i) af).cu],ptr 3 0 3 0 []],[((3:Nat),ij fun j=>if(j==0)=true then eE (rat v af)else b),((2:Nat),ij fun x_1=>rat x af),((1:Nat),ij fun x=>b),((0:Nat),ij fun x=>rat t af)]))):=ah
theorem Wm {a:PP} {t x v:Rat}:aL T AA [] 60 zH [O0] ⟨aH IA (RQ a),(3,tR v af)::rQ t x,4⟩=
  let d:=0<1;let b:=2^42;some (aj [d,d,af<b,af<b,d,af+af<b,af<b,d] (leaf normal ([ptr 0 0 3 0 [],ptr 1 0 3 0 [],ptr 2 0 3 0 [],func 163 [(aq 3 a.fst fun i=>rat (a.snd i) af).cu]],[((2:Nat),ij fun j=>if(j==0)=true then eE (AW (x*t,af+af) (v,af))else rat x af),((1:Nat),ij fun x=>rat 0 1),((0:Nat),ij fun x=>rat t af)]))):=ah
theorem aaJ {a:PP} {t x:Rat}:dc T AA [] 60 f66 [part s5 [1,1,1]] ⟨aH zH (IJ a),rQ t x,3⟩=
  let b:=0<1;some (aj [b,b] (aj [b] (leaf ret [rat x af]))):=ah
theorem UD {n:Nat} {c:Nat->PP} {t:Rat}:aL T Co [] 60 Aq (before yU [1,1,0,1]) ⟨aZ 0 [eH n c,.rat t af],[],0⟩=
  let a:=int i64 0;some (leaf normal ([ptr 0 0 (eE (rat t af)).size 0 [],a,a,aq 1 n fun i=>aq 3 (c i).fst fun i_1=>rat ((c i).snd i_1) af,int i64 (↑n:Int),a],[(0,aA.mk false true (eE (rat t af)).size 1 fun x=>rat t af)])):=ah
theorem YZ {n m i:Nat} {c:Nat->PP} {l:Int} {t:Rat}:aL T Co [13,23,27] 60 Aq [part yU [1,1,0,1,0,0]] ⟨aH Aq (Ei n c l m i),[(0,tR t af)],1⟩=
  let f:=(↑n:Int);let d:=int i64 (↑m:Int);let r:=(↑m:Int)+1;let s:=aq 1 n fun i=>aq 3 (c i).fst fun i_1=>rat ((c i).snd i_1) af;let h:=(2:Int)^63;let g:=(↑i:Int);let o:=ptr 0 0 3 0 [];let k:List (Nat×aA):=[((0:Nat),ij fun x=>rat t af)];let e:=g+1;let a:PP:=c g.toNat;let j:Nat×(Nat->Rat):=(a.fst,fun i=>aN (rat (a.snd i) af));let q:=[-h<=e/\e<h];let p:=[s,int i64 f,int i64 e];let b:=bK (b9 j t);some (fork (decide (g<f)) (aj [(0:Int)<=g/\g.toNat<n] (aj [(0:Nat)<1,cL (fun i=>rat (a.snd i) af) a.fst af,af<=af,a.fst<2^40,fF j t,af<2^42] (aj [-h<=b*l/\b*l<h] (fork (decide (b*l<0)) (aj [-h<=r/\r<h] (fork (b !=(0:Int)) (aj q (leaf normal (o::int i64 b::int i64 r::p,k))) (aj q (leaf normal (o::int i64 l::int i64 r::p,k))))) (fork (b !=(0:Int)) (aj q (leaf normal (o::int i64 b::d::p,k))) (aj q (leaf normal (o::int i64 l::d::p,k)))))))) (leaf (exit 0) ([o,int i64 l,d,s,int i64 f,int i64 g],k))):=ah
theorem TC {n m i:Nat} {c:Nat->PP} {l:Int} {t:Rat}:dc T Co [] 60 f122 [part yU [1,1,1]] ⟨aH Aq (Ei n c l m i),[(0,tR t af)],1⟩=
  some (leaf ret [int i64 (↑m:Int)]):=ah
theorem ajG {n:Nat} {c:Nat->PP} {x y:Rat}:cy T Oj [11,25] 60 f60 (aK f60) ⟨aZ 0 [eH n c,.rat x af,.rat y af],[],0⟩=
  let g:=2^40;let f:=af<2^42;let e:=(2:Int)^63;let b:=0<1;let a:PP:=c (Int.toNat (0:Int));let d:=(↑(cq (de (fun i=>br (aD (c i))) x) n).snd:Int)-(↑(cq (de (fun i=>br (aD (c i))) y) n).snd:Int);let h:=d-1;let j:Nat×(Nat->Rat):=(a.fst,fun i=>aN (rat (a.snd i) af));some (aj [b,b,f,f] (fork (decide (g7 x y>=0)) (leaf ret [int i64 0]) (aj [b,∀(i:Nat),i<n->bf (aD (c i)) (aD (br (aD (c i)))),af<=af,n<g,cj n (fun i=>br (aD (c i))) x,b,∀(i:Nat),i<n->bf (aD (c i)) (aD (br (aD (c i)))),af<=af,n<g,cj n (fun i=>br (aD (c i))) y,-e<=d/\d<e] (aj [(0:Int)<=0/\Int.toNat (0:Int)<n,b,cL (fun i=>rat (a.snd i) af) a.fst af,af<=af,a.fst<g,fF j y,f] (fork (bK (b9 j y)==0) (aj [-e<=h/\h<e] (leaf ret [int i64 h])) (leaf ret [int i64 d])))))):=ah
theorem Rf:bY P AA:=gM (aM (K0 hT (BV cJ) hm Xr _ _) iG)
theorem ah0 {a:PP} {t:Rat} (hn:a.1<2^40) (hz:fF a t) (K:Nat):aW P 66 K [aD a,.rat t af] [] (aO (.rat (b9 a t) af) []):=by
 have hW:=cP
 refine YC (r:=aO (.rat (b9 a t) af) []) hT Ro rfl bh rfl (fun _ cx hro hk=>?_) K []
 refine az.ajA hT Rf hm (x:=s5) (assign:=PO) (body:=O0) (g:=9) (p0:=10) (p1:=11) [1,1,0,1] (i:=0) ah ah Ro.dst hro hk Ih.enters (Xz (s:=af) (k:=a.2) (n:=a.1) aa) bh bh (by decide) (f1:=[]) (f2:=[]) (f3:=[])
  60 zH IA (IJ a) (fun _=>rfl) rfl (fun i=>rQ t (gi a.1 a.2 t i)) 3 4 (fun _=>RQ a) (fun i=>(3,tR (a.2 (a.1-1-i)) af)::rQ t (gi a.1 a.2 t i)) [0,1,2] ⟨_,akA,?_⟩ (fun i hi=>⟨_,Wk,?_⟩) (fun i hi=>⟨_,Wm,?_⟩) ?_
 ·simp only[ag.all,aC]
  exact⟨trivial,[(0,0),(1,4096),(2,8192)],rfl,rfl,rfl,kg rfl rfl (.inr ⟨rfl,dG rfl aa⟩) (dD (dD trivial))⟩
 ·simp only[ag.all,aC]
  exact⟨aa,trivial,[(0,0),(1,1),(2,2),(3,3)],rfl,rfl,rfl,dD (dD (dD (dD trivial)))⟩
 ·simp only[ag.all,aC]
  exact⟨aa,trivial,[(0,0),(1,1),(2,2)],rfl,rfl,rfl,kg rfl rfl (.inr ⟨rfl,eM rfl (hz (i+1) hi)⟩) (dD (dD trivial))⟩
 ·rw[show behind s5 [1,1,0,1]=[part s5 [1,1,1]]from by kernel_rfl]
  exact(aJ.fin hT Rf hm 60 aaJ ah (by simp only[ag.all,aC];exact⟨aa,aa,.refl _⟩)).mono fun _ _ h=>.inl h
theorem xA:bp P lT 66:=dy fun⟨a,t,_⟩ K hn=>ah0 hn.1 hn.2 K
theorem Rb (q:Rat):-1<=bK q/\bK q<=1:=by unfold bK;split<;>(try split)<;>omega
theorem uR {s:Nat->Int} (h:∀i,-1<=s i/\s i<=1):∀i,(-1<=(cq s i).1/\(cq s i).1<=1)/\(cq s i).2<=i
 |0=>⟨⟨show(-1:Int)<=0 by decide,show(0:Int)<=1 by decide⟩,aX⟩
 |i+1=>by
  have ih:=uR h i
  have hi:=h i
  refine⟨?_,?_⟩
  ·show-1<=(if s i=0 then(cq s i).1 else s i)/\(if s i=0 then(cq s i).1 else s i)<=1
   split
   ·exact ih.1
   ·exact hi
  ·show(if s i*(cq s i).1<0 then(cq s i).2+1 else(cq s i).2)<=i+1
   split<;>omega
theorem wQ {c:Nat->PP} {t:Rat} (i:Nat):-1<=de c t i/\de c t i<=1:=Rb _
theorem aiW {a b:Int} (ha:-1<=a/\a<=1) (hb:-1<=b/\b<=1):-1<=a*b/\a*b<=1:=by
 rcases(show a=-1\/a=0\/a=1 by omega)with rfl|rfl|rfl<;>omega
theorem afa:bY P Co:=iu (aM xA iG)
theorem XV {n:Nat} {c:Nat->PP} {t:Rat} (hn:n<2^40) (hz:cj n c t) (K:Nat):aW P 122 K [eH n c,.rat t af] [] (aO (.int .i64 ((cq (de c t) n).2:Nat)) []):=by
 have hW:=cP
 refine jA (r:=aO (.int .i64 ((cq (de c t) n).2:Nat)) []) hT afa hm ain rfl bh rfl [1,1,0,1] (i:=0) (y:=part yU [1,1,0,1,0,0]) (z:=part yU [1,1,1]) ah ah ah (f1:=[]) (f2:=[13,23,27]) (f3:=[]) 60 Aq 1
  (fun i:Nat=>Ei n c (cq (de c t) i).1 (cq (de c t) i).2 i) (fun _=>[(0,tR t af)]) (fun i=>i<=n) (fun i=>i=n) (fun i=>n-i) (fun _=>⟨⟨_,UD,?_⟩,fun i hi=>⟨_,YZ,?_⟩,fun i hi=>⟨_,TC,?_⟩⟩) K []
 ·simp only[ag.all,aC]
  exact⟨0,Nat.zero_le _,[(0,0)],rfl,rfl,rfl,dD trivial⟩
 ·obtain⟨h1,h2⟩:=uR (s:=de c t) wQ i
  have h3:=wQ (c:=c) (t:=t) i
  have h4:=aiW h3 h1
  have e1:bK (b9 (c i) t)=de c t i:=rfl
  have e2:(cq (de c t) (i+1)).1=if de c t i=0 then(cq (de c t) i).1 else de c t i:=rfl
  have e3:(cq (de c t) (i+1)).2=if de c t i*(cq (de c t) i).1<0 then(cq (de c t) i).2+1 else(cq (de c t) i).2:=rfl
  simp only[ag.all,aC,bI,bR,bS,bne_iff_ne,ne_eq,bne_eq_false_iff_eq]
  show((i:Int)<n->_/\(_/\cL _ _ _/\_/\_/\fF (c i) t/\_)/\(-2^63<=de c t i*_/\de c t i*_<2^63)/\(de c t i*_<0->_/\(¬de c t i=0->_)/\(de c t i=0->_))/\(¬de c t i*_<0->(¬de c t i=0->_)/\(de c t i=0->_)))/\_
  have re:∀{l:Int} {m:Int},l=(cq (de c t) (i+1)).1->m=((cq (de c t) (i+1)).2:Nat)->en [] ([.ptr 0 0 3 0 [],.int .i64 l,.int .i64 m,eH n c,.int .i64 n,.int .i64 ((i:Int)+1)],[((0:Nat),tR t af)]) (Ei n c (cq (de c t) (i+1)).1 (cq (de c t) (i+1)).2 (i+1)) [(0,tR t af)] 1:=fun {l m} hl hm=>by
   subst hl hm
   exact⟨[(0,0)],rfl,by rw[show(i:Int)+1=((i+1:Nat):Int) by omega];rfl,rfl,dD trivial⟩
  refine⟨fun h=>⟨aa,⟨aa,eO aX,aX,(hz i aa).1,(hz i aa).2,aa⟩,aa,fun h5=>⟨aa,fun h6=>⟨aa,i+1,aa,by dsimp only;omega,re (by rw[e2,if_neg h6];rfl) (by rw[e3,if_pos h5];omega)⟩,fun h6=>⟨aa,i+1,aa,by dsimp only;omega,re (by rw[e2,if_pos h6]) (by rw[e3,if_pos h5];omega)⟩⟩,
   fun h5=>⟨fun h6=>⟨aa,i+1,aa,by dsimp only;omega,re (by rw[e2,if_neg h6];rfl) (by rw[e3,if_neg h5])⟩,fun h6=>⟨aa,i+1,aa,by dsimp only;omega,re (by rw[e2,if_pos h6]) (by rw[e3,if_neg h5])⟩⟩⟩,fun h=>⟨rfl,i,aa,[(0,0)],rfl,rfl,rfl,dD trivial⟩⟩
 ·subst hi;exact .refl _
theorem YR:bp P PT 122:=dy fun⟨⟨n,c⟩,t,_⟩ K hn=>XV hn.1 hn.2 K
theorem agj:bY P Oj:=gM (aM YR (aM xA iG))
theorem agn {n:Nat} {c:Nat->PP} {x y:Rat} (h0:0<n) (hn:n<2^40) (hx:cj n c x) (hy:cj n c y) (K:Nat):aW P 60 K [eH n c,.rat x af,.rat y af] [] (aO (.int .i64 (dn n c x y)) []):=by
 have hW:=cP
 refine cB hT agj hm adx rfl bh rfl 60 ajG (fun _=>?_) K []
 have hbx:=(uR (s:=de c x) wQ n).2
 have hby:=(uR (s:=de c y) wQ n).2
 simp only[ag.all,aC,akd,bI,bR,pS]
 show _/\(x>=y->_)/\(¬x>=y->(_/\(∀i,i<n->bf (aD (c i)) (aD (c i)))/\_/\_/\cj n c x/\_/\_/\_/\_/\cj n c y/\(-2^63<=((cq (de c x) n).2:Int)-((cq (de c y) n).2:Int)/\((cq (de c x) n).2:Int)-((cq (de c y) n).2:Int)<2^63))/\(_/\_/\_/\_/\_/\fF (c 0) y/\_)/\(b9 (c 0) y=0->_)/\(¬b9 (c 0) y=0->_))
 refine⟨aa,fun h=>?_,fun h=>⟨⟨aa,fun i _=>.refl _,aX,hn,hx,aa,fun i _=>.refl _,aX,hn,hy,aa⟩,⟨aa,aa,eO aX,aX,(hy 0 h0).1,(hy 0 h0).2,aa⟩,fun h2=>⟨?_,?_⟩,fun h2=>?_⟩⟩
 ·exact cE (if_pos h).symm
 ·show-2^63<=((cq (de c x) n).2:Int)-((cq (de c y) n).2:Int)-1/\((cq (de c x) n).2:Int)-((cq (de c y) n).2:Int)-1<2^63
  omega
 ·exact cE (by unfold dn;rw[if_neg h,if_pos h2];rfl)
 ·exact cE (by unfold dn;rw[if_neg h,if_neg h2,Int.sub_zero];rfl)
def tX:Spec:=ef (kC mW (kC (fu af) (kC (fu af) kN))) (fun a=>.int .i64 (dn a.1.1 a.1.2 a.2.1 a.2.2.1)) fun a=>[0<a.1.1,a.1.1<2^40,cj a.1.1 a.1.2 a.2.1,cj a.1.1 a.1.2 a.2.2.1]
theorem xG:bp P tX 60:=dy fun⟨⟨n,c⟩,x,y,_⟩ K hn=>agn hn.1 hn.2.1 hn.2.2.1 hn.2.2.2 K
def ak (p:PP):PP:=(bO (fj p.1 p.2) p.1,fj p.1 p.2)
def Wy (a:PP):PP:=(Jl a.1,Ni a.1 a.2)
def jx (p:PP):Prop:=1<=p.1/\p.1<=41/\uJ p.1 p.2
def af4 (a:PP):Prop:=a.1<=41/\ki a.1 a.2
abbrev aR (a:PP):Prop:=cL (fun i=>.rat (a.2 i) af) a.1 af
def vp:Spec:=ef (kC (kL af) kN) (fun a=>aD (ak a.1)) fun a=>[jx a.1]
def Mt:Spec:=ef (kC (kL af) kN) (fun a=>aD (Wy a.1)) fun a=>[af4 a.1]
def Br:Spec:=ef (kC (kL af) (kC (kL af) kN)) (fun a=>.tuple [aD (fE a.1 a.2.1),aD (dj a.1 a.2.1)]) fun a=>[a.1.1<2^30,1<=a.2.1.1,a.2.1.1<2^30,Trim a.1,Trim a.2.1,nk a.1 a.2.1]
def CA (a:PP):Prop:=a.1<2^30/\Trim a/\cU (a.1-1) (cV a.2)/\x8 a
def kX (a:PP):Prop:=CA a/\cU ((bg a).1-1) (cV (bg a).2)/\A6 (eG a)
def RS:Spec:=ef (kC (kL af) kN) (fun a=>aD (bg a.1)) fun a=>[CA a.1]
def aQ (a:PP) (i:Nat):PP:=(bH (eG a) i).1
def aS (a:PP):Nat:=eo (eG a)+1
def BS:Spec:=ef (kC (kL af) kN) (fun a=>eH (aS a.1) (aQ a.1)) fun a=>[kX a.1]
def Kr:bE:=zG::(57,vp)::(88,Br)::(81,Mt)::(80,RS)::(72,yI)::(59,BS)::(60,tX)::iC
def qO (p:PP) (a b:Rat):Int:=if(ak p).1=0 then 3 else if a>b then 7 else 0
def vO (p:PP) (a b:Rat):Int:=if qO p a b=0 then dn (aS (ak p)) (aQ (ak p)) a b else 0
theorem afB:bu 16 f16:=bC func16
theorem agI {p:PP} {a b:Rat}:cy T Kr [11,15] 60 f16 (aK f16) ⟨aZ 0 [aD p,.rat a af,.rat b af],[],0⟩=
  some (aj [aR p,jx p] (fork (((ak p).1:Int)==0) (leaf ret [int i64 0,int i64 3]) (aj [(0:Nat)<1,(0:Nat)<1,af<2^42,af<2^42] (fork (decide (g7 a b>0)) (leaf ret [int i64 0,int i64 7]) (aj [aR (ak p),kX (ak p),(0:Nat)<1,(0:Nat)<1,∀i,i<aS (ak p)->bf (aD (aQ (ak p) i)) (aD (aQ (ak p) i)),af<=af,af<=af,0<aS (ak p),aS (ak p)<2^40,cj (aS (ak p)) (aQ (ak p)) a,cj (aS (ak p)) (aQ (ak p)) b] (leaf ret [int i64 (dn (aS (ak p)) (aQ (ak p)) a b),int i64 0])))))):=ah
theorem Fm:bp P vp 57:=dy fun⟨a,_⟩ K hn=>abM hn.1 hn.2.1 hn.2.2 K
theorem aiy:bp P Mt 81:=dy fun⟨a,_⟩ K hn=>ajz hn.1 hn.2 K
theorem aaP:bp P Br 88:=dy fun⟨⟨n,a⟩,⟨m,d⟩,_⟩ K hn=>by
 obtain⟨h1,h2,h3,h4,h5,h6⟩:=hn
 simp only at h1 h2 h3
 obtain⟨e,rfl⟩:∃e,m=e+1:=⟨m-1,aa⟩
 have hd:d e≠0:=h5.resolve_left (Nat.succ_ne_zero e)
 cases n with
 |zero=>exact Q7 aa K
 |succ n=>exact Qg h1 aa (h4.resolve_left (Nat.succ_ne_zero n)) hd h6 K
theorem abj:bp P RS 80:=dy fun⟨a,_⟩ K hn=>NB hn.1 hn.2.1 hn.2.2.1 hn.2.2.2 K
theorem Gu:bp P BS 59:=dy fun⟨a,_⟩ K hn=>UY hn.1.1 hn.1.2.1 hn.1.2.2.1 hn.1.2.2.2 hn.2.1 hn.2.2 K
theorem aaU:bY P Kr:=iu (aM Fm (aM aaP (aM aiy (aM abj (aM Dw (aM Gu (aM xG iG)))))))
theorem cK {a:PP}:aR a:=eO aX
def By (p:PP) (a b:Rat):Prop:=jx p/\((ak p).1≠0->kX (ak p)/\aS (ak p)<2^40/\cj (aS (ak p)) (aQ (ak p)) a/\cj (aS (ak p)) (aQ (ak p)) b)
theorem Zw {p:PP} {a b:Rat} (hz:By p a b) (K:Nat):aW P 16 K [aD p,.rat a af,.rat b af] [] (aO (.tuple [.int .i64 (vO p a b),.int .i64 (qO p a b)]) []):=by
 obtain⟨hp,hz⟩:=hz
 have hW:=cP
 refine cB hT aaU hm afB rfl bh rfl 60 agI (fun _=>?_) K []
 have hgt:∀{x y:Rat},g7 x y>0↔x>y:=Pq
 simp only[ag.all,aC,beq_iff_eq,beq_eq_false_iff_ne,bI,bR,hgt]
 refine⟨⟨cK,hp⟩,fun h=>?_,fun h=>⟨aa,fun h2=>?_,fun h2=>?_⟩⟩
 ·have h0:(ak p).1=0:=aa
  have e1:qO p a b=3:=if_pos h0
  exact⟨cE (by unfold vO;rw[e1];rfl),cE e1.symm,trivial⟩
 ·have h0:¬(ak p).1=0:=aa
  have e1:qO p a b=7:=by unfold qO;rw[if_neg h0,if_pos h2]
  exact⟨cE (by unfold vO;rw[e1];rfl),cE e1.symm,trivial⟩
 ·have h0:¬(ak p).1=0:=aa
  have e1:qO p a b=0:=by unfold qO;rw[if_neg h0,if_neg h2]
  obtain⟨z1,z2,z3,z4⟩:=hz h0
  exact⟨⟨cK,z1,aa,aa,fun i _=>.refl _,aX,aX,Nat.succ_pos _,z2,z3,z4⟩,cE (by unfold vO;rw[if_pos e1]),cE e1.symm,trivial⟩
end Go.Am.B
