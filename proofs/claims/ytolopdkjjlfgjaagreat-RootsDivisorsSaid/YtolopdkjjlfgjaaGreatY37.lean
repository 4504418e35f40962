/- bg by the shape of the arguments: numbers, points, planes, maps. -/
import Derived.Test.YtolopdkjjlfgjaaGreatB33
import Init
import Derived.Test.YtolopdkjjlfgjaaGreatZ2
set_option linter.unusedVariables false
noncomputable section
namespace Go.Am.B
open Go Go.Am.N AV Proofs.Tryz IntKind
@[ext] structure V3 where
 x:Rat
 y:Rat
 z:Rat
abbrev rA (q:Rat) (n:Nat):AV:=.rat q n
abbrev vA (v:V3) (n:Nat):AV:=.agg [.rat v.x n,.rat v.y n,.rat v.z n]
theorem cY {q r:Rat} {n k:Nat} (h:q=r) (hk:n<=k):bB (.rat q n) (.rat r k):=h▸nh hk
structure Kind (α:Type) where
 read:AV->Option (α×List Prop)
 make:α->AV
 ok:∀{v:AV} {a:α} {q:List Prop},read v=some (a,q)->az q->bB v (make a)
def oo:AV->Option (Rat×Nat)
 |.rat q n=>some (q,n)
 |.agg [.bool false,.mag 0,.mag 0]=>some (0,1)
 |_=>none
theorem wu {v:AV} {a:Rat×Nat} (h:oo v=some a):bB v (rA a.1 a.2):=by
 unfold oo at h
 split at h
 ·simp only[ax]at h;subst h;exact .refl _
 ·simp only[ax]at h;subst h;exact mK
 ·simp at h
def BX (v:AV):Option ((Rat×Nat)×List Prop):=match oo v with
 |some a=>some (a,[])
 |none=>none
theorem ZM {v:AV} {a:Rat×Nat} {q:List Prop} (h:BX v=some (a,q)) (_:az q):bB v (rA a.1 a.2):=by
 unfold BX at h
 split at h
 ·rename_i h1
  simp only[ax,Prod.mk.injEq]at h
  obtain⟨rfl,rfl⟩:=h
  exact wu h1
 ·simp at h
def kR:Kind (Rat×Nat):=⟨BX,fun a=>rA a.1 a.2,ZM⟩
section specs
variable {α β γ δ:Type} {f:FuncId}
def Dx (k:Kind α) (g:α->AV) (need:α->List Prop):Spec:=bR fun l=>match l with
 |[x]=>match k.read x with
  |some (a,p)=>some (aJ (g a) (p++need a))
  |none=>none
 |_=>none
theorem I0 {k:Kind α} {g:α->AV} {need:α->List Prop} (h:∀a K,az (need a)->aO P f K [k.make a] [] (aJ (g a) [])):bf P (Dx k g need) f:=by
 refine cE fun K args r hk hs _=>?_
 split at hs
 ·split at hs
  ·rename_i h1
   simp only[ax]at hs
   subst hs
   intro hn
   obtain⟨n1,hn⟩:=fo.1 hn
   exact gC (h _ K hn) hk ⟨k.ok h1 n1,trivial⟩ [] trivial
  ·simp at hs
 ·simp at hs
def jm (k:Kind α) (k2:Kind β) (g:α->β->AV) (need:α->β->List Prop):Spec:=bR fun l=>match l with
 |[x,y]=>match k.read x,k2.read y with
  |some (a,p),some (b,q)=>some (aJ (g a b) (p++(q++need a b)))
  |_,_=>none
 |_=>none
theorem jC {k:Kind α} {k2:Kind β} {g:α->β->AV} {need:α->β->List Prop} (h:∀a b K,az (need a b)->aO P f K [k.make a,k2.make b] [] (aJ (g a b) [])):bf P (jm k k2 g need) f:=by
 refine cE fun K args r hk hs _=>?_
 split at hs
 ·split at hs
  ·rename_i h1 h2
   simp only[ax]at hs
   subst hs
   intro hn
   obtain⟨n1,hn⟩:=fo.1 hn
   obtain⟨n2,hn⟩:=fo.1 hn
   exact gC (h _ _ K hn) hk ⟨k.ok h1 n1,k2.ok h2 n2,trivial⟩ [] trivial
  ·simp at hs
 ·simp at hs
def Gg (k:Kind α) (k2:Kind β) (k3:Kind γ) (g:α->β->γ->AV) (need:α->β->γ->List Prop):Spec:=bR fun l=>match l with
 |[x,y,z]=>match k.read x,k2.read y,k3.read z with
  |some (a,p),some (b,q),some (c,r)=>some (aJ (g a b c) (p++(q++(r++need a b c))))
  |_,_,_=>none
 |_=>none
theorem Z3 {k:Kind α} {k2:Kind β} {k3:Kind γ} {g:α->β->γ->AV} {need:α->β->γ->List Prop} (h:∀a b c K,az (need a b c)->aO P f K [k.make a,k2.make b,k3.make c] [] (aJ (g a b c) [])):bf P (Gg k k2 k3 g need) f:=by
 refine cE fun K args r hk hs _=>?_
 split at hs
 ·split at hs
  ·rename_i h1 h2 h3
   simp only[ax]at hs
   subst hs
   intro hn
   obtain⟨n1,hn⟩:=fo.1 hn
   obtain⟨n2,hn⟩:=fo.1 hn
   obtain⟨n3,hn⟩:=fo.1 hn
   exact gC (h _ _ _ K hn) hk ⟨k.ok h1 n1,k2.ok h2 n2,k3.ok h3 n3,trivial⟩ [] trivial
  ·simp at hs
 ·simp at hs
end specs
def pE (a b:Rat×Nat):List Prop:=[a.2<2^42,b.2<2^42]
def pz (a b:Rat×Nat):List Prop:=[a.2<2^41,b.2<2^41]
def zC (a b:Rat×Nat):AV:=rA (a.1+b.1) (a.2+b.2+1)
def IQ (a b:Rat×Nat):AV:=rA (a.1-b.1) (a.2+b.2+1)
def CF (a b:Rat×Nat):AV:=rA (a.1*b.1) (a.2+b.2)
def za (a b:Rat×Nat):AV:=.tuple [rA (a.1/b.1) (a.2+b.2),.int .i64 (if b.1=0 then 3 else 0)]
def FP (a b:Rat×Nat):AV:=.int .i64 (iJ a.1 b.1)
def Ly (a b:Rat×Nat):AV:=.bool (decide (a.1=b.1))
def G3 (a:Rat×Nat):AV:=.int .i64 (dJ a.1)
abbrev Cs:FuncId×Spec:=(71,KE)
def gA:bg:=[(128,jm kR kR zC pE),(143,jm kR kR IQ pE),(129,jm kR kR CF pE),(110,jm kR kR Ly pE),(58,jm kR kR FP pE),(65,Dx kR G3 fun a=>[a.2<2^42]),Cs]
def ki:bg:=[(92,jm kR kR zC pz),(53,jm kR kR IQ pz),(90,jm kR kR CF pz),(26,jm kR kR Ly pz),(27,jm kR kR FP pz),(24,Dx kR G3 fun a=>[a.2<2^41]),(23,DY)]
theorem NN:bf P Cs.2 Cs.1:=V5
theorem gJ:bK P gA:=aK (jC fun _ _ K hn=>abN hn.1 hn.2 K) (aK (jC fun _ _ K hn=>NB hn.1 hn.2 K) (aK (jC fun _ _ K hn=>LK hn.1 hn.2 K)
 (aK (jC fun _ _ K hn=>acd (Nat.lt_trans hn.1 aa) (Nat.lt_trans hn.2 aa) K []) (aK (jC fun _ _ K hn=>Fe hn.1 hn.2 K []) (aK (I0 fun _ K hn=>F9 (Nat.lt_trans hn aa) K []) (aK NN bU))))))
theorem kO:bK P ki:=aK (jC fun _ _ K hn=>KN hn.1 hn.2 K) (aK (jC fun _ _ K hn=>Tv hn.1 hn.2 K) (aK (jC fun _ _ K hn=>TA hn.1 hn.2 K)
 (aK (jC fun _ _ K hn=>Q8 (Nat.lt_trans hn.1 aa) (Nat.lt_trans hn.2 aa) K []) (aK (jC fun _ _ K hn=>Rg hn.1 hn.2 K) (aK (I0 fun _ K _=>Im K []) (aK LS bU))))))
end Go.Am.B
namespace Go.Am.B
structure Kn (n p:Nat) (k:Nat->Rat):Prop where
 p1:1<=p
 len:2*p+2<=n
 sorted:∀i,i+1<n->k i<=k (i+1)
 first:∀i,i<=p->k i=k 0
 last:∀i,n<=i+p+1->i<n->k i=k (n-1)
 mult:∀i,1<=i->i+p+1<n->k i<k (i+p)
theorem EH {n:Nat} {k:Nat->Rat} (h:∀i,i+1<n->k i<=k (i+1)) {i:Nat}:∀{j:Nat},i<=j->j<n->k i<=k j
 |0,hij,_=>by
    have:i=0:=by omega
    subst this;exact Rat.le_refl
 |j+1,hij,hj=>by
  by_cases he:i=j+1
  ·subst he;exact Rat.le_refl
  ·exact Rat.le_trans (EH h (j:=j) (by omega) (by omega)) (h j hj)
theorem Kn.mono {n p:Nat} {k:Nat->Rat} (h:Kn n p k) {i j:Nat} (hij:i<=j) (hj:j<n):k i<=k j:=EH h.sorted hij hj
def fr (a b t:Rat):Rat:=(t-a)/(b-a)
def vB (k:Nat->Rat) (i:Nat) (t:Rat):Nat->Nat->Rat
 |0,j=>if j=0 then 1 else 0
 |d+1,j=>(if j=0 then 0 else fr (k (i-d+(j-1))) (k (i-d+(j-1)+(d+1))) t*vB k i t d (j-1))+
   (if j<=d then(1-fr (k (i-d+j)) (k (i-d+j+(d+1))) t)*vB k i t d j else 0)
structure At (n:Nat) (k:Nat->Rat) (i:Nat):Prop where
 lt:i+1<n
 sorted:∀i,i+1<n->k i<=k (i+1)
 wide:k i<k (i+1)
def PA (k:Nat->Rat) (b p r:Nat) (t:Rat) (x:Nat->Rat) (j:Nat):Rat:=
 if r<j then x (j-1)+fr (k (b+j)) (k (b+j+(p-r))) t*(x j-x (j-1))else x j
def bl (k:Nat->Rat) (b p:Nat):Nat->(Nat->Rat)->List Rat->Nat->Rat
 |_,x,[]=>x
 |r,x,t::l=>bl k b p (r+1) (PA k b p r t x) l
variable {k:Nat->Rat} {b p:Nat}
variable {n:Nat}
end Go.Am.B
namespace Go.Am.B
open AV
def aU:AV->Rat
 |.rat q _=>q
 |_=>0
def dc (f:Nat->AV) (n s:Nat):Prop:=∀i,i<n->bB (f i) (.rat (aU (f i)) s)
abbrev aZ (k:Nat->Rat) (n s:Nat):AV:=.ak 3 n (fun i=>.rat (k i) s)
theorem cZ {k:Nat->Rat} {n s s':Nat} (h:s<=s'):dc (fun i=>.rat (k i) s) n s':=fun _ _=>nh h
theorem PS {f:Nat->AV} {n s:Nat} (h:dc f n s):bB (.ak 3 n f) (aZ (fun i=>aU (f i)) n s):=gi h
def rX:AV->Option (Nat×(Nat->AV))
 |.ak 3 n f=>some (n,f)
 |.nil=>some (0,fun _=>.rat 0 1)
 |_=>none
theorem TQ {v:AV} {n s:Nat} {f:Nat->AV} (h:rX v=some (n,f)) (ha:dc f n s):bB v (aZ (fun i=>aU (f i)) n s):=by
 unfold rX at h
 split at h
 ·simp only[ax,Prod.mk.injEq]at h
  obtain⟨rfl,rfl⟩:=h
  exact PS ha
 ·simp only[ax,Prod.mk.injEq]at h
  obtain⟨rfl,rfl⟩:=h
  exact lQ aa
 ·simp at h
end Go.Am.B
namespace Go.Am
def bn:Nat->Nat->Nat
 |_,0=>1
 |0,_+1=>0
 |n+1,k+1=>bn n k+bn n (k+1)
theorem oH (n:Nat):bn n 0=1:=by cases n<;>rfl
theorem mM (n k:Nat):bn (n+1) (k+1)=bn n k+bn n (k+1):=rfl
theorem mV:∀{n k:Nat},n<k->bn n k=0
 |0,_+1,_=>rfl
 |n+1,k+1,h=>by rw[mM,mV (by omega),mV (by omega)]
theorem JQ:∀n:Nat,bn n n=1
 |0=>rfl
 |n+1=>by rw[mM,JQ n,mV (by omega)]
theorem qL:∀n k:Nat,bn n k<=2^n
 |0,0=>by decide
 |0,_+1=>by rw[mV (by omega)];exact Nat.zero_le _
 |n+1,0=>by rw[oH];exact Nat.one_le_two_pow
 |n+1,k+1=>by
  have h1:=qL n k
  have h2:=qL n (k+1)
  rw[mM,Nat.pow_succ];omega
theorem zJ:∀{n k:Nat},k<=n->0<bn n k
 |n,0,_=>by rw[oH];exact Nat.one_pos
 |n+1,k+1,h=>by
  have:=zJ (n:=n) (k:=k) (by omega)
  rw[mM];omega
theorem zj {n k:Nat} (h:n<=40):bn n k<=2^40:=Nat.le_trans (qL n k) (Nat.pow_le_pow_right (by decide) h)
theorem uT:∀n k:Nat,(k+1)*bn n (k+1)=(n-k)*bn n k
 |0,0=>rfl
 |0,k+1=>by rw[mV (by omega),Nat.zero_sub];simp
 |n+1,0=>by
  have:=uT n 0
  simp only[oH,Nat.zero_add,Nat.one_mul,Nat.sub_zero,Nat.mul_one]at this ⊢
  rw[mM,oH,this];omega
 |n+1,k+1=>by
  have h1:=uT n k
  have h2:=uT n (k+1)
  rw[mM n (k+1),mM n k,show n+1-(k+1)=n-k by omega]
  by_cases h:k+1<=n
  ·obtain⟨m,rfl⟩:∃m,n=k+1+m:=⟨n-(k+1),by omega⟩
   rw[show k+1+m-(k+1)=m by omega]at h2
   rw[show k+1+m-k=m+1 by omega]at h1 ⊢
   generalize bn (k+1+m) (k+1+1)=A at*
   generalize bn (k+1+m) (k+1)=B at*
   generalize bn (k+1+m) k=C at*
   have e1:(k+1+1)*(B+A)=(k+1)*B+B+(k+1+1)*A:=by rw[Nat.mul_add,Nat.add_mul (k+1) 1 B,Nat.one_mul]
   have e2:(m+1)*(C+B)=(m+1)*C+(m*B+B):=by rw[Nat.mul_add,Nat.add_mul m 1 B,Nat.one_mul]
   rw[e1,e2,h2,h1];omega
  ·rw[mV (n:=n) (k:=k+1+1) (by omega)]
   by_cases h3:k=n
   ·subst h3
    rw[mV (by omega),Nat.sub_self];simp
   ·rw[mV (n:=n) (k:=k+1) (by omega),mV (n:=n) (k:=k) (by omega)];simp
end Go.Am
namespace Go.Am.B
open Go Go.Am.N AV af aq IntKind Proofs.Tryz
abbrev pH (n:Nat) (g:Nat->Int):ay:=⟨true,true,1,n,fun i=>.int .i64 (g i)⟩
abbrev cF (m:Nat) (k:Nat->Rat) (s:Nat):ay:=⟨true,true,3,m,fun i=>.rat (k i) s⟩
def GZ:bg:=zG::gA
abbrev zU:Code:=aG f158
abbrev uC:Code:=part zU [1,1,0,1,0,0]
abbrev yo:Code:=part uC [1,1,0,0]
abbrev rB:Code:=part zU [1,1,1]
abbrev rL:List Nat:=[0,3,9,10]
abbrev x6 (n r:Nat):List AV:=[.int .i64 n,.own 0 1 0 (r+1),.int .i64 n,.int .i64 r]
abbrev uS:List Nat:=[0,3,9,10,4]
abbrev AY (n r j:Nat):List AV:=[.int .i64 n,.own 0 1 0 (r+1+1),.int .i64 n,.int .i64 r,.int .i64 j]
abbrev wA:List Nat:=[37,5,38,39]
abbrev BH (n i:Nat):List AV:=[.own 0 1 0 (n+1),.own 1 3 0 (n+1),.int .i64 (n+1:Nat),.int .i64 i]
abbrev Ey (n:Nat) (g:Nat->Int) (x:Nat->Rat):aE:=[(1,cF (n+1) x 64),(0,pH (n+1) g)]
theorem Ma:aX 158 f158:=aY func158
theorem aav {n:Nat}:aH T GZ [] 60 rL (before zU [1,1,0,1]) ⟨aS 0 [.int .i64 n],[],0⟩=
  some (aj [(1:Nat)*1<=2^24] (leaf normal ([int i64 (↑n:Int),own 4096 1 0 1,int i64 (↑n:Int),int i64 0],[(4096,ay.mk true true 1 1 fun i=>nth [int i64 1] (int i64 0) i)]))):=ag
theorem Zy {n r:Nat} {g:Nat->Int}:aH T GZ [11] 60 rL (before uC [1,1,0]) ⟨aD rL (x6 n r),[(0,pH (r+1) g)],1⟩=
  let c2:Int:=(↑n:Int);let c1:List AV×aE:=([int i64 c2,own 0 1 0 (r+1),int i64 c2,int i64 (↑r:Int)],[(0,ay.mk true true 1 (r+1) fun i=>int i64 (g i))]);some (fork (decide ((↑r:Int)<c2)) (leaf normal c1) (leaf (exit 0) c1)):=ag
theorem V7 {n r:Nat} {g:Nat->Int}:aH T GZ [] 60 uS (before yo [1,1]) ⟨aD rL (x6 n r),[(0,pH (r+1) g)],1⟩=
  let c3:Nat:=r+1;let c1:Nat:=c3+1;let c2:Int:=(↑c1:Int)-2;some (aj [(1:Nat)*1<=2^24,c1*((8:Nat)+1)*2<=2^47] (aj [-(2:Int)^63<=c2/\c2<2^63] (leaf normal ([int i64 (↑n:Int),own 8193 1 0 c1,int i64 (↑n:Int),int i64 (↑r:Int),int i64 c2],[(8193,ay.mk true true 1 c1 fun i=>if i<c3 then int i64 (g i)else nth [int i64 1] (int i64 0) (i-c3+0))])))):=ag
theorem Rt {n r j:Nat} {g:Nat->Int}:aH T GZ [19] 60 uS [part yo [1,1,0,0]] ⟨aD uS (AY n r j),[(0,pH (r+1+1) g)],1⟩=
  let c7:AV:=int i64 (↑n:Int);let c5:Int:=(↑j:Int);let c4:Int:=(2:Int)^63;let c1:Nat:=r+1+1;let c9:Prop:=(0:Int)<=c5/\c5.toNat<c1;let c8:AV:=own 0 1 0 c1;let c3:Nat:=c5.toNat+0;let c2:Int:=c5-1;let c6:Int:=g c3+g (c2.toNat+0);some (fork (decide (c5>0)) (aj [c9,c3<c1,-c4<=c2/\c2<c4,(0:Int)<=c2/\c2.toNat<c1,c2.toNat+0<c1,-c4<=c6/\c6<c4,c9,c3<c1] (aj [-c4<=c2/\c2<c4] (leaf normal ([c7,c8,c7,int i64 (↑r:Int),int i64 c2],[(0,ay.mk true true 1 c1 fun j=>int i64 (bif j==c3 then c6 else g j))])))) (leaf (exit 2) ([c7,c8,c7,int i64 (↑r:Int),int i64 c5],[(0,ay.mk true true 1 c1 fun i=>int i64 (g i))]))):=ag
theorem UM {n r j:Nat} {g:Nat->Int}:aH T GZ [] 60 rL [part uC [1,1,1]] ⟨aD uS (AY n r j),[(0,pH (r+1+1) g)],1⟩=
  let c2:Nat:=r+1+1;let c1:Int:=(↑r:Int)+1;some (aj [-(2:Int)^63<=c1/\c1<2^63] (leaf normal ([int i64 (↑n:Int),own 0 1 0 c2,int i64 (↑n:Int),int i64 c1],[(0,ay.mk true true 1 c2 fun i=>int i64 (g i))]))):=ag
theorem NF {n r:Nat} {g:Nat->Int}:aH T GZ [] 60 wA (before rB [1,0,1]) ⟨aD rL (x6 n r),[(0,pH (r+1) g)],1⟩=
  let c1:Int:=(↑(r+1):Int);some (aj [(0:Int)<=c1/\c1<=c1/\c1<=2^47/\c1*(↑(56:Nat):Int)<=2^47] (leaf normal ([own 0 1 0 (r+1),own 8193 3 0 c1.toNat,int i64 c1,int i64 0],[(8193,ay.mk true true 3 c1.toNat fun x=>rat 0 1),(0,ay.mk true true 1 (r+1) fun i=>int i64 (g i))]))):=ag
theorem Xu {n i:Nat} {g:Nat->Int} {x:Nat->Rat}:aH T GZ [40] 60 wA [part rB [1,0,1,0,0]] ⟨aD wA (BH n i),Ey n g x,2⟩=
  let c4:Int:=(2:Int)^63;let c3:Int:=(↑i:Int);let c2:Nat:=n+1;let c10:Int:=c3+1;let c9:Int:=(↑c2:Int);let c7:AV:=own 0 1 0 c2;let c6:AV:=own 1 3 0 c2;let c5:Nat×ay:=(0,ay.mk true true 1 c2 fun i=>int i64 (g i));let c1:Nat:=c3.toNat+0;let c8:List Prop:=[(0:Int)<=c3/\c3.toNat<c2,c1<c2];some (fork (decide (c3<c9)) (aj c8 (aj ((-c4<=g c1)::(g c1<c4)::c8) (aj [-c4<=c10/\c10<c4] (leaf normal ([c7,c6,int i64 c9,int i64 c10],[(1,ay.mk true true 3 c2 fun j=>rat (bif j==c1 then(↑(g c1):Rat)else x j) (bif j==c1 then Max.max 1 (bI (g c1).natAbs)else 64)),c5]))))) (leaf (exit 4) ([c7,c6,int i64 c9,int i64 c3],[(1,ay.mk true true 3 c2 fun i=>rat (x i) 64),c5]))):=ag
theorem U7 {n i:Nat} {g:Nat->Int} {x:Nat->Rat}:cN T GZ [] 60 f158 [part rB [1,1]] ⟨aD wA (BH n i),Ey n g x,2⟩=
  some (leaf ret [ak 3 (n+1) fun i=>rat (x (i+0)) 64]):=ag
theorem oq:bK P GZ:=gT gJ
def nK (r j i:Nat):Int:=if i<=j then(if i=r+1 then 1 else(bn r i:Int))else bn (r+1) i
theorem MC {r j i:Nat} (hr:r<40) (hi:i<=r):-2^41<=nK r j i/\nK r j i<=2^40:=by
 have h1:=zj (n:=r) (k:=i) aa
 have h2:=zj (n:=r+1) (k:=i) aa
 unfold nK;rw[if_neg (c:=i=r+1) aa];split<;>omega
theorem Qj {n:Nat} (hn:n<=40) (K:Nat):aO P 158 K [.int .i64 n] [] (aJ (aZ (fun i=>((bn n i:Int):Rat)) (n+1) 64) []):=by
 refine ij (r:=aJ (aZ (fun i=>((bn n i:Int):Rat)) (n+1) 64) []) hT Ma rfl aW rfl (fun _ cx h0=>?_) K []
 have hk:=mO h0
 refine au.qJ hT oq hm (x:=zU) [1,1,0,1] (i:=0) (y:=uC) (z:=rB) ag ag ag Ma.dst [1,1,0] (j:=1) (x1:=yo) (zb:=part uC [1,1,1]) ag ag ag [1,1] (i2:=2) (y2:=part yo [1,1,0,0]) ag ag rfl hk
  (f1:=[]) (f2:=[11]) (f3:=[]) (f4:=[19]) (f5:=[]) 60 rL uS 1 1 (fun r:Nat=>x6 n r) (fun r=>[(0,pH (r+1) fun i=>bn r i)]) (fun r=>r<=n) (fun r=>r=n) (fun r=>n-r) (fun r=>r<n) (fun _=>False) (fun _=>False)
  (fun r (j:Nat)=>AY n r j) (fun r j=>[(0,pH (r+1+1) (nK r j))]) (fun r j=>j<=r) (fun _ j=>j=0) (fun _ j=>j)
  ⟨_,aav,?_⟩ (fun r hr=>⟨_,Zy,?_⟩) (fun r hr hG=>⟨_,V7,?_⟩) (fun r hr hG j hj=>⟨_,Rt,?_⟩) (fun r hr hG j hj=>⟨_,UM,?_⟩) (fun r hr=>?_) (fun _ _ h=>h.elim) (fun _ _ h=>h.elim)
 ·simp only[af.all,az]
  refine⟨aa,0,aa,[(0,4096)],rfl,rfl,rfl,bw rfl rfl rfl (fun i hi=>by obtain rfl:i=0:=aa;exact bP rfl rfl) trivial⟩
 ·simp only[af.all,az,bz,bE]
  exact⟨fun h=>⟨aa,[(0,0)],rfl,rfl,rfl,bw rfl rfl rfl (fun i hi=>bP rfl rfl) trivial⟩,fun h=>⟨rfl,r,aa,[(0,0)],rfl,rfl,rfl,bw rfl rfl rfl (fun i hi=>bP rfl rfl) trivial⟩⟩
 ·simp only[af.all,az]
  refine⟨aa,aa,r,aa,[(0,8193)],rfl,?_,rfl,bw rfl rfl rfl (fun i hi=>bP ?_ ?_) trivial⟩
  ·rw[show((r+1+1:Nat):Int)-2=(r:Nat) by omega];rfl
  ·split
   ·rfl
   ·rw[show i-(r+1)+0=0 by omega];rfl
  ·unfold nK
   by_cases h:i<r+1
   ·rw[if_pos h,if_pos aa,if_neg aa]
   ·rw[if_neg h,if_neg aa,show i-(r+1)+0=0 by omega,show i=r+1 by omega,JQ];rfl
 ·simp only[af.all,az,bz,bE,bu,Nat.add_zero]
  refine⟨fun h=>?_,fun h=>⟨rfl,j,aa,[(0,0)],rfl,rfl,rfl,bw rfl rfl rfl (fun i hi=>bP rfl rfl) trivial⟩⟩
  obtain⟨m,rfl⟩:∃m,j=m+1:=⟨j-1,aa⟩
  have e1:(((m+1:Nat):Int)-1).toNat=m:=aa
  have h1:=MC (r:=r) (j:=m+1) (i:=m+1) aa hj
  have h2:=MC (r:=r) (j:=m+1) (i:=m) aa aa
  rw[e1]
  refine⟨aa,aa,m,aa,by dsimp only;omega,[(0,0)],rfl,?_,rfl,bw rfl rfl rfl (fun i hi=>bP rfl ?_) trivial⟩
  ·rw[show((m+1:Nat):Int)-1=(m:Nat) by omega];rfl
  ·by_cases h:i=m+1
   ·subst h
    simp only[beq_self_eq_true,cond_true]
    unfold nK
    rw[if_pos aa,if_neg aa,if_pos aa,if_neg aa,if_neg aa,mM,Int.natCast_add,Int.add_comm]
   ·have hb:(i==m+1)=false:=by simpa using h
    rw[hb,cond_false]
    unfold nK
    by_cases h2:i<=m
    ·rw[if_pos h2,if_pos aa]
    ·rw[if_neg h2,if_neg aa]
 ·subst hj
  simp only[af.all,az]
  refine⟨aa,r+1,aa,by dsimp only;omega,[(0,0)],rfl,rfl,rfl,bw rfl rfl rfl (fun i hi=>bP rfl ?_) trivial⟩
  show AV.int i64 (nK r 0 i)=AV.int i64 (bn (r+1) i)
  unfold nK
  by_cases h:i<=0
  ·rw[if_pos h,if_neg aa,show i=0 by omega,oH,oH]
  ·rw[if_neg h]
 ·subst hr
  refine au.oN hT oq hm (x:=rB) [1,0,1] (i:=4) (y:=part rB [1,0,1,0,0]) (z:=part rB [1,1]) ag ag ag ag hk (f1:=[]) (f2:=[40]) 60 wA 2 (fun i:Nat=>BH r i) (fun i=>Ey r (fun i=>bn r i) fun j=>if j<i then((bn r j:Int):Rat)else 0)
   (fun i=>i<=r+1) (fun i=>i=r+1) (fun i=>r+1-i) (fun _=>False) ⟨_,NF,?_⟩ (fun i hi=>⟨_,Xu,?_⟩) (fun i hi=>?_) (fun _ _ h=>h.elim)
  ·simp only[af.all,az,bu]
   exact⟨aa,0,aa,[(0,0),(1,8193)],rfl,rfl,rfl,bw rfl rfl rfl (fun i hi=>.inr ⟨rfl,cY (if_neg (Nat.not_lt_zero i)).symm (by decide)⟩) (bw rfl rfl rfl (fun i hi=>bP rfl rfl) trivial)⟩
  ·have h1:=zj (n:=r) (k:=i) hn
   simp only[af.all,az,bz,bE,bu,Nat.add_zero]
   refine⟨fun h=>⟨aa,aa,aa,i+1,aa,by dsimp only;omega,[(0,0),(1,1)],rfl,rfl,rfl,bw rfl rfl rfl (fun j hj=>.inr ⟨rfl,?_⟩) (bw rfl rfl rfl (fun i hi=>bP rfl rfl) trivial)⟩,fun h=>⟨rfl,i,aa,[(0,0),(1,1)],rfl,rfl,rfl,bw rfl rfl rfl (fun j hj=>bP rfl rfl) (bw rfl rfl rfl (fun i hi=>bP rfl rfl) trivial)⟩⟩
   by_cases h2:j=i
   ·subst h2
    simp only[beq_self_eq_true,cond_true]
    exact ee (if_pos (Nat.lt_succ_self j)).symm (by rw[if_pos (Nat.lt_succ_self j)];exact zX (y:=0) aa aa)
   ·have hb:(j==i)=false:=by simpa using h2
    rw[hb,cond_false,cond_false]
    refine cY ?_ aQ
    show(if j<i then _ else _)=if j<i+1 then _ else _
    by_cases h3:j<i
    ·rw[if_pos h3,if_pos aa]
    ·rw[if_neg h3,if_neg aa]
  ·subst hi
   refine au.lU ((aF.fin hT oq hm 60 U7 ag (gi fun i hi=>cY ?_ aQ)).mono fun _ _ h=>.inl h)
   rw[Nat.add_zero,if_pos hi]
def Eb:Spec:=bR fun l=>match l with
 |[.int .i64 n]=>some (aJ (aZ (fun i=>((bn n.toNat i:Int):Rat)) (n.toNat+1) 64) [0<=n,n<=40])
 |_=>none
theorem FZ:bf P Eb 158:=by
 refine cE fun K args r hk hs _=>?_
 split at hs
 ·rename_i n
  simp only[ax]at hs
  subst hs
  intro hn
  have h1:0<=n:=hn.1
  have h2:n<=40:=hn.2
  have:=Qj (n:=n.toNat) aa K
  rw[Int.toNat_of_nonneg h1]at this
  exact this trivial
 ·simp at hs
open Go Go.Am.N AV Proofs.Tryz IntKind
theorem Q7:aX 51 f51:=aY func51
def adw:bg:=[(45,BO),(46,wZ)]
theorem W7 {d:Int}:bT T adw [] 60 f51 (aG f51) ⟨aS 0 [.int .i64 d],[],0⟩=
  some (af.aj [(17:Int)≠(0:Int),(0:Int)<12,(12:Int)<2^62] (af.aj [(0:Int)<i64.wrap (i64.wrap ((1:Int)+i64.wrap (d.tdiv (17:Int))%(12:Int))+1),i64.wrap (i64.wrap ((1:Int)+i64.wrap (d.tdiv (17:Int))%(12:Int))+1)<2^62,-(2:Int)^63<=d%i64.wrap (i64.wrap ((1:Int)+i64.wrap (d.tdiv (17:Int))%(12:Int))+1),d%i64.wrap (i64.wrap ((1:Int)+i64.wrap (d.tdiv (17:Int))%(12:Int))+1)<2^63,-(2:Int)^63<=i64.wrap ((1:Int)+i64.wrap (d.tdiv (17:Int))%(12:Int)),i64.wrap ((1:Int)+i64.wrap (d.tdiv (17:Int))%(12:Int))<2^63,(0:Nat)<1] (af.aj [(0:Nat)<1] (af.leaf aq.ret [rat ((↑(d%i64.wrap (i64.wrap ((1:Int)+i64.wrap (d.tdiv (17:Int))%(12:Int))+1)):Rat)/(↑(i64.wrap ((1:Int)+i64.wrap (d.tdiv (17:Int))%(12:Int))):Rat)) 64])))):=ag
def iw (d:Int):Int:=1+i64.wrap (d.tdiv 17)%12
def kG (d:Int):Rat:=((d%(iw d+1):Int):Rat)/((iw d:Int):Rat)
def Fy:Spec:=bR fun l=>match l with
 |[.int .i64 d]=>some (aJ (.rat (kG d) 64) [])
 |_=>none
theorem Oo:bf P Fy 51:=by
 refine cE fun K args r hk hs _=>?_
 split at hs
 ·rename_i d
  simp only[ax]at hs
  subst hs
  refine bW hT (aK F0 (aK Al bU)) hm Q7 rfl aW rfl 60 W7 (fun _=>?_) K []
  unfold kG iw
  generalize i64.wrap (d.tdiv 17)=w at*
  have w1:=Int.emod_nonneg w (show(12:Int)≠0 by omega)
  have w2:=Int.emod_lt_of_pos w (show(0:Int)<12 by omega)
  generalize w%12=x at*
  have e1:i64.wrap (1+x)=1+x:=wrap_i64 aa aa
  have e2:i64.wrap (1+x+1)=1+x+1:=wrap_i64 aa aa
  rw[e1,e2]
  have v1:=Int.emod_nonneg d (show 1+x+1≠0 by omega)
  have v2:=Int.emod_lt_of_pos d (show 0<1+x+1 by omega)
  generalize d%(1+x+1)=y at*
  simp only[af.all,az]
  exact⟨⟨aa,aa,aa⟩,⟨aa,aa,aa,aa,aa,aa,aa⟩,aa,.refl _⟩
 ·simp at hs
structure Kd (α:Type) where
 read:AV->Option α
 make:α->AV
 ok:∀{v:AV} {a:α},read v=some a->bB v (make a)
def Ew:AV->Option (V3×Nat)
 |.agg [x,y,z]=>match oo x,oo y,oo z with
  |some (x,a),some (y,b),some (z,c)=>some (⟨x,y,z⟩,max a (max b c))
  |_,_,_=>none
 |_=>none
theorem XG {v:AV} {a:V3×Nat} (h:Ew v=some a):bB v (vA a.1 a.2):=by
 unfold Ew at h
 split at h
 ·split at h
  ·rename_i h1 h2 h3
   simp only[ax]at h
   subst h
   exact oS ⟨(wu h1).trans (cY rfl (by simp only;omega)),(wu h2).trans (cY rfl (by simp only;omega)),(wu h3).trans (cY rfl (by simp only;omega)),trivial⟩
  ·simp at h
 ·simp at h
def dV:Kd (V3×Nat):=⟨Ew,fun a=>vA a.1 a.2,XG⟩
section specs
variable {α β γ δ:Type} {f:FuncId}
end specs
def b1 {α:Type} (e:Nat) (a:α×Nat):Bool:=Nat.blt a.2 (2^e)
def b2 {α β:Type} (e:Nat) (a:α×Nat) (b:β×Nat):Bool:=Nat.blt a.2 (2^e)&&Nat.blt b.2 (2^e)
def b3 {α β γ:Type} (e:Nat) (a:α×Nat) (b:β×Nat) (c:γ×Nat):Bool:=Nat.blt a.2 (2^e)&&(Nat.blt b.2 (2^e)&&Nat.blt c.2 (2^e))
end Go.Am.B
namespace Go.Am.B
open Go Go.Am.N AV Proofs.Tryz IntKind
theorem UZ:aX 148 f148:=aY func148
theorem Yx:aX 93 f93:=aY func93
theorem QY {q r:Rat} {n m:Nat}:bT T qF [9] 60 f148 (aG f148) ⟨aS 0 [.rat q n,.rat r m],[],0⟩=
  some (af.aj [(0:Nat)<1] (af.fork ((↑(nl r.num.natAbs):Int)==0) (af.aj [(0:Nat)<1] (af.aj [(0:Nat)<1] (af.leaf aq.ret [agg [AV.bool false,mag 0,mag 0],int .i64 (3:Int)]))) (af.aj [(0:Nat)<1,(0:Nat)<1,(0:Nat)<1,(0:Nat)<1,nl q.num.natAbs<2^39,nl r.den<2^39,(0:Nat)<1,(0:Nat)<1,nl q.den<2^39,nl r.num.natAbs<2^39,nl (q.num.natAbs*r.den)<2^38,nl (q.den*r.num.natAbs)<2^38,q.den*r.num.natAbs≠0,(0:Nat)<1] (af.aj [(0:Nat)<1] (af.leaf aq.ret [rat (sQ (decide (q<0)!=decide (r<0)) (q.num.natAbs*r.den) (q.den*r.num.natAbs)) (dj (sQ (decide (q<0)!=decide (r<0)) (q.num.natAbs*r.den) (q.den*r.num.natAbs))),int .i64 (0:Int)]))))):=ag
theorem abu {q r:Rat} {n m:Nat} (hn:n<2^41) (hm':m<2^41) (K:Nat):aO P 148 K [.rat q n,.rat r m] [] (aJ (.tuple [.rat (q/r) (n+m),.int .i64 (if r=0 then 3 else 0)]) []):=by
 refine kE fun⟨hq,hr,_⟩=>?_
 have hq:Sz q n:=hq
 have hr:Sz r m:=hr
 have d1:=q.den_nz
 have d2:=r.den_nz
 have a1:nl q.num.natAbs<2^38:=fG hq.1 aa
 have a2:nl q.den<2^38:=fG hq.2 aa
 have b1:nl r.num.natAbs<2^38:=fG hr.1 aa
 have b2:nl r.den<2^38:=fG hr.2 aa
 have m1:nl (q.num.natAbs*r.den)<2^38:=fG (nC hq.1 hr.2) aa
 have m3:nl (q.den*r.num.natAbs)<2^38:=fG (nC hq.2 hr.1) aa
 refine bW hT sn hm UZ rfl aW rfl 60 QY (fun _=>?_) K []
 have key:((nl r.num.natAbs:Int)==0)=decide (r=0):=by
  by_cases h:r=0
  ·subst h;rfl
  ·have h1:r.num.natAbs≠0:=fun e=>h (nQ.1 e)
   have:=gI.2 h1
   simp only[h,decide_false,beq_eq_false_iff_ne];omega
 rw[key]
 simp only[af.all,az,bz,bE]
 refine⟨aa,fun h0=>?_,fun h0=>?_⟩
 ·refine⟨aa,aa,?_,bQ (by rw[if_pos h0]),trivial⟩
  have e:q/r=0:=by rw[h0,Rat.div_def,Rat.inv_zero,Rat.mul_zero]
  obtain⟨k,hk⟩:∃k,n+m=k+1:=⟨n+m-1,by have:=hq.pos;omega⟩
  rw[e,hk]
  first|exact mK|exact nh aa
 ·have hr0:r.num.natAbs≠0:=fun h=>h0 (nQ.1 h)
  have hv:=A9 q r h0
  (repeat' with_reducible refine And.intro ?_ ?_)
  all_goals first|omega|exact m1|exact m3|exact Nat.mul_ne_zero d1 hr0|skip
  exact⟨ee hv (hq.div hr),bQ (by rw[if_neg h0]),trivial⟩
def Lq:bg:=[(148,jm kR kR za pz)]
theorem P1:bK P Lq:=aK (jC fun _ _ K hn=>abu hn.1 hn.2 K) bU
theorem Vp {q r:Rat} {n m:Nat}:bT T Lq [] 60 f93 (aG f93) ⟨aS 0 [.rat q n,.rat r m],[],0⟩=
  some (af.aj [(0:Nat)<1,(0:Nat)<1,n<2^41,m<2^41,(0:Nat)<1] (af.aj [(0:Nat)<1,(0:Nat)<1] (af.aj [(0:Nat)<1] (af.leaf aq.ret [rat (q/r) (n+m)])))):=ag
theorem Kp {q r:Rat} {n m:Nat} (hn:n<2^41) (hm':m<2^41) (K:Nat):aO P 93 K [.rat q n,.rat r m] [] (aJ (.rat (q/r) (n+m)) []):=by
 refine bW hT P1 hm Yx rfl aW rfl 60 Vp (fun _=>?_) K []
 simp only[af.all,az]
 (repeat' with_reducible refine And.intro ?_ ?_)
 all_goals first|omega|exact bB.refl _
def LL (a b:Rat×Nat):AV:=rA (a.1/b.1) (a.2+b.2)
structure KG (p j:Nat) (k:Nat->Rat) (t:Rat):Prop where
 p1:1<=p
 first:∀i,i<=p->k i=k 0
 top:k (p+j)=t
 sorted:∀i,i<p+j->k i<=k (i+1)
 mult:∀i,1<=i->i<=j->k i<k (i+p)
 half:∀i,i<=p+j->∃z:Int,k i=(z:Rat)/2/\-4<=z/\z<=2+6*(j:Int)
def u9 (k:Nat->Rat) (m:Nat) (t:Rat):Nat->Rat:=fun i=>if i=m then t else k i
theorem yD {k:Nat->Rat} {m:Nat} {t:Rat}:u9 k m t m=t:=if_pos rfl
theorem nw {k:Nat->Rat} {m i:Nat} {t:Rat} (h:i≠m):u9 k m t i=k i:=if_neg h
theorem KG.start {p:Nat} (hp:1<=p) {z:Int} (h1:-2<=z) (h2:z<=1):KG p 0 (fun _=>(z:Rat)) (z:Rat) where
 p1:=hp
 first:=fun _ _=>rfl
 top:=rfl
 sorted:=fun _ _=>Rat.le_refl
 mult:=fun i h1 h2=>by omega
 half:=fun i _=>⟨2*z,by
  have:((2*z:Int):Rat)=2*(z:Rat):=by simp
  rw[this];grind,by omega,by omega⟩
theorem KG.le_top {p j:Nat} {k:Nat->Rat} {t:Rat} (h:KG p j k t) {i:Nat} (hi:i<=p+j):k i<=t:=by
 rw[<-h.top]
 exact EH (n:=p+j+1) (fun i hi=>h.sorted i (by omega)) hi (by omega)
theorem KG.next {p j:Nat} {k:Nat->Rat} {t t':Rat} (h:KG p j k t) (hc:(t<t'/\∃z:Int,t'=t+(z:Rat)/2/\z<=6)\/(t'=t/\1<=j/\t≠k (j+1))):KG p (j+1) (u9 k (p+1+j) t') t':=by
 have hle:t<=t':=by
  rcases hc with⟨h1,_⟩|⟨h1,_⟩
  ·grind
  ·rw[h1];exact Rat.le_refl
 have hp:=h.p1
 refine⟨hp,fun i hi=>?_,?_,fun i hi=>?_,fun i h1 h2=>?_,fun i hi=>?_⟩
 ·rw[nw (by omega),nw (by omega)];exact h.first i hi
 ·rw[show p+(j+1)=p+1+j by omega,yD]
 ·by_cases he:i+1=p+1+j
  ·rw[he,yD,nw (by omega),show i=p+j by omega,h.top];exact hle
  ·rw[nw (by omega),nw he];exact h.sorted i (by omega)
 ·by_cases he:i=j+1
  ·subst he
   rw[show j+1+p=p+1+j by omega,yD,nw (by omega)]
   have:=h.le_top (i:=j+1) (by omega)
   rcases hc with⟨h3,_⟩|⟨h3,h4,h5⟩
   ·grind
   ·rw[h3];grind
  ·rw[nw (by omega),nw (by omega)];exact h.mult i h1 (by omega)
 ·by_cases he:i=p+1+j
  ·subst he
   rw[yD]
   obtain⟨z,e1,e2,e3⟩:=h.half (p+j) (by omega)
   rw[h.top]at e1
   rcases hc with⟨h3,y,e4,e5⟩|⟨h3,_⟩
   ·refine⟨z+y,?_,?_,by omega⟩
    ·rw[e4,e1]
     have:((z+y:Int):Rat)=(z:Rat)+(y:Rat):=by simp
     rw[this];grind
    ·have hy:0<y:=by
      rcases Int.lt_or_le 0 y with h6|h6
      ·exact h6
      ·exfalso
       have:((y:Int):Rat)<=0:=Rat.intCast_nonpos.2 h6
       grind
     omega
   ·exact⟨z,by rw[h3,e1],e2,by omega⟩
  ·rw[nw he]
   obtain⟨z,e1,e2,e3⟩:=h.half i (by omega)
   exact⟨z,e1,e2,by omega⟩
def C1 (p j:Nat) (k:Nat->Rat) (t:Rat):Nat->Rat:=fun i=>if i<p+1+j then k i else t+1
theorem KG.done {p j:Nat} {k:Nat->Rat} {t:Rat} (h:KG p j k t):Kn (2*p+2+j) p (C1 p j k t):=by
 have hp:=h.p1
 have lo:∀{i},i<p+1+j->C1 p j k t i=k i:=fun hi=>if_pos hi
 have hi':∀{i},p+1+j<=i->C1 p j k t i=t+1:=fun hi=>if_neg (by omega)
 refine⟨hp,by omega,fun i hi=>?_,fun i hi=>?_,fun i h1 h2=>?_,fun i h1 h2=>?_⟩
 ·by_cases h1:i+1<p+1+j
  ·rw[lo h1,lo (by omega)];exact h.sorted i (by omega)
  ·rw[hi' (i:=i+1) (by omega)]
   by_cases h2:i<p+1+j
   ·rw[lo h2]
    have:=h.le_top (i:=i) (by omega)
    grind
   ·rw[hi' (by omega)];exact Rat.le_refl
 ·rw[lo (i:=i) (by omega),lo (i:=0) (by omega)];exact h.first i hi
 ·rw[hi' (i:=i) (by omega),hi' (i:=2*p+2+j-1) (by omega)]
 ·by_cases h3:i+p<p+1+j
  ·rw[lo (by omega),lo h3];exact h.mult i h1 (by omega)
  ·rw[hi' (i:=i+p) (by omega),lo (i:=i) (by omega)]
   have:=h.le_top (i:=i) (by omega)
   grind
def kL (s:Nat):Kind (Nat×(Nat->Rat)):=⟨fun v=>match rX v with
 |some (n,f)=>some ((n,fun i=>aU (f i)),[dc f n s])
 |none=>none,fun a=>aZ a.2 a.1 s,fun {v a q} h hq=>by
  split at h
  ·rename_i h1
   simp only[ax,Prod.mk.injEq]at h
   obtain⟨rfl,rfl⟩:=h
   exact TQ h1 hq
  ·simp at h⟩
def gb (s:Nat):Kind Rat:=⟨fun v=>match oo v with
 |some (q,n)=>some (q,[n<=s])
 |none=>none,fun a=>.rat a s,fun {v a q} h hq=>by
  split at h
  ·rename_i h1
   simp only[ax,Prod.mk.injEq]at h
   obtain⟨rfl,rfl⟩:=h
   exact(wu h1).trans (nh hq)
  ·simp at h⟩
structure uv (α:Type) where
 read:List AV->Option (α×List Prop)
 make:α->List AV
 ok:∀{l:List AV} {a:α} {q:List Prop},read l=some (a,q)->az q->gh l (make a)
def kN:uv Unit:=⟨fun l=>match l with
 |[]=>some ((),[])
 |_=>none,fun _=>[],fun {l a q} h _=>by
  split at h
  ·trivial
  ·simp at h⟩
def kC {α β:Type} (k:Kind α) (kl:uv β):uv (α×β):=⟨fun l=>match l with
 |v::l=>match k.read v,kl.read l with
  |some (a,p),some (b,q)=>some ((a,b),p++q)
  |_,_=>none
 |[]=>none,fun a=>k.make a.1::kl.make a.2,fun {l a q} h hq=>by
  split at h
  ·split at h
   ·rename_i h1 h2
    simp only[ax,Prod.mk.injEq]at h
    obtain⟨rfl,rfl⟩:=h
    obtain⟨q1,q2⟩:=fo.1 hq
    exact⟨k.ok h1 q1,kl.ok h2 q2⟩
   ·simp at h
  ·simp at h⟩
def dL {α:Type} (k:uv α) (g:α->AV) (need:α->List Prop):Spec:=bR fun l=>match k.read l with
 |some (a,p)=>some (aJ (g a) (p++need a))
 |none=>none
theorem dF {α:Type} {f:FuncId} {k:uv α} {g:α->AV} {need:α->List Prop} (h:∀a K,az (need a)->aO P f K (k.make a) [] (aJ (g a) [])):bf P (dL k g need) f:=by
 refine cE fun K args r hk hs _=>?_
 split at hs
 ·rename_i h1
  simp only[ax]at hs
  subst hs
  intro hn
  obtain⟨n1,hn⟩:=fo.1 hn
  exact gC (h _ K hn) hk (k.ok h1 n1) [] trivial
 ·simp at hs
end Go.Am.B
namespace Go.Am
def dH (p:Nat->Rat):Nat->Nat->Rat
 |0,i=>p i
 |k+1,i=>dH p k (i+1)-dH p k i
def fy (n:Nat) (p:Nat->Rat) (k:Nat):Rat:=((bn (n-1) k:Int):Rat)*dH p k 0
def jo (n:Nat) (c:Nat->Rat) (i:Nat):Nat->Rat
 |0=>0
 |k+1=>jo n c i k+((bn i k:Int):Rat)/((bn (n-1) k:Int):Rat)*c k
def ec (n:Nat) (c:Nat->Rat) (i:Nat):Rat:=jo n c i (i+1)
def jP (m:Nat) (p:Nat->Rat) (k j:Nat):Rat:=dH p (min k (m-j)) j
def iu (m:Nat) (p:Nat->Rat) (k i j:Nat):Rat:=if j<i then dH p (k+1) j else jP m p k j
theorem AM {m k j:Nat} {p:Nat->Rat} (h:k+j<=m):jP m p k j=dH p k j:=by unfold jP;rw[show min k (m-j)=k by omega]
theorem MP {m k j:Nat} {p:Nat->Rat}:iu m p k (m-k) j=jP m p (k+1) j:=by
 unfold iu jP
 split
 ·rw[show min (k+1) (m-j)=k+1 by omega]
 ·rw[show min (k+1) (m-j)=min k (m-j) by omega]
theorem E3 {m k i j:Nat} {p:Nat->Rat} (h:i+k<m):(if j=i then iu m p k i (i+1)-iu m p k i i else iu m p k i j)=iu m p k (i+1) j:=by
 unfold iu
 by_cases h1:j=i
 ·subst h1
  rw[if_pos rfl,if_neg (by omega),if_neg (by omega),if_pos (by omega),AM (by omega),AM (by omega)];rfl
 ·rw[if_neg h1]
  by_cases h2:j<i
  ·rw[if_pos h2,if_pos (by omega)]
  ·rw[if_neg h2,if_neg (by omega)]
def bO (k:Nat->Rat):Nat->Nat
 |0=>0
 |n+1=>if k n=0 then bO k n else n+1
theorem eP {k:Nat->Rat}:∀{n:Nat},bO k n<=n
 |0=>Nat.le_refl _
 |n+1=>by unfold bO;split;exact Nat.le_succ_of_le eP;exact Nat.le_refl _
theorem Bs {k:Nat->Rat}:∀{n:Nat},0<bO k n->k (bO k n-1)≠0
 |0,h=>by simp[bO]at h
 |n+1,h=>by
  unfold bO at h ⊢
  split
  ·rename_i h1;rw[if_pos h1]at h;exact Bs h
  ·rename_i h1;simpa using h1
theorem CD {k:Nat->Rat}:∀{n i:Nat},bO k n<=i->i<n->k i=0
 |0,_,_,h=>absurd h (Nat.not_lt_zero _)
 |n+1,i,h,hi=>by
  unfold bO at h
  split at h
  ·rename_i h1
   rcases Nat.lt_or_ge i n with h2|h2
   ·exact CD h h2
   ·rw[show i=n by omega];exact h1
  ·omega
theorem vc {k:Nat->Rat} {n:Nat} (h:n=0\/k (n-1)≠0):bO k n=n:=by
 cases n with
 |zero=>rfl
 |succ n=>unfold bO;rw[if_neg (by simpa using h)]
theorem Aw {k l:Nat->Rat}:∀{n:Nat},(∀i,i<n->k i=l i)->bO k n=bO l n
 |0,_=>rfl
 |n+1,h=>by unfold bO;rw[h n (by omega),Aw fun i hi=>h i (by omega)]
theorem CT {k:Nat->Rat} {n:Nat}:∀{m:Nat},(∀i,n<=i->i<n+m->k i=0)->bO k (n+m)=bO k n
 |0,_=>rfl
 |m+1,h=>by
  show bO k (n+m+1)=_
  unfold bO
  rw[if_pos (h (n+m) (by omega) (by omega)),CT fun i h1 h2=>h i h1 (by omega)]
  cases n<;>rfl
end Go.Am
namespace Go.Am.B
open Go Go.Am.N AV af aq IntKind Proofs.Tryz
def ah:Nat:=68719476736
def cu (n:Nat) (k:Nat->Rat):Prop:=∀i,i<n->Sz (k i) ah
abbrev wC:Code:=aG f157
abbrev uO:List Nat:=[3,9,10,11]
abbrev EE (n:Nat) (k:Nat->Rat) (s i:Nat):List AV:=[.own 0 3 0 n,aZ k n s,.int .i64 n,.int .i64 i]
def Ff:Spec:=qu fun K l=>match l with
 |[v]=>match(kL ah).read v with
  |some ((n,k),q)=>some ⟨.own K 3 0 n,[(K,cF n k ah)],q++[n<2^40,cu n k]⟩
  |none=>none
 |_=>none
def qY:bg:=zG::(157,Ff)::(158,Eb)::gA
abbrev xw:Code:=aG f115
abbrev vt:Code:=part xw [1,1,1,0,1,0,0]
abbrev vi:Code:=part vt [1,1,0,0]
abbrev qk:List Nat:=[0,3,4,17,18,19]
abbrev zm (m:Nat) (p:Nat->Rat) (k:Nat):List AV:=[aZ p (m+1) ah,.own 0 3 0 (m+1-k),.own 1 3 0 k,aZ (fun i=>((bn m i:Int):Rat)) (m+1) 64,.int .i64 (m+1:Nat),.int .i64 k]
abbrev kF (m:Nat) (d x:Nat->Rat) (k:Nat):aE:=[(1,cF k x ah),(0,cF (m+1) d ah)]
abbrev xh:List Nat:=[0,3,4,17,18,19,38,39]
abbrev Ef (m:Nat) (p:Nat->Rat) (k i:Nat):List AV:=[aZ p (m+1) ah,.own 0 3 0 (m+1-k),.own 1 3 0 (k+1),aZ (fun i=>((bn m i:Int):Rat)) (m+1) 64,.int .i64 (m+1:Nat),.int .i64 k,.int .i64 (m-k:Nat),.int .i64 i]
theorem JR:aX 115 f115:=aY func115
theorem O4 {m:Nat} {p:Nat->Rat}:aH T qY [] 60 qk (before xw [1,1,1,0,1]) ⟨aS 0 [aZ p (m+1) ah],[],0⟩=
  let c3:Nat:=m+1;let c4:Int:=(↑c3:Int);let c1:Int:=c4-1;let c2:Int:=if c1<0 then(0:Int)else c1;some (aj [dc (fun i=>rat (p i) ah) c3 ah,c3<2^40,cu c3 fun i=>aU (rat (p i) ah)] (aj [(0:Int)<=0/\(0:Int)<=c4/\c4<=2^47/\c4*(↑(56:Nat):Int)<=2^47] (aj [-(2:Int)^63<=c1/\c1<2^63,(0:Int)<=c2,c2<=40] (leaf normal ([ak 3 c3 fun i=>rat (p i) ah,own 8192 3 0 c3,own 24576 3 0 0,ak 3 (c2.toNat+1) fun i=>rat (↑(↑(bn c2.toNat i):Int):Rat) 64,int i64 (↑(c2.toNat+1):Int),int i64 0],[(24576,ay.mk true true 3 0 fun x=>rat 0 1),(8192,ay.mk true true 3 c3 fun i=>rat (aU (rat (p i) ah)) ah)]))))):=ag
theorem VH {m k:Nat} {p d x:Nat->Rat}:aH T qY [20] 60 qk (before vt [1,1,0]) ⟨aD qk (zm m p k),kF m d x k,2⟩=
  let c2:Nat:=m+1;let c1:List AV×aE:=([ak 3 c2 fun i=>rat (p i) ah,own 0 3 0 (c2-k),own 1 3 0 k,ak 3 c2 fun i=>rat (↑(↑(bn m i):Int):Rat) 64,int i64 (↑c2:Int),int i64 (↑k:Int)],[(1,ay.mk true true 3 k fun i=>rat (x i) ah),(0,ay.mk true true 3 c2 fun i=>rat (d i) ah)]);some (fork (decide ((↑k:Int)<(↑c2:Int))) (leaf normal c1) (leaf (exit 0) c1)):=ag
theorem OP {m k:Nat} {p d x:Nat->Rat}:aH T qY [200027] 60 xh (before vi [1,1,1,0,1]) ⟨aD qk (zm m p k),kF m d x k,2⟩=
  let c4:Int:=(↑k:Int);let c3:Nat:=Int.toNat (0:Int);let c1:Nat:=m+1;let c2:Int:=(↑(c1-k):Int)-1;some (aj [(0:Int)<=c4/\c4.toNat<c1,(0:Nat)<1] (aj [(c4==(↑c1:Int))=false] (aj [(0:Nat)<1,(0:Int)<=0/\c3<c1-k,c3+0<c1,(64:Nat)<2^42,ah<2^42,(1:Nat)*3<=2^24,(k+1)*((56:Nat)+1)*2<=2^47] (aj [-(2:Int)^63<=c2/\c2<2^63] (leaf normal ([ak 3 c1 fun i=>rat (p i) ah,own 0 3 0 (c1-k),own 69634 3 0 (k+1),ak 3 c1 fun i=>rat (↑(↑(bn m i):Int):Rat) 64,int i64 (↑c1:Int),int i64 c4,int i64 c2,int i64 0],[(69634,ay.mk true true 3 (k+1) fun i=>if i<k then rat (x i) ah else nth [rat ((↑(↑(bn m c4.toNat):Int):Rat)*d (c3+0)) ((64:Nat)+ah)] (rat 0 1) (i-k+0)),(0,ay.mk true true 3 c1 fun i=>rat (d i) ah)])))))):=ag
theorem aar {m k i:Nat} {p d x:Nat->Rat}:aH T qY [40] 60 xh [part vi [1,1,1,0,1,0,0]] ⟨aD xh (Ef m p k i),kF m d x (k+1),2⟩=
  let c13:Prop:=ah<2^42;let c11:Int:=(↑(m-k):Int);let c9:AV:=own 1 3 0 (k+1);let c7:Int:=(↑i:Int);let c6:Int:=(2:Int)^63;let c4:Nat×ay:=(1,ay.mk true true 3 (k+1) fun i=>rat (x i) ah);let c2:Nat:=m+1;let c12:Prop:=(0:Int)<=c7/\c7.toNat<c2-k;let c10:AV:=own 0 3 0 (c2-k);let c8:AV:=ak 3 c2 fun i=>rat (p i) ah;let c5:AV:=ak 3 c2 fun i=>rat (↑(↑(bn m i):Int):Rat) 64;let c3:Nat:=c7.toNat+0;let c1:Int:=c7+1;some (fork (decide (c7<c11)) (aj [-c6<=c1/\c1<c6,(0:Int)<=c1/\c1.toNat<c2-k,c1.toNat+0<c2,c12,c3<c2,c13,c13,c12,c3<c2] (aj [-c6<=c1/\c1<c6] (leaf normal ([c8,c10,c9,c5,int i64 (↑c2:Int),int i64 (↑k:Int),int i64 c11,int i64 c1],[c4,(0,ay.mk true true 3 c2 fun j=>rat (bif j==c3 then d (c1.toNat+0)-d c3 else d j) (bif j==c3 then ah+ah+1 else ah))])))) (leaf (exit 2) ([c8,c10,c9,c5,int i64 (↑c2:Int),int i64 (↑k:Int),int i64 c11,int i64 c7],[c4,(0,ay.mk true true 3 c2 fun i=>rat (d i) ah)]))):=ag
theorem W5 {m k i:Nat} {p d x:Nat->Rat}:aH T qY [] 60 qk (behind vi [1,1,1,0,1]++[part vt [1,1,1]]) ⟨aD xh (Ef m p k i),kF m d x (k+1),2⟩=
  let c4:Int:=(↑k:Int)+1;let c3:Nat:=m+1;let c2:Int:=(2:Int)^63;let c1:Int:=(↑(c3-k):Int)-1;some (aj [-c2<=c1/\c1<c2,(0:Int)<=0/\(0:Int)<=c1/\c1<=c1/\c1<=(↑(c3-k):Int)] (aj [-c2<=c4/\c4<c2] (leaf normal ([ak 3 c3 fun i=>rat (p i) ah,own 0 3 0 (c1.toNat-Int.toNat (0:Int)),own 1 3 0 (k+1),ak 3 c3 fun i=>rat (↑(↑(bn m i):Int):Rat) 64,int i64 (↑c3:Int),int i64 c4],[(1,ay.mk true true 3 (k+1) fun i=>rat (x i) ah),(0,ay.mk true true 3 c3 fun i=>rat (d i) ah)])))):=ag
theorem YX {m k:Nat} {p d x:Nat->Rat}:cN T qY [] 60 f115 [part xw [1,1,1,1]] ⟨aD qk (zm m p k),kF m d x k,2⟩=
  some (leaf ret [ak 3 k fun i=>rat (x (i+0)) ah]):=ag
theorem L8:aX 157 f157:=aY func157
theorem aej {n s:Nat} {k:Nat->Rat}:aH T GZ [] 60 uO (before wC [1,1,0,1]) ⟨aS 0 [aZ k n s],[],0⟩=
  let c1:Int:=(↑n:Int);some (aj [(0:Int)<=c1/\c1<=c1/\c1<=2^47/\c1*(↑(56:Nat):Int)<=2^47] (leaf normal ([own 12288 3 0 c1.toNat,ak 3 n fun i=>rat (k i) s,int i64 c1,int i64 0],[(12288,ay.mk true true 3 c1.toNat fun x=>rat 0 1)]))):=ag
theorem Yg {n s i:Nat} {k x:Nat->Rat}:aH T GZ [12] 60 uO [part wC [1,1,0,1,0,0]] ⟨aD uO (EE n k s i),[(0,cF n x ah)],1⟩=
  let c7:Int:=(↑n:Int);let c4:AV:=own 0 3 0 n;let c3:AV:=ak 3 n fun i=>rat (k i) s;let c1:Int:=(↑i:Int);let c6:Int:=c1+1;let c5:Prop:=(0:Int)<=c1/\c1.toNat<n;let c2:Nat:=c1.toNat+0;some (fork (decide (c1<c7)) (aj [c5,(0:Nat)<1] (aj [(0:Nat)<1,s<2^42,(1:Nat)<2^42,c5,c2<n] (aj [-(2:Int)^63<=c6/\c6<2^63] (leaf normal ([c4,c3,int i64 c7,int i64 c6],[(0,ay.mk true true 3 n fun j=>rat (bif j==c2 then k c1.toNat+0 else x j) (bif j==c2 then s+1+1 else ah))]))))) (leaf (exit 0) ([c4,c3,int i64 c7,int i64 c1],[(0,ay.mk true true 3 n fun i=>rat (x i) ah)]))):=ag
theorem TF {n s i:Nat} {k x:Nat->Rat}:aH T GZ [] 60 [2] [part wC [1,1,1]] ⟨aD uO (EE n k s i),[(0,cF n x ah)],1⟩=
  some (leaf ret ([own 0 3 0 n],[(0,ay.mk true true 3 n fun i=>rat (x i) ah)])):=ag
theorem dg:ah=2^36:=rfl
theorem lf {rl:List (Nat×Nat)} {i j zt z w:Nat} {t:Rat} {x y:Nat->Rat} (h1:bB (.rat t zt) (.rat (y i) w)) (h2:j≠i->bB (.rat (x j) z) (.rat (y j) w)):oK rl (.rat (bif j==i then t else x j) (bif j==i then zt else z)) (.rat (y j) w):=by
 refine .inr ⟨rfl,?_⟩
 by_cases h:j=i
 ·subst h;rw[beq_self_eq_true];exact h1
 ·rw[show(j==i)=false by simpa using h];exact h2 h
theorem x8 {α:Type} {i j:Nat} {a b:α} (h:j≠i):(if j<i+1 then a else b)=if j<i then a else b:=by
 by_cases h1:j<i
 ·rw[if_pos h1,if_pos aa]
 ·rw[if_neg h1,if_neg aa]
theorem VZ {args:List AV} {n:Nat} {k:Nat->Rat} {l:List Prop} (ha:az l->gj (aV []) args [aZ k n ah]) (hn:az l->n<2^40/\cu n k) (K:Nat):aO P 157 K args [] ⟨m9 [.own K 3 0 n],[(K,cF n k ah)],l⟩:=by
 refine Cw hT L8 ha aW fun need c hk=>?_
 obtain⟨hn,hz⟩:=hn need
 have hW:=dg
 refine au.oN hT oq hm [1,1,0,1] (i:=0) (y:=part wC [1,1,0,1,0,0]) (z:=part wC [1,1,1]) ag ag ag L8.dst hk (f1:=[]) (f2:=[12]) 60 uO 1 (fun i:Nat=>EE n k ah i) (fun i=>[(0,cF n (fun j=>if j<i then k j else 0) ah)])
  (fun i=>i<=n) (fun i=>i=n) (fun i=>n-i) (fun _=>False) ⟨_,aej,?_⟩ (fun i hi=>⟨_,Yg,?_⟩) (fun i hi=>?_) (fun _ _ h=>h.elim)
 ·simp only[af.all,az,bu]
  exact⟨aa,0,Nat.zero_le _,[(0,12288)],rfl,rfl,rfl,bw rfl rfl rfl (fun i hi=>.inr ⟨rfl,cY (if_neg (Nat.not_lt_zero i)).symm aa⟩) trivial⟩
 ·simp only[af.all,az,bz,bE,bu,Nat.add_zero]
  refine⟨fun h2=>⟨aa,aa,aa,i+1,aa,by dsimp only;omega,[(0,0)],rfl,rfl,rfl,bw rfl rfl rfl (fun j hj=>?_) trivial⟩,fun h2=>⟨rfl,i,aa,[(0,0)],rfl,rfl,rfl,bw rfl rfl rfl (fun j hj=>bP rfl rfl) trivial⟩⟩
  exact lf (x:=fun j=>if j<i then k j else 0) (y:=fun j=>if j<i+1 then k j else 0) (ee ((Rat.add_zero _).trans (if_pos (Nat.lt_succ_self i)).symm) (by show Sz (if i<i+1 then _ else _) _;rw[if_pos (Nat.lt_succ_self i)];exact hz i aa)) fun hj=>cY (x8 hj).symm aQ
 ·subst hi
  refine au.bF hT oq hm 60 [2] TF ag fun s' hs'=>⟨.inr rfl,[2],_,[.own 0 3 0 i],_,0,_,hs',ag,⟨⟨rfl,dK (by simp[aV,look]) rfl rfl⟩,trivial⟩,rfl,gM rfl fun j hj=>?_⟩
  rw[if_pos hj];exact gy rfl
theorem WN:bf P Ff 157:=by
 refine wI fun K args r hk hs=>?_
 split at hs
 ·rename_i v
  split at hs
  ·rename_i n k q hv
   simp only[ax]at hs
   subst hs
   exact VZ (fun hn=>Dw hk (by cases v<;>first|rfl|simp[kL,rX]at hv) ⟨(kL ah).ok hv (fo.1 hn).1,trivial⟩) (fun hn=>have:=(fo (a:=q) (b:=[n<2^40,cu n k]).1 hn).2;⟨this.1,this.2⟩) K
  ·simp at hs
 ·simp at hs
theorem Nh:bK P qY:=gT (aK WN (aK FZ gJ))
theorem cu.up {n:Nat} {k:Nat->Rat} {i z:Nat} (h:cu n k) (hi:i<n):bB (.rat (k i) z) (.rat (k i) ah):=ee rfl (h i hi)
def qn (n:Nat) (p:Nat->Rat):Prop:=(∀k i,k+i<n->Sz (dH p k i) ah)/\cu n (fy n p)
theorem Sr {m:Nat} {p:Nat->Rat} (hm1:m<=40) (hz:qn (m+1) p) (K:Nat):aO P 115 K [aZ p (m+1) ah] [] (aJ (aZ (fy (m+1) p) (m+1) ah) []):=by
 refine ij (r:=aJ (aZ (fy (m+1) p) (m+1) ah) []) hT JR rfl aW rfl (fun _ cx h0=>?_) K []
 have hk:=mO h0
 have hW:=dg
 have hd:∀k i,k+i<=m->Sz (dH p k i) ah:=fun k i h=>hz.1 k i aa
 refine au.qJ hT Nh hm (x:=xw) [1,1,1,0,1] (i:=0) (y:=vt) (z:=part xw [1,1,1,1]) ag ag ag JR.dst [1,1,0] (j:=1) (x1:=vi) (zb:=part vt [1,1,1]) ag ag ag [1,1,1,0,1] (i2:=2) (y2:=part vi [1,1,1,0,1,0,0]) ag ag rfl hk
  (f1:=[]) (f2:=[20]) (f3:=[200027]) (f4:=[40]) (f5:=[]) 60 qk xh 2 2 (fun k:Nat=>zm m p k) (fun k=>kF m (jP m p k) (fy (m+1) p) k) (fun k=>k<=m+1) (fun k=>k=m+1) (fun k=>m+1-k) (fun k=>k<m+1) (fun _=>False) (fun _=>False)
  (fun k (i:Nat)=>Ef m p k i) (fun k i=>kF m (iu m p k i) (fy (m+1) p) (k+1)) (fun k i=>i<=m-k) (fun k i=>i=m-k) (fun k i=>m-k-i)
  ⟨_,O4,?_⟩ (fun k hk=>⟨_,VH,?_⟩) (fun k hk hG=>⟨_,OP,?_⟩) (fun k hk hG i hi=>⟨_,aar,?_⟩) (fun k hk hG i hi=>⟨_,W5,?_⟩) (fun k hk=>?_) (fun _ _ h=>h.elim) (fun _ _ h=>h.elim)
 ·simp only[af.all,az]
  have e1:(if((m+1:Nat):Int)-1<0 then 0 else((m+1:Nat):Int)-1)=(m:Nat):=by rw[if_neg aa];omega
  rw[e1]
  refine⟨⟨cZ aQ,aa,fun i hi=>hd 0 i aa⟩,aa,aa,0,aa,[(0,8192),(1,24576)],rfl,rfl,rfl,bw rfl rfl rfl (fun i hi=>absurd hi (Nat.not_lt_zero i)) (bw rfl rfl rfl (fun i hi=>bP rfl ?_) trivial)⟩
  show AV.rat (p i) ah=AV.rat (jP m p 0 i) ah
  unfold jP;rw[Nat.zero_min];rfl
 ·simp only[af.all,az,bz,bE]
  exact⟨fun h=>⟨aa,[(0,0),(1,1)],rfl,rfl,rfl,bw rfl rfl rfl (fun i hi=>bP rfl rfl) (bw rfl rfl rfl (fun i hi=>bP rfl rfl) trivial)⟩,fun h=>⟨rfl,k,aa,[(0,0),(1,1)],rfl,rfl,rfl,bw rfl rfl rfl (fun i hi=>bP rfl rfl) (bw rfl rfl rfl (fun i hi=>bP rfl rfl) trivial)⟩⟩
 ·simp only[af.all,az,bu,beq_eq_false_iff_ne]
  have e0:(0:Int).toNat=0:=rfl
  refine⟨aa,aa,aa,aa,0,aa,[(0,0),(1,69634)],rfl,?_,rfl,bw rfl rfl rfl (fun i hi=>?_) (bw rfl rfl rfl (fun i hi=>bP rfl ?_) trivial)⟩
  ·rw[show((m+1-k:Nat):Int)-1=(m-k:Nat) by omega];rfl
  ·refine .inr ⟨?_,?_⟩
   ·split
    ·rfl
    ·rw[show i-k+0=0 by omega];rfl
   ·split
    ·exact .refl _
    ·rw[show i-k+0=0 by omega,show i=k by omega]
     exact ee (by rw[AM aa];rfl) (hz.2 k hG)
  ·show AV.rat (jP m p k i) ah=AV.rat (iu m p k 0 i) ah
   unfold iu;rw[if_neg (Nat.not_lt_zero i)]
 ·simp only[af.all,az,bz,bE,bu,Nat.add_zero]
  have e1:((i:Int)+1).toNat=i+1:=aa
  rw[e1]
  refine⟨fun h=>⟨aa,aa,i+1,aa,by dsimp only;omega,[(0,0),(1,1)],rfl,rfl,rfl,bw rfl rfl rfl (fun j hj=>bP rfl rfl) (bw rfl rfl rfl (fun j hj=>?_) trivial)⟩,fun h=>⟨rfl,i,aa,[(0,0),(1,1)],rfl,rfl,rfl,bw rfl rfl rfl (fun j hj=>bP rfl rfl) (bw rfl rfl rfl (fun j hj=>bP rfl rfl) trivial)⟩⟩
  have h3:=fun j=>E3 (m:=m) (k:=k) (i:=i) (j:=j) (p:=p) aa
  exact lf (x:=iu m p k i) (y:=iu m p k (i+1)) (ee ((if_pos rfl).symm.trans (h3 i)) (by unfold iu;rw[if_pos (Nat.lt_succ_self i)];exact hd _ _ aa)) fun hj=>cY ((if_neg hj).symm.trans (h3 j)) aQ
 ·subst hi
  simp only[af.all,az]
  refine⟨aa,aa,k+1,aa,by dsimp only;omega,[(0,0),(1,1)],rfl,?_,rfl,bw rfl rfl rfl (fun j hj=>bP rfl rfl) (bw rfl rfl rfl (fun j hj=>bP rfl ?_) trivial)⟩
  ·rw[show(((m+1-k:Nat):Int)-1).toNat-(0:Int).toNat=m+1-(k+1) by omega];rfl
  ·show AV.rat (iu m p k (m-k) j) ah=AV.rat (jP m p (k+1) j) ah
   rw[MP]
 ·subst hk
  exact au.lU ((aF.fin hT Nh hm 60 YX ag (gi fun _ _=>.refl _)).mono fun _ _ h=>.inl h)
def zB:Spec:=dL (kC (kL ah) kN) (fun a=>aZ (fy a.1.1 a.1.2) a.1.1 ah) fun a=>[1<=a.1.1,a.1.1<=41,qn a.1.1 a.1.2]
theorem NW:bf P zB 115:=dF fun⟨⟨n,p⟩,_⟩ K hn=>by
 obtain⟨h1,h2,h3⟩:=hn
 simp only at h1 h2 h3
 obtain⟨m,rfl⟩:∃m,n=m+1:=⟨n-1,aa⟩
 exact Sr aa h3 K
end Go.Am.B
namespace Go.Am
def gr (e:Nat) (d:Nat->Rat) (k:Nat) (r:Nat->Rat) (i:Nat):Rat:=if k<=i/\i<k+e+1 then r i-r (k+e)/d e*d (i-k)else r i
def cr (e:Nat) (d a:Nat->Rat) (R:Nat):Nat->Nat->Rat
 |0=>a
 |j+1=>gr e d (R-1-j) (cr e d a R j)
def fc (e:Nat) (d a:Nat->Rat) (R k:Nat):Rat:=cr e d a R (R-1-k) (k+e)/d e
theorem GK {e k:Nat} {d r:Nat->Rat} (hd:d e≠0):gr e d k r (k+e)=0:=by
 unfold gr
 rw[if_pos (by omega),show k+e-k=e by omega,Rat.div_mul_cancel hd,Rat.sub_self]
theorem XS {e k:Nat} {d r:Nat->Rat} (h:r (k+e)=0):gr e d k r=r:=by
 funext i
 unfold gr
 split
 ·rw[h,Rat.div_def,Rat.zero_mul,Rat.zero_mul];grind
 ·rfl
section
variable {n e R:Nat} {d a:Nat->Rat}
def e9 (n R L:Nat):Nat:=min (n-L) R
theorem B7 (hR:R=n-e) {L:Nat} (hL:L<=n) (hz:∀i,L<=i->i<n->cr e d a R (e9 n R L) i=0):∀m,m<=L->(∀i,L-m<=i->i<n->cr e d a R (e9 n R L) i=0)->cr e d a R (e9 n R (L-m))=cr e d a R (e9 n R L)
 |0,_,_=>rfl
 |m+1,hm,h=>by
  have ih:=B7 hR hL hz m (by omega) (fun i h1 h2=>h i (by omega) h2)
  rw[<-ih]
  by_cases h1:n-(L-m)<R
  ·rw[show e9 n R (L-(m+1))=n-(L-m)+1 by unfold e9;omega,show e9 n R (L-m)=n-(L-m) by unfold e9;omega]
   show gr e d (R-1-(n-(L-m))) (cr e d a R (n-(L-m)))=_
   refine XS ?_
   rw[show n-(L-m)=e9 n R (L-m) by unfold e9;omega,ih]
   exact h _ (by unfold e9;omega) (by unfold e9;omega)
  ·rw[show e9 n R (L-(m+1))=e9 n R (L-m) by unfold e9;omega]
structure jQ (n e R:Nat) (d a:Nat->Rat) (L:Nat) (x q:Nat->Rat):Prop where
 le:L<=n
 uU:∀i,i<L->x i=cr e d a R (e9 n R L) i
 zero:∀i,L<=i->i<n->cr e d a R (e9 n R L) i=0
 top:L=0\/cr e d a R (e9 n R L) (L-1)≠0
 quo:∀k,k<R->q k=if k+e<L then 0 else fc e d a R k
theorem jQ.start (hR:R=n-e) (ha:n=0\/a (n-1)≠0):jQ n e R d a n a fun _=>0 where
 le:=Nat.le_refl _
 uU i hi:=by rw[show e9 n R n=0 by unfold e9;omega];rfl
 zero i h1 h2:=by omega
 top:=by rw[show e9 n R n=0 by unfold e9;omega];exact ha
 quo k hk:=by rw[if_pos (by omega)]
def iB (e:Nat) (d x:Nat->Rat) (k:Nat) (f:Rat) (i j:Nat):Rat:=if k<=j/\j<k+i then x j-f*d (j-k)else x j
variable {L:Nat} {x q:Nat->Rat}
theorem jQ.quot (hR:R=n-e) (h:jQ n e R d a L x q) (hL:e<L):x (L-1)/d e=fc e d a R (L-1-e):=by
 have:=h.le
 unfold fc
 rw[h.uU _ (by omega),show e9 n R L=R-1-(L-1-e) by unfold e9;omega,show L-1-e+e=L-1 by omega]
theorem jQ.Ls (hR:R=n-e) (h:jQ n e R d a L x q) (hL:e<L) {i j:Nat} (hi:i<=e) (hj:j<L-1) (hij:j<L-1-e+i):iB e d x (L-1-e) (x (L-1)/d e) i j=cr e d a R (n-L+1) j:=by
 have hl:=h.le
 have e1:e9 n R L=n-L:=by unfold e9;omega
 show _=gr e d (R-1-(n-L)) (cr e d a R (n-L)) j
 rw[show R-1-(n-L)=L-1-e by omega]
 unfold iB gr
 rw[show L-1-e+e=L-1 by omega,<-e1,<-h.uU j (by omega),<-h.uU (L-1) (by omega)]
 by_cases hk:L-1-e<=j
 ·rw[if_pos ⟨hk,hij⟩,if_pos (by omega)]
 ·rw[if_neg (by omega),if_neg (by omega)]
theorem jQ.next (hR:R=n-e) (hd:d e≠0) (h:jQ n e R d a L x q) (hL:e<L):
  jQ n e R d a (bO (iB e d x (L-1-e) (x (L-1)/d e) e) (L-1)) (iB e d x (L-1-e) (x (L-1)/d e) e) fun j=>if j=L-1-e then x (L-1)/d e else q j:=by
 have hl:=h.le
 have hu:∀j,j<L-1->iB e d x (L-1-e) (x (L-1)/d e) e j=cr e d a R (n-L+1) j:=fun j hj=>h.Ls hR hL (Nat.le_refl _) hj (by omega)
 have e1:e9 n R L=n-L:=by unfold e9;omega
 have e2:e9 n R (L-1)=n-L+1:=by unfold e9;omega
 obtain⟨M,hM⟩:∃M,M=bO (iB e d x (L-1-e) (x (L-1)/d e) e) (L-1):=⟨_,rfl⟩
 have hM2:M=bO (cr e d a R (n-L+1)) (L-1):=by rw[hM];exact Aw hu
 have hMl:M<=L-1:=by rw[hM2];exact eP
 have hz1:∀i,L-1<=i->i<n->cr e d a R (n-L+1) i=0:=fun i h1 h2=>by
  show gr e d (R-1-(n-L)) (cr e d a R (n-L)) i=0
  rw[show R-1-(n-L)=L-1-e by omega]
  by_cases h3:i=L-1
  ·have:=GK (k:=L-1-e) (r:=cr e d a R (n-L)) hd
   rwa [show L-1-e+e=i by omega]at this
  ·unfold gr
   rw[if_neg (by omega),<-e1]
   exact h.zero i (by omega) h2
 have hz:∀i,M<=i->i<n->cr e d a R (n-L+1) i=0:=fun i h1 h2=>by
  rcases Nat.lt_or_ge i (L-1)with h3|h3
  ·exact CD (by rw[<-hM2];exact h1) h3
  ·exact hz1 i h3 h2
 have hs:cr e d a R (e9 n R M)=cr e d a R (n-L+1):=by
  have:=B7 (d:=d) (a:=a) hR (L:=L-1) (by omega) (by rw[e2];exact hz1) (L-1-M) (by omega) (by rw[e2,show L-1-(L-1-M)=M by omega];exact hz)
  rwa [show L-1-(L-1-M)=M by omega,e2]at this
 rw[<-hM]
 refine⟨by omega,fun i hi=>by rw[hs];exact hu i (by omega),fun i h1 h2=>by rw[hs];exact hz i h1 h2,?_,fun k hk=>?_⟩
 ·rw[hs]
  rcases Nat.eq_zero_or_pos M with h0|h0
  ·exact .inl h0
  ·right
   rw[hM2]at h0 ⊢
   exact Bs h0
 ·show(if k=L-1-e then x (L-1)/d e else q k)=_
  by_cases h1:k=L-1-e
  ·rw[if_pos h1,if_neg (by omega),h.quot hR hL,h1]
  ·rw[if_neg h1,h.quo k hk]
   by_cases h2:k+e<M
   ·rw[if_pos h2,if_pos (by omega)]
   ·rw[if_neg h2]
    by_cases h3:k+e<L
    ·rw[if_pos h3]
     -- a round that did nothing
     have hk2:k+e<L-1:=by omega
     unfold fc
     have e3:=B7 (d:=d) (a:=a) hR (L:=L-1) (by omega) (by rw[e2];exact hz1) (L-1-(k+e+1)) (by omega) (by rw[e2,show L-1-(L-1-(k+e+1))=k+e+1 by omega];exact fun i h1 h2=>hz i (by omega) h2)
     rw[show L-1-(L-1-(k+e+1))=k+e+1 by omega,e2]at e3
     rw[show R-1-k=e9 n R (k+e+1) by unfold e9;omega,e3,hz (k+e) (by omega) (by omega),Rat.div_def,Rat.zero_mul]
    ·rw[if_neg h3]
theorem jQ.fin (hR:R=n-e) (h:jQ n e R d a L x q) (hL:L<=e):L=bO (cr e d a R R) n/\(∀i,i<L->x i=cr e d a R R i)/\∀k,k<R->q k=fc e d a R k:=by
 have hl:=h.le
 have e1:e9 n R L=R:=by unfold e9;omega
 have hz:=h.zero
 have ht:=h.top
 have ha:=h.uU
 rw[e1]at hz ht ha
 refine⟨?_,ha,fun k hk=>by rw[h.quo k hk,if_neg (by omega)]⟩
 have:=CT (k:=cr e d a R R) (n:=L) (m:=n-L) fun i h1 h2=>hz i h1 (by omega)
 rw[show L+(n-L)=n by omega,vc ht]at this
 exact this.symm
end
end Go.Am
namespace Go.Am
abbrev PP:=Nat×(Nat->Rat)
def dP (a d:PP):PP:=(bO (cr (d.1-1) d.2 a.2 (a.1-(d.1-1)) (a.1-(d.1-1))) a.1,cr (d.1-1) d.2 a.2 (a.1-(d.1-1)) (a.1-(d.1-1)))
def gD (a d:PP):PP:=(bO (fc (d.1-1) d.2 a.2 (a.1-(d.1-1))) (a.1-(d.1-1)),fc (d.1-1) d.2 a.2 (a.1-(d.1-1)))
def dh (n:Nat) (c:Nat->Rat) (i:Nat):Rat:=c i/c (n-1)
def jf (a:PP):PP:=(a.1,dh a.1 a.2)
def dx (c:Nat->Rat) (i:Nat):Rat:=((i+1:Nat):Int)*c (i+1)
def cP (a:PP):PP:=(bO (dx a.2) (a.1-1),dx a.2)
def Trim (a:PP):Prop:=a.1=0\/a.2 (a.1-1)≠0
theorem lJ {k:Nat->Rat} {n:Nat}:Trim (bO k n,k):=by
 rcases Nat.eq_zero_or_pos (bO k n)with h|h
 ·exact .inl h
 ·exact .inr (Bs h)
theorem qA {a d:PP}:Trim (dP a d):=lJ
theorem FX {a d:PP}:Trim (gD a d):=lJ
theorem gl {a:PP}:Trim (cP a):=lJ
theorem vm {a:PP} (h:Trim a):Trim (jf a):=by
 rcases h with h|h
 ·exact .inl h
 ·right
  show dh a.1 a.2 (a.1-1)≠0
  unfold dh
  rw[Rat.div_def,Rat.mul_inv_cancel _ h];decide
theorem I7 {n e R:Nat} {d a:Nat->Rat} (hR:R=n-e) (hd:d e≠0):∀j,j<=R->∀i,n-j<=i->i<n->cr e d a R j i=0
 |0,_,i,h1,h2=>by omega
 |j+1,hj,i,h1,h2=>by
  show gr e d (R-1-j) (cr e d a R j) i=0
  by_cases h:i=R-1-j+e
  ·rw[h];exact GK hd
  ·unfold gr
   rw[if_neg (by omega)]
   exact I7 hR hd j (by omega) i (by omega) h2
theorem mA {a d:PP} (hd:0<d.1) (ht:Trim d):(dP a d).1<d.1:=by
 show bO _ _<_
 have h0:d.2 (d.1-1)≠0:=by rcases ht with h|h;omega;exact h
 have:=fun i=>I7 (n:=a.1) (a:=a.2) (rfl) h0 _ (Nat.le_refl (a.1-(d.1-1))) i
 rcases Nat.lt_or_ge a.1 d.1 with h|h
 ·exact Nat.lt_of_le_of_lt eP h
 ·have e1:=CT (k:=cr (d.1-1) d.2 a.2 (a.1-(d.1-1)) (a.1-(d.1-1))) (n:=d.1-1) (m:=a.1-(d.1-1)) fun i h1 h2=>this i (by omega) (by omega)
  rw[show d.1-1+(a.1-(d.1-1))=a.1 by omega]at e1
  rw[e1]
  have:=eP (k:=cr (d.1-1) d.2 a.2 (a.1-(d.1-1)) (a.1-(d.1-1))) (n:=d.1-1)
  omega
def fX (s:PP×PP):PP×PP:=if s.2.1=0 then s else(s.2,jf (dP s.1 s.2))
def bZ (s:PP×PP):Nat->PP×PP
 |0=>s
 |j+1=>fX (bZ s j)
theorem pe {s:PP×PP} (h1:Trim s.1) (h2:Trim s.2):∀j,Trim (bZ s j).1/\Trim (bZ s j).2
 |0=>⟨h1,h2⟩
 |j+1=>by
  have:=pe h1 h2 j
  show Trim (fX _).1/\Trim (fX _).2
  unfold fX
  split
  ·exact this
  ·exact⟨this.2,vm qA⟩
theorem Ai {s:PP×PP} (h1:Trim s.1) (h2:Trim s.2):∀j,(bZ s j).2.1<=s.2.1-j
 |0=>Nat.le_refl _
 |j+1=>by
  have:=Ai h1 h2 j
  have ht:=pe h1 h2 j
  show(fX _).2.1<=_
  unfold fX
  split
  ·rename_i h;rw[h];exact Nat.zero_le _
  ·rename_i h
   have:=mA (a:=(bZ s j).1) (d:=(bZ s j).2) (by omega) ht.2
   show(dP _ _).1<=_
   omega
theorem Hs {s:PP×PP} {j:Nat} (h:(bZ s j).2.1=0):∀m,bZ s (j+m)=bZ s j
 |0=>rfl
 |m+1=>by
  show fX (bZ s (j+m))=_
  rw[Hs h m]
  unfold fX
  rw[if_pos h]
theorem H7 {s:PP×PP} (h:0<s.1.1):∀j,0<(bZ s j).1.1
 |0=>h
 |j+1=>by
  have:=H7 h j
  show 0<(fX _).1.1
  unfold fX
  split
  ·exact this
  ·dsimp only;omega
theorem v9 {s:PP×PP} {B:Nat} (ha:s.1.1<=B) (hb:s.2.1<=B) (h1:Trim s.1) (h2:Trim s.2):∀j,(bZ s j).1.1<=B
 |0=>ha
 |j+1=>by
  have:=v9 ha hb h1 h2 j
  have h3:=Ai h1 h2 j
  show(fX _).1.1<=_
  unfold fX
  split
  ·exact this
  ·dsimp only;omega
def cG (a b:PP):PP:=jf (bZ (a,b) b.1).1
theorem SG {a b:PP} (h1:Trim a) (h2:Trim b) {j:Nat} (hj:j<=b.1) (h:(bZ (a,b) j).2.1=0):jf (bZ (a,b) j).1=cG a b:=by
 have:=Hs h (b.1-j)
 rw[show j+(b.1-j)=b.1 by omega]at this
 unfold cG
 rw[this]
theorem nH {a b:PP} (h1:Trim a) (h2:Trim b):Trim (cG a b):=vm (pe (s:=(a,b)) h1 h2 _).1
theorem CK {a b:PP} (h:0<a.1):0<(cG a b).1:=H7 (s:=(a,b)) h _
def dA (a:PP):PP:=if a.1=0 then(0,a.2)else jf (gD a (cG a (cP a)))
def qG (s:PP×PP):PP×PP:=(s.2,((dP s.1 s.2).1,fun i=>((-1:Int):Rat)*(dP s.1 s.2).2 i))
def ct (s:PP×PP):Nat->PP×PP
 |0=>s
 |j+1=>qG (ct s j)
theorem Zu {a:PP} {r:Rat} (h:Trim a) (hr:r≠0):Trim (a.1,fun i=>r*a.2 i):=by
 rcases h with h|h
 ·exact .inl h
 ·right
  show r*a.2 (a.1-1)≠0
  intro h0
  rcases Rat.mul_eq_zero.1 h0 with h1|h1
  ·exact hr h1
  ·exact h h1
theorem tT {s:PP×PP} (h1:Trim s.1) (h2:Trim s.2):∀j,Trim (ct s j).1/\Trim (ct s j).2
 |0=>⟨h1,h2⟩
 |j+1=>⟨(tT h1 h2 j).2,Zu (a:=dP (ct s j).1 (ct s j).2) qA (by decide)⟩
def stM (s:PP×PP):Nat->Nat->Nat
 |0,j=>j
 |f+1,j=>if(ct s j).2.1=0 then j else stM s f (j+1)
def gQ (s:PP×PP):Nat:=stM s s.2.1 0
theorem MG {s:PP×PP} (h1:Trim s.1) (h2:Trim s.2):∀f j,(ct s j).2.1<=f->j<=stM s f j/\stM s f j<=j+f/\(ct s (stM s f j)).2.1=0/\∀i,j<=i->i<stM s f j->(ct s i).2.1≠0
 |0,j,h=>⟨Nat.le_refl _,by show j<=_;omega,by show(ct s j).2.1=0;omega,fun i h1 h2=>by have:i<j:=h2;omega⟩
 |f+1,j,h=>by
  unfold stM
  split
  ·rename_i h0
   exact⟨Nat.le_refl _,by omega,h0,fun i h1 h2=>by omega⟩
  ·rename_i h0
   have hr:=mA (a:=(ct s j).1) (d:=(ct s j).2) (by omega) (tT h1 h2 j).2
   have hr:(ct s (j+1)).2.1<(ct s j).2.1:=hr
   obtain⟨g1,g2,g3,g4⟩:=MG h1 h2 f (j+1) (by omega)
   refine⟨by omega,by omega,g3,fun i k1 k2=>?_⟩
   rcases Nat.eq_or_lt_of_le k1 with h|h
   ·subst h;exact h0
   ·exact g4 i h k2
theorem uw {s:PP×PP} (h1:Trim s.1) (h2:Trim s.2):gQ s<=s.2.1/\(ct s (gQ s)).2.1=0/\∀i,i<gQ s->(ct s i).2.1≠0:=by
 obtain⟨_,g2,g3,g4⟩:=MG h1 h2 s.2.1 0 (Nat.le_refl _)
 exact⟨by unfold gQ;omega,g3,fun i hi=>g4 i (Nat.zero_le _) hi⟩
theorem Kl {s:PP×PP} {B:Nat} (ha:s.1.1<=B) (hb:s.2.1<=B) (h1:Trim s.1) (h2:Trim s.2):∀j,j<=gQ s->(ct s j).1.1<=B/\(ct s j).2.1<=B
 |0,_=>⟨ha,hb⟩
 |j+1,hj=>by
  have ih:=Kl ha hb h1 h2 j (by omega)
  have h0:=(uw h1 h2).2.2 j (by omega)
  have hr:(ct s (j+1)).2.1<(ct s j).2.1:=mA (a:=(ct s j).1) (d:=(ct s j).2) (by omega) (tT h1 h2 j).2
  exact⟨ih.2,by omega⟩
def ia (a:PP):PP×PP:=(dA a,cP (dA a))
theorem uJ {a:PP}:Trim (dA a):=by
 unfold dA
 split
 ·exact .inl rfl
 ·exact vm FX
def fu (n:Nat) (k:Nat->Rat) (t:Rat):Nat->Rat
 |0=>0
 |m+1=>fu n k t m*t+k (n-1-m)
def fQ (a:PP) (t:Rat):Rat:=fu a.1 a.2 t a.1
def ep (s:Nat->Int):Nat->Int×Nat
 |0=>(0,0)
 |i+1=>(if s i=0 then(ep s i).1 else s i,if s i*(ep s i).1<0 then(ep s i).2+1 else(ep s i).2)
end Go.Am
namespace Go.Am.B
open Go Go.Am.N AV af aq IntKind Proofs.Tryz
def rV:Nat:=68719477736
abbrev l5:Code:=aG f114
abbrev mU:List Nat:=[0]
def xQ:Spec:=dL (kC (kL ah) kN) (fun a=>aZ a.1.2 (bO a.1.2 a.1.1) ah) fun a=>[a.1.1<2^40]
def Js:Spec:=dL (kC kR (kC kR kN)) (fun a=>.rat (a.1.1/a.2.1.1) (a.1.2+a.2.1.2)) fun a=>[a.1.2<2^42,a.2.1.2<2^42]
def L5:bg:=zG::(142,jm kR kR za pE)::gA
def qa:bg:=zG::(158,Eb)::(171,Js)::gA
abbrev xx:Code:=aG f137
abbrev wm:Code:=part xx [1,1,1,1,0,1,0,0]
abbrev ye:Code:=part wm [1,1,0,0]
abbrev C3 (m:Nat):AV:=aZ (fun i=>((bn m i:Int):Rat)) (m+1) 64
abbrev pZ:List Nat:=[0,4,5,25,26]
abbrev yC (m:Nat) (c:Nat->Rat) (i:Nat):List AV:=[aZ c (m+1) ah,C3 m,.own 0 3 0 (m+1),.int .i64 (m+1:Nat),.int .i64 i]
abbrev vH:List Nat:=[0,4,5,25,26,6,30,31,32]
abbrev BB (m:Nat) (c:Nat->Rat) (i k:Nat):List AV:=[aZ c (m+1) ah,C3 m,.own 0 3 0 (m+1),.int .i64 (m+1:Nat),.int .i64 i,.int .i64 i,C3 i,.int .i64 (i+1:Nat),.int .i64 k]
abbrev uI:Code:=aG f121
abbrev wq:List Nat:=[3,5,11,12,13]
abbrev AZ (n:Nat) (c:Nat->Rat) (i:Nat):List AV:=[.ptr 1 0 3 0 [],.own 0 3 0 n,aZ c n ah,.int .i64 n,.int .i64 i]
abbrev w8:Code:=aG f73
abbrev ud:List Nat:=[0,3,4]
abbrev CC (n:Nat) (c:Nat->Rat) (i:Nat):List AV:=[aZ c n ah,.own 0 3 0 i,.int .i64 (i+1:Nat)]
def xO:bg:=zG::(114,xQ)::gA
theorem B3:aX 114 f114:=aY func114
theorem Xq:aX 171 f171:=aY func171
theorem Fz:aX 137 f137:=aY func137
theorem aay:aX 121 f121:=aY func121
theorem Vj:aX 73 f73:=aY func73
theorem Yi {n:Nat} {k:Nat->Rat}:aH T GZ [] 60 mU (before l5 [1,0]) ⟨aS 0 [aZ k n ah],[],0⟩=
  some (leaf normal ([ak 3 n fun i=>rat (k i) ah],[])):=ag
theorem N9 {n:Nat} {k:Nat->Rat}:aH T GZ [6,15] 60 mU [part l5 [1,0,0,0]] ⟨aD mU [aZ k n ah],[],0⟩=
  let c6:Int:=(↑n:Int);let c4:Int:=(2:Int)^63;let c3:af (List AV×aE):=leaf (exit 0) ([ak 3 n fun i=>rat (k i) ah],[]);let c5:Bool:=decide (c6>0);let c2:Int:=c6-1;let c1:af (List AV×aE):=aj [-c4<=c2/\c2<c4,(0:Int)<=0/\(0:Int)<=c2/\c2<=c2/\c2<=c6] (leaf normal ([ak 3 (c2.toNat-Int.toNat (0:Int)) fun i=>rat (k (i+Int.toNat (0:Int))) ah],[]));some (fork c5 (aj [c5=true,-c4<=c2/\c2<c4,(0:Int)<=c2/\c2.toNat<n,ah<2^42] (fork (bif true then dJ (k c2.toNat)==0 else false) c1 c3)) (aj [c5=false] (fork false c1 c3))):=ag
theorem Pp {n:Nat} {k:Nat->Rat}:cN T GZ [] 60 f114 [part l5 [1,1]] ⟨aD mU [aZ k n ah],[],0⟩=
  some (leaf ret [ak 3 n fun i=>rat (k i) ah]):=ag
theorem adr {q r:Rat} {n m:Nat}:bT T L5 [] 60 f171 (aG f171) ⟨aS 0 [.rat q n,.rat r m],[],0⟩=
  let c1:Prop:=0<1;some (aj [c1,c1,n<2^42,m<2^42,c1] (aj [c1,c1] (aj [c1] (leaf ret [rat (q/r) (n+m)])))):=ag
theorem abC {m:Nat} {c:Nat->Rat}:aH T qa [200016,11] 60 pZ (before xx [1,1,1,1,0,1]) ⟨aS 0 [aZ c (m+1) ah],[],0⟩=
  let c1:Int:=(↑(m+1):Int);let c2:Int:=c1-1;some (aj [(bif c1==0 then true else decide (c1>41))=false] (aj [-(2:Int)^63<=c2/\c2<2^63,(0:Int)<=c2,c2<=40] (aj [(0:Int)<=c1/\c1<=c1/\c1<=2^47/\c1*(↑(56:Nat):Int)<=2^47] (leaf normal ([ak 3 (m+1) fun i=>rat (c i) ah,ak 3 (c2.toNat+1) fun i=>rat (↑(↑(bn c2.toNat i):Int):Rat) 64,own 69632 3 0 c1.toNat,int i64 (↑c1.toNat:Int),int i64 0],[(69632,ay.mk true true 3 c1.toNat fun x=>rat 0 1)]))))):=ag
theorem S5 {m i:Nat} {c x:Nat->Rat}:aH T qa [27] 60 pZ (before wm [1,1,0]) ⟨aD pZ (yC m c i),[(0,cF (m+1) x ah)],1⟩=
  let c2:Nat:=m+1;let c1:List AV×aE:=([ak 3 c2 fun i=>rat (c i) ah,ak 3 c2 fun i=>rat (↑(↑(bn m i):Int):Rat) 64,own 0 3 0 c2,int i64 (↑c2:Int),int i64 (↑i:Int)],[(0,ay.mk true true 3 c2 fun i=>rat (x i) ah)]);some (fork (decide ((↑i:Int)<(↑c2:Int))) (leaf normal c1) (leaf (exit 0) c1)):=ag
theorem Si {m i:Nat} {c x:Nat->Rat}:aH T qa [] 60 vH (before ye [1,1]) ⟨aD pZ (yC m c i),[(0,cF (m+1) x ah)],1⟩=
  let c2:Nat:=m+1;let c1:Int:=(↑i:Int);some (aj [(0:Int)<=c1,c1<=40] (leaf normal ([ak 3 c2 fun i=>rat (c i) ah,ak 3 c2 fun i=>rat (↑(↑(bn m i):Int):Rat) 64,own 0 3 0 c2,int i64 (↑c2:Int),int i64 c1,int i64 c1,ak 3 (c1.toNat+1) fun i=>rat (↑(↑(bn c1.toNat i):Int):Rat) 64,int i64 (↑(c1.toNat+1):Int),int i64 0],[(0,ay.mk true true 3 c2 fun i=>rat (x i) ah)]))):=ag
theorem Tk {m i k:Nat} {c x:Nat->Rat}:aH T qa [33] 60 vH [part ye [1,1,0,0]] ⟨aD vH (BB m c i k),[(0,cF (m+1) x ah)],1⟩=
  let c10:Nat:=64+64;let c8:Int:=(↑i:Int);let c7:Int:=(↑(i+1):Int);let c5:AV:=ak 3 (i+1) fun i_1=>rat (↑(↑(bn i i_1):Int):Rat) 64;let c4:Nat:=2^42;let c3:Int:=(↑k:Int);let c1:Nat:=m+1;let c15:AV:=int i64 c8;let c14:Int:=c3+1;let c13:Prop:=(0:Int)<=c8/\c8.toNat<c1;let c12:Prop:=(0:Int)<=c3/\c3.toNat<c1;let c11:AV:=own 0 3 0 c1;let c9:AV:=ak 3 c1 fun i=>rat (c i) ah;let c6:AV:=ak 3 c1 fun i=>rat (↑(↑(bn m i):Int):Rat) 64;let c2:Nat:=c8.toNat+0;some (fork (decide (c3<c7)) (aj [(0:Int)<=c3/\c3.toNat<i+1,(0:Nat)<1] (aj [c13,c2<c1,(0:Nat)<1,c12,(64:Nat)<c4,(64:Nat)<c4,c12,c10<c4,ah<c4,ah<c4,c10+ah<c4,c13,c2<c1] (aj [-(2:Int)^63<=c14/\c14<2^63] (leaf normal ([c9,c6,c11,int i64 (↑c1:Int),c15,c15,c5,int i64 c7,int i64 c14],[(0,ay.mk true true 3 c1 fun j=>rat (bif j==c2 then x c2+(↑(↑(bn i c3.toNat):Int):Rat)/(↑(↑(bn m c3.toNat):Int):Rat)*c c3.toNat else x j) (bif j==c2 then ah+(c10+ah)+1 else ah))]))))) (leaf (exit 2) ([c9,c6,c11,int i64 (↑c1:Int),c15,c15,c5,int i64 c7,int i64 c3],[(0,ay.mk true true 3 c1 fun i=>rat (x i) ah)]))):=ag
theorem RV {m i k:Nat} {c x:Nat->Rat}:aH T qa [] 60 pZ [part wm [1,1,1]] ⟨aD vH (BB m c i k),[(0,cF (m+1) x ah)],1⟩=
  let c2:Int:=(↑i:Int)+1;let c1:Nat:=m+1;some (aj [-(2:Int)^63<=c2/\c2<2^63] (leaf normal ([ak 3 c1 fun i=>rat (c i) ah,ak 3 c1 fun i=>rat (↑(↑(bn m i):Int):Rat) 64,own 0 3 0 c1,int i64 (↑c1:Int),int i64 c2],[(0,ay.mk true true 3 c1 fun i=>rat (x i) ah)]))):=ag
theorem abt {m i:Nat} {c x:Nat->Rat}:cN T qa [] 60 f137 [part xx [1,1,1,1,1]] ⟨aD pZ (yC m c i),[(0,cF (m+1) x ah)],1⟩=
  some (leaf ret [ak 3 (m+1) fun i=>rat (x (i+0)) ah,int i64 0]):=ag
theorem Wn {n s:Nat} {c:Nat->Rat} {r:Rat}:aH T GZ [] 60 wq (before uI [1,1,0,1]) ⟨aS 0 [aZ c n ah,.rat r s],[],0⟩=
  let c1:Int:=(↑n:Int);some (aj [(0:Int)<=c1/\c1<=c1/\c1<=2^47/\c1*(↑(56:Nat):Int)<=2^47] (leaf normal ([ptr 0 0 (eC (rat r s)).size 0 [],own 16384 3 0 c1.toNat,ak 3 n fun i=>rat (c i) ah,int i64 c1,int i64 0],[(16384,ay.mk true true 3 c1.toNat fun x=>rat 0 1),(0,ay.mk false true (eC (rat r s)).size 1 fun x=>rat r s)]))):=ag
theorem YH {n s i:Nat} {c x:Nat->Rat} {r:Rat}:aH T GZ [14] 60 wq [part uI [1,1,0,1,0,0]] ⟨aD wq (AZ n c i),[(0,cF n x ah),(1,⟨false,true,3,1,fun _=>.rat r s⟩)],2⟩=
  let c10:Int:=(↑n:Int);let c7:AV:=own 0 3 0 n;let c5:Prop:=0<1;let c4:AV:=ptr 1 0 3 0 [];let c3:AV:=ak 3 n fun i=>rat (c i) ah;let c2:Nat×ay:=((1:Nat),g8 fun x=>rat r s);let c1:Int:=(↑i:Int);let c9:Int:=c1+1;let c8:Prop:=(0:Int)<=c1/\c1.toNat<n;let c6:Nat:=c1.toNat+0;some (fork (decide (c1<c10)) (aj [c8,c5] (aj [c5,c5,s<2^42,ah<2^42,c8,c6<n] (aj [-(2:Int)^63<=c9/\c9<2^63] (leaf normal ([c4,c7,c3,int i64 c10,int i64 c9],[(0,ay.mk true true 3 n fun j=>rat (bif j==c6 then r*c c1.toNat else x j) (bif j==c6 then s+ah else ah)),c2]))))) (leaf (exit 0) ([c4,c7,c3,int i64 c10,int i64 c1],[(0,ay.mk true true 3 n fun i=>rat (x i) ah),c2]))):=ag
theorem X1 {n s i:Nat} {c x:Nat->Rat} {r:Rat}:cN T GZ [] 60 f121 [part uI [1,1,1]] ⟨aD wq (AZ n c i),[(0,cF n x ah),(1,⟨false,true,3,1,fun _=>.rat r s⟩)],2⟩=
  some (leaf ret [ak 3 n fun i=>rat (x (i+0)) ah]):=ag
theorem Uj {n:Nat} {c:Nat->Rat}:aH T xO [] 60 ud (before w8 [1,1,0,1]) ⟨aS 0 [aZ c n ah],[],0⟩=
  some (leaf normal ([ak 3 n fun i=>rat (c i) ah,nil,int i64 1],[])):=ag
theorem acu {n i:Nat} {c x:Nat->Rat}:aH T xO [8] 60 ud [part w8 [1,1,0,1,0,0]] ⟨aD ud (CC n c i),[(0,cF i x ah)],1⟩=
  let c5:Nat:=i+1;let c3:AV:=ak 3 n fun i=>rat (c i) ah;let c2:Int:=(2:Int)^63;let c1:Int:=(↑c5:Int);let c6:Int:=c1+1;let c4:Nat:=Max.max 1 (bI c1.natAbs);some (fork (decide (c1<(↑n:Int))) (aj [-c2<=c1,c1<c2,(0:Int)<=c1/\c1.toNat<n,c4<2^42,ah<2^42,(1:Nat)*3<=2^24,c5*((56:Nat)+1)*2<=2^47] (aj [-c2<=c6/\c6<c2] (leaf normal ([c3,own 53249 3 0 c5,int i64 c6],[(53249,ay.mk true true 3 c5 fun i_1=>if i_1<i then rat (x i_1) ah else nth [rat ((↑c1:Rat)*c c1.toNat) (c4+ah)] (rat 0 1) (i_1-i+0))])))) (leaf (exit 0) ([c3,own 0 3 0 i,int i64 c1],[(0,ay.mk true true 3 i fun i=>rat (x i) ah)]))):=ag
theorem Ya {n i:Nat} {c x:Nat->Rat}:cN T xO [] 60 f73 [part w8 [1,1,1]] ⟨aD ud (CC n c i),[(0,cF i x ah)],1⟩=
  some (aj [dc (fun i=>rat (x (i+0)) ah) i ah,i<2^40] (leaf ret [ak 3 (bO (fun i=>aU (rat (x (i+0)) ah)) i) fun i=>rat (aU (rat (x (i+0)) ah)) ah])):=ag
theorem rM {q:Rat}:(dJ q==0)=decide (q=0):=by
 unfold dJ
 by_cases h:q=0
 ·simp[h]
 ·simp only[h,decide_false]
  split
  ·rfl
  ·split
   ·rfl
   ·grind
theorem Vq {n:Nat} {k:Nat->Rat} (hn:n<2^40) (K:Nat):aO P 114 K [aZ k n ah] [] (aJ (aZ k (bO k n) ah) []):=by
 have hW:=dg
 refine kg (r:=aJ (aZ k (bO k n) ah) []) hT oq hm B3 rfl aW rfl [1,0] (i:=0) (y:=part l5 [1,0,0,0]) (z:=part l5 [1,1]) ag ag ag (f1:=[]) (f2:=[6,15]) (f3:=[]) 60 mU 0
  (fun j:Nat=>[aZ k j ah]) (fun _=>[]) (fun j=>j<=n/\bO k j=bO k n) (fun j=>j=bO k n) (fun j=>j) (fun _=>⟨⟨_,Yi,?_⟩,fun j hj=>⟨_,N9,?_⟩,fun j hj=>⟨_,Pp,?_⟩⟩) K []
 ·simp only[af.all,az]
  exact⟨n,⟨aQ,rfl⟩,eW.vals rfl⟩
 ·obtain⟨h1,h2⟩:=hj
  simp only[af.all,az,cond_true,rM,bz,bE]
  refine⟨fun h=>⟨⟨aa,aa,aa,aa⟩,fun h3=>⟨aa,j-1,⟨aa,?_⟩,by dsimp only;omega,?_⟩,fun h3=>⟨rfl,j,?_,eW.vals rfl⟩⟩,fun h=>⟨aa,fun h3=>absurd h3 (by decide),fun _=>⟨rfl,j,?_,eW.vals rfl⟩⟩⟩
  ·rw[<-h2]
   obtain⟨m,rfl⟩:∃m,j=m+1:=⟨j-1,aa⟩
   rw[show(((m+1:Nat):Int)-1).toNat=m by omega]at h3
   show bO k m=_
   rw[bO,if_pos h3]
  ·rw[show((j:Int)-1).toNat-(0:Int).toNat=j-1 by omega]
   exact eW.vals rfl
  ·rw[<-h2]
   obtain⟨m,rfl⟩:∃m,j=m+1:=⟨j-1,aa⟩
   rw[show(((m+1:Nat):Int)-1).toNat=m by omega]at h3
   exact(vc (.inr h3)).symm
  ·rw[<-h2,show j=0 by omega];rfl
 ·rw[hj];exact .refl _
theorem Cy:bf P xQ 114:=dF fun⟨⟨n,k⟩,_⟩ K hn=>Vq hn K
theorem acn:bK P L5:=gT (aK (jC fun _ _ K hn=>C9 hn.1 hn.2 K) gJ)
theorem Zn:bf P Js 171:=dF fun⟨⟨q,n⟩,⟨r,m⟩,_⟩ K hn=>by
 obtain⟨h1,h2⟩:=hn
 refine bW hT acn hm Xq rfl aW rfl 60 adr (fun _=>?_) K []
 simp only[af.all,az]
 exact⟨⟨aa,aa,h1,h2,aa⟩,⟨aa,aa⟩,aa,.refl _⟩
theorem JC:bK P qa:=gT (aK FZ (aK Zn gJ))
def iT (n:Nat) (c:Nat->Rat):Prop:=∀i k,i<n->k<=i+1->Sz (jo n c i k) ah
def kQ (n:Nat) (c:Nat->Rat) (i k j:Nat):Rat:=if j<i then ec n c j else if j=i then jo n c i k else 0
theorem Yd {m:Nat} {c:Nat->Rat} (hm1:m<=40) (hz:iT (m+1) c) (K:Nat):aO P 137 K [aZ c (m+1) ah] [] (aJ (.tuple [aZ (ec (m+1) c) (m+1) ah,.int .i64 0]) []):=by
 refine ij (r:=aJ (.tuple [aZ (ec (m+1) c) (m+1) ah,.int .i64 0]) []) hT Fz rfl aW rfl (fun _ cx h0=>?_) K []
 have hk:=mO h0
 have hW:=dg
 refine au.qJ hT JC hm (x:=xx) [1,1,1,1,0,1] (i:=0) (y:=wm) (z:=part xx [1,1,1,1,1]) ag ag ag Fz.dst [1,1,0] (j:=1) (x1:=ye) (zb:=part wm [1,1,1]) ag ag ag [1,1] (i2:=2) (y2:=part ye [1,1,0,0]) ag ag rfl hk
  (f1:=[200016,11]) (f2:=[27]) (f3:=[]) (f4:=[33]) (f5:=[]) 60 pZ vH 1 1 (fun i:Nat=>yC m c i) (fun i=>[(0,cF (m+1) (kQ (m+1) c i 0) ah)]) (fun i=>i<=m+1) (fun i=>i=m+1) (fun i=>m+1-i) (fun i=>i<m+1) (fun _=>False) (fun _=>False)
  (fun i (k:Nat)=>BB m c i k) (fun i k=>[(0,cF (m+1) (kQ (m+1) c i k) ah)]) (fun i k=>k<=i+1) (fun i k=>k=i+1) (fun i k=>i+1-k)
  ⟨_,abC,?_⟩ (fun i hi=>⟨_,S5,?_⟩) (fun i hi hG=>⟨_,Si,?_⟩) (fun i hi hG k hk=>⟨_,Tk,?_⟩) (fun i hi hG k hk=>⟨_,RV,?_⟩) (fun i hi=>?_) (fun _ _ h=>h.elim) (fun _ _ h=>h.elim)
 ·simp only[af.all,az,bu]
  have e1:(((m+1:Nat):Int)-1).toNat=m:=aa
  have e2:(((m+1:Nat):Int)==0)=false:=by rw[beq_eq_false_iff_ne];omega
  rw[e1,e2]
  simp only[cond_false,bE]
  refine⟨aa,⟨aa,aa,aa⟩,aa,0,aa,[(0,69632)],rfl,rfl,rfl,bw rfl rfl rfl (fun j hj=>.inr ⟨rfl,cY ?_ aa⟩) trivial⟩
  unfold kQ;rw[if_neg (Nat.not_lt_zero j)];split<;>rfl
 ·simp only[af.all,az,bz,bE]
  exact⟨fun h=>⟨aa,[(0,0)],rfl,rfl,rfl,bw rfl rfl rfl (fun i hi=>bP rfl rfl) trivial⟩,fun h=>⟨rfl,i,aa,[(0,0)],rfl,rfl,rfl,bw rfl rfl rfl (fun i hi=>bP rfl rfl) trivial⟩⟩
 ·simp only[af.all,az,bu]
  exact⟨aa,0,aa,[(0,0)],rfl,rfl,rfl,bw rfl rfl rfl (fun i hi=>bP rfl rfl) trivial⟩
 ·simp only[af.all,az,bz,bE,bu,Nat.add_zero]
  refine⟨fun h=>⟨aa,aa,aa,k+1,aa,by dsimp only;omega,[(0,0)],rfl,rfl,rfl,bw rfl rfl rfl (fun j hj=>?_) trivial⟩,fun h=>⟨rfl,k,aa,[(0,0)],rfl,rfl,rfl,bw rfl rfl rfl (fun j hj=>bP rfl rfl) trivial⟩⟩
  have e1:∀q,kQ (m+1) c i q i=jo (m+1) c i q:=fun q=>by unfold kQ;rw[if_neg (Nat.lt_irrefl i),if_pos rfl]
  exact lf (x:=kQ (m+1) c i k) (y:=kQ (m+1) c i (k+1)) (ee (by rw[e1,e1];rfl) (by rw[e1];exact hz i (k+1) hG aa)) fun hj=>cY (by unfold kQ;rw[if_neg hj,if_neg hj]) aQ
 ·subst hk
  simp only[af.all,az]
  refine⟨aa,i+1,aa,by dsimp only;omega,[(0,0)],rfl,rfl,rfl,bw rfl rfl rfl (fun j hj=>bP rfl ?_) trivial⟩
  show AV.rat (kQ (m+1) c i (i+1) j) ah=AV.rat (kQ (m+1) c (i+1) 0 j) ah
  unfold kQ
  by_cases h1:j<i
  ·rw[if_pos h1,if_pos aa]
  ·by_cases h2:j=i
   ·subst h2;rw[if_neg h1,if_pos rfl,if_pos aa];rfl
   ·rw[if_neg h1,if_neg h2,if_neg aa];split<;>rfl
 ·subst hi
  refine au.lU ((aF.fin hT JC hm 60 abt ag ?_).mono fun _ _ h=>.inl h)
  refine⟨gi fun i hi=>cY ?_ aQ,.refl _,trivial⟩
  show kQ (m+1) c (m+1) 0 i=_
  unfold kQ;rw[if_pos hi]
def Ky:Spec:=dL (kC (kL ah) kN) (fun a=>.tuple [aZ (ec a.1.1 a.1.2) a.1.1 ah,.int .i64 0]) fun a=>[1<=a.1.1,a.1.1<=41,iT a.1.1 a.1.2]
theorem Rs:bf P Ky 137:=dF fun⟨⟨n,p⟩,_⟩ K hn=>by
 obtain⟨h1,h2,h3⟩:=hn
 simp only at h1 h2 h3
 obtain⟨m,rfl⟩:∃m,n=m+1:=⟨n-1,aa⟩
 exact Yd aa h3 K
theorem Cc:rV=ah+1000:=rfl
theorem Su {n:Nat} {c:Nat->Rat} {r:Rat} (hn:n<2^40) (hz:cu n fun i=>r*c i) (K:Nat):aO P 121 K [aZ c n ah,.rat r rV] [] (aJ (aZ (fun i=>r*c i) n ah) []):=by
 have hW:=dg
 have hX:=Cc
 refine kg (r:=aJ (aZ (fun i=>r*c i) n ah) []) hT oq hm aay rfl aW rfl [1,1,0,1] (i:=0) (y:=part uI [1,1,0,1,0,0]) (z:=part uI [1,1,1]) ag ag ag (f1:=[]) (f2:=[14]) (f3:=[]) 60 wq 2
  (fun i:Nat=>AZ n c i) (fun i=>[(0,cF n (fun j=>if j<i then r*c j else 0) ah),(1,⟨false,true,3,1,fun _=>.rat r rV⟩)]) (fun i=>i<=n) (fun i=>i=n) (fun i=>n-i) (fun _=>⟨⟨_,Wn,?_⟩,fun i hi=>⟨_,YH,?_⟩,fun i hi=>⟨_,X1,?_⟩⟩) K []
 ·simp only[af.all,az,bu]
  exact⟨aa,0,Nat.zero_le _,[(0,16384),(1,0)],rfl,rfl,rfl,bw rfl rfl rfl (fun i hi=>.inr ⟨rfl,cY (if_neg (Nat.not_lt_zero i)).symm aa⟩) (dU trivial)⟩
 ·simp only[af.all,az,bz,bE,bu,Nat.add_zero]
  refine⟨fun h2=>⟨aa,aa,aa,i+1,aa,by dsimp only;omega,[(0,0),(1,1)],rfl,rfl,rfl,bw rfl rfl rfl (fun j hj=>?_) (dU trivial)⟩,fun h2=>⟨rfl,i,aa,[(0,0),(1,1)],rfl,rfl,rfl,bw rfl rfl rfl (fun j hj=>bP rfl rfl) (dU trivial)⟩⟩
  exact lf (x:=fun j=>if j<i then r*c j else 0) (y:=fun j=>if j<i+1 then r*c j else 0) (ee (if_pos (Nat.lt_succ_self i)).symm (by show Sz (if i<i+1 then _ else _) _;rw[if_pos (Nat.lt_succ_self i)];exact hz i aa)) fun hj=>cY (x8 hj).symm aQ
 ·subst hi
  simp only[af.all,az]
  exact gi fun j hj=>by rw[Nat.add_zero,if_pos hj];exact .refl _
def Dp:Spec:=dL (kC (kL ah) (kC (gb rV) kN)) (fun a=>aZ (fun i=>a.2.1*a.1.2 i) a.1.1 ah) fun a=>[a.1.1<2^40,cu a.1.1 fun i=>a.2.1*a.1.2 i]
theorem MF:bf P Dp 121:=dF fun⟨⟨n,c⟩,r,_⟩ K hn=>Su hn.1 hn.2 K
theorem U0:bK P xO:=gT (aK Cy gJ)
theorem XW {n:Nat} {c:Nat->Rat} (hn:n<2^40) (hz:cu (n-1) (dx c)) (K:Nat):aO P 73 K [aZ c n ah] [] (aJ (aZ (dx c) (bO (dx c) (n-1)) ah) []):=by
 have hW:=dg
 refine kg (r:=aJ (aZ (dx c) (bO (dx c) (n-1)) ah) []) hT U0 hm Vj rfl aW rfl [1,1,0,1] (i:=0) (y:=part w8 [1,1,0,1,0,0]) (z:=part w8 [1,1,1]) ag ag ag (f1:=[]) (f2:=[8]) (f3:=[]) 60 ud 1
  (fun i:Nat=>CC n c i) (fun i=>[(0,cF i (dx c) ah)]) (fun i=>i<=n-1) (fun i=>i=n-1) (fun i=>n-1-i) (fun _=>⟨⟨_,Uj,?_⟩,fun i hi=>⟨_,acu,?_⟩,fun i hi=>⟨_,Ya,?_⟩⟩) K []
 ·simp only[af.all,az]
  exact⟨0,aa,[],rfl,rfl,rfl,rG rfl aa aa trivial⟩
 ·have hb:(max 1 (bI ((i+1:Nat):Int).natAbs))<=64:=by
   rw[Int.natAbs_natCast]
   have:=jW (x:=i+1) (k:=64)|>.2 aa
   omega
  simp only[af.all,az,bz,bE,bu]
  refine⟨fun h2=>⟨aa,aa,i+1,aa,by dsimp only;omega,[(0,53249)],rfl,?_,rfl,bw rfl rfl rfl (fun j hj=>?_) trivial⟩,fun h2=>⟨rfl,i,aa,[(0,0)],rfl,rfl,rfl,bw rfl rfl rfl (fun j hj=>bP rfl rfl) trivial⟩⟩
  ·rw[show((i+1:Nat):Int)+1=((i+1+1:Nat):Int) by omega];rfl
  ·refine .inr ⟨?_,?_⟩
   ·split
    ·rfl
    ·rw[show j-i+0=0 by omega];rfl
   ·split
    ·exact .refl _
    ·rw[show j-i+0=0 by omega,show j=i by omega]
     exact ee rfl (hz i aa)
 ·subst hi
  simp only[af.all,az]
  exact⟨⟨cZ aQ,aa⟩,.refl _⟩
def xJ:Spec:=dL (kC (kL ah) kN) (fun a=>aZ (dx a.1.2) (bO (dx a.1.2) (a.1.1-1)) ah) fun a=>[a.1.1<2^40,cu (a.1.1-1) (dx a.1.2)]
theorem Ca:bf P xJ 73:=dF fun⟨⟨n,c⟩,_⟩ K hn=>XW hn.1 hn.2 K
def Bn (f:Nat->AV) (n s:Nat):Prop:=∀i,i<n->keys (f i)=[]/\bB (f i) (.rat (aU (f i)) s)
def Bb:Spec:=fun _ args pre=>match args,pre with
 |[.own k 3 0 n],[(k',⟨true,true,3,m,f⟩)]=>match k'==k with
  |true=>some ⟨.own k 3 0 (bO (fun i=>aU (f i)) n),[(k,cF m (fun i=>aU (f i)) ah)],[n<=m,n<2^40,Bn f m ah]⟩
  |false=>none
 |_,_=>none
abbrev s6:FuncId:=141
abbrev xI:Func:=f141
def M0:Spec:=qu fun K l=>match l with
 |[v]=>match(kL ah).read v with
  |some ((0,k),q)=>some (aJ (aZ k 0 ah) q)
  |some ((n+1,k),q)=>some ⟨.own K 3 0 (n+1),[(K,cF (n+1) k ah)],q++[n+1<2^30]⟩
  |none=>none
 |_=>none
def Ft:bg:=zG::(142,jm kR kR za pE)::(121,Dp)::gA
def fP (n:Nat):Nat:=if n=0 then 1 else n
def mJ (n:Nat) (c:Nat->Rat) (i:Nat):Rat:=if n=0 then 0 else ec n c i
def FT:bg:=zG::(137,Ky)::gA
def Lr:bg:=zG::(115,zB)::(114,xQ)::gA
theorem MO:aX s6 xI:=aY func141
theorem aep:aX 135 f135:=aY func135
theorem QG:aX 81 f81:=aY func81
theorem WC:aX 57 f57:=aY func57
theorem PJ {n m:Nat} {x:Nat->Rat}:aH T GZ [] 60 mU (before l5 [1,0]) ⟨aS 0 [.own 0 3 0 n],[(0,cF m x ah)],1⟩=
  some (leaf normal ([own 0 3 0 n],[(0,ay.mk true true 3 m fun i=>rat (x i) ah)])):=ag
theorem UE {n m:Nat} {x:Nat->Rat}:aH T GZ [6,15] 60 mU [part l5 [1,0,0,0]] ⟨aD mU [.own 0 3 0 n],[(0,cF m x ah)],1⟩=
  let c7:Int:=(↑n:Int);let c4:Int:=(2:Int)^63;let c3:Nat×ay:=(0,ay.mk true true 3 m fun i=>rat (x i) ah);let c6:af (List AV×aE):=leaf (exit 0) ([own 0 3 0 n],[c3]);let c5:Bool:=decide (c7>0);let c2:Int:=c7-1;let c1:af (List AV×aE):=aj [-c4<=c2/\c2<c4,(0:Int)<=0/\(0:Int)<=c2/\c2<=c2/\c2<=c7] (leaf normal ([own 0 3 0 (c2.toNat-Int.toNat (0:Int))],[c3]));some (fork c5 (aj [c5=true,-c4<=c2/\c2<c4,(0:Int)<=c2/\c2.toNat<n,c2.toNat+0<m,ah<2^42] (fork (bif true then dJ (x (c2.toNat+0))==0 else false) c1 c6)) (aj [c5=false] (fork false c1 c6))):=ag
theorem T4 {n m:Nat} {x:Nat->Rat}:aH T GZ [] 60 [2] [part l5 [1,1]] ⟨aD mU [.own 0 3 0 n],[(0,cF m x ah)],1⟩=
  some (leaf ret ([own 0 3 0 n],[(0,ay.mk true true 3 m fun i=>rat (x i) ah)])):=ag
theorem Xn {n:Nat} {k:Nat->Rat}:aH T [nG] [] 60 [2] [aG xI] ⟨aS 0 [.dZ false 3 n (fun i=>.rat (k i) ah)],[],0⟩=
  some (aj [(0:Nat)*3<=2^24,((0:Nat)+n)*((56:Nat)+1)*2<=2^47] (leaf ret ([own 20480 3 0 ((0:Nat)+n)],[(20480,ay.mk true true 3 ((0:Nat)+n) fun i=>rat (k (i-0)) ah)]))):=ag
theorem ad9 {b:Bool} {k:Nat->Rat}:bT T [zG] [4] 60 xI (aG xI) ⟨aS 0 [.dZ b 3 0 (fun i=>.rat (k i) ah)],[],0⟩=
  some (fork b (leaf ret [nil]) (aj [(0:Nat)*3<=2^24,((0:Nat)+0)*((56:Nat)+1)*2<=2^47] (leaf ret [ak 3 0 fun i=>rat (k (i+0-0)) ah]))):=ag
theorem abx {n:Nat} {c:Nat->Rat}:bT T Ft [7] 60 f135 (aG f135) ⟨aS 0 [aZ c n ah],[],0⟩=
  let c3:Nat:=Max.max 1 (bI (Int.natAbs (1:Int)));let c2:Int:=(2:Int)^63;let c1:Int:=(↑n:Int)-1;let c4:Rat:=(↑(1:Int):Rat)/c c1.toNat;some (fork ((↑n:Int)==0) (leaf ret [nil]) (aj [-c2<=1,(1:Int)<c2,-c2<=c1/\c1<c2,(0:Int)<=c1/\c1.toNat<n,c3<2^42,ah<2^42,(0:Nat)<1] (aj [(0:Nat)<1,dc (fun i=>rat (c i) ah) n ah,c3+ah<=rV,n<2^40,cu n fun i=>c4*aU (rat (c i) ah)] (leaf ret [ak 3 n fun i=>rat (c4*aU (rat (c i) ah)) ah])))):=ag
theorem Qm {n:Nat} {c:Nat->Rat}:bT T FT [7] 60 f81 (aG f81) ⟨aS 0 [aZ c n ah],[],0⟩=
  some (fork ((↑n:Int)==0) (aj [(1:Nat)*3<=2^24] (leaf ret [ak 3 1 fun i=>nth [agg [AV.bool (decide ((0:Rat)<0)),mag (↑(nat_lit 0):Int).natAbs,mag (if 1=1 then 0 else 1)]] (rat 0 1) (i+0)])) (aj [dc (fun i=>rat (c i) ah) n ah,(1:Nat)<=n,n<=41,iT n fun i=>aU (rat (c i) ah)] (leaf ret [ak 3 n fun i=>rat (ec n (fun i=>aU (rat (c i) ah)) i) ah]))):=ag
theorem SE {n:Nat} {c:Nat->Rat}:bT T Lr [] 60 f57 (aG f57) ⟨aS 0 [aZ c n ah],[],0⟩=
  some (aj [dc (fun i=>rat (c i) ah) n ah,(1:Nat)<=n,n<=41,qn n fun i=>aU (rat (c i) ah),dc (fun i=>rat (fy n (fun i=>aU (rat (c i) ah)) i) ah) n ah,n<2^40] (leaf ret [ak 3 (bO (fun i=>aU (rat (fy n (fun i=>aU (rat (c i) ah)) i) ah)) n) fun i=>rat (aU (rat (fy n (fun i=>aU (rat (c i) ah)) i) ah)) ah])):=ag
theorem Rd {kk n m:Nat} {x:Nat->Rat} (hn:n<2^40) (hnm:n<=m) (c:Ctx) (hk:Kept [0] c):au P c f114.ntmps l5 ⟨aS 0 [.own 0 3 0 n],[(0,cF m x ah)],1⟩ (IY f114 kk [.own kk 3 0 (bO x n)] (cF m x ah)):=by
 have hW:=dg
 have re:∀j,eW [0] ([.own 0 3 0 j],[((0:Nat),cF m x ah)]) [.own 0 3 0 j] [(0,cF m x ah)] 1:=fun j=>⟨[(0,0)],rfl,rfl,rfl,mz trivial⟩
 refine au.oN hT oq hm [1,0] (i:=0) (y:=part l5 [1,0,0,0]) (z:=part l5 [1,1]) ag ag ag B3.dst hk (f1:=[]) (f2:=[6,15]) 60 mU 1
  (fun j:Nat=>[.own 0 3 0 j]) (fun _=>[(0,cF m x ah)]) (fun j=>j<=n/\bO x j=bO x n) (fun j=>j=bO x n) (fun j=>j) (fun _=>False) ⟨_,PJ,?_⟩ (fun j hj=>⟨_,UE,?_⟩) (fun j hj=>?_) (fun _ _ h=>h.elim)
 ·simp only[af.all,az]
  exact⟨n,⟨aQ,rfl⟩,re n⟩
 ·obtain⟨h1,h2⟩:=hj
  simp only[af.all,az,cond_true,rM,bz,bE,Nat.add_zero]
  refine⟨fun h=>⟨⟨aa,aa,aa,aa,aa⟩,fun h3=>⟨aa,j-1,⟨aa,?_⟩,by dsimp only;omega,?_⟩,fun h3=>⟨rfl,j,?_,re j⟩⟩,fun h=>⟨aa,fun h3=>absurd h3 (by decide),fun _=>⟨rfl,j,?_,re j⟩⟩⟩
  ·rw[<-h2]
   obtain⟨m,rfl⟩:∃m,j=m+1:=⟨j-1,aa⟩
   rw[show(((m+1:Nat):Int)-1).toNat=m by omega]at h3
   show bO x m=_
   rw[bO,if_pos h3]
  ·rw[show((j:Int)-1).toNat-(0:Int).toNat=j-1 by omega]
   exact re (j-1)
  ·rw[<-h2]
   obtain⟨m,rfl⟩:∃m,j=m+1:=⟨j-1,aa⟩
   rw[show(((m+1:Nat):Int)-1).toNat=m by omega]at h3
   exact(vc (.inr h3)).symm
  ·rw[<-h2,show j=0 by omega];rfl
 ·subst hj
  exact au.bF hT oq hm 60 [2] T4 ag fun s' hs'=>⟨.inr rfl,[2],_,[.own 0 3 0 (bO x n)],_,_,hs',ag,⟨⟨rfl,dK (by simp[aV,look]) rfl rfl⟩,trivial⟩,rfl,gM rfl fun i hi=>gy rfl⟩
theorem Sq:bf P Bb 114:=by
 intro K args pre r h
 unfold Bb at h
 split at h
 ·rename_i k n k' m f
  split at h
  ·rename_i hc
   have hc:=eq_of_beq hc
   subst hc
   simp only[ax]at h
   subst h
   intro need
   have h0:=need
   obtain⟨n1,n2,n3⟩:=need
   exact aaz hT B3 (rest:=[]) (ws:=[.own k' 3 0 _]) (o2:=⟨true,true,3,m,f⟩) (o:=cF m (fun i=>aU (f i)) ah) rfl rfl aW (fun ρ=>gM rfl fun i hi=>iI (n3 i hi).1 (n3 i hi).2) (fun _ c hk=>Rd n2 n1 c hk) K h0
  ·simp at h
 ·simp at h
theorem aa6 {args:List AV} {n:Nat} {k:Nat->Rat} {l:List Prop} (ha:az l->gj (aV []) args [.dZ false 3 n (fun i=>.rat (k i) ah)]) (hn:az l->n<2^30) (K:Nat):aO P s6 K args [] ⟨m9 [.own K 3 0 n],[(K,cF n k ah)],l⟩:=by
 refine Cw hT MO ha aW fun need c hk=>?_
 have h2:=hn need
 refine au.bF hT (gW bU) hm 60 [2] Xn ag ?_
 simp only[af.all,az]
 exact⟨⟨aa,aa⟩,fun s' hs'=>⟨.inr trivial,[2],_,[.own 20480 3 0 (0+n)],_,20480,_,hs',ag,⟨⟨rfl,dK (by simp[aV,look]) rfl aa⟩,trivial⟩,rfl,gM aa fun i hi=>gy rfl⟩⟩
theorem QW {n:Nat} {k:Nat->Rat} {l:List Prop} (hn:az l->1<=n/\n<2^30) (K:Nat):aO P s6 K [aZ k n ah] [] ⟨m9 [.own K 3 0 n],[(K,cF n k ah)],l⟩:=by
 refine BK fun b hb=>?_
 intro need
 have h1:=hn need
 cases b
 ·exact aa6 (args:=[.dZ false 3 n (fun i=>.rat (k i) ah)]) (fun _=>⟨aN,trivial⟩) (fun h=>(hn h).2) K need
 ·have:=hb rfl
  omega
theorem OZ {k:Nat->Rat} (K:Nat):aO P s6 K [aZ k 0 ah] [] (aJ (aZ k 0 ah) []):=by
 refine BK fun b hb=>?_
 refine bW hT (gT bU) hm MO rfl aW rfl 60 ad9 (fun _=>?_) K []
 simp only[af.all,az]
 exact⟨fun _=>lQ aa,fun _=>⟨⟨aa,aa⟩,gi fun i hi=>absurd hi (Nat.not_lt_zero i)⟩⟩
theorem Xa:bf P M0 s6:=by
 refine wI fun K args r hk hs=>?_
 split at hs
 ·rename_i v
  split at hs
  ·rename_i k q hv
   simp only[ax]at hs
   subst hs
   intro need
   exact gC (OZ K) hk ⟨(kL ah).ok hv need,trivial⟩ [] trivial
  ·rename_i n k q hv
   simp only[ax]at hs
   subst hs
   intro need
   obtain⟨hn1,hn2⟩:=fo.1 need
   exact gC (QW (l:=q++[n+1<2^30]) (fun h=>⟨Nat.succ_pos n,(fo (a:=q) (b:=[n+1<2^30]).1 h).2⟩) K) hk ⟨(kL ah).ok hv hn1,trivial⟩ [] need
  ·simp at hs
 ·simp at hs
theorem Pa:bK P Ft:=gT (aK (jC fun _ _ K hn=>C9 hn.1 hn.2 K) (aK MF gJ))
theorem Lx {n:Nat} {c:Nat->Rat} (i:Nat):((1:Int):Rat)/c (n-1)*c i=dh n c i:=by
 unfold dh;rw[Rat.div_def,Rat.div_def,Rat.mul_comm];congr 1;exact Rat.one_mul _
theorem ZN {n:Nat} {c:Nat->Rat} (hn:n<2^40) (hz:cu n (dh n c)) (K:Nat):aO P 135 K [aZ c n ah] [] (aJ (aZ (dh n c) n ah) []):=by
 have hW:=dg
 have hX:=Cc
 refine bW hT Pa hm aep rfl aW rfl 60 abx (fun _=>?_) K []
 simp only[af.all,az,beq_iff_eq,beq_eq_false_iff_ne]
 refine⟨fun h=>?_,fun h=>?_⟩
 ·rw[show n=0 by omega];exact lQ aa
 ·rw[show((n:Int)-1).toNat=n-1 by omega]
  have hb:bI (Int.natAbs 1)=1:=by decide
  refine⟨⟨aa,aa,aa,aa,by rw[hb];decide,aa,aa⟩,⟨aa,cZ aQ,?_,hn,fun i hi=>by show Sz (_*c i) _;rw[Lx];exact hz i hi⟩,gi fun i hi=>cY (Lx i) aQ⟩
  rw[hb,Nat.max_self];omega
def DR:Spec:=dL (kC (kL ah) kN) (fun a=>aZ (dh a.1.1 a.1.2) a.1.1 ah) fun a=>[a.1.1<2^40,cu a.1.1 (dh a.1.1 a.1.2)]
theorem Iu:bf P DR 135:=dF fun⟨⟨n,c⟩,_⟩ K hn=>ZN hn.1 hn.2 K
theorem QN:bK P FT:=gT (aK Rs gJ)
theorem XM {n:Nat} {c:Nat->Rat} (hn:n<=41) (hz:iT n c) (K:Nat):aO P 81 K [aZ c n ah] [] (aJ (aZ (mJ n c) (fP n) ah) []):=by
 refine bW hT QN hm QG rfl aW rfl 60 Qm (fun _=>?_) K []
 simp only[af.all,az,beq_iff_eq,beq_eq_false_iff_ne]
 refine⟨fun h=>⟨aa,?_⟩,fun h=>⟨⟨cZ aQ,aa,hn,hz⟩,?_⟩⟩
 ·obtain rfl:n=0:=aa
  refine gi (n:=1) fun i hi=>?_
  obtain rfl:i=0:=aa
  exact mK
 ·have e1:fP n=n:=if_neg aa
  rw[e1]
  exact gi fun i hi=>cY (if_neg (show¬n=0 by omega)).symm aQ
theorem aao:bK P Lr:=gT (aK NW (aK Cy gJ))
theorem abw {n:Nat} {c:Nat->Rat} (h1:1<=n) (h2:n<=41) (h3:qn n c) (K:Nat):aO P 57 K [aZ c n ah] [] (aJ (aZ (fy n c) (bO (fy n c) n) ah) []):=by
 refine bW hT aao hm WC rfl aW rfl 60 SE (fun _=>?_) K []
 simp only[af.all,az]
 exact⟨⟨cZ aQ,h1,h2,h3,cZ aQ,aa⟩,.refl _⟩
def BS:Spec:=fun K args pre=>match Bb K args pre with
 |some r=>some r
 |none=>xQ K args pre
def pP:bg:=zG::(s6,M0)::(114,BS)::(142,jm kR kR za pE)::gA
abbrev tK:Code:=aG f88
abbrev CR:Code:=part tK [1,1,1,1,0,0,0]
abbrev uy:Code:=part CR [1,0]
abbrev qV:List Nat:=[1,4,5,6]
abbrev vg (e:Nat) (d:Nat->Rat) (R L:Nat):List AV:=[aZ d (e+1) ah,.own 1 3 0 R,.own 0 3 0 L,.int .i64 e]
abbrev wF (n R:Nat) (x q:Nat->Rat):aE:=[(0,cF n x ah),(1,cF R q ah)]
abbrev uf:List Nat:=[1,4,5,6,7,8,55,56,57]
abbrev ER (e:Nat) (d:Nat->Rat) (R L k i:Nat):List AV:=[aZ d (e+1) ah,.own 1 3 0 R,.own 0 3 0 L,.int .i64 e,.int .i64 k,.ptr 2 0 3 0 [],aZ d e ah,.int .i64 e,.int .i64 i]
abbrev Dh (n R:Nat) (x q:Nat->Rat) (f:Rat):aE:=[(2,⟨false,true,3,1,fun _=>.rat f ah⟩),(0,cF n x ah),(1,cF R q ah)]
theorem Cj:aX 88 f88:=aY func88
theorem P7 {e:Nat} {a d:Nat->Rat}:bT T pP [200020,200029] 60 f88 (aG f88) ⟨aS 0 [aZ a 0 ah,aZ d (e+1) ah],[],0⟩=
  let c3:AV:=rat 0 1;let c2:Int:=(↑(0:Nat):Int);let c1:Int:=(↑(e+1):Int)-1;some (aj [dc (fun i=>rat (a i) ah) 0 ah] (aj [-(2:Int)^63<=c1/\c1<2^63] (aj [decide (c2>c1)=false] (aj [decide (c2>c1)=false] (aj [dc (fun x=>c3) 0 ah,(0:Nat)<2^40] (leaf ret [ak 3 0 fun i=>rat (aU c3) ah,ak 3 0 fun i=>rat (aU (rat (a i) ah)) ah])))))):=ag
theorem WL {n e:Nat} {a d:Nat->Rat}:aH T pP [20] 60 qV (before tK [1,1,1,1,0]) ⟨aS 0 [aZ a (n+1) ah,aZ d (e+1) ah],[],0⟩=
  let c6:Int:=(2:Int)^63;let c5:AV:=ak 3 (e+1) fun i=>rat (d i) ah;let c3:Int:=(↑(e+1):Int)-1;let c2:Nat:=n+1;let c7:List AV:=[own 12288 3 0 c2,int i64 c3];let c4:Nat×ay:=(12288,ay.mk true true 3 c2 fun i=>rat (aU (rat (a i) ah)) ah);let c1:Int:=(↑c2:Int)-c3;some (aj [dc (fun i=>rat (a i) ah) (n+1) ah,c2<2^30] (aj [-c6<=c3/\c3<c6] (fork (decide ((↑c2:Int)>c3)) (aj [-c6<=c1/\c1<c6,(0:Int)<=c1/\c1<=c1/\c1<=2^47/\c1*(↑(56:Nat):Int)<=2^47] (leaf normal (c5::own 69632 3 0 c1.toNat::c7,[c4,(69632,ay.mk true true 3 c1.toNat fun x=>rat 0 1)]))) (leaf normal (c5::nil::c7,[c4]))))):=ag
theorem QE {n e R L:Nat} {d x q:Nat->Rat}:aH T pP [29] 60 qV (before CR [1]) ⟨aD qV (vg e d R L),wF n R x q,2⟩=
  let c1:List AV×aE:=([ak 3 (e+1) fun i=>rat (d i) ah,own 1 3 0 R,own 0 3 0 L,int i64 (↑e:Int)],[(0,ay.mk true true 3 n fun i=>rat (x i) ah),(1,ay.mk true true 3 R fun i=>rat (q i) ah)]);some (fork (decide ((↑L:Int)>(↑e:Int))) (leaf normal c1) (leaf (exit 0) c1)):=ag
theorem Rc {n e R L:Nat} {d x q:Nat->Rat}:aH T pP [] 60 uf (before uy [1,1,1,0,1]) ⟨aD qV (vg e d R L),wF n R x q,2⟩=
  let c7:Prop:=ah<2^42;let c6:Nat:=Int.toNat (0:Int);let c3:Int:=(2:Int)^63;let c2:Int:=(↑e:Int);let c1:Int:=(↑L:Int)-1;let c5:Nat:=c1.toNat+0;let c4:Nat:=(c1-c2).toNat+0;some (aj [-c3<=c1/\c1<c3,-c3<=c1-c2/\c1-c2<c3] (aj [-c3<=c1/\c1<c3,(0:Int)<=c1/\c1.toNat<L,c5<n,(0:Int)<=c2/\c2.toNat<e+1,c7,c7,(0:Nat)<1] (aj [(0:Nat)<1,(0:Int)<=c1-c2/\(c1-c2).toNat<R,c4<R] (aj [(0:Int)<=0/\(0:Int)<=c2/\c2<=c2/\c2<=(↑(e+1):Int)] (leaf normal ([ak 3 (e+1) fun i=>rat (d i) ah,own 1 3 0 R,own 0 3 0 L,int i64 c2,int i64 (c1-c2),ptr 81922 0 3 0 [],ak 3 (c2.toNat-c6) fun i=>rat (d (i+c6)) ah,int i64 (↑(c2.toNat-c6):Int),int i64 0],[((81922:Nat),g8 fun j=>if(j==0)=true then eC (rA (x c5/d c2.toNat) (ah+ah))else rat 0 1),(0,ay.mk true true 3 n fun i=>rat (x i) ah),(1,ay.mk true true 3 R fun j=>rat (bif j==c4 then x c5/d c2.toNat else q j) (bif j==c4 then ah+ah else ah))])))))):=ag
theorem aaR {n e R L k i:Nat} {d x q:Nat->Rat} {f:Rat}:aH T pP [58] 60 uf [part uy [1,1,1,0,1,0,0]] ⟨aD uf (ER e d R L k i),Dh n R x q f,3⟩=
  let c14:AV:=own 0 3 0 L;let c13:AV:=own 1 3 0 R;let c12:Prop:=0<1;let c11:AV:=ptr 2 0 3 0 [];let c10:AV:=int i64 (↑e:Int);let c9:AV:=ak 3 e fun i=>rat (d i) ah;let c8:Nat:=2^42;let c7:Int:=(↑i:Int);let c6:AV:=ak 3 (e+1) fun i=>rat (d i) ah;let c4:Nat×ay:=(1,ay.mk true true 3 R fun i=>rat (q i) ah);let c3:Nat×ay:=((2:Nat),g8 fun x=>rat f ah);let c2:Int:=(2:Int)^63;let c16:Int:=c7+1;let c1:Int:=(↑k:Int)+c7;let c15:Prop:=(0:Int)<=c1/\c1.toNat<L;let c5:Nat:=c1.toNat+0;some (fork (decide (c7<(↑e:Int))) (aj [(0:Int)<=c7/\c7.toNat<e,c12] (aj [-c2<=c1/\c1<c2,-c2<=c1/\c1<c2,c15,c5<n,c12,c12,ah<c8,ah<c8,ah<c8,ah+ah<c8,c15,c5<n] (aj [-c2<=c16/\c16<c2] (leaf normal ([c6,c13,c14,c10,int i64 (↑k:Int),c11,c9,c10,int i64 c16],[c3,(0,ay.mk true true 3 n fun j=>rat (bif j==c5 then x c5-f*d c7.toNat else x j) (bif j==c5 then ah+(ah+ah)+1 else ah)),c4]))))) (leaf (exit 2) ([c6,c13,c14,c10,int i64 (↑k:Int),c11,c9,c10,int i64 c7],[c3,(0,ay.mk true true 3 n fun i=>rat (x i) ah),c4]))):=ag
theorem Zb {n e R L k i:Nat} {d x q:Nat->Rat} {f:Rat}:aH T pP [] 60 qV (behind uy [1,1,1,0,1]) ⟨aD uf (ER e d R L k i),Dh n R x q f,3⟩=
  let c1:Int:=(↑L:Int)-1;let c2:Nat:=c1.toNat-Int.toNat (0:Int);some (aj [-(2:Int)^63<=c1/\c1<2^63,(0:Int)<=0/\(0:Int)<=c1/\c1<=c1/\c1<=(↑L:Int),c2<=n,c2<2^40,Bn (fun i=>rat (x i) ah) n ah] (leaf normal ([ak 3 (e+1) fun i=>rat (d i) ah,own 1 3 0 R,own 0 3 0 (bO (fun i=>aU (rat (x i) ah)) c2),int i64 (↑e:Int)],[(0,ay.mk true true 3 n fun i=>rat (aU (rat (x i) ah)) ah),(1,ay.mk true true 3 R fun i=>rat (q i) ah)]))):=ag
theorem Sj {n e R L:Nat} {d x q:Nat->Rat}:cN T pP [] 60 f88 [part tK [1,1,1,1,1]] ⟨aD qV (vg e d R L),wF n R x q,2⟩=
  some (aj [R<=R,R<2^40,Bn (fun i=>rat (q i) ah) R ah] (leaf ret [ak 3 (bO (fun i=>aU (rat (q i) ah)) R) fun i=>rat (aU (rat (q (i+0)) ah)) ah,ak 3 L fun i=>rat (x (i+0)) ah])):=ag
theorem ack:bf P BS 114:=by
 intro K args pre r h
 unfold BS at h
 split at h
 ·rename_i h1
  exact Sq K args pre r (h1.trans h)
 ·exact Cy K args pre r h
theorem EV:bK P pP:=gT (aK Xa (aK ack (aK (jC fun _ _ K hn=>C9 hn.1 hn.2 K) gJ)))
def rI (n e:Nat) (d a:Nat->Rat):Prop:=(∀j,j<=n-e->cu n (cr e d a (n-e) j))/\cu (n-e) (fc e d a (n-e))
abbrev yV (n e:Nat) (d a:Nat->Rat):AV:=.tuple [aZ (fc e d a (n-e)) (bO (fc e d a (n-e)) (n-e)) ah,aZ (cr e d a (n-e) (n-e)) (bO (cr e d a (n-e) (n-e)) n) ah]
theorem Jv {e:Nat} {a d:Nat->Rat} (he:e<2^30) (K:Nat):aO P 88 K [aZ a 0 ah,aZ d (e+1) ah] [] (aJ (yV 0 e d a) []):=by
 refine bW hT EV hm Cj rfl aW rfl 60 P7 (fun _=>?_) K []
 simp only[af.all,az,bE]
 have e0:bO (fc e d a (0-e)) (0-e)=0:=by rw[Nat.zero_sub];rfl
 refine⟨fun i hi=>absurd hi (Nat.not_lt_zero i),aa,aa,aa,⟨fun i hi=>absurd hi (Nat.not_lt_zero i),aa⟩,?_⟩
 show bB _ _/\bB _ _/\True
 rw[e0]
 exact⟨gi fun i hi=>absurd hi (Nat.not_lt_zero i),gi fun i hi=>absurd hi (Nat.not_lt_zero i),trivial⟩
theorem JH {n e:Nat} {a d:Nat->Rat} (hn:n+1<2^30) (he:e<2^30) (ha:a n≠0) (hd:d e≠0) (hz:rI (n+1) e d a) (K:Nat):aO P 88 K [aZ a (n+1) ah,aZ d (e+1) ah] [] (aJ (yV (n+1) e d a) []):=by
 refine ij (r:=aJ (yV (n+1) e d a) []) hT Cj rfl aW rfl (fun _ cx h0=>?_) K []
 have hk:=mO h0
 have hW:=dg
 obtain⟨N,hN⟩:∃N,N=n+1:=⟨_,rfl⟩
 obtain⟨R,hR⟩:∃R,R=N-e:=⟨_,rfl⟩
 have hRr:R=n+1-e:=aa
 unfold rI at hz
 rw[<-hN,<-hR]at hz
 obtain⟨hzR,hzQ⟩:=hz
 refine au.SC hT EV hm (x:=tK) [1,1,1,1,0] (i:=0) (y:=CR) ag ag Cj.dst [1] (j:=1) (x1:=uy) ag ag ag [1,1,1,0,1] (i2:=2) (y2:=part uy [1,1,1,0,1,0,0]) ag ag rfl ag hk
  (f1:=[20]) (f2:=[29]) (f3:=[]) (f4:=[58]) (f5:=[]) 60 qV uf 2 3 (fun a:Nat×(Nat->Rat)×(Nat->Rat)=>vg e d R a.1) (fun a=>wF N R a.2.1 a.2.2) (fun b=>jQ N e R d a b.1 b.2.1 b.2.2/\cu N b.2.1) (fun b=>jQ N e R d a b.1 b.2.1 b.2.2/\b.1<=e) (fun b=>b.1) (fun b=>e<b.1) (fun _=>False) (fun _=>False)
  (fun b (i:Nat)=>ER e d R b.1 (b.1-1-e) i) (fun b i=>Dh N R (iB e d b.2.1 (b.1-1-e) (b.2.1 (b.1-1)/d e) i) (fun j=>if j=b.1-1-e then b.2.1 (b.1-1)/d e else b.2.2 j) (b.2.1 (b.1-1)/d e)) (fun b i=>i<=e/\cu N (iB e d b.2.1 (b.1-1-e) (b.2.1 (b.1-1)/d e) i)) (fun b i=>i=e/\cu N (iB e d b.2.1 (b.1-1-e) (b.2.1 (b.1-1)/d e) e)) (fun _ i=>e-i)
  ⟨_,WL,?_⟩ (fun b ⟨hb,hx⟩=>⟨_,QE,?_⟩) (fun b ⟨hb,hx⟩ hG=>⟨_,Rc,?_⟩) (fun b ⟨hb,hx⟩ hG i ⟨hi,hxi⟩=>⟨_,aaR,?_⟩) (fun b ⟨hb,hx⟩ hG i ⟨hi,hxi⟩=>⟨_,Zb,?_⟩) (fun b s' ⟨hb,hle⟩ hs'=>?_) (fun _ _ h=>h.elim) (fun _ _ h=>h.elim)
 ·simp only[af.all,az,bz,bE]
  have hs0:jQ N e R d a N a fun _=>0:=jQ.start hR (.inr (by rw[hN];exact ha))
  have hsz:cu N a:=hzR 0 (Nat.zero_le _)
  refine⟨⟨cZ aQ,hn⟩,aa,fun h=>⟨aa,(N,a,fun _=>0),⟨hs0,hsz⟩,[(0,12288),(1,69632)],rfl,?_,rfl,bw rfl rfl hN.symm (fun j hj=>bP rfl rfl) (bw rfl rfl aa (fun j hj=>.inr ⟨rfl,cY rfl aa⟩) trivial)⟩,fun h=>?_⟩
  ·rw[show((n+1:Nat):Int)-(((e+1:Nat):Int)-1)=(R:Nat) by omega,show((e+1:Nat):Int)-1=(e:Nat) by omega,bu,<-hN];rfl
  ·have h0:R=0:=aa
   clear hzR hzQ
   subst h0
   refine⟨(N,a,fun _=>0),⟨hs0,hsz⟩,[(0,12288)],rfl,?_,rfl,bw rfl rfl hN.symm (fun j hj=>bP rfl rfl) (rG rfl aa aa trivial)⟩
   rw[show((e+1:Nat):Int)-1=(e:Nat) by omega,<-hN];rfl
 ·obtain⟨L,x,q⟩:=b
  simp only[af.all,az,bz,bE]
  have re:eW [] ([ak 3 (e+1) fun i=>rat (d i) ah,own 1 3 0 R,own 0 3 0 L,int i64 (↑e:Int)],[(0,ay.mk true true 3 N fun i=>rat (x i) ah),(1,ay.mk true true 3 R fun i=>rat (q i) ah)]) (vg e d R L) (wF N R x q) 2:=⟨[(0,0),(1,1)],rfl,rfl,rfl,bw rfl rfl rfl (fun j hj=>bP rfl rfl) (bw rfl rfl rfl (fun j hj=>bP rfl rfl) trivial)⟩
  exact⟨fun h=>⟨aa,re⟩,fun h=>⟨rfl,(L,x,q),⟨hb,by dsimp only;omega⟩,re⟩⟩
 ·obtain⟨L,x,q⟩:=b
  have hl:=hb.le
  have hG:e<L:=hG
  dsimp only at hl hb
  have hq:=hb.quot hR hG
  have hf:Sz (x (L-1)/d e) ah:=by rw[hq];exact hzQ _ aa
  simp only[af.all,az,Nat.add_zero]
  rw[show((L:Int)-1).toNat=L-1 by omega,show((L:Int)-1-(e:Int)).toNat=L-1-e by omega,bu]
  have hu0:iB e d x (L-1-e) (x (L-1)/d e) 0=x:=by funext j;unfold iB;rw[if_neg aa]
  refine⟨aa,aa,aa,aa,0,⟨Nat.zero_le _,by rw[hu0];exact hx⟩,[(0,0),(1,1),(2,81922)],rfl,?_,rfl,?_⟩
  ·rw[show(L:Int)-1-(e:Int)=(L-1-e:Nat) by omega];rfl
  ·refine lF rfl rfl (.inr ⟨rfl,ee rfl hf⟩) (bw rfl rfl rfl (fun j hj=>.inr ⟨rfl,cY (by rw[hu0]) aQ⟩) (bw rfl rfl rfl (fun j hj=>?_) trivial))
   exact lf (x:=q) (y:=fun j=>if j=L-1-e then x (L-1)/d e else q j) (ee (if_pos rfl).symm (by show Sz (if _ then _ else _) _;rw[if_pos rfl];exact hf)) fun hj=>cY (if_neg hj).symm aQ
 ·obtain⟨L,x,q⟩:=b
  have hl:=hb.le
  have hG:e<L:=hG
  dsimp only at hl hb hi hxi
  simp only[af.all,az,bz,bE,Nat.add_zero]
  rw[show((L-1-e:Nat):Int)+(i:Int)=(L-1-e+i:Nat) by omega,bu,bu]
  generalize hf:x (L-1)/d e=f at*
  have h1:∀j,j≠L-1-e+i->iB e d x (L-1-e) f i j=iB e d x (L-1-e) f (i+1) j:=fun j hj=>by
   unfold iB
   by_cases h2:L-1-e<=j/\j<L-1-e+i
   ·rw[if_pos h2,if_pos aa]
   ·rw[if_neg h2,if_neg aa]
  have h2:iB e d x (L-1-e) f i (L-1-e+i)-f*d i=iB e d x (L-1-e) f (i+1) (L-1-e+i):=by
   unfold iB
   rw[if_neg aa,if_pos aa,show L-1-e+i-(L-1-e)=i by omega]
  refine⟨fun h=>?_,fun h=>⟨rfl,i,⟨aa,by rw[show i=e by omega]at hxi;exact hxi⟩,[(0,0),(1,1),(2,2)],rfl,rfl,rfl,dU (bw rfl rfl rfl (fun j hj=>bP rfl rfl) (bw rfl rfl rfl (fun j hj=>bP rfl rfl) trivial))⟩⟩
  have hs:Sz (iB e d x (L-1-e) f (i+1) (L-1-e+i)) ah:=by
   subst hf
   rw[hb.Ls hR hG (i:=i+1) aa aa aa]
   exact hzR _ aa _ aa
  refine⟨aa,aa,aa,i+1,⟨aa,fun j hj=>?_⟩,by dsimp only;omega,[(0,0),(1,1),(2,2)],rfl,rfl,rfl,dU (bw rfl rfl rfl (fun j hj=>?_) (bw rfl rfl rfl (fun j hj=>bP rfl rfl) trivial))⟩
  ·by_cases h3:j=L-1-e+i
   ·rw[h3];exact hs
   ·rw[<-h1 j h3];exact hxi j hj
  ·exact lf (x:=iB e d x (L-1-e) f i) (y:=iB e d x (L-1-e) f (i+1)) (ee h2 hs) fun hj=>cY (h1 j hj) aQ
 ·obtain⟨L,x,q⟩:=b
  have hl:=hb.le
  have hG:e<L:=hG
  dsimp only at hl hb hi hxi
  subst hi
  simp only[af.all,az]
  rw[show((L:Int)-1).toNat-(0:Int).toNat=L-1 by omega]
  exact⟨⟨aa,aa,aa,aa,fun j hj=>⟨rfl,.refl _⟩⟩,(_,_,_),⟨hb.next hR hd hG,hxi⟩,Nat.lt_of_le_of_lt eP (show L-1<L by omega),[(0,0),(1,1)],rfl,rfl,rfl,bw rfl rfl rfl (fun j hj=>bP rfl rfl) (bw rfl rfl rfl (fun j hj=>bP rfl rfl) trivial)⟩
 ·obtain⟨L,x,q⟩:=b
  dsimp only at hb hle
  obtain⟨f1,f2,f3⟩:=hb.fin hR hle
  have hl:=hb.le
  rw[show behind tK [1,1,1,1,0]=[part tK [1,1,1,1,1]]from by kernel_rfl]
  refine aF.weak rfl hs' (aF.mono (fun _ _ h=>.inl h) (aF.fin hT EV hm 60 Sj ag ?_))
  simp only[af.all,az,Nat.add_zero]
  refine⟨⟨aQ,aa,fun j hj=>⟨rfl,.refl _⟩⟩,?_⟩
  show bB _ _/\bB _ _/\True
  rw[<-hN,<-hR,<-f1,<-Aw (k:=q) f3]
  exact⟨gi fun i hi=>cY (f3 i (Nat.lt_of_lt_of_le hi eP)) aQ,gi fun i hi=>cY (f2 i hi) aQ,trivial⟩
def yh:Spec:=dL (kC (kL ah) (kC (kL ah) kN)) (fun a=>yV a.1.1 (a.2.1.1-1) a.2.1.2 a.1.2) fun a=>[a.1.1<2^30,1<=a.2.1.1,a.2.1.1<2^30,a.1.1=0\/a.1.2 (a.1.1-1)≠0,a.2.1.2 (a.2.1.1-1)≠0,rI a.1.1 (a.2.1.1-1) a.2.1.2 a.1.2]
theorem BZ:bf P yh 88:=dF fun⟨⟨n,a⟩,⟨m,d⟩,_⟩ K hn=>by
 obtain⟨h1,h2,h3,h4,h5,h6⟩:=hn
 simp only at h1 h2 h3 h4 h5 h6
 obtain⟨e,rfl⟩:∃e,m=e+1:=⟨m-1,aa⟩
 cases n with
 |zero=>exact Jv aa K
 |succ n=>exact JH h1 aa (by simpa using h4) h5 h6 K
end Go.Am.B
