/- bG by the shape of the arguments: numbers, points, planes, maps. -/
import Derived.Test.YtolopdkjjlfgjaaGreatB33
import Init
import Derived.Test.YtolopdkjjlfgjaaGreatZ2
set_option linter.unusedVariables false
noncomputable section
namespace Go.Am.B
open Go Go.Am.N AV Proofs.Tryz IntKind
@[ext] structure V3 where
 x:Rat
 y:Rat
 z:Rat
structure Pl where
 n:V3
 d:Rat
abbrev rA (q:Rat) (n:Nat):AV:=.rat q n
abbrev vA (v:V3) (n:Nat):AV:=.agg [.rat v.x n,.rat v.y n,.rat v.z n]
theorem fh {q r:Rat} {n k:Nat} (h:q=r) (hk:n<=k):bg (.rat q n) (.rat r k):=h▸oJ hk
structure Kind (α:Type) where
 read:AV->Option (α×List Prop)
 make:α->AV
 ok:∀{v:AV} {a:α} {q:List Prop},read v=some (a,q)->aF q->bg v (make a)
def pJ:AV->Option (Rat×Nat)
 |.rat q n=>some (q,n)
 |.agg [.bool false,.mag 0,.mag 0]=>some (0,1)
 |_=>none
theorem wU {v:AV} {a:Rat×Nat} (h:pJ v=some a):bg v (rA a.1 a.2):=by
 unfold pJ at h
 split at h
 ·simp only[aB]at h;subst h;exact .refl _
 ·simp only[aB]at h;subst h;exact pD
 ·simp at h
def Gz (v:AV):Option ((Rat×Nat)×List Prop):=match pJ v with
 |some a=>some (a,[])
 |none=>none
theorem Xb {v:AV} {a:Rat×Nat} {q:List Prop} (h:Gz v=some (a,q)) (_:aF q):bg v (rA a.1 a.2):=by
 unfold Gz at h
 split at h
 ·rename_i h1
  simp only[aB,Prod.mk.injEq]at h
  obtain⟨rfl,rfl⟩:=h
  exact wU h1
 ·simp at h
def kR:Kind (Rat×Nat):=⟨Gz,fun a=>rA a.1 a.2,Xb⟩
section specs
variable {α β γ δ:Type} {f:FuncId}
def Ef (k:Kind α) (g:α->AV) (need:α->List Prop):Spec:=cw fun l=>match l with
 |[x]=>match k.read x with
  |some (a,p)=>some (aT (g a) (p++need a))
  |none=>none
 |_=>none
theorem ON {k:Kind α} {g:α->AV} {need:α->List Prop} (h:∀a K,aF (need a)->aY P f K [k.make a] [] (aT (g a) [])):bF P (Ef k g need) f:=by
 refine cY fun K args r hk hs _=>?_
 split at hs
 ·split at hs
  ·rename_i h1
   simp only[aB]at hs
   subst hs
   intro hn
   obtain⟨n1,hn⟩:=iy.1 hn
   exact je (h _ K hn) hk ⟨k.ok h1 n1,trivial⟩ [] trivial
  ·simp at hs
 ·simp at hs
def jV (k:Kind α) (k2:Kind β) (g:α->β->AV) (need:α->β->List Prop):Spec:=cw fun l=>match l with
 |[x,y]=>match k.read x,k2.read y with
  |some (a,p),some (b,q)=>some (aT (g a b) (p++(q++need a b)))
  |_,_=>none
 |_=>none
theorem kS {k:Kind α} {k2:Kind β} {g:α->β->AV} {need:α->β->List Prop} (h:∀a b K,aF (need a b)->aY P f K [k.make a,k2.make b] [] (aT (g a b) [])):bF P (jV k k2 g need) f:=by
 refine cY fun K args r hk hs _=>?_
 split at hs
 ·split at hs
  ·rename_i h1 h2
   simp only[aB]at hs
   subst hs
   intro hn
   obtain⟨n1,hn⟩:=iy.1 hn
   obtain⟨n2,hn⟩:=iy.1 hn
   exact je (h _ _ K hn) hk ⟨k.ok h1 n1,k2.ok h2 n2,trivial⟩ [] trivial
  ·simp at hs
 ·simp at hs
end specs
def qo (a b:Rat×Nat):List Prop:=[a.2<2^42,b.2<2^42]
def qq (a b:Rat×Nat):List Prop:=[a.2<2^41,b.2<2^41]
def B3 (a b:Rat×Nat):AV:=rA (a.1+b.1) (a.2+b.2+1)
def HQ (a b:Rat×Nat):AV:=rA (a.1-b.1) (a.2+b.2+1)
def DI (a b:Rat×Nat):AV:=rA (a.1*b.1) (a.2+b.2)
def Cx (a b:Rat×Nat):AV:=.tuple [rA (a.1/b.1) (a.2+b.2),.int .i64 (if b.1=0 then 3 else 0)]
def J8 (a b:Rat×Nat):AV:=.int .i64 (gr a.1 b.1)
def Ir (a b:Rat×Nat):AV:=.bool (decide (a.1=b.1))
def It (a:Rat×Nat):AV:=.int .i64 (bR a.1)
abbrev F0:FuncId×Spec:=(71,Ly)
def gF:bG:=[(128,jV kR kR B3 qo),(143,jV kR kR HQ qo),(129,jV kR kR DI qo),(110,jV kR kR Ir qo),(58,jV kR kR J8 qo),(65,Ef kR It fun a=>[a.2<2^42]),F0]
def qR:bG:=[(92,jV kR kR B3 qq),(53,jV kR kR HQ qq),(90,jV kR kR DI qq),(26,jV kR kR Ir qq),(27,jV kR kR J8 qq),(24,Ef kR It fun a=>[a.2<2^41]),(23,OV)]
theorem acd:bF P F0.2 F0.1:=UM
theorem gU:cm P gF:=aM (kS fun _ _ K hn=>ab9 hn.1 hn.2 K) (aM (kS fun _ _ K hn=>adL hn.1 hn.2 K) (aM (kS fun _ _ K hn=>J0 hn.1 hn.2 K)
 (aM (kS fun _ _ K hn=>afc (Nat.lt_trans hn.1 aa) (Nat.lt_trans hn.2 aa) K []) (aM (kS fun _ _ K hn=>KL hn.1 hn.2 K []) (aM (ON fun _ K hn=>NP (Nat.lt_trans hn aa) K []) (aM acd cK))))))
theorem tu:cm P qR:=aM (kS fun _ _ K hn=>JI hn.1 hn.2 K) (aM (kS fun _ _ K hn=>aeP hn.1 hn.2 K) (aM (kS fun _ _ K hn=>R6 hn.1 hn.2 K)
 (aM (kS fun _ _ K hn=>abx (Nat.lt_trans hn.1 aa) (Nat.lt_trans hn.2 aa) K []) (aM (kS fun _ _ K hn=>SP hn.1 hn.2 K) (aM (ON fun _ K _=>Kp K []) (aM X2 cK))))))
end Go.Am.B
namespace Go.Am.B
def zl (n:Nat) (f:Nat->Rat):Rat:=match n with
 |0=>0
 |n+1=>zl n f+f n
def fr (a b t:Rat):Rat:=(t-a)/(b-a)
def vB (k:Nat->Rat) (i:Nat) (t:Rat):Nat->Nat->Rat
 |0,j=>if j=0 then 1 else 0
 |d+1,j=>(if j=0 then 0 else fr (k (i-d+(j-1))) (k (i-d+(j-1)+(d+1))) t*vB k i t d (j-1))+
   (if j<=d then(1-fr (k (i-d+j)) (k (i-d+j+(d+1))) t)*vB k i t d j else 0)
structure At (n:Nat) (k:Nat->Rat) (i:Nat):Prop where
 lt:i+1<n
 sorted:∀i,i+1<n->k i<=k (i+1)
 wide:k i<k (i+1)
def XD (k:Nat->Rat) (b p r:Nat) (t:Rat) (x:Nat->Rat) (j:Nat):Rat:=
 if r<j then x (j-1)+fr (k (b+j)) (k (b+j+(p-r))) t*(x j-x (j-1))else x j
def bl (k:Nat->Rat) (b p:Nat):Nat->(Nat->Rat)->List Rat->Nat->Rat
 |_,x,[]=>x
 |r,x,t::l=>bl k b p (r+1) (XD k b p r t x) l
variable {k:Nat->Rat} {b p:Nat}
variable {n:Nat}
end Go.Am.B
namespace Go.Am.B
def J9 (g:Nat->Bool):Nat->Nat
 |0=>0
 |m+1=>if g m then m else J9 g m
def LL (n:Nat) (k:Nat->Rat) (t:Rat):Nat:=J9 (fun i=>decide (k i<k (i+1))&&decide (k i<=t)) (n-1)
open AV
def aN:AV->Rat
 |.rat q _=>q
 |_=>0
def cX (f:Nat->AV) (n s:Nat):Prop:=∀i,i<n->bg (f i) (.rat (aN (f i)) s)
abbrev bS (k:Nat->Rat) (n s:Nat):AV:=.az 3 n (fun i=>.rat (k i) s)
theorem eG {k:Nat->Rat} {n s s':Nat} (h:s<=s'):cX (fun i=>.rat (k i) s) n s':=fun _ _=>oJ h
theorem Sy {f:Nat->AV} {n s:Nat} (h:cX f n s):bg (.az 3 n f) (bS (fun i=>aN (f i)) n s):=ko h
def xe:AV->Option (Nat×(Nat->AV))
 |.az 3 n f=>some (n,f)
 |.nil=>some (0,fun _=>.rat 0 1)
 |_=>none
theorem Vp {v:AV} {n s:Nat} {f:Nat->AV} (h:xe v=some (n,f)) (ha:cX f n s):bg v (bS (fun i=>aN (f i)) n s):=by
 unfold xe at h
 split at h
 ·simp only[aB,Prod.mk.injEq]at h
  obtain⟨rfl,rfl⟩:=h
  exact Sy ha
 ·simp only[aB,Prod.mk.injEq]at h
  obtain⟨rfl,rfl⟩:=h
  exact mC aa
 ·simp at h
end Go.Am.B
namespace Go.Am
def bn:Nat->Nat->Nat
 |_,0=>1
 |0,_+1=>0
 |n+1,k+1=>bn n k+bn n (k+1)
theorem rq (n:Nat):bn n 0=1:=by cases n<;>rfl
theorem pT (n k:Nat):bn (n+1) (k+1)=bn n k+bn n (k+1):=rfl
theorem oR:∀{n k:Nat},n<k->bn n k=0
 |0,_+1,_=>rfl
 |n+1,k+1,h=>by rw[pT,oR (by omega),oR (by omega)]
theorem MF:∀n:Nat,bn n n=1
 |0=>rfl
 |n+1=>by rw[pT,MF n,oR (by omega)]
theorem tK:∀n k:Nat,bn n k<=2^n
 |0,0=>by decide
 |0,_+1=>by rw[oR (by omega)];exact Nat.zero_le _
 |n+1,0=>by rw[rq];exact Nat.one_le_two_pow
 |n+1,k+1=>by
  have h1:=tK n k
  have h2:=tK n (k+1)
  rw[pT,Nat.pow_succ];omega
theorem BN:∀{n k:Nat},k<=n->0<bn n k
 |n,0,_=>by rw[rq];exact Nat.one_pos
 |n+1,k+1,h=>by
  have:=BN (n:=n) (k:=k) (by omega)
  rw[pT];omega
theorem Af {n k:Nat} (h:n<=40):bn n k<=2^40:=Nat.le_trans (tK n k) (Nat.pow_le_pow_right (by decide) h)
theorem Ad:∀n k:Nat,(k+1)*bn n (k+1)=(n-k)*bn n k
 |0,0=>rfl
 |0,k+1=>by rw[oR (by omega),Nat.zero_sub];simp
 |n+1,0=>by
  have:=Ad n 0
  simp only[rq,Nat.zero_add,Nat.one_mul,Nat.sub_zero,Nat.mul_one]at this ⊢
  rw[pT,rq,this];omega
 |n+1,k+1=>by
  have h1:=Ad n k
  have h2:=Ad n (k+1)
  rw[pT n (k+1),pT n k,show n+1-(k+1)=n-k by omega]
  by_cases h:k+1<=n
  ·obtain⟨m,rfl⟩:∃m,n=k+1+m:=⟨n-(k+1),by omega⟩
   rw[show k+1+m-(k+1)=m by omega]at h2
   rw[show k+1+m-k=m+1 by omega]at h1 ⊢
   generalize bn (k+1+m) (k+1+1)=A at*
   generalize bn (k+1+m) (k+1)=B at*
   generalize bn (k+1+m) k=C at*
   have e1:(k+1+1)*(B+A)=(k+1)*B+B+(k+1+1)*A:=by rw[Nat.mul_add,Nat.add_mul (k+1) 1 B,Nat.one_mul]
   have e2:(m+1)*(C+B)=(m+1)*C+(m*B+B):=by rw[Nat.mul_add,Nat.add_mul m 1 B,Nat.one_mul]
   rw[e1,e2,h2,h1];omega
  ·rw[oR (n:=n) (k:=k+1+1) (by omega)]
   by_cases h3:k=n
   ·subst h3
    rw[oR (by omega),Nat.sub_self];simp
   ·rw[oR (n:=n) (k:=k+1) (by omega),oR (n:=n) (k:=k) (by omega)];simp
end Go.Am
namespace Go.Am.B
open Go Go.Am.N AV af au IntKind Proofs.Tryz
abbrev qm (n:Nat) (g:Nat->Int):aC:=⟨true,true,1,n,fun i=>.int .i64 (g i)⟩
abbrev dL (m:Nat) (k:Nat->Rat) (s:Nat):aC:=⟨true,true,3,m,fun i=>.rat (k i) s⟩
def GZ:bG:=zG::gF
abbrev Ae:Code:=aJ f158
abbrev wK:Code:=part Ae [1,1,0,1,0,0]
abbrev Be:Code:=part wK [1,1,0,0]
abbrev sU:Code:=part Ae [1,1,1]
abbrev rN:List Nat:=[0,3,9,10]
abbrev A7 (n r:Nat):List AV:=[.int .i64 n,.own 0 1 0 (r+1),.int .i64 n,.int .i64 r]
abbrev x8:List Nat:=[0,3,9,10,4]
abbrev Fi (n r j:Nat):List AV:=[.int .i64 n,.own 0 1 0 (r+1+1),.int .i64 n,.int .i64 r,.int .i64 j]
abbrev xB:List Nat:=[37,5,38,39]
abbrev Dj (n i:Nat):List AV:=[.own 0 1 0 (n+1),.own 1 3 0 (n+1),.int .i64 (n+1:Nat),.int .i64 i]
abbrev F6 (n:Nat) (g:Nat->Int) (x:Nat->Rat):aG:=[(1,dL (n+1) x 64),(0,qm (n+1) g)]
theorem K8:bC 158 f158:=bD func158
theorem abd {n:Nat}:aK T GZ [] 60 rN (before Ae [1,1,0,1]) ⟨bf 0 [.int .i64 n],[],0⟩=
  some (aj [(1:Nat)*1<=2^24] (leaf normal ([int i64 (↑n:Int),own 4096 1 0 1,int i64 (↑n:Int),int i64 0],[(4096,aC.mk true true 1 1 fun i=>nth [int i64 1] (int i64 0) i)]))):=ah
theorem Xr {n r:Nat} {g:Nat->Int}:aK T GZ [11] 60 rN (before wK [1,1,0]) ⟨aH rN (A7 n r),[(0,qm (r+1) g)],1⟩=
  let c2:Int:=(↑n:Int);let c1:List AV×aG:=([int i64 c2,own 0 1 0 (r+1),int i64 c2,int i64 (↑r:Int)],[(0,aC.mk true true 1 (r+1) fun i=>int i64 (g i))]);some (fork (decide ((↑r:Int)<c2)) (leaf normal c1) (leaf (exit 0) c1)):=ah
theorem afw {n r:Nat} {g:Nat->Int}:aK T GZ [] 60 x8 (before Be [1,1]) ⟨aH rN (A7 n r),[(0,qm (r+1) g)],1⟩=
  let c3:Nat:=r+1;let c1:Nat:=c3+1;let c2:Int:=(↑c1:Int)-2;some (aj [(1:Nat)*1<=2^24,c1*((8:Nat)+1)*2<=2^47] (aj [-(2:Int)^63<=c2/\c2<2^63] (leaf normal ([int i64 (↑n:Int),own 8193 1 0 c1,int i64 (↑n:Int),int i64 (↑r:Int),int i64 c2],[(8193,aC.mk true true 1 c1 fun i=>if i<c3 then int i64 (g i)else nth [int i64 1] (int i64 0) (i-c3+0))])))):=ah
theorem PI {n r j:Nat} {g:Nat->Int}:aK T GZ [19] 60 x8 [part Be [1,1,0,0]] ⟨aH x8 (Fi n r j),[(0,qm (r+1+1) g)],1⟩=
  let c7:AV:=int i64 (↑n:Int);let c5:Int:=(↑j:Int);let c4:Int:=(2:Int)^63;let c1:Nat:=r+1+1;let c9:Prop:=(0:Int)<=c5/\c5.toNat<c1;let c8:AV:=own 0 1 0 c1;let c3:Nat:=c5.toNat+0;let c2:Int:=c5-1;let c6:Int:=g c3+g (c2.toNat+0);some (fork (decide (c5>0)) (aj [c9,c3<c1,-c4<=c2/\c2<c4,(0:Int)<=c2/\c2.toNat<c1,c2.toNat+0<c1,-c4<=c6/\c6<c4,c9,c3<c1] (aj [-c4<=c2/\c2<c4] (leaf normal ([c7,c8,c7,int i64 (↑r:Int),int i64 c2],[(0,aC.mk true true 1 c1 fun j=>int i64 (bif j==c3 then c6 else g j))])))) (leaf (exit 2) ([c7,c8,c7,int i64 (↑r:Int),int i64 c5],[(0,aC.mk true true 1 c1 fun i=>int i64 (g i))]))):=ah
theorem afr {n r j:Nat} {g:Nat->Int}:aK T GZ [] 60 rN [part wK [1,1,1]] ⟨aH x8 (Fi n r j),[(0,qm (r+1+1) g)],1⟩=
  let c2:Nat:=r+1+1;let c1:Int:=(↑r:Int)+1;some (aj [-(2:Int)^63<=c1/\c1<2^63] (leaf normal ([int i64 (↑n:Int),own 0 1 0 c2,int i64 (↑n:Int),int i64 c1],[(0,aC.mk true true 1 c2 fun i=>int i64 (g i))]))):=ah
theorem Xl {n r:Nat} {g:Nat->Int}:aK T GZ [] 60 xB (before sU [1,0,1]) ⟨aH rN (A7 n r),[(0,qm (r+1) g)],1⟩=
  let c1:Int:=(↑(r+1):Int);some (aj [(0:Int)<=c1/\c1<=c1/\c1<=2^47/\c1*(↑(56:Nat):Int)<=2^47] (leaf normal ([own 0 1 0 (r+1),own 8193 3 0 c1.toNat,int i64 c1,int i64 0],[(8193,aC.mk true true 3 c1.toNat fun x=>rat 0 1),(0,aC.mk true true 1 (r+1) fun i=>int i64 (g i))]))):=ah
theorem afb {n i:Nat} {g:Nat->Int} {x:Nat->Rat}:aK T GZ [40] 60 xB [part sU [1,0,1,0,0]] ⟨aH xB (Dj n i),F6 n g x,2⟩=
  let c4:Int:=(2:Int)^63;let c3:Int:=(↑i:Int);let c2:Nat:=n+1;let c10:Int:=c3+1;let c9:Int:=(↑c2:Int);let c7:AV:=own 0 1 0 c2;let c6:AV:=own 1 3 0 c2;let c5:Nat×aC:=(0,aC.mk true true 1 c2 fun i=>int i64 (g i));let c1:Nat:=c3.toNat+0;let c8:List Prop:=[(0:Int)<=c3/\c3.toNat<c2,c1<c2];some (fork (decide (c3<c9)) (aj c8 (aj ((-c4<=g c1)::(g c1<c4)::c8) (aj [-c4<=c10/\c10<c4] (leaf normal ([c7,c6,int i64 c9,int i64 c10],[(1,aC.mk true true 3 c2 fun j=>rat (bif j==c1 then(↑(g c1):Rat)else x j) (bif j==c1 then Max.max 1 (bU (g c1).natAbs)else 64)),c5]))))) (leaf (exit 4) ([c7,c6,int i64 c9,int i64 c3],[(1,aC.mk true true 3 c2 fun i=>rat (x i) 64),c5]))):=ah
theorem VX {n i:Nat} {g:Nat->Int} {x:Nat->Rat}:dJ T GZ [] 60 f158 [part sU [1,1]] ⟨aH xB (Dj n i),F6 n g x,2⟩=
  some (leaf ret [az 3 (n+1) fun i=>rat (x (i+0)) 64]):=ah
theorem ql:cm P GZ:=jD gU
def qb (r j i:Nat):Int:=if i<=j then(if i=r+1 then 1 else(bn r i:Int))else bn (r+1) i
theorem NZ {r j i:Nat} (hr:r<40) (hi:i<=r):-2^41<=qb r j i/\qb r j i<=2^40:=by
 have h1:=Af (n:=r) (k:=i) aa
 have h2:=Af (n:=r+1) (k:=i) aa
 unfold qb;rw[if_neg (c:=i=r+1) aa];split<;>omega
theorem Yk {n:Nat} (hn:n<=40) (K:Nat):aY P 158 K [.int .i64 n] [] (aT (bS (fun i=>((bn n i:Int):Rat)) (n+1) 64) []):=by
 refine ja (r:=aT (bS (fun i=>((bn n i:Int):Rat)) (n+1) 64) []) hT K8 rfl br rfl (fun _ cx h0=>?_) K []
 have hk:=oD h0
 refine aA.uS hT ql hm (x:=Ae) [1,1,0,1] (i:=0) (y:=wK) (z:=sU) ah ah ah K8.dst [1,1,0] (j:=1) (x1:=Be) (zb:=part wK [1,1,1]) ah ah ah [1,1] (i2:=2) (y2:=part Be [1,1,0,0]) ah ah rfl hk
  (f1:=[]) (f2:=[11]) (f3:=[]) (f4:=[19]) (f5:=[]) 60 rN x8 1 1 (fun r:Nat=>A7 n r) (fun r=>[(0,qm (r+1) fun i=>bn r i)]) (fun r=>r<=n) (fun r=>r=n) (fun r=>n-r) (fun r=>r<n) (fun _=>False) (fun _=>False)
  (fun r (j:Nat)=>Fi n r j) (fun r j=>[(0,qm (r+1+1) (qb r j))]) (fun r j=>j<=r) (fun _ j=>j=0) (fun _ j=>j)
  ⟨_,abd,?_⟩ (fun r hr=>⟨_,Xr,?_⟩) (fun r hr hG=>⟨_,afw,?_⟩) (fun r hr hG j hj=>⟨_,PI,?_⟩) (fun r hr hG j hj=>⟨_,afr,?_⟩) (fun r hr=>?_) (fun _ _ h=>h.elim) (fun _ _ h=>h.elim)
 ·simp only[af.all,aF]
  refine⟨aa,0,aa,[(0,4096)],rfl,rfl,rfl,bX rfl rfl rfl (fun i hi=>by obtain rfl:i=0:=aa;exact cA rfl rfl) trivial⟩
 ·simp only[af.all,aF,bI,bO]
  exact⟨fun h=>⟨aa,[(0,0)],rfl,rfl,rfl,bX rfl rfl rfl (fun i hi=>cA rfl rfl) trivial⟩,fun h=>⟨rfl,r,aa,[(0,0)],rfl,rfl,rfl,bX rfl rfl rfl (fun i hi=>cA rfl rfl) trivial⟩⟩
 ·simp only[af.all,aF]
  refine⟨aa,aa,r,aa,[(0,8193)],rfl,?_,rfl,bX rfl rfl rfl (fun i hi=>cA ?_ ?_) trivial⟩
  ·rw[show((r+1+1:Nat):Int)-2=(r:Nat) by omega];rfl
  ·split
   ·rfl
   ·rw[show i-(r+1)+0=0 by omega];rfl
  ·unfold qb
   by_cases h:i<r+1
   ·rw[if_pos h,if_pos aa,if_neg aa]
   ·rw[if_neg h,if_neg aa,show i-(r+1)+0=0 by omega,show i=r+1 by omega,MF];rfl
 ·simp only[af.all,aF,bI,bO,bJ,Nat.add_zero]
  refine⟨fun h=>?_,fun h=>⟨rfl,j,aa,[(0,0)],rfl,rfl,rfl,bX rfl rfl rfl (fun i hi=>cA rfl rfl) trivial⟩⟩
  obtain⟨m,rfl⟩:∃m,j=m+1:=⟨j-1,aa⟩
  have e1:(((m+1:Nat):Int)-1).toNat=m:=aa
  have h1:=NZ (r:=r) (j:=m+1) (i:=m+1) aa hj
  have h2:=NZ (r:=r) (j:=m+1) (i:=m) aa aa
  rw[e1]
  refine⟨aa,aa,m,aa,by dsimp only;omega,[(0,0)],rfl,?_,rfl,bX rfl rfl rfl (fun i hi=>cA rfl ?_) trivial⟩
  ·rw[show((m+1:Nat):Int)-1=(m:Nat) by omega];rfl
  ·by_cases h:i=m+1
   ·subst h
    simp only[beq_self_eq_true,cond_true]
    unfold qb
    rw[if_pos aa,if_neg aa,if_pos aa,if_neg aa,if_neg aa,pT,Int.natCast_add,Int.add_comm]
   ·have hb:(i==m+1)=false:=by simpa using h
    rw[hb,cond_false]
    unfold qb
    by_cases h2:i<=m
    ·rw[if_pos h2,if_pos aa]
    ·rw[if_neg h2,if_neg aa]
 ·subst hj
  simp only[af.all,aF]
  refine⟨aa,r+1,aa,by dsimp only;omega,[(0,0)],rfl,rfl,rfl,bX rfl rfl rfl (fun i hi=>cA rfl ?_) trivial⟩
  show AV.int i64 (qb r 0 i)=AV.int i64 (bn (r+1) i)
  unfold qb
  by_cases h:i<=0
  ·rw[if_pos h,if_neg aa,show i=0 by omega,rq,rq]
  ·rw[if_neg h]
 ·subst hr
  refine aA.qp hT ql hm (x:=sU) [1,0,1] (i:=4) (y:=part sU [1,0,1,0,0]) (z:=part sU [1,1]) ah ah ah ah hk (f1:=[]) (f2:=[40]) 60 xB 2 (fun i:Nat=>Dj r i) (fun i=>F6 r (fun i=>bn r i) fun j=>if j<i then((bn r j:Int):Rat)else 0)
   (fun i=>i<=r+1) (fun i=>i=r+1) (fun i=>r+1-i) (fun _=>False) ⟨_,Xl,?_⟩ (fun i hi=>⟨_,afb,?_⟩) (fun i hi=>?_) (fun _ _ h=>h.elim)
  ·simp only[af.all,aF,bJ]
   exact⟨aa,0,aa,[(0,0),(1,8193)],rfl,rfl,rfl,bX rfl rfl rfl (fun i hi=>.inr ⟨rfl,fh (if_neg (Nat.not_lt_zero i)).symm (by decide)⟩) (bX rfl rfl rfl (fun i hi=>cA rfl rfl) trivial)⟩
  ·have h1:=Af (n:=r) (k:=i) hn
   simp only[af.all,aF,bI,bO,bJ,Nat.add_zero]
   refine⟨fun h=>⟨aa,aa,aa,i+1,aa,by dsimp only;omega,[(0,0),(1,1)],rfl,rfl,rfl,bX rfl rfl rfl (fun j hj=>.inr ⟨rfl,?_⟩) (bX rfl rfl rfl (fun i hi=>cA rfl rfl) trivial)⟩,fun h=>⟨rfl,i,aa,[(0,0),(1,1)],rfl,rfl,rfl,bX rfl rfl rfl (fun j hj=>cA rfl rfl) (bX rfl rfl rfl (fun i hi=>cA rfl rfl) trivial)⟩⟩
   by_cases h2:j=i
   ·subst h2
    simp only[beq_self_eq_true,cond_true]
    exact fO (if_pos (Nat.lt_succ_self j)).symm (by rw[if_pos (Nat.lt_succ_self j)];exact Ek (y:=0) aa aa)
   ·have hb:(j==i)=false:=by simpa using h2
    rw[hb,cond_false,cond_false]
    refine fh ?_ aX
    show(if j<i then _ else _)=if j<i+1 then _ else _
    by_cases h3:j<i
    ·rw[if_pos h3,if_pos aa]
    ·rw[if_neg h3,if_neg aa]
  ·subst hi
   refine aA.oQ ((aI.fin hT ql hm 60 VX ah (ko fun i hi=>fh ?_ aX)).mono fun _ _ h=>.inl h)
   rw[Nat.add_zero,if_pos hi]
def Em:Spec:=cw fun l=>match l with
 |[.int .i64 n]=>some (aT (bS (fun i=>((bn n.toNat i:Int):Rat)) (n.toNat+1) 64) [0<=n,n<=40])
 |_=>none
theorem Ob:bF P Em 158:=by
 refine cY fun K args r hk hs _=>?_
 split at hs
 ·rename_i n
  simp only[aB]at hs
  subst hs
  intro hn
  have h1:0<=n:=hn.1
  have h2:n<=40:=hn.2
  have:=Yk (n:=n.toNat) aa K
  rw[Int.toNat_of_nonneg h1]at this
  exact this trivial
 ·simp at hs
open Go Go.Am.N AV Proofs.Tryz IntKind
theorem Zr:bC 51 f51:=bD func51
def PR:bG:=[(45,GL),(46,Ay)]
theorem SV {d:Int}:cy T PR [] 60 f51 (aJ f51) ⟨bf 0 [.int .i64 d],[],0⟩=
  some (af.aj [(17:Int)≠(0:Int),(0:Int)<12,(12:Int)<2^62] (af.aj [(0:Int)<i64.wrap (i64.wrap ((1:Int)+i64.wrap (d.tdiv (17:Int))%(12:Int))+1),i64.wrap (i64.wrap ((1:Int)+i64.wrap (d.tdiv (17:Int))%(12:Int))+1)<2^62,-(2:Int)^63<=d%i64.wrap (i64.wrap ((1:Int)+i64.wrap (d.tdiv (17:Int))%(12:Int))+1),d%i64.wrap (i64.wrap ((1:Int)+i64.wrap (d.tdiv (17:Int))%(12:Int))+1)<2^63,-(2:Int)^63<=i64.wrap ((1:Int)+i64.wrap (d.tdiv (17:Int))%(12:Int)),i64.wrap ((1:Int)+i64.wrap (d.tdiv (17:Int))%(12:Int))<2^63,(0:Nat)<1] (af.aj [(0:Nat)<1] (af.leaf au.ret [rat ((↑(d%i64.wrap (i64.wrap ((1:Int)+i64.wrap (d.tdiv (17:Int))%(12:Int))+1)):Rat)/(↑(i64.wrap ((1:Int)+i64.wrap (d.tdiv (17:Int))%(12:Int))):Rat)) 64])))):=ah
def ig (d:Int):Int:=1+i64.wrap (d.tdiv 17)%12
def dI (d:Int):Rat:=((d%(ig d+1):Int):Rat)/((ig d:Int):Rat)
def Po:Spec:=cw fun l=>match l with
 |[.int .i64 d]=>some (aT (.rat (dI d) 64) [])
 |_=>none
theorem Xn:bF P Po 51:=by
 refine cY fun K args r hk hs _=>?_
 split at hs
 ·rename_i d
  simp only[aB]at hs
  subst hs
  refine cB hT (aM Ma (aM Ff cK)) hm Zr rfl br rfl 60 SV (fun _=>?_) K []
  unfold dI ig
  generalize i64.wrap (d.tdiv 17)=w at*
  have w1:=Int.emod_nonneg w (show(12:Int)≠0 by omega)
  have w2:=Int.emod_lt_of_pos w (show(0:Int)<12 by omega)
  generalize w%12=x at*
  have e1:i64.wrap (1+x)=1+x:=wrap_i64 aa aa
  have e2:i64.wrap (1+x+1)=1+x+1:=wrap_i64 aa aa
  rw[e1,e2]
  have v1:=Int.emod_nonneg d (show 1+x+1≠0 by omega)
  have v2:=Int.emod_lt_of_pos d (show 0<1+x+1 by omega)
  generalize d%(1+x+1)=y at*
  simp only[af.all,aF]
  exact⟨⟨aa,aa,aa⟩,⟨aa,aa,aa,aa,aa,aa,aa⟩,aa,.refl _⟩
 ·simp at hs
structure Kd (α:Type) where
 read:AV->Option α
 make:α->AV
 ok:∀{v:AV} {a:α},read v=some a->bg v (make a)
def Gw:AV->Option (V3×Nat)
 |.agg [x,y,z]=>match pJ x,pJ y,pJ z with
  |some (x,a),some (y,b),some (z,c)=>some (⟨x,y,z⟩,max a (max b c))
  |_,_,_=>none
 |_=>none
theorem Ya {v:AV} {a:V3×Nat} (h:Gw v=some a):bg v (vA a.1 a.2):=by
 unfold Gw at h
 split at h
 ·split at h
  ·rename_i h1 h2 h3
   simp only[aB]at h
   subst h
   exact mY ⟨(wU h1).trans (fh rfl (by simp only;omega)),(wU h2).trans (fh rfl (by simp only;omega)),(wU h3).trans (fh rfl (by simp only;omega)),trivial⟩
  ·simp at h
 ·simp at h
def dV:Kd (V3×Nat):=⟨Gw,fun a=>vA a.1 a.2,Ya⟩
section specs
variable {α β γ δ:Type} {f:FuncId}
end specs
def b1 {α:Type} (e:Nat) (a:α×Nat):Bool:=Nat.blt a.2 (2^e)
def b2 {α β:Type} (e:Nat) (a:α×Nat) (b:β×Nat):Bool:=Nat.blt a.2 (2^e)&&Nat.blt b.2 (2^e)
def b3 {α β γ:Type} (e:Nat) (a:α×Nat) (b:β×Nat) (c:γ×Nat):Bool:=Nat.blt a.2 (2^e)&&(Nat.blt b.2 (2^e)&&Nat.blt c.2 (2^e))
end Go.Am.B
namespace Go.Am.B
open Go Go.Am.N AV Proofs.Tryz IntKind
theorem PD:bC 148 f148:=bD func148
theorem acu:bC 93 f93:=bD func93
theorem UA {q r:Rat} {n m:Nat}:cy T tD [9] 60 f148 (aJ f148) ⟨bf 0 [.rat q n,.rat r m],[],0⟩=
  some (af.aj [(0:Nat)<1] (af.fork ((↑(nl r.num.natAbs):Int)==0) (af.aj [(0:Nat)<1] (af.aj [(0:Nat)<1] (af.leaf au.ret [agg [AV.bool false,mag 0,mag 0],int .i64 (3:Int)]))) (af.aj [(0:Nat)<1,(0:Nat)<1,(0:Nat)<1,(0:Nat)<1,nl q.num.natAbs<2^39,nl r.den<2^39,(0:Nat)<1,(0:Nat)<1,nl q.den<2^39,nl r.num.natAbs<2^39,nl (q.num.natAbs*r.den)<2^38,nl (q.den*r.num.natAbs)<2^38,q.den*r.num.natAbs≠0,(0:Nat)<1] (af.aj [(0:Nat)<1] (af.leaf au.ret [rat (sQ (decide (q<0)!=decide (r<0)) (q.num.natAbs*r.den) (q.den*r.num.natAbs)) (dQ (sQ (decide (q<0)!=decide (r<0)) (q.num.natAbs*r.den) (q.den*r.num.natAbs))),int .i64 (0:Int)]))))):=ah
theorem Y1 {q r:Rat} {n m:Nat} (hn:n<2^41) (hm':m<2^41) (K:Nat):aY P 148 K [.rat q n,.rat r m] [] (aT (.tuple [.rat (q/r) (n+m),.int .i64 (if r=0 then 3 else 0)]) []):=by
 refine lX fun⟨hq,hr,_⟩=>?_
 have hq:Sz q n:=hq
 have hr:Sz r m:=hr
 have d1:=q.den_nz
 have d2:=r.den_nz
 have a1:nl q.num.natAbs<2^38:=g7 hq.1 aa
 have a2:nl q.den<2^38:=g7 hq.2 aa
 have b1:nl r.num.natAbs<2^38:=g7 hr.1 aa
 have b2:nl r.den<2^38:=g7 hr.2 aa
 have m1:nl (q.num.natAbs*r.den)<2^38:=g7 (pI hq.1 hr.2) aa
 have m3:nl (q.den*r.num.natAbs)<2^38:=g7 (pI hq.2 hr.1) aa
 refine cB hT v9 hm PD rfl br rfl 60 UA (fun _=>?_) K []
 have key:((nl r.num.natAbs:Int)==0)=decide (r=0):=by
  by_cases h:r=0
  ·subst h;rfl
  ·have h1:r.num.natAbs≠0:=fun e=>h (oS.1 e)
   have:=iO.2 h1
   simp only[h,decide_false,beq_eq_false_iff_ne];omega
 rw[key]
 simp only[af.all,aF,bI,bO]
 refine⟨aa,fun h0=>?_,fun h0=>?_⟩
 ·refine⟨aa,aa,?_,cu (by rw[if_pos h0]),trivial⟩
  have e:q/r=0:=by rw[h0,Rat.div_def,Rat.inv_zero,Rat.mul_zero]
  obtain⟨k,hk⟩:∃k,n+m=k+1:=⟨n+m-1,by have:=hq.pos;omega⟩
  rw[e,hk]
  first|exact pD|exact oJ aa
 ·have hr0:r.num.natAbs≠0:=fun h=>h0 (oS.1 h)
  have hv:=CR q r h0
  (repeat' with_reducible refine And.intro ?_ ?_)
  all_goals first|omega|exact m1|exact m3|exact Nat.mul_ne_zero d1 hr0|skip
  exact⟨fO hv (hq.div hr),cu (by rw[if_neg h0]),trivial⟩
def M7:bG:=[(148,jV kR kR Cx qq)]
theorem abK:cm P M7:=aM (kS fun _ _ K hn=>Y1 hn.1 hn.2 K) cK
theorem aaN {q r:Rat} {n m:Nat}:cy T M7 [] 60 f93 (aJ f93) ⟨bf 0 [.rat q n,.rat r m],[],0⟩=
  some (af.aj [(0:Nat)<1,(0:Nat)<1,n<2^41,m<2^41,(0:Nat)<1] (af.aj [(0:Nat)<1,(0:Nat)<1] (af.aj [(0:Nat)<1] (af.leaf au.ret [rat (q/r) (n+m)])))):=ah
theorem I0 {q r:Rat} {n m:Nat} (hn:n<2^41) (hm':m<2^41) (K:Nat):aY P 93 K [.rat q n,.rat r m] [] (aT (.rat (q/r) (n+m)) []):=by
 refine cB hT abK hm acu rfl br rfl 60 aaN (fun _=>?_) K []
 simp only[af.all,aF]
 (repeat' with_reducible refine And.intro ?_ ?_)
 all_goals first|omega|exact bg.refl _
def NS (a b:Rat×Nat):AV:=rA (a.1/b.1) (a.2+b.2)
def kL (s:Nat):Kind (Nat×(Nat->Rat)):=⟨fun v=>match xe v with
 |some (n,f)=>some ((n,fun i=>aN (f i)),[cX f n s])
 |none=>none,fun a=>bS a.2 a.1 s,fun {v a q} h hq=>by
  split at h
  ·rename_i h1
   simp only[aB,Prod.mk.injEq]at h
   obtain⟨rfl,rfl⟩:=h
   exact Vp h1 hq
  ·simp at h⟩
def ic (s:Nat):Kind Rat:=⟨fun v=>match pJ v with
 |some (q,n)=>some (q,[n<=s])
 |none=>none,fun a=>.rat a s,fun {v a q} h hq=>by
  split at h
  ·rename_i h1
   simp only[aB,Prod.mk.injEq]at h
   obtain⟨rfl,rfl⟩:=h
   exact(wU h1).trans (oJ hq)
  ·simp at h⟩
structure ym (α:Type) where
 read:List AV->Option (α×List Prop)
 make:α->List AV
 ok:∀{l:List AV} {a:α} {q:List Prop},read l=some (a,q)->aF q->ir l (make a)
def kN:ym Unit:=⟨fun l=>match l with
 |[]=>some ((),[])
 |_=>none,fun _=>[],fun {l a q} h _=>by
  split at h
  ·trivial
  ·simp at h⟩
def kC {α β:Type} (k:Kind α) (kl:ym β):ym (α×β):=⟨fun l=>match l with
 |v::l=>match k.read v,kl.read l with
  |some (a,p),some (b,q)=>some ((a,b),p++q)
  |_,_=>none
 |[]=>none,fun a=>k.make a.1::kl.make a.2,fun {l a q} h hq=>by
  split at h
  ·split at h
   ·rename_i h1 h2
    simp only[aB,Prod.mk.injEq]at h
    obtain⟨rfl,rfl⟩:=h
    obtain⟨q1,q2⟩:=iy.1 hq
    exact⟨k.ok h1 q1,kl.ok h2 q2⟩
   ·simp at h
  ·simp at h⟩
def eR {α:Type} (k:ym α) (g:α->AV) (need:α->List Prop):Spec:=cw fun l=>match k.read l with
 |some (a,p)=>some (aT (g a) (p++need a))
 |none=>none
theorem fk {α:Type} {f:FuncId} {k:ym α} {g:α->AV} {need:α->List Prop} (h:∀a K,aF (need a)->aY P f K (k.make a) [] (aT (g a) [])):bF P (eR k g need) f:=by
 refine cY fun K args r hk hs _=>?_
 split at hs
 ·rename_i h1
  simp only[aB]at hs
  subst hs
  intro hn
  obtain⟨n1,hn⟩:=iy.1 hn
  exact je (h _ K hn) hk (k.ok h1 n1) [] trivial
 ·simp at hs
end Go.Am.B
namespace Go.Am
def gl (p:Nat->Rat):Nat->Nat->Rat
 |0,i=>p i
 |k+1,i=>gl p k (i+1)-gl p k i
def gI (n:Nat) (p:Nat->Rat) (k:Nat):Rat:=((bn (n-1) k:Int):Rat)*gl p k 0
def lC (n:Nat) (c:Nat->Rat) (i:Nat):Nat->Rat
 |0=>0
 |k+1=>lC n c i k+((bn i k:Int):Rat)/((bn (n-1) k:Int):Rat)*c k
def jd (n:Nat) (c:Nat->Rat) (i:Nat):Rat:=lC n c i (i+1)
def o8 (m:Nat) (p:Nat->Rat) (k j:Nat):Rat:=gl p (min k (m-j)) j
def lT (m:Nat) (p:Nat->Rat) (k i j:Nat):Rat:=if j<i then gl p (k+1) j else o8 m p k j
theorem DK {m k j:Nat} {p:Nat->Rat} (h:k+j<=m):o8 m p k j=gl p k j:=by unfold o8;rw[show min k (m-j)=k by omega]
theorem RB {m k j:Nat} {p:Nat->Rat}:lT m p k (m-k) j=o8 m p (k+1) j:=by
 unfold lT o8
 split
 ·rw[show min (k+1) (m-j)=k+1 by omega]
 ·rw[show min (k+1) (m-j)=min k (m-j) by omega]
theorem aaP {m k i j:Nat} {p:Nat->Rat} (h:i+k<m):(if j=i then lT m p k i (i+1)-lT m p k i i else lT m p k i j)=lT m p k (i+1) j:=by
 unfold lT
 by_cases h1:j=i
 ·subst h1
  rw[if_pos rfl,if_neg (by omega),if_neg (by omega),if_pos (by omega),DK (by omega),DK (by omega)];rfl
 ·rw[if_neg h1]
  by_cases h2:j<i
  ·rw[if_pos h2,if_pos (by omega)]
  ·rw[if_neg h2,if_neg (by omega)]
def cr (k:Nat->Rat):Nat->Nat
 |0=>0
 |n+1=>if k n=0 then cr k n else n+1
theorem fU {k:Nat->Rat}:∀{n:Nat},cr k n<=n
 |0=>Nat.le_refl _
 |n+1=>by unfold cr;split;exact Nat.le_succ_of_le fU;exact Nat.le_refl _
theorem GJ {k:Nat->Rat}:∀{n:Nat},0<cr k n->k (cr k n-1)≠0
 |0,h=>by simp[cr]at h
 |n+1,h=>by
  unfold cr at h ⊢
  split
  ·rename_i h1;rw[if_pos h1]at h;exact GJ h
  ·rename_i h1;simpa using h1
theorem Gk {k:Nat->Rat}:∀{n i:Nat},cr k n<=i->i<n->k i=0
 |0,_,_,h=>absurd h (Nat.not_lt_zero _)
 |n+1,i,h,hi=>by
  unfold cr at h
  split at h
  ·rename_i h1
   rcases Nat.lt_or_ge i n with h2|h2
   ·exact Gk h h2
   ·rw[show i=n by omega];exact h1
  ·omega
theorem zN {k:Nat->Rat} {n:Nat} (h:n=0\/k (n-1)≠0):cr k n=n:=by
 cases n with
 |zero=>rfl
 |succ n=>unfold cr;rw[if_neg (by simpa using h)]
theorem BY {k l:Nat->Rat}:∀{n:Nat},(∀i,i<n->k i=l i)->cr k n=cr l n
 |0,_=>rfl
 |n+1,h=>by unfold cr;rw[h n (by omega),BY fun i hi=>h i (by omega)]
theorem Gr {k:Nat->Rat} {n:Nat}:∀{m:Nat},(∀i,n<=i->i<n+m->k i=0)->cr k (n+m)=cr k n
 |0,_=>rfl
 |m+1,h=>by
  show cr k (n+m+1)=_
  unfold cr
  rw[if_pos (h (n+m) (by omega) (by omega)),Gr fun i h1 h2=>h i h1 (by omega)]
  cases n<;>rfl
end Go.Am
namespace Go.Am.B
open Go Go.Am.N AV af au IntKind Proofs.Tryz
def ag:Nat:=68719476736
def dy (n:Nat) (k:Nat->Rat):Prop:=∀i,i<n->Sz (k i) ag
abbrev xx:Code:=aJ f157
abbrev yM:List Nat:=[3,9,10,11]
abbrev Gl (n:Nat) (k:Nat->Rat) (s i:Nat):List AV:=[.own 0 3 0 n,bS k n s,.int .i64 n,.int .i64 i]
def Mc:Spec:=wN fun K l=>match l with
 |[v]=>match(kL ag).read v with
  |some ((n,k),q)=>some ⟨.own K 3 0 n,[(K,dL n k ag)],q++[n<2^40,dy n k]⟩
  |none=>none
 |_=>none
def sL:bG:=zG::(157,Mc)::(158,Em)::gF
abbrev yg:Code:=aJ f115
abbrev yR:Code:=part yg [1,1,1,0,1,0,0]
abbrev wS:Code:=part yR [1,1,0,0]
abbrev sR:List Nat:=[0,3,4,17,18,19]
abbrev BW (m:Nat) (p:Nat->Rat) (k:Nat):List AV:=[bS p (m+1) ag,.own 0 3 0 (m+1-k),.own 1 3 0 k,bS (fun i=>((bn m i:Int):Rat)) (m+1) 64,.int .i64 (m+1:Nat),.int .i64 k]
abbrev s8 (m:Nat) (d x:Nat->Rat) (k:Nat):aG:=[(1,dL k x ag),(0,dL (m+1) d ag)]
abbrev yd:List Nat:=[0,3,4,17,18,19,38,39]
abbrev D4 (m:Nat) (p:Nat->Rat) (k i:Nat):List AV:=[bS p (m+1) ag,.own 0 3 0 (m+1-k),.own 1 3 0 (k+1),bS (fun i=>((bn m i:Int):Rat)) (m+1) 64,.int .i64 (m+1:Nat),.int .i64 k,.int .i64 (m-k:Nat),.int .i64 i]
theorem Lt:bC 115 f115:=bD func115
theorem aa9 {m:Nat} {p:Nat->Rat}:aK T sL [] 60 sR (before yg [1,1,1,0,1]) ⟨bf 0 [bS p (m+1) ag],[],0⟩=
  let c3:Nat:=m+1;let c4:Int:=(↑c3:Int);let c1:Int:=c4-1;let c2:Int:=if c1<0 then(0:Int)else c1;some (aj [cX (fun i=>rat (p i) ag) c3 ag,c3<2^40,dy c3 fun i=>aN (rat (p i) ag)] (aj [(0:Int)<=0/\(0:Int)<=c4/\c4<=2^47/\c4*(↑(56:Nat):Int)<=2^47] (aj [-(2:Int)^63<=c1/\c1<2^63,(0:Int)<=c2,c2<=40] (leaf normal ([az 3 c3 fun i=>rat (p i) ag,own 8192 3 0 c3,own 24576 3 0 0,az 3 (c2.toNat+1) fun i=>rat (↑(↑(bn c2.toNat i):Int):Rat) 64,int i64 (↑(c2.toNat+1):Int),int i64 0],[(24576,aC.mk true true 3 0 fun x=>rat 0 1),(8192,aC.mk true true 3 c3 fun i=>rat (aN (rat (p i) ag)) ag)]))))):=ah
theorem ac4 {m k:Nat} {p d x:Nat->Rat}:aK T sL [20] 60 sR (before yR [1,1,0]) ⟨aH sR (BW m p k),s8 m d x k,2⟩=
  let c2:Nat:=m+1;let c1:List AV×aG:=([az 3 c2 fun i=>rat (p i) ag,own 0 3 0 (c2-k),own 1 3 0 k,az 3 c2 fun i=>rat (↑(↑(bn m i):Int):Rat) 64,int i64 (↑c2:Int),int i64 (↑k:Int)],[(1,aC.mk true true 3 k fun i=>rat (x i) ag),(0,aC.mk true true 3 c2 fun i=>rat (d i) ag)]);some (fork (decide ((↑k:Int)<(↑c2:Int))) (leaf normal c1) (leaf (exit 0) c1)):=ah
theorem aba {m k:Nat} {p d x:Nat->Rat}:aK T sL [200027] 60 yd (before wS [1,1,1,0,1]) ⟨aH sR (BW m p k),s8 m d x k,2⟩=
  let c4:Int:=(↑k:Int);let c3:Nat:=Int.toNat (0:Int);let c1:Nat:=m+1;let c2:Int:=(↑(c1-k):Int)-1;some (aj [(0:Int)<=c4/\c4.toNat<c1,(0:Nat)<1] (aj [(c4==(↑c1:Int))=false] (aj [(0:Nat)<1,(0:Int)<=0/\c3<c1-k,c3+0<c1,(64:Nat)<2^42,ag<2^42,(1:Nat)*3<=2^24,(k+1)*((56:Nat)+1)*2<=2^47] (aj [-(2:Int)^63<=c2/\c2<2^63] (leaf normal ([az 3 c1 fun i=>rat (p i) ag,own 0 3 0 (c1-k),own 69634 3 0 (k+1),az 3 c1 fun i=>rat (↑(↑(bn m i):Int):Rat) 64,int i64 (↑c1:Int),int i64 c4,int i64 c2,int i64 0],[(69634,aC.mk true true 3 (k+1) fun i=>if i<k then rat (x i) ag else nth [rat ((↑(↑(bn m c4.toNat):Int):Rat)*d (c3+0)) ((64:Nat)+ag)] (rat 0 1) (i-k+0)),(0,aC.mk true true 3 c1 fun i=>rat (d i) ag)])))))):=ah
theorem afp {m k i:Nat} {p d x:Nat->Rat}:aK T sL [40] 60 yd [part wS [1,1,1,0,1,0,0]] ⟨aH yd (D4 m p k i),s8 m d x (k+1),2⟩=
  let c13:Prop:=ag<2^42;let c11:Int:=(↑(m-k):Int);let c9:AV:=own 1 3 0 (k+1);let c7:Int:=(↑i:Int);let c6:Int:=(2:Int)^63;let c4:Nat×aC:=(1,aC.mk true true 3 (k+1) fun i=>rat (x i) ag);let c2:Nat:=m+1;let c12:Prop:=(0:Int)<=c7/\c7.toNat<c2-k;let c10:AV:=own 0 3 0 (c2-k);let c8:AV:=az 3 c2 fun i=>rat (p i) ag;let c5:AV:=az 3 c2 fun i=>rat (↑(↑(bn m i):Int):Rat) 64;let c3:Nat:=c7.toNat+0;let c1:Int:=c7+1;some (fork (decide (c7<c11)) (aj [-c6<=c1/\c1<c6,(0:Int)<=c1/\c1.toNat<c2-k,c1.toNat+0<c2,c12,c3<c2,c13,c13,c12,c3<c2] (aj [-c6<=c1/\c1<c6] (leaf normal ([c8,c10,c9,c5,int i64 (↑c2:Int),int i64 (↑k:Int),int i64 c11,int i64 c1],[c4,(0,aC.mk true true 3 c2 fun j=>rat (bif j==c3 then d (c1.toNat+0)-d c3 else d j) (bif j==c3 then ag+ag+1 else ag))])))) (leaf (exit 2) ([c8,c10,c9,c5,int i64 (↑c2:Int),int i64 (↑k:Int),int i64 c11,int i64 c7],[c4,(0,aC.mk true true 3 c2 fun i=>rat (d i) ag)]))):=ah
theorem abp {m k i:Nat} {p d x:Nat->Rat}:aK T sL [] 60 sR (behind wS [1,1,1,0,1]++[part yR [1,1,1]]) ⟨aH yd (D4 m p k i),s8 m d x (k+1),2⟩=
  let c4:Int:=(↑k:Int)+1;let c3:Nat:=m+1;let c2:Int:=(2:Int)^63;let c1:Int:=(↑(c3-k):Int)-1;some (aj [-c2<=c1/\c1<c2,(0:Int)<=0/\(0:Int)<=c1/\c1<=c1/\c1<=(↑(c3-k):Int)] (aj [-c2<=c4/\c4<c2] (leaf normal ([az 3 c3 fun i=>rat (p i) ag,own 0 3 0 (c1.toNat-Int.toNat (0:Int)),own 1 3 0 (k+1),az 3 c3 fun i=>rat (↑(↑(bn m i):Int):Rat) 64,int i64 (↑c3:Int),int i64 c4],[(1,aC.mk true true 3 (k+1) fun i=>rat (x i) ag),(0,aC.mk true true 3 c3 fun i=>rat (d i) ag)])))):=ah
theorem VS {m k:Nat} {p d x:Nat->Rat}:dJ T sL [] 60 f115 [part yg [1,1,1,1]] ⟨aH sR (BW m p k),s8 m d x k,2⟩=
  some (leaf ret [az 3 k fun i=>rat (x (i+0)) ag]):=ah
theorem Oq:bC 157 f157:=bD func157
theorem ZE {n s:Nat} {k:Nat->Rat}:aK T GZ [] 60 yM (before xx [1,1,0,1]) ⟨bf 0 [bS k n s],[],0⟩=
  let c1:Int:=(↑n:Int);some (aj [(0:Int)<=c1/\c1<=c1/\c1<=2^47/\c1*(↑(56:Nat):Int)<=2^47] (leaf normal ([own 12288 3 0 c1.toNat,az 3 n fun i=>rat (k i) s,int i64 c1,int i64 0],[(12288,aC.mk true true 3 c1.toNat fun x=>rat 0 1)]))):=ah
theorem UF {n s i:Nat} {k x:Nat->Rat}:aK T GZ [12] 60 yM [part xx [1,1,0,1,0,0]] ⟨aH yM (Gl n k s i),[(0,dL n x ag)],1⟩=
  let c7:Int:=(↑n:Int);let c4:AV:=own 0 3 0 n;let c3:AV:=az 3 n fun i=>rat (k i) s;let c1:Int:=(↑i:Int);let c6:Int:=c1+1;let c5:Prop:=(0:Int)<=c1/\c1.toNat<n;let c2:Nat:=c1.toNat+0;some (fork (decide (c1<c7)) (aj [c5,(0:Nat)<1] (aj [(0:Nat)<1,s<2^42,(1:Nat)<2^42,c5,c2<n] (aj [-(2:Int)^63<=c6/\c6<2^63] (leaf normal ([c4,c3,int i64 c7,int i64 c6],[(0,aC.mk true true 3 n fun j=>rat (bif j==c2 then k c1.toNat+0 else x j) (bif j==c2 then s+1+1 else ag))]))))) (leaf (exit 0) ([c4,c3,int i64 c7,int i64 c1],[(0,aC.mk true true 3 n fun i=>rat (x i) ag)]))):=ah
theorem ady {n s i:Nat} {k x:Nat->Rat}:aK T GZ [] 60 [2] [part xx [1,1,1]] ⟨aH yM (Gl n k s i),[(0,dL n x ag)],1⟩=
  some (leaf ret ([own 0 3 0 n],[(0,aC.mk true true 3 n fun i=>rat (x i) ag)])):=ah
theorem dc:ag=2^36:=rfl
theorem qD {rl:List (Nat×Nat)} {i j zt z w:Nat} {t:Rat} {x y:Nat->Rat} (h1:bg (.rat t zt) (.rat (y i) w)) (h2:j≠i->bg (.rat (x j) z) (.rat (y j) w)):qx rl (.rat (bif j==i then t else x j) (bif j==i then zt else z)) (.rat (y j) w):=by
 refine .inr ⟨rfl,?_⟩
 by_cases h:j=i
 ·subst h;rw[beq_self_eq_true];exact h1
 ·rw[show(j==i)=false by simpa using h];exact h2 h
theorem Kx {α:Type} {i j:Nat} {a b:α} (h:j≠i):(if j<i+1 then a else b)=if j<i then a else b:=by
 by_cases h1:j<i
 ·rw[if_pos h1,if_pos aa]
 ·rw[if_neg h1,if_neg aa]
theorem Uz {args:List AV} {n:Nat} {k:Nat->Rat} {l:List Prop} (ha:aF l->iT (bH []) args [bS k n ag]) (hn:aF l->n<2^40/\dy n k) (K:Nat):aY P 157 K args [] ⟨p7 [.own K 3 0 n],[(K,dL n k ag)],l⟩:=by
 refine Kk hT Oq ha br fun need c hk=>?_
 obtain⟨hn,hz⟩:=hn need
 have hW:=dc
 refine aA.qp hT ql hm [1,1,0,1] (i:=0) (y:=part xx [1,1,0,1,0,0]) (z:=part xx [1,1,1]) ah ah ah Oq.dst hk (f1:=[]) (f2:=[12]) 60 yM 1 (fun i:Nat=>Gl n k ag i) (fun i=>[(0,dL n (fun j=>if j<i then k j else 0) ag)])
  (fun i=>i<=n) (fun i=>i=n) (fun i=>n-i) (fun _=>False) ⟨_,ZE,?_⟩ (fun i hi=>⟨_,UF,?_⟩) (fun i hi=>?_) (fun _ _ h=>h.elim)
 ·simp only[af.all,aF,bJ]
  exact⟨aa,0,Nat.zero_le _,[(0,12288)],rfl,rfl,rfl,bX rfl rfl rfl (fun i hi=>.inr ⟨rfl,fh (if_neg (Nat.not_lt_zero i)).symm aa⟩) trivial⟩
 ·simp only[af.all,aF,bI,bO,bJ,Nat.add_zero]
  refine⟨fun h2=>⟨aa,aa,aa,i+1,aa,by dsimp only;omega,[(0,0)],rfl,rfl,rfl,bX rfl rfl rfl (fun j hj=>?_) trivial⟩,fun h2=>⟨rfl,i,aa,[(0,0)],rfl,rfl,rfl,bX rfl rfl rfl (fun j hj=>cA rfl rfl) trivial⟩⟩
  exact qD (x:=fun j=>if j<i then k j else 0) (y:=fun j=>if j<i+1 then k j else 0) (fO ((Rat.add_zero _).trans (if_pos (Nat.lt_succ_self i)).symm) (by show Sz (if i<i+1 then _ else _) _;rw[if_pos (Nat.lt_succ_self i)];exact hz i aa)) fun hj=>fh (Kx hj).symm aX
 ·subst hi
  refine aA.bM hT ql hm 60 [2] ady ah fun s' hs'=>⟨.inr rfl,[2],_,[.own 0 3 0 i],_,0,_,hs',ah,⟨⟨rfl,e9 (by simp[bH,look]) rfl rfl⟩,trivial⟩,rfl,jj rfl fun j hj=>?_⟩
  rw[if_pos hj];exact jS rfl
theorem Zl:bF P Mc 157:=by
 refine G4 fun K args r hk hs=>?_
 split at hs
 ·rename_i v
  split at hs
  ·rename_i n k q hv
   simp only[aB]at hs
   subst hs
   exact Uz (fun hn=>NQ hk (by cases v<;>first|rfl|simp[kL,xe]at hv) ⟨(kL ag).ok hv (iy.1 hn).1,trivial⟩) (fun hn=>have:=(iy (a:=q) (b:=[n<2^40,dy n k]).1 hn).2;⟨this.1,this.2⟩) K
  ·simp at hs
 ·simp at hs
theorem KM:cm P sL:=jD (aM Zl (aM Ob gU))
theorem dy.up {n:Nat} {k:Nat->Rat} {i z:Nat} (h:dy n k) (hi:i<n):bg (.rat (k i) z) (.rat (k i) ag):=fO rfl (h i hi)
def yK (n:Nat) (p:Nat->Rat):Prop:=(∀k i,k+i<n->Sz (gl p k i) ag)/\dy n (gI n p)
theorem Uf {m:Nat} {p:Nat->Rat} (hm1:m<=40) (hz:yK (m+1) p) (K:Nat):aY P 115 K [bS p (m+1) ag] [] (aT (bS (gI (m+1) p) (m+1) ag) []):=by
 refine ja (r:=aT (bS (gI (m+1) p) (m+1) ag) []) hT Lt rfl br rfl (fun _ cx h0=>?_) K []
 have hk:=oD h0
 have hW:=dc
 have hd:∀k i,k+i<=m->Sz (gl p k i) ag:=fun k i h=>hz.1 k i aa
 refine aA.uS hT KM hm (x:=yg) [1,1,1,0,1] (i:=0) (y:=yR) (z:=part yg [1,1,1,1]) ah ah ah Lt.dst [1,1,0] (j:=1) (x1:=wS) (zb:=part yR [1,1,1]) ah ah ah [1,1,1,0,1] (i2:=2) (y2:=part wS [1,1,1,0,1,0,0]) ah ah rfl hk
  (f1:=[]) (f2:=[20]) (f3:=[200027]) (f4:=[40]) (f5:=[]) 60 sR yd 2 2 (fun k:Nat=>BW m p k) (fun k=>s8 m (o8 m p k) (gI (m+1) p) k) (fun k=>k<=m+1) (fun k=>k=m+1) (fun k=>m+1-k) (fun k=>k<m+1) (fun _=>False) (fun _=>False)
  (fun k (i:Nat)=>D4 m p k i) (fun k i=>s8 m (lT m p k i) (gI (m+1) p) (k+1)) (fun k i=>i<=m-k) (fun k i=>i=m-k) (fun k i=>m-k-i)
  ⟨_,aa9,?_⟩ (fun k hk=>⟨_,ac4,?_⟩) (fun k hk hG=>⟨_,aba,?_⟩) (fun k hk hG i hi=>⟨_,afp,?_⟩) (fun k hk hG i hi=>⟨_,abp,?_⟩) (fun k hk=>?_) (fun _ _ h=>h.elim) (fun _ _ h=>h.elim)
 ·simp only[af.all,aF]
  have e1:(if((m+1:Nat):Int)-1<0 then 0 else((m+1:Nat):Int)-1)=(m:Nat):=by rw[if_neg aa];omega
  rw[e1]
  refine⟨⟨eG aX,aa,fun i hi=>hd 0 i aa⟩,aa,aa,0,aa,[(0,8192),(1,24576)],rfl,rfl,rfl,bX rfl rfl rfl (fun i hi=>absurd hi (Nat.not_lt_zero i)) (bX rfl rfl rfl (fun i hi=>cA rfl ?_) trivial)⟩
  show AV.rat (p i) ag=AV.rat (o8 m p 0 i) ag
  unfold o8;rw[Nat.zero_min];rfl
 ·simp only[af.all,aF,bI,bO]
  exact⟨fun h=>⟨aa,[(0,0),(1,1)],rfl,rfl,rfl,bX rfl rfl rfl (fun i hi=>cA rfl rfl) (bX rfl rfl rfl (fun i hi=>cA rfl rfl) trivial)⟩,fun h=>⟨rfl,k,aa,[(0,0),(1,1)],rfl,rfl,rfl,bX rfl rfl rfl (fun i hi=>cA rfl rfl) (bX rfl rfl rfl (fun i hi=>cA rfl rfl) trivial)⟩⟩
 ·simp only[af.all,aF,bJ,beq_eq_false_iff_ne]
  have e0:(0:Int).toNat=0:=rfl
  refine⟨aa,aa,aa,aa,0,aa,[(0,0),(1,69634)],rfl,?_,rfl,bX rfl rfl rfl (fun i hi=>?_) (bX rfl rfl rfl (fun i hi=>cA rfl ?_) trivial)⟩
  ·rw[show((m+1-k:Nat):Int)-1=(m-k:Nat) by omega];rfl
  ·refine .inr ⟨?_,?_⟩
   ·split
    ·rfl
    ·rw[show i-k+0=0 by omega];rfl
   ·split
    ·exact .refl _
    ·rw[show i-k+0=0 by omega,show i=k by omega]
     exact fO (by rw[DK aa];rfl) (hz.2 k hG)
  ·show AV.rat (o8 m p k i) ag=AV.rat (lT m p k 0 i) ag
   unfold lT;rw[if_neg (Nat.not_lt_zero i)]
 ·simp only[af.all,aF,bI,bO,bJ,Nat.add_zero]
  have e1:((i:Int)+1).toNat=i+1:=aa
  rw[e1]
  refine⟨fun h=>⟨aa,aa,i+1,aa,by dsimp only;omega,[(0,0),(1,1)],rfl,rfl,rfl,bX rfl rfl rfl (fun j hj=>cA rfl rfl) (bX rfl rfl rfl (fun j hj=>?_) trivial)⟩,fun h=>⟨rfl,i,aa,[(0,0),(1,1)],rfl,rfl,rfl,bX rfl rfl rfl (fun j hj=>cA rfl rfl) (bX rfl rfl rfl (fun j hj=>cA rfl rfl) trivial)⟩⟩
  have h3:=fun j=>aaP (m:=m) (k:=k) (i:=i) (j:=j) (p:=p) aa
  exact qD (x:=lT m p k i) (y:=lT m p k (i+1)) (fO ((if_pos rfl).symm.trans (h3 i)) (by unfold lT;rw[if_pos (Nat.lt_succ_self i)];exact hd _ _ aa)) fun hj=>fh ((if_neg hj).symm.trans (h3 j)) aX
 ·subst hi
  simp only[af.all,aF]
  refine⟨aa,aa,k+1,aa,by dsimp only;omega,[(0,0),(1,1)],rfl,?_,rfl,bX rfl rfl rfl (fun j hj=>cA rfl rfl) (bX rfl rfl rfl (fun j hj=>cA rfl ?_) trivial)⟩
  ·rw[show(((m+1-k:Nat):Int)-1).toNat-(0:Int).toNat=m+1-(k+1) by omega];rfl
  ·show AV.rat (lT m p k (m-k) j) ag=AV.rat (o8 m p (k+1) j) ag
   rw[RB]
 ·subst hk
  exact aA.oQ ((aI.fin hT KM hm 60 VS ah (ko fun _ _=>.refl _)).mono fun _ _ h=>.inl h)
def LS:Spec:=eR (kC (kL ag) kN) (fun a=>bS (gI a.1.1 a.1.2) a.1.1 ag) fun a=>[1<=a.1.1,a.1.1<=41,yK a.1.1 a.1.2]
theorem Y8:bF P LS 115:=fk fun⟨⟨n,p⟩,_⟩ K hn=>by
 obtain⟨h1,h2,h3⟩:=hn
 simp only at h1 h2 h3
 obtain⟨m,rfl⟩:∃m,n=m+1:=⟨n-1,aa⟩
 exact Uf aa h3 K
end Go.Am.B
namespace Go.Am
def iC (e:Nat) (d:Nat->Rat) (k:Nat) (r:Nat->Rat) (i:Nat):Rat:=if k<=i/\i<k+e+1 then r i-r (k+e)/d e*d (i-k)else r i
def cM (e:Nat) (d a:Nat->Rat) (R:Nat):Nat->Nat->Rat
 |0=>a
 |j+1=>iC e d (R-1-j) (cM e d a R j)
def fN (e:Nat) (d a:Nat->Rat) (R k:Nat):Rat:=cM e d a R (R-1-k) (k+e)/d e
theorem Lv {e k:Nat} {d r:Nat->Rat} (hd:d e≠0):iC e d k r (k+e)=0:=by
 unfold iC
 rw[if_pos (by omega),show k+e-k=e by omega,Rat.div_mul_cancel hd,Rat.sub_self]
theorem ad3 {e k:Nat} {d r:Nat->Rat} (h:r (k+e)=0):iC e d k r=r:=by
 funext i
 unfold iC
 split
 ·rw[h,Rat.div_def,Rat.zero_mul,Rat.zero_mul];grind
 ·rfl
section
variable {n e R:Nat} {d a:Nat->Rat}
def fP (n R L:Nat):Nat:=min (n-L) R
theorem Ez (hR:R=n-e) {L:Nat} (hL:L<=n) (hz:∀i,L<=i->i<n->cM e d a R (fP n R L) i=0):∀m,m<=L->(∀i,L-m<=i->i<n->cM e d a R (fP n R L) i=0)->cM e d a R (fP n R (L-m))=cM e d a R (fP n R L)
 |0,_,_=>rfl
 |m+1,hm,h=>by
  have ih:=Ez hR hL hz m (by omega) (fun i h1 h2=>h i (by omega) h2)
  rw[<-ih]
  by_cases h1:n-(L-m)<R
  ·rw[show fP n R (L-(m+1))=n-(L-m)+1 by unfold fP;omega,show fP n R (L-m)=n-(L-m) by unfold fP;omega]
   show iC e d (R-1-(n-(L-m))) (cM e d a R (n-(L-m)))=_
   refine ad3 ?_
   rw[show n-(L-m)=fP n R (L-m) by unfold fP;omega,ih]
   exact h _ (by unfold fP;omega) (by unfold fP;omega)
  ·rw[show fP n R (L-(m+1))=fP n R (L-m) by unfold fP;omega]
structure lM (n e R:Nat) (d a:Nat->Rat) (L:Nat) (x q:Nat->Rat):Prop where
 le:L<=n
 x5:∀i,i<L->x i=cM e d a R (fP n R L) i
 zero:∀i,L<=i->i<n->cM e d a R (fP n R L) i=0
 top:L=0\/cM e d a R (fP n R L) (L-1)≠0
 quo:∀k,k<R->q k=if k+e<L then 0 else fN e d a R k
theorem lM.start (hR:R=n-e) (ha:n=0\/a (n-1)≠0):lM n e R d a n a fun _=>0 where
 le:=Nat.le_refl _
 x5 i hi:=by rw[show fP n R n=0 by unfold fP;omega];rfl
 zero i h1 h2:=by omega
 top:=by rw[show fP n R n=0 by unfold fP;omega];exact ha
 quo k hk:=by rw[if_pos (by omega)]
def jo (e:Nat) (d x:Nat->Rat) (k:Nat) (f:Rat) (i j:Nat):Rat:=if k<=j/\j<k+i then x j-f*d (j-k)else x j
variable {L:Nat} {x q:Nat->Rat}
theorem lM.quot (hR:R=n-e) (h:lM n e R d a L x q) (hL:e<L):x (L-1)/d e=fN e d a R (L-1-e):=by
 have:=h.le
 unfold fN
 rw[h.x5 _ (by omega),show fP n R L=R-1-(L-1-e) by unfold fP;omega,show L-1-e+e=L-1 by omega]
theorem lM.HO (hR:R=n-e) (h:lM n e R d a L x q) (hL:e<L) {i j:Nat} (hi:i<=e) (hj:j<L-1) (hij:j<L-1-e+i):jo e d x (L-1-e) (x (L-1)/d e) i j=cM e d a R (n-L+1) j:=by
 have hl:=h.le
 have e1:fP n R L=n-L:=by unfold fP;omega
 show _=iC e d (R-1-(n-L)) (cM e d a R (n-L)) j
 rw[show R-1-(n-L)=L-1-e by omega]
 unfold jo iC
 rw[show L-1-e+e=L-1 by omega,<-e1,<-h.x5 j (by omega),<-h.x5 (L-1) (by omega)]
 by_cases hk:L-1-e<=j
 ·rw[if_pos ⟨hk,hij⟩,if_pos (by omega)]
 ·rw[if_neg (by omega),if_neg (by omega)]
theorem lM.next (hR:R=n-e) (hd:d e≠0) (h:lM n e R d a L x q) (hL:e<L):
  lM n e R d a (cr (jo e d x (L-1-e) (x (L-1)/d e) e) (L-1)) (jo e d x (L-1-e) (x (L-1)/d e) e) fun j=>if j=L-1-e then x (L-1)/d e else q j:=by
 have hl:=h.le
 have hu:∀j,j<L-1->jo e d x (L-1-e) (x (L-1)/d e) e j=cM e d a R (n-L+1) j:=fun j hj=>h.HO hR hL (Nat.le_refl _) hj (by omega)
 have e1:fP n R L=n-L:=by unfold fP;omega
 have e2:fP n R (L-1)=n-L+1:=by unfold fP;omega
 obtain⟨M,hM⟩:∃M,M=cr (jo e d x (L-1-e) (x (L-1)/d e) e) (L-1):=⟨_,rfl⟩
 have hM2:M=cr (cM e d a R (n-L+1)) (L-1):=by rw[hM];exact BY hu
 have hMl:M<=L-1:=by rw[hM2];exact fU
 have hz1:∀i,L-1<=i->i<n->cM e d a R (n-L+1) i=0:=fun i h1 h2=>by
  show iC e d (R-1-(n-L)) (cM e d a R (n-L)) i=0
  rw[show R-1-(n-L)=L-1-e by omega]
  by_cases h3:i=L-1
  ·have:=Lv (k:=L-1-e) (r:=cM e d a R (n-L)) hd
   rwa [show L-1-e+e=i by omega]at this
  ·unfold iC
   rw[if_neg (by omega),<-e1]
   exact h.zero i (by omega) h2
 have hz:∀i,M<=i->i<n->cM e d a R (n-L+1) i=0:=fun i h1 h2=>by
  rcases Nat.lt_or_ge i (L-1)with h3|h3
  ·exact Gk (by rw[<-hM2];exact h1) h3
  ·exact hz1 i h3 h2
 have hs:cM e d a R (fP n R M)=cM e d a R (n-L+1):=by
  have:=Ez (d:=d) (a:=a) hR (L:=L-1) (by omega) (by rw[e2];exact hz1) (L-1-M) (by omega) (by rw[e2,show L-1-(L-1-M)=M by omega];exact hz)
  rwa [show L-1-(L-1-M)=M by omega,e2]at this
 rw[<-hM]
 refine⟨by omega,fun i hi=>by rw[hs];exact hu i (by omega),fun i h1 h2=>by rw[hs];exact hz i h1 h2,?_,fun k hk=>?_⟩
 ·rw[hs]
  rcases Nat.eq_zero_or_pos M with h0|h0
  ·exact .inl h0
  ·right
   rw[hM2]at h0 ⊢
   exact GJ h0
 ·show(if k=L-1-e then x (L-1)/d e else q k)=_
  by_cases h1:k=L-1-e
  ·rw[if_pos h1,if_neg (by omega),h.quot hR hL,h1]
  ·rw[if_neg h1,h.quo k hk]
   by_cases h2:k+e<M
   ·rw[if_pos h2,if_pos (by omega)]
   ·rw[if_neg h2]
    by_cases h3:k+e<L
    ·rw[if_pos h3]
     -- a round that did nothing
     have hk2:k+e<L-1:=by omega
     unfold fN
     have e3:=Ez (d:=d) (a:=a) hR (L:=L-1) (by omega) (by rw[e2];exact hz1) (L-1-(k+e+1)) (by omega) (by rw[e2,show L-1-(L-1-(k+e+1))=k+e+1 by omega];exact fun i h1 h2=>hz i (by omega) h2)
     rw[show L-1-(L-1-(k+e+1))=k+e+1 by omega,e2]at e3
     rw[show R-1-k=fP n R (k+e+1) by unfold fP;omega,e3,hz (k+e) (by omega) (by omega),Rat.div_def,Rat.zero_mul]
    ·rw[if_neg h3]
theorem lM.fin (hR:R=n-e) (h:lM n e R d a L x q) (hL:L<=e):L=cr (cM e d a R R) n/\(∀i,i<L->x i=cM e d a R R i)/\∀k,k<R->q k=fN e d a R k:=by
 have hl:=h.le
 have e1:fP n R L=R:=by unfold fP;omega
 have hz:=h.zero
 have ht:=h.top
 have ha:=h.x5
 rw[e1]at hz ht ha
 refine⟨?_,ha,fun k hk=>by rw[h.quo k hk,if_neg (by omega)]⟩
 have:=Gr (k:=cM e d a R R) (n:=L) (m:=n-L) fun i h1 h2=>hz i h1 (by omega)
 rw[show L+(n-L)=n by omega,zN ht]at this
 exact this.symm
end
end Go.Am
namespace Go.Am
abbrev PP:=Nat×(Nat->Rat)
def fe (a d:PP):PP:=(cr (cM (d.1-1) d.2 a.2 (a.1-(d.1-1)) (a.1-(d.1-1))) a.1,cM (d.1-1) d.2 a.2 (a.1-(d.1-1)) (a.1-(d.1-1)))
def gJ (a d:PP):PP:=(cr (fN (d.1-1) d.2 a.2 (a.1-(d.1-1))) (a.1-(d.1-1)),fN (d.1-1) d.2 a.2 (a.1-(d.1-1)))
def cT (n:Nat) (c:Nat->Rat) (i:Nat):Rat:=c i/c (n-1)
def gq (a:PP):PP:=(a.1,cT a.1 a.2)
def dF (c:Nat->Rat) (i:Nat):Rat:=((i+1:Nat):Int)*c (i+1)
def bh (a:PP):PP:=(cr (dF a.2) (a.1-1),dF a.2)
def Trim (a:PP):Prop:=a.1=0\/a.2 (a.1-1)≠0
theorem mU {k:Nat->Rat} {n:Nat}:Trim (cr k n,k):=by
 rcases Nat.eq_zero_or_pos (cr k n)with h|h
 ·exact .inl h
 ·exact .inr (GJ h)
theorem sW {a d:PP}:Trim (fe a d):=mU
theorem Bk {a d:PP}:Trim (gJ a d):=mU
theorem dS {a:PP}:Trim (bh a):=mU
theorem oo {a:PP} (h:Trim a):Trim (gq a):=by
 rcases h with h|h
 ·exact .inl h
 ·right
  show cT a.1 a.2 (a.1-1)≠0
  unfold cT
  rw[Rat.div_def,Rat.mul_inv_cancel _ h];decide
theorem HG {n e R:Nat} {d a:Nat->Rat} (hR:R=n-e) (hd:d e≠0):∀j,j<=R->∀i,n-j<=i->i<n->cM e d a R j i=0
 |0,_,i,h1,h2=>by omega
 |j+1,hj,i,h1,h2=>by
  show iC e d (R-1-j) (cM e d a R j) i=0
  by_cases h:i=R-1-j+e
  ·rw[h];exact Lv hd
  ·unfold iC
   rw[if_neg (by omega)]
   exact HG hR hd j (by omega) i (by omega) h2
theorem oG {a d:PP} (hd:0<d.1) (ht:Trim d):(fe a d).1<d.1:=by
 show cr _ _<_
 have h0:d.2 (d.1-1)≠0:=by rcases ht with h|h;omega;exact h
 have:=fun i=>HG (n:=a.1) (a:=a.2) (rfl) h0 _ (Nat.le_refl (a.1-(d.1-1))) i
 rcases Nat.lt_or_ge a.1 d.1 with h|h
 ·exact Nat.lt_of_le_of_lt fU h
 ·have e1:=Gr (k:=cM (d.1-1) d.2 a.2 (a.1-(d.1-1)) (a.1-(d.1-1))) (n:=d.1-1) (m:=a.1-(d.1-1)) fun i h1 h2=>this i (by omega) (by omega)
  rw[show d.1-1+(a.1-(d.1-1))=a.1 by omega]at e1
  rw[e1]
  have:=fU (k:=cM (d.1-1) d.2 a.2 (a.1-(d.1-1)) (a.1-(d.1-1))) (n:=d.1-1)
  omega
def gN (s:PP×PP):PP×PP:=if s.2.1=0 then s else(s.2,gq (fe s.1 s.2))
def ct (s:PP×PP):Nat->PP×PP
 |0=>s
 |j+1=>gN (ct s j)
theorem mH {s:PP×PP} (h1:Trim s.1) (h2:Trim s.2):∀j,Trim (ct s j).1/\Trim (ct s j).2
 |0=>⟨h1,h2⟩
 |j+1=>by
  have:=mH h1 h2 j
  show Trim (gN _).1/\Trim (gN _).2
  unfold gN
  split
  ·exact this
  ·exact⟨this.2,oo sW⟩
theorem BE {s:PP×PP} (h1:Trim s.1) (h2:Trim s.2):∀j,(ct s j).2.1<=s.2.1-j
 |0=>Nat.le_refl _
 |j+1=>by
  have:=BE h1 h2 j
  have ht:=mH h1 h2 j
  show(gN _).2.1<=_
  unfold gN
  split
  ·rename_i h;rw[h];exact Nat.zero_le _
  ·rename_i h
   have:=oG (a:=(ct s j).1) (d:=(ct s j).2) (by omega) ht.2
   show(fe _ _).1<=_
   omega
theorem OE {s:PP×PP} {j:Nat} (h:(ct s j).2.1=0):∀m,ct s (j+m)=ct s j
 |0=>rfl
 |m+1=>by
  show gN (ct s (j+m))=_
  rw[OE h m]
  unfold gN
  rw[if_pos h]
theorem tO {s:PP×PP} (h:0<s.1.1):∀j,0<(ct s j).1.1
 |0=>h
 |j+1=>by
  have:=tO h j
  show 0<(gN _).1.1
  unfold gN
  split
  ·exact this
  ·dsimp only;omega
theorem Cg {s:PP×PP} {B:Nat} (ha:s.1.1<=B) (hb:s.2.1<=B) (h1:Trim s.1) (h2:Trim s.2):∀j,(ct s j).1.1<=B
 |0=>ha
 |j+1=>by
  have:=Cg ha hb h1 h2 j
  have h3:=BE h1 h2 j
  show(gN _).1.1<=_
  unfold gN
  split
  ·exact this
  ·dsimp only;omega
def bL (a b:PP):PP:=gq (ct (a,b) b.1).1
theorem aed {a b:PP} (h1:Trim a) (h2:Trim b) {j:Nat} (hj:j<=b.1) (h:(ct (a,b) j).2.1=0):gq (ct (a,b) j).1=bL a b:=by
 have:=OE h (b.1-j)
 rw[show j+(b.1-j)=b.1 by omega]at this
 unfold bL
 rw[this]
theorem j8 {a b:PP} (h1:Trim a) (h2:Trim b):Trim (bL a b):=oo (mH (s:=(a,b)) h1 h2 _).1
theorem mP {a b:PP} (h:0<a.1):0<(bL a b).1:=tO (s:=(a,b)) h _
def aW (a:PP):PP:=if a.1=0 then(0,a.2)else gq (gJ a (bL a (bh a)))
def mL (s:PP×PP):PP×PP:=(s.2,((fe s.1 s.2).1,fun i=>((-1:Int):Rat)*(fe s.1 s.2).2 i))
def bZ (s:PP×PP):Nat->PP×PP
 |0=>s
 |j+1=>mL (bZ s j)
theorem uB {a:PP} {r:Rat} (h:Trim a) (hr:r≠0):Trim (a.1,fun i=>r*a.2 i):=by
 rcases h with h|h
 ·exact .inl h
 ·right
  show r*a.2 (a.1-1)≠0
  intro h0
  rcases Rat.mul_eq_zero.1 h0 with h1|h1
  ·exact hr h1
  ·exact h h1
theorem m9 {s:PP×PP} (h1:Trim s.1) (h2:Trim s.2):∀j,Trim (bZ s j).1/\Trim (bZ s j).2
 |0=>⟨h1,h2⟩
 |j+1=>⟨(m9 h1 h2 j).2,uB (a:=fe (bZ s j).1 (bZ s j).2) sW (by decide)⟩
def stM (s:PP×PP):Nat->Nat->Nat
 |0,j=>j
 |f+1,j=>if(bZ s j).2.1=0 then j else stM s f (j+1)
def fl (s:PP×PP):Nat:=stM s s.2.1 0
theorem Nd {s:PP×PP} (h1:Trim s.1) (h2:Trim s.2):∀f j,(bZ s j).2.1<=f->j<=stM s f j/\stM s f j<=j+f/\(bZ s (stM s f j)).2.1=0/\∀i,j<=i->i<stM s f j->(bZ s i).2.1≠0
 |0,j,h=>⟨Nat.le_refl _,by show j<=_;omega,by show(bZ s j).2.1=0;omega,fun i h1 h2=>by have:i<j:=h2;omega⟩
 |f+1,j,h=>by
  unfold stM
  split
  ·rename_i h0
   exact⟨Nat.le_refl _,by omega,h0,fun i h1 h2=>by omega⟩
  ·rename_i h0
   have hr:=oG (a:=(bZ s j).1) (d:=(bZ s j).2) (by omega) (m9 h1 h2 j).2
   have hr:(bZ s (j+1)).2.1<(bZ s j).2.1:=hr
   obtain⟨g1,g2,g3,g4⟩:=Nd h1 h2 f (j+1) (by omega)
   refine⟨by omega,by omega,g3,fun i k1 k2=>?_⟩
   rcases Nat.eq_or_lt_of_le k1 with h|h
   ·subst h;exact h0
   ·exact g4 i h k2
theorem mc {s:PP×PP} (h1:Trim s.1) (h2:Trim s.2):fl s<=s.2.1/\(bZ s (fl s)).2.1=0/\∀i,i<fl s->(bZ s i).2.1≠0:=by
 obtain⟨_,g2,g3,g4⟩:=Nd h1 h2 s.2.1 0 (Nat.le_refl _)
 exact⟨by unfold fl;omega,g3,fun i hi=>g4 i (Nat.zero_le _) hi⟩
theorem Iq {s:PP×PP} {B:Nat} (ha:s.1.1<=B) (hb:s.2.1<=B) (h1:Trim s.1) (h2:Trim s.2):∀j,j<=fl s->(bZ s j).1.1<=B/\(bZ s j).2.1<=B
 |0,_=>⟨ha,hb⟩
 |j+1,hj=>by
  have ih:=Iq ha hb h1 h2 j (by omega)
  have h0:=(mc h1 h2).2.2 j (by omega)
  have hr:(bZ s (j+1)).2.1<(bZ s j).2.1:=oG (a:=(bZ s j).1) (d:=(bZ s j).2) (by omega) (m9 h1 h2 j).2
  exact⟨ih.2,by omega⟩
def ek (a:PP):PP×PP:=(aW a,bh (aW a))
theorem iA {a:PP}:Trim (aW a):=by
 unfold aW
 split
 ·exact .inl rfl
 ·exact oo Bk
def fT (n:Nat) (k:Nat->Rat) (t:Rat):Nat->Rat
 |0=>0
 |m+1=>fT n k t m*t+k (n-1-m)
def cC (a:PP) (t:Rat):Rat:=fT a.1 a.2 t a.1
def cN (s:Nat->Int):Nat->Int×Nat
 |0=>(0,0)
 |i+1=>(if s i=0 then(cN s i).1 else s i,if s i*(cN s i).1<0 then(cN s i).2+1 else(cN s i).2)
end Go.Am
namespace Go.Am.B
open Go Go.Am.N AV af au IntKind Proofs.Tryz
def vL:Nat:=68719477736
abbrev nY:Code:=aJ f114
abbrev o7:List Nat:=[0]
def Co:Spec:=eR (kC (kL ag) kN) (fun a=>bS a.1.2 (cr a.1.2 a.1.1) ag) fun a=>[a.1.1<2^40]
def NF:Spec:=eR (kC kR (kC kR kN)) (fun a=>.rat (a.1.1/a.2.1.1) (a.1.2+a.2.1.2)) fun a=>[a.1.2<2^42,a.2.1.2<2^42]
def I5:bG:=zG::(142,jV kR kR Cx qo)::gF
def rY:bG:=zG::(158,Em)::(171,NF)::gF
abbrev yN:Code:=aJ f137
abbrev yq:Code:=part yN [1,1,1,1,0,1,0,0]
abbrev Ap:Code:=part yq [1,1,0,0]
abbrev Fy (m:Nat):AV:=bS (fun i=>((bn m i:Int):Rat)) (m+1) 64
abbrev rQ:List Nat:=[0,4,5,25,26]
abbrev Ao (m:Nat) (c:Nat->Rat) (i:Nat):List AV:=[bS c (m+1) ag,Fy m,.own 0 3 0 (m+1),.int .i64 (m+1:Nat),.int .i64 i]
abbrev yS:List Nat:=[0,4,5,25,26,6,30,31,32]
abbrev FH (m:Nat) (c:Nat->Rat) (i k:Nat):List AV:=[bS c (m+1) ag,Fy m,.own 0 3 0 (m+1),.int .i64 (m+1:Nat),.int .i64 i,.int .i64 i,Fy i,.int .i64 (i+1:Nat),.int .i64 k]
abbrev yB:Code:=aJ f121
abbrev xN:List Nat:=[3,5,11,12,13]
abbrev FU (n:Nat) (c:Nat->Rat) (i:Nat):List AV:=[.ptr 1 0 3 0 [],.own 0 3 0 n,bS c n ag,.int .i64 n,.int .i64 i]
abbrev xE:Code:=aJ f73
abbrev yP:List Nat:=[0,3,4]
abbrev Dk (n:Nat) (c:Nat->Rat) (i:Nat):List AV:=[bS c n ag,.own 0 3 0 i,.int .i64 (i+1:Nat)]
def BV:bG:=zG::(114,Co)::gF
theorem Ex:bC 114 f114:=bD func114
theorem Ww:bC 171 f171:=bD func171
theorem K6:bC 137 f137:=bD func137
theorem ZG:bC 121 f121:=bD func121
theorem Xp:bC 73 f73:=bD func73
theorem RY {n:Nat} {k:Nat->Rat}:aK T GZ [] 60 o7 (before nY [1,0]) ⟨bf 0 [bS k n ag],[],0⟩=
  some (leaf normal ([az 3 n fun i=>rat (k i) ag],[])):=ah
theorem QT {n:Nat} {k:Nat->Rat}:aK T GZ [6,15] 60 o7 [part nY [1,0,0,0]] ⟨aH o7 [bS k n ag],[],0⟩=
  let c6:Int:=(↑n:Int);let c4:Int:=(2:Int)^63;let c3:af (List AV×aG):=leaf (exit 0) ([az 3 n fun i=>rat (k i) ag],[]);let c5:Bool:=decide (c6>0);let c2:Int:=c6-1;let c1:af (List AV×aG):=aj [-c4<=c2/\c2<c4,(0:Int)<=0/\(0:Int)<=c2/\c2<=c2/\c2<=c6] (leaf normal ([az 3 (c2.toNat-Int.toNat (0:Int)) fun i=>rat (k (i+Int.toNat (0:Int))) ag],[]));some (fork c5 (aj [c5=true,-c4<=c2/\c2<c4,(0:Int)<=c2/\c2.toNat<n,ag<2^42] (fork (bif true then bR (k c2.toNat)==0 else false) c1 c3)) (aj [c5=false] (fork false c1 c3))):=ah
theorem adZ {n:Nat} {k:Nat->Rat}:dJ T GZ [] 60 f114 [part nY [1,1]] ⟨aH o7 [bS k n ag],[],0⟩=
  some (leaf ret [az 3 n fun i=>rat (k i) ag]):=ah
theorem abM {q r:Rat} {n m:Nat}:cy T I5 [] 60 f171 (aJ f171) ⟨bf 0 [.rat q n,.rat r m],[],0⟩=
  let c1:Prop:=0<1;some (aj [c1,c1,n<2^42,m<2^42,c1] (aj [c1,c1] (aj [c1] (leaf ret [rat (q/r) (n+m)])))):=ah
theorem abB {m:Nat} {c:Nat->Rat}:aK T rY [200016,11] 60 rQ (before yN [1,1,1,1,0,1]) ⟨bf 0 [bS c (m+1) ag],[],0⟩=
  let c1:Int:=(↑(m+1):Int);let c2:Int:=c1-1;some (aj [(bif c1==0 then true else decide (c1>41))=false] (aj [-(2:Int)^63<=c2/\c2<2^63,(0:Int)<=c2,c2<=40] (aj [(0:Int)<=c1/\c1<=c1/\c1<=2^47/\c1*(↑(56:Nat):Int)<=2^47] (leaf normal ([az 3 (m+1) fun i=>rat (c i) ag,az 3 (c2.toNat+1) fun i=>rat (↑(↑(bn c2.toNat i):Int):Rat) 64,own 69632 3 0 c1.toNat,int i64 (↑c1.toNat:Int),int i64 0],[(69632,aC.mk true true 3 c1.toNat fun x=>rat 0 1)]))))):=ah
theorem abe {m i:Nat} {c x:Nat->Rat}:aK T rY [27] 60 rQ (before yq [1,1,0]) ⟨aH rQ (Ao m c i),[(0,dL (m+1) x ag)],1⟩=
  let c2:Nat:=m+1;let c1:List AV×aG:=([az 3 c2 fun i=>rat (c i) ag,az 3 c2 fun i=>rat (↑(↑(bn m i):Int):Rat) 64,own 0 3 0 c2,int i64 (↑c2:Int),int i64 (↑i:Int)],[(0,aC.mk true true 3 c2 fun i=>rat (x i) ag)]);some (fork (decide ((↑i:Int)<(↑c2:Int))) (leaf normal c1) (leaf (exit 0) c1)):=ah
theorem Zy {m i:Nat} {c x:Nat->Rat}:aK T rY [] 60 yS (before Ap [1,1]) ⟨aH rQ (Ao m c i),[(0,dL (m+1) x ag)],1⟩=
  let c2:Nat:=m+1;let c1:Int:=(↑i:Int);some (aj [(0:Int)<=c1,c1<=40] (leaf normal ([az 3 c2 fun i=>rat (c i) ag,az 3 c2 fun i=>rat (↑(↑(bn m i):Int):Rat) 64,own 0 3 0 c2,int i64 (↑c2:Int),int i64 c1,int i64 c1,az 3 (c1.toNat+1) fun i=>rat (↑(↑(bn c1.toNat i):Int):Rat) 64,int i64 (↑(c1.toNat+1):Int),int i64 0],[(0,aC.mk true true 3 c2 fun i=>rat (x i) ag)]))):=ah
theorem ZK {m i k:Nat} {c x:Nat->Rat}:aK T rY [33] 60 yS [part Ap [1,1,0,0]] ⟨aH yS (FH m c i k),[(0,dL (m+1) x ag)],1⟩=
  let c10:Nat:=64+64;let c8:Int:=(↑i:Int);let c7:Int:=(↑(i+1):Int);let c5:AV:=az 3 (i+1) fun i_1=>rat (↑(↑(bn i i_1):Int):Rat) 64;let c4:Nat:=2^42;let c3:Int:=(↑k:Int);let c1:Nat:=m+1;let c15:AV:=int i64 c8;let c14:Int:=c3+1;let c13:Prop:=(0:Int)<=c8/\c8.toNat<c1;let c12:Prop:=(0:Int)<=c3/\c3.toNat<c1;let c11:AV:=own 0 3 0 c1;let c9:AV:=az 3 c1 fun i=>rat (c i) ag;let c6:AV:=az 3 c1 fun i=>rat (↑(↑(bn m i):Int):Rat) 64;let c2:Nat:=c8.toNat+0;some (fork (decide (c3<c7)) (aj [(0:Int)<=c3/\c3.toNat<i+1,(0:Nat)<1] (aj [c13,c2<c1,(0:Nat)<1,c12,(64:Nat)<c4,(64:Nat)<c4,c12,c10<c4,ag<c4,ag<c4,c10+ag<c4,c13,c2<c1] (aj [-(2:Int)^63<=c14/\c14<2^63] (leaf normal ([c9,c6,c11,int i64 (↑c1:Int),c15,c15,c5,int i64 c7,int i64 c14],[(0,aC.mk true true 3 c1 fun j=>rat (bif j==c2 then x c2+(↑(↑(bn i c3.toNat):Int):Rat)/(↑(↑(bn m c3.toNat):Int):Rat)*c c3.toNat else x j) (bif j==c2 then ag+(c10+ag)+1 else ag))]))))) (leaf (exit 2) ([c9,c6,c11,int i64 (↑c1:Int),c15,c15,c5,int i64 c7,int i64 c3],[(0,aC.mk true true 3 c1 fun i=>rat (x i) ag)]))):=ah
theorem Qq {m i k:Nat} {c x:Nat->Rat}:aK T rY [] 60 rQ [part yq [1,1,1]] ⟨aH yS (FH m c i k),[(0,dL (m+1) x ag)],1⟩=
  let c2:Int:=(↑i:Int)+1;let c1:Nat:=m+1;some (aj [-(2:Int)^63<=c2/\c2<2^63] (leaf normal ([az 3 c1 fun i=>rat (c i) ag,az 3 c1 fun i=>rat (↑(↑(bn m i):Int):Rat) 64,own 0 3 0 c1,int i64 (↑c1:Int),int i64 c2],[(0,aC.mk true true 3 c1 fun i=>rat (x i) ag)]))):=ah
theorem UL {m i:Nat} {c x:Nat->Rat}:dJ T rY [] 60 f137 [part yN [1,1,1,1,1]] ⟨aH rQ (Ao m c i),[(0,dL (m+1) x ag)],1⟩=
  some (leaf ret [az 3 (m+1) fun i=>rat (x (i+0)) ag,int i64 0]):=ah
theorem acS {n s:Nat} {c:Nat->Rat} {r:Rat}:aK T GZ [] 60 xN (before yB [1,1,0,1]) ⟨bf 0 [bS c n ag,.rat r s],[],0⟩=
  let c1:Int:=(↑n:Int);some (aj [(0:Int)<=c1/\c1<=c1/\c1<=2^47/\c1*(↑(56:Nat):Int)<=2^47] (leaf normal ([ptr 0 0 (dM (rat r s)).size 0 [],own 16384 3 0 c1.toNat,az 3 n fun i=>rat (c i) ag,int i64 c1,int i64 0],[(16384,aC.mk true true 3 c1.toNat fun x=>rat 0 1),(0,aC.mk false true (dM (rat r s)).size 1 fun x=>rat r s)]))):=ah
theorem aes {n s i:Nat} {c x:Nat->Rat} {r:Rat}:aK T GZ [14] 60 xN [part yB [1,1,0,1,0,0]] ⟨aH xN (FU n c i),[(0,dL n x ag),(1,⟨false,true,3,1,fun _=>.rat r s⟩)],2⟩=
  let c10:Int:=(↑n:Int);let c7:AV:=own 0 3 0 n;let c5:Prop:=0<1;let c4:AV:=ptr 1 0 3 0 [];let c3:AV:=az 3 n fun i=>rat (c i) ag;let c2:Nat×aC:=((1:Nat),iz fun x=>rat r s);let c1:Int:=(↑i:Int);let c9:Int:=c1+1;let c8:Prop:=(0:Int)<=c1/\c1.toNat<n;let c6:Nat:=c1.toNat+0;some (fork (decide (c1<c10)) (aj [c8,c5] (aj [c5,c5,s<2^42,ag<2^42,c8,c6<n] (aj [-(2:Int)^63<=c9/\c9<2^63] (leaf normal ([c4,c7,c3,int i64 c10,int i64 c9],[(0,aC.mk true true 3 n fun j=>rat (bif j==c6 then r*c c1.toNat else x j) (bif j==c6 then s+ag else ag)),c2]))))) (leaf (exit 0) ([c4,c7,c3,int i64 c10,int i64 c1],[(0,aC.mk true true 3 n fun i=>rat (x i) ag),c2]))):=ah
theorem QE {n s i:Nat} {c x:Nat->Rat} {r:Rat}:dJ T GZ [] 60 f121 [part yB [1,1,1]] ⟨aH xN (FU n c i),[(0,dL n x ag),(1,⟨false,true,3,1,fun _=>.rat r s⟩)],2⟩=
  some (leaf ret [az 3 n fun i=>rat (x (i+0)) ag]):=ah
theorem aeh {n:Nat} {c:Nat->Rat}:aK T BV [] 60 yP (before xE [1,1,0,1]) ⟨bf 0 [bS c n ag],[],0⟩=
  some (leaf normal ([az 3 n fun i=>rat (c i) ag,nil,int i64 1],[])):=ah
theorem TV {n i:Nat} {c x:Nat->Rat}:aK T BV [8] 60 yP [part xE [1,1,0,1,0,0]] ⟨aH yP (Dk n c i),[(0,dL i x ag)],1⟩=
  let c5:Nat:=i+1;let c3:AV:=az 3 n fun i=>rat (c i) ag;let c2:Int:=(2:Int)^63;let c1:Int:=(↑c5:Int);let c6:Int:=c1+1;let c4:Nat:=Max.max 1 (bU c1.natAbs);some (fork (decide (c1<(↑n:Int))) (aj [-c2<=c1,c1<c2,(0:Int)<=c1/\c1.toNat<n,c4<2^42,ag<2^42,(1:Nat)*3<=2^24,c5*((56:Nat)+1)*2<=2^47] (aj [-c2<=c6/\c6<c2] (leaf normal ([c3,own 53249 3 0 c5,int i64 c6],[(53249,aC.mk true true 3 c5 fun i_1=>if i_1<i then rat (x i_1) ag else nth [rat ((↑c1:Rat)*c c1.toNat) (c4+ag)] (rat 0 1) (i_1-i+0))])))) (leaf (exit 0) ([c3,own 0 3 0 i,int i64 c1],[(0,aC.mk true true 3 i fun i=>rat (x i) ag)]))):=ah
theorem aeA {n i:Nat} {c x:Nat->Rat}:dJ T BV [] 60 f73 [part xE [1,1,1]] ⟨aH yP (Dk n c i),[(0,dL i x ag)],1⟩=
  some (aj [cX (fun i=>rat (x (i+0)) ag) i ag,i<2^40] (leaf ret [az 3 (cr (fun i=>aN (rat (x (i+0)) ag)) i) fun i=>rat (aN (rat (x (i+0)) ag)) ag])):=ah
theorem xo {q:Rat}:(bR q==0)=decide (q=0):=by
 unfold bR
 by_cases h:q=0
 ·simp[h]
 ·simp only[h,decide_false]
  split
  ·rfl
  ·split
   ·rfl
   ·grind
theorem ad9 {n:Nat} {k:Nat->Rat} (hn:n<2^40) (K:Nat):aY P 114 K [bS k n ag] [] (aT (bS k (cr k n) ag) []):=by
 have hW:=dc
 refine pX (r:=aT (bS k (cr k n) ag) []) hT ql hm Ex rfl br rfl [1,0] (i:=0) (y:=part nY [1,0,0,0]) (z:=part nY [1,1]) ah ah ah (f1:=[]) (f2:=[6,15]) (f3:=[]) 60 o7 0
  (fun j:Nat=>[bS k j ag]) (fun _=>[]) (fun j=>j<=n/\cr k j=cr k n) (fun j=>j=cr k n) (fun j=>j) (fun _=>⟨⟨_,RY,?_⟩,fun j hj=>⟨_,QT,?_⟩,fun j hj=>⟨_,adZ,?_⟩⟩) K []
 ·simp only[af.all,aF]
  exact⟨n,⟨aX,rfl⟩,fm.vals rfl⟩
 ·obtain⟨h1,h2⟩:=hj
  simp only[af.all,aF,cond_true,xo,bI,bO]
  refine⟨fun h=>⟨⟨aa,aa,aa,aa⟩,fun h3=>⟨aa,j-1,⟨aa,?_⟩,by dsimp only;omega,?_⟩,fun h3=>⟨rfl,j,?_,fm.vals rfl⟩⟩,fun h=>⟨aa,fun h3=>absurd h3 (by decide),fun _=>⟨rfl,j,?_,fm.vals rfl⟩⟩⟩
  ·rw[<-h2]
   obtain⟨m,rfl⟩:∃m,j=m+1:=⟨j-1,aa⟩
   rw[show(((m+1:Nat):Int)-1).toNat=m by omega]at h3
   show cr k m=_
   rw[cr,if_pos h3]
  ·rw[show((j:Int)-1).toNat-(0:Int).toNat=j-1 by omega]
   exact fm.vals rfl
  ·rw[<-h2]
   obtain⟨m,rfl⟩:∃m,j=m+1:=⟨j-1,aa⟩
   rw[show(((m+1:Nat):Int)-1).toNat=m by omega]at h3
   exact(zN (.inr h3)).symm
  ·rw[<-h2,show j=0 by omega];rfl
 ·rw[hj];exact .refl _
theorem DO:bF P Co 114:=fk fun⟨⟨n,k⟩,_⟩ K hn=>ad9 hn K
theorem aeB:cm P I5:=jD (aM (kS fun _ _ K hn=>DJ hn.1 hn.2 K) gU)
theorem adq:bF P NF 171:=fk fun⟨⟨q,n⟩,⟨r,m⟩,_⟩ K hn=>by
 obtain⟨h1,h2⟩:=hn
 refine cB hT aeB hm Ww rfl br rfl 60 abM (fun _=>?_) K []
 simp only[af.all,aF]
 exact⟨⟨aa,aa,h1,h2,aa⟩,⟨aa,aa⟩,aa,.refl _⟩
theorem Pn:cm P rY:=jD (aM Ob (aM adq gU))
def mT (n:Nat) (c:Nat->Rat):Prop:=∀i k,i<n->k<=i+1->Sz (lC n c i k) ag
def mS (n:Nat) (c:Nat->Rat) (i k j:Nat):Rat:=if j<i then jd n c j else if j=i then lC n c i k else 0
theorem Xu {m:Nat} {c:Nat->Rat} (hm1:m<=40) (hz:mT (m+1) c) (K:Nat):aY P 137 K [bS c (m+1) ag] [] (aT (.tuple [bS (jd (m+1) c) (m+1) ag,.int .i64 0]) []):=by
 refine ja (r:=aT (.tuple [bS (jd (m+1) c) (m+1) ag,.int .i64 0]) []) hT K6 rfl br rfl (fun _ cx h0=>?_) K []
 have hk:=oD h0
 have hW:=dc
 refine aA.uS hT Pn hm (x:=yN) [1,1,1,1,0,1] (i:=0) (y:=yq) (z:=part yN [1,1,1,1,1]) ah ah ah K6.dst [1,1,0] (j:=1) (x1:=Ap) (zb:=part yq [1,1,1]) ah ah ah [1,1] (i2:=2) (y2:=part Ap [1,1,0,0]) ah ah rfl hk
  (f1:=[200016,11]) (f2:=[27]) (f3:=[]) (f4:=[33]) (f5:=[]) 60 rQ yS 1 1 (fun i:Nat=>Ao m c i) (fun i=>[(0,dL (m+1) (mS (m+1) c i 0) ag)]) (fun i=>i<=m+1) (fun i=>i=m+1) (fun i=>m+1-i) (fun i=>i<m+1) (fun _=>False) (fun _=>False)
  (fun i (k:Nat)=>FH m c i k) (fun i k=>[(0,dL (m+1) (mS (m+1) c i k) ag)]) (fun i k=>k<=i+1) (fun i k=>k=i+1) (fun i k=>i+1-k)
  ⟨_,abB,?_⟩ (fun i hi=>⟨_,abe,?_⟩) (fun i hi hG=>⟨_,Zy,?_⟩) (fun i hi hG k hk=>⟨_,ZK,?_⟩) (fun i hi hG k hk=>⟨_,Qq,?_⟩) (fun i hi=>?_) (fun _ _ h=>h.elim) (fun _ _ h=>h.elim)
 ·simp only[af.all,aF,bJ]
  have e1:(((m+1:Nat):Int)-1).toNat=m:=aa
  have e2:(((m+1:Nat):Int)==0)=false:=by rw[beq_eq_false_iff_ne];omega
  rw[e1,e2]
  simp only[cond_false,bO]
  refine⟨aa,⟨aa,aa,aa⟩,aa,0,aa,[(0,69632)],rfl,rfl,rfl,bX rfl rfl rfl (fun j hj=>.inr ⟨rfl,fh ?_ aa⟩) trivial⟩
  unfold mS;rw[if_neg (Nat.not_lt_zero j)];split<;>rfl
 ·simp only[af.all,aF,bI,bO]
  exact⟨fun h=>⟨aa,[(0,0)],rfl,rfl,rfl,bX rfl rfl rfl (fun i hi=>cA rfl rfl) trivial⟩,fun h=>⟨rfl,i,aa,[(0,0)],rfl,rfl,rfl,bX rfl rfl rfl (fun i hi=>cA rfl rfl) trivial⟩⟩
 ·simp only[af.all,aF,bJ]
  exact⟨aa,0,aa,[(0,0)],rfl,rfl,rfl,bX rfl rfl rfl (fun i hi=>cA rfl rfl) trivial⟩
 ·simp only[af.all,aF,bI,bO,bJ,Nat.add_zero]
  refine⟨fun h=>⟨aa,aa,aa,k+1,aa,by dsimp only;omega,[(0,0)],rfl,rfl,rfl,bX rfl rfl rfl (fun j hj=>?_) trivial⟩,fun h=>⟨rfl,k,aa,[(0,0)],rfl,rfl,rfl,bX rfl rfl rfl (fun j hj=>cA rfl rfl) trivial⟩⟩
  have e1:∀q,mS (m+1) c i q i=lC (m+1) c i q:=fun q=>by unfold mS;rw[if_neg (Nat.lt_irrefl i),if_pos rfl]
  exact qD (x:=mS (m+1) c i k) (y:=mS (m+1) c i (k+1)) (fO (by rw[e1,e1];rfl) (by rw[e1];exact hz i (k+1) hG aa)) fun hj=>fh (by unfold mS;rw[if_neg hj,if_neg hj]) aX
 ·subst hk
  simp only[af.all,aF]
  refine⟨aa,i+1,aa,by dsimp only;omega,[(0,0)],rfl,rfl,rfl,bX rfl rfl rfl (fun j hj=>cA rfl ?_) trivial⟩
  show AV.rat (mS (m+1) c i (i+1) j) ag=AV.rat (mS (m+1) c (i+1) 0 j) ag
  unfold mS
  by_cases h1:j<i
  ·rw[if_pos h1,if_pos aa]
  ·by_cases h2:j=i
   ·subst h2;rw[if_neg h1,if_pos rfl,if_pos aa];rfl
   ·rw[if_neg h1,if_neg h2,if_neg aa];split<;>rfl
 ·subst hi
  refine aA.oQ ((aI.fin hT Pn hm 60 UL ah ?_).mono fun _ _ h=>.inl h)
  refine⟨ko fun i hi=>fh ?_ aX,.refl _,trivial⟩
  show mS (m+1) c (m+1) 0 i=_
  unfold mS;rw[if_pos hi]
def Nn:Spec:=eR (kC (kL ag) kN) (fun a=>.tuple [bS (jd a.1.1 a.1.2) a.1.1 ag,.int .i64 0]) fun a=>[1<=a.1.1,a.1.1<=41,mT a.1.1 a.1.2]
theorem aau:bF P Nn 137:=fk fun⟨⟨n,p⟩,_⟩ K hn=>by
 obtain⟨h1,h2,h3⟩:=hn
 simp only at h1 h2 h3
 obtain⟨m,rfl⟩:∃m,n=m+1:=⟨n-1,aa⟩
 exact Xu aa h3 K
theorem Fv:vL=ag+1000:=rfl
theorem VZ {n:Nat} {c:Nat->Rat} {r:Rat} (hn:n<2^40) (hz:dy n fun i=>r*c i) (K:Nat):aY P 121 K [bS c n ag,.rat r vL] [] (aT (bS (fun i=>r*c i) n ag) []):=by
 have hW:=dc
 have hX:=Fv
 refine pX (r:=aT (bS (fun i=>r*c i) n ag) []) hT ql hm ZG rfl br rfl [1,1,0,1] (i:=0) (y:=part yB [1,1,0,1,0,0]) (z:=part yB [1,1,1]) ah ah ah (f1:=[]) (f2:=[14]) (f3:=[]) 60 xN 2
  (fun i:Nat=>FU n c i) (fun i=>[(0,dL n (fun j=>if j<i then r*c j else 0) ag),(1,⟨false,true,3,1,fun _=>.rat r vL⟩)]) (fun i=>i<=n) (fun i=>i=n) (fun i=>n-i) (fun _=>⟨⟨_,acS,?_⟩,fun i hi=>⟨_,aes,?_⟩,fun i hi=>⟨_,QE,?_⟩⟩) K []
 ·simp only[af.all,aF,bJ]
  exact⟨aa,0,Nat.zero_le _,[(0,16384),(1,0)],rfl,rfl,rfl,bX rfl rfl rfl (fun i hi=>.inr ⟨rfl,fh (if_neg (Nat.not_lt_zero i)).symm aa⟩) (fq trivial)⟩
 ·simp only[af.all,aF,bI,bO,bJ,Nat.add_zero]
  refine⟨fun h2=>⟨aa,aa,aa,i+1,aa,by dsimp only;omega,[(0,0),(1,1)],rfl,rfl,rfl,bX rfl rfl rfl (fun j hj=>?_) (fq trivial)⟩,fun h2=>⟨rfl,i,aa,[(0,0),(1,1)],rfl,rfl,rfl,bX rfl rfl rfl (fun j hj=>cA rfl rfl) (fq trivial)⟩⟩
  exact qD (x:=fun j=>if j<i then r*c j else 0) (y:=fun j=>if j<i+1 then r*c j else 0) (fO (if_pos (Nat.lt_succ_self i)).symm (by show Sz (if i<i+1 then _ else _) _;rw[if_pos (Nat.lt_succ_self i)];exact hz i aa)) fun hj=>fh (Kx hj).symm aX
 ·subst hi
  simp only[af.all,aF]
  exact ko fun j hj=>by rw[Nat.add_zero,if_pos hj];exact .refl _
def DG:Spec:=eR (kC (kL ag) (kC (ic vL) kN)) (fun a=>bS (fun i=>a.2.1*a.1.2 i) a.1.1 ag) fun a=>[a.1.1<2^40,dy a.1.1 fun i=>a.2.1*a.1.2 i]
theorem JJ:bF P DG 121:=fk fun⟨⟨n,c⟩,r,_⟩ K hn=>VZ hn.1 hn.2 K
theorem adW:cm P BV:=jD (aM DO gU)
theorem RM {n:Nat} {c:Nat->Rat} (hn:n<2^40) (hz:dy (n-1) (dF c)) (K:Nat):aY P 73 K [bS c n ag] [] (aT (bS (dF c) (cr (dF c) (n-1)) ag) []):=by
 have hW:=dc
 refine pX (r:=aT (bS (dF c) (cr (dF c) (n-1)) ag) []) hT adW hm Xp rfl br rfl [1,1,0,1] (i:=0) (y:=part xE [1,1,0,1,0,0]) (z:=part xE [1,1,1]) ah ah ah (f1:=[]) (f2:=[8]) (f3:=[]) 60 yP 1
  (fun i:Nat=>Dk n c i) (fun i=>[(0,dL i (dF c) ag)]) (fun i=>i<=n-1) (fun i=>i=n-1) (fun i=>n-1-i) (fun _=>⟨⟨_,aeh,?_⟩,fun i hi=>⟨_,TV,?_⟩,fun i hi=>⟨_,aeA,?_⟩⟩) K []
 ·simp only[af.all,aF]
  exact⟨0,aa,[],rfl,rfl,rfl,xL rfl aa aa trivial⟩
 ·have hb:(max 1 (bU ((i+1:Nat):Int).natAbs))<=64:=by
   rw[Int.natAbs_natCast]
   have:=lK (x:=i+1) (k:=64)|>.2 aa
   omega
  simp only[af.all,aF,bI,bO,bJ]
  refine⟨fun h2=>⟨aa,aa,i+1,aa,by dsimp only;omega,[(0,53249)],rfl,?_,rfl,bX rfl rfl rfl (fun j hj=>?_) trivial⟩,fun h2=>⟨rfl,i,aa,[(0,0)],rfl,rfl,rfl,bX rfl rfl rfl (fun j hj=>cA rfl rfl) trivial⟩⟩
  ·rw[show((i+1:Nat):Int)+1=((i+1+1:Nat):Int) by omega];rfl
  ·refine .inr ⟨?_,?_⟩
   ·split
    ·rfl
    ·rw[show j-i+0=0 by omega];rfl
   ·split
    ·exact .refl _
    ·rw[show j-i+0=0 by omega,show j=i by omega]
     exact fO rfl (hz i aa)
 ·subst hi
  simp only[af.all,aF]
  exact⟨⟨eG aX,aa⟩,.refl _⟩
def Bf:Spec:=eR (kC (kL ag) kN) (fun a=>bS (dF a.1.2) (cr (dF a.1.2) (a.1.1-1)) ag) fun a=>[a.1.1<2^40,dy (a.1.1-1) (dF a.1.2)]
theorem Gc:bF P Bf 73:=fk fun⟨⟨n,c⟩,_⟩ K hn=>RM hn.1 hn.2 K
def GI (f:Nat->AV) (n s:Nat):Prop:=∀i,i<n->keys (f i)=[]/\bg (f i) (.rat (aN (f i)) s)
def Ei:Spec:=fun _ args pre=>match args,pre with
 |[.own k 3 0 n],[(k',⟨true,true,3,m,f⟩)]=>match k'==k with
  |true=>some ⟨.own k 3 0 (cr (fun i=>aN (f i)) n),[(k,dL m (fun i=>aN (f i)) ag)],[n<=m,n<2^40,GI f m ag]⟩
  |false=>none
 |_,_=>none
abbrev wk:FuncId:=141
abbrev Aj:Func:=f141
def KH:Spec:=wN fun K l=>match l with
 |[v]=>match(kL ag).read v with
  |some ((0,k),q)=>some (aT (bS k 0 ag) q)
  |some ((n+1,k),q)=>some ⟨.own K 3 0 (n+1),[(K,dL (n+1) k ag)],q++[n+1<2^30]⟩
  |none=>none
 |_=>none
def Mp:bG:=zG::(142,jV kR kR Cx qo)::(121,DG)::gF
def GY (n:Nat):Nat:=if n=0 then 1 else n
def Ot (n:Nat) (c:Nat->Rat) (i:Nat):Rat:=if n=0 then 0 else jd n c i
def H6:bG:=zG::(137,Nn)::gF
def MP:bG:=zG::(115,LS)::(114,Co)::gF
theorem K3:bC wk Aj:=bD func141
theorem Vv:bC 135 f135:=bD func135
theorem Su:bC 81 f81:=bD func81
theorem Vq:bC 57 f57:=bD func57
theorem XB {n m:Nat} {x:Nat->Rat}:aK T GZ [] 60 o7 (before nY [1,0]) ⟨bf 0 [.own 0 3 0 n],[(0,dL m x ag)],1⟩=
  some (leaf normal ([own 0 3 0 n],[(0,aC.mk true true 3 m fun i=>rat (x i) ag)])):=ah
theorem ZD {n m:Nat} {x:Nat->Rat}:aK T GZ [6,15] 60 o7 [part nY [1,0,0,0]] ⟨aH o7 [.own 0 3 0 n],[(0,dL m x ag)],1⟩=
  let c7:Int:=(↑n:Int);let c4:Int:=(2:Int)^63;let c3:Nat×aC:=(0,aC.mk true true 3 m fun i=>rat (x i) ag);let c6:af (List AV×aG):=leaf (exit 0) ([own 0 3 0 n],[c3]);let c5:Bool:=decide (c7>0);let c2:Int:=c7-1;let c1:af (List AV×aG):=aj [-c4<=c2/\c2<c4,(0:Int)<=0/\(0:Int)<=c2/\c2<=c2/\c2<=c7] (leaf normal ([own 0 3 0 (c2.toNat-Int.toNat (0:Int))],[c3]));some (fork c5 (aj [c5=true,-c4<=c2/\c2<c4,(0:Int)<=c2/\c2.toNat<n,c2.toNat+0<m,ag<2^42] (fork (bif true then bR (x (c2.toNat+0))==0 else false) c1 c6)) (aj [c5=false] (fork false c1 c6))):=ah
theorem PU {n m:Nat} {x:Nat->Rat}:aK T GZ [] 60 [2] [part nY [1,1]] ⟨aH o7 [.own 0 3 0 n],[(0,dL m x ag)],1⟩=
  some (leaf ret ([own 0 3 0 n],[(0,aC.mk true true 3 m fun i=>rat (x i) ag)])):=ah
theorem Z0 {n:Nat} {k:Nat->Rat}:aK T [nG] [] 60 [2] [aJ Aj] ⟨bf 0 [.eJ false 3 n (fun i=>.rat (k i) ag)],[],0⟩=
  some (aj [(0:Nat)*3<=2^24,((0:Nat)+n)*((56:Nat)+1)*2<=2^47] (leaf ret ([own 20480 3 0 ((0:Nat)+n)],[(20480,aC.mk true true 3 ((0:Nat)+n) fun i=>rat (k (i-0)) ag)]))):=ah
theorem Yc {b:Bool} {k:Nat->Rat}:cy T [zG] [4] 60 Aj (aJ Aj) ⟨bf 0 [.eJ b 3 0 (fun i=>.rat (k i) ag)],[],0⟩=
  some (fork b (leaf ret [nil]) (aj [(0:Nat)*3<=2^24,((0:Nat)+0)*((56:Nat)+1)*2<=2^47] (leaf ret [az 3 0 fun i=>rat (k (i+0-0)) ag]))):=ah
theorem VC {n:Nat} {c:Nat->Rat}:cy T Mp [7] 60 f135 (aJ f135) ⟨bf 0 [bS c n ag],[],0⟩=
  let c3:Nat:=Max.max 1 (bU (Int.natAbs (1:Int)));let c2:Int:=(2:Int)^63;let c1:Int:=(↑n:Int)-1;let c4:Rat:=(↑(1:Int):Rat)/c c1.toNat;some (fork ((↑n:Int)==0) (leaf ret [nil]) (aj [-c2<=1,(1:Int)<c2,-c2<=c1/\c1<c2,(0:Int)<=c1/\c1.toNat<n,c3<2^42,ag<2^42,(0:Nat)<1] (aj [(0:Nat)<1,cX (fun i=>rat (c i) ag) n ag,c3+ag<=vL,n<2^40,dy n fun i=>c4*aN (rat (c i) ag)] (leaf ret [az 3 n fun i=>rat (c4*aN (rat (c i) ag)) ag])))):=ah
theorem QC {n:Nat} {c:Nat->Rat}:cy T H6 [7] 60 f81 (aJ f81) ⟨bf 0 [bS c n ag],[],0⟩=
  some (fork ((↑n:Int)==0) (aj [(1:Nat)*3<=2^24] (leaf ret [az 3 1 fun i=>nth [agg [AV.bool (decide ((0:Rat)<0)),mag (↑(nat_lit 0):Int).natAbs,mag (if 1=1 then 0 else 1)]] (rat 0 1) (i+0)])) (aj [cX (fun i=>rat (c i) ag) n ag,(1:Nat)<=n,n<=41,mT n fun i=>aN (rat (c i) ag)] (leaf ret [az 3 n fun i=>rat (jd n (fun i=>aN (rat (c i) ag)) i) ag]))):=ah
theorem adJ {n:Nat} {c:Nat->Rat}:cy T MP [] 60 f57 (aJ f57) ⟨bf 0 [bS c n ag],[],0⟩=
  some (aj [cX (fun i=>rat (c i) ag) n ag,(1:Nat)<=n,n<=41,yK n fun i=>aN (rat (c i) ag),cX (fun i=>rat (gI n (fun i=>aN (rat (c i) ag)) i) ag) n ag,n<2^40] (leaf ret [az 3 (cr (fun i=>aN (rat (gI n (fun i=>aN (rat (c i) ag)) i) ag)) n) fun i=>rat (aN (rat (gI n (fun i=>aN (rat (c i) ag)) i) ag)) ag])):=ah
theorem afg {kk n m:Nat} {x:Nat->Rat} (hn:n<2^40) (hnm:n<=m) (c:Ctx) (hk:Kept [0] c):aA P c f114.ntmps nY ⟨bf 0 [.own 0 3 0 n],[(0,dL m x ag)],1⟩ (I4 f114 kk [.own kk 3 0 (cr x n)] (dL m x ag)):=by
 have hW:=dc
 have re:∀j,fm [0] ([.own 0 3 0 j],[((0:Nat),dL m x ag)]) [.own 0 3 0 j] [(0,dL m x ag)] 1:=fun j=>⟨[(0,0)],rfl,rfl,rfl,pQ trivial⟩
 refine aA.qp hT ql hm [1,0] (i:=0) (y:=part nY [1,0,0,0]) (z:=part nY [1,1]) ah ah ah Ex.dst hk (f1:=[]) (f2:=[6,15]) 60 o7 1
  (fun j:Nat=>[.own 0 3 0 j]) (fun _=>[(0,dL m x ag)]) (fun j=>j<=n/\cr x j=cr x n) (fun j=>j=cr x n) (fun j=>j) (fun _=>False) ⟨_,XB,?_⟩ (fun j hj=>⟨_,ZD,?_⟩) (fun j hj=>?_) (fun _ _ h=>h.elim)
 ·simp only[af.all,aF]
  exact⟨n,⟨aX,rfl⟩,re n⟩
 ·obtain⟨h1,h2⟩:=hj
  simp only[af.all,aF,cond_true,xo,bI,bO,Nat.add_zero]
  refine⟨fun h=>⟨⟨aa,aa,aa,aa,aa⟩,fun h3=>⟨aa,j-1,⟨aa,?_⟩,by dsimp only;omega,?_⟩,fun h3=>⟨rfl,j,?_,re j⟩⟩,fun h=>⟨aa,fun h3=>absurd h3 (by decide),fun _=>⟨rfl,j,?_,re j⟩⟩⟩
  ·rw[<-h2]
   obtain⟨m,rfl⟩:∃m,j=m+1:=⟨j-1,aa⟩
   rw[show(((m+1:Nat):Int)-1).toNat=m by omega]at h3
   show cr x m=_
   rw[cr,if_pos h3]
  ·rw[show((j:Int)-1).toNat-(0:Int).toNat=j-1 by omega]
   exact re (j-1)
  ·rw[<-h2]
   obtain⟨m,rfl⟩:∃m,j=m+1:=⟨j-1,aa⟩
   rw[show(((m+1:Nat):Int)-1).toNat=m by omega]at h3
   exact(zN (.inr h3)).symm
  ·rw[<-h2,show j=0 by omega];rfl
 ·subst hj
  exact aA.bM hT ql hm 60 [2] PU ah fun s' hs'=>⟨.inr rfl,[2],_,[.own 0 3 0 (cr x n)],_,_,hs',ah,⟨⟨rfl,e9 (by simp[bH,look]) rfl rfl⟩,trivial⟩,rfl,jj rfl fun i hi=>jS rfl⟩
theorem aeC:bF P Ei 114:=by
 intro K args pre r h
 unfold Ei at h
 split at h
 ·rename_i k n k' m f
  split at h
  ·rename_i hc
   have hc:=eq_of_beq hc
   subst hc
   simp only[aB]at h
   subst h
   intro need
   have h0:=need
   obtain⟨n1,n2,n3⟩:=need
   exact P6 hT Ex (rest:=[]) (ws:=[.own k' 3 0 _]) (o2:=⟨true,true,3,m,f⟩) (o:=dL m (fun i=>aN (f i)) ag) rfl rfl br (fun ρ=>jj rfl fun i hi=>jN (n3 i hi).1 (n3 i hi).2) (fun _ c hk=>afg n2 n1 c hk) K h0
  ·simp at h
 ·simp at h
theorem adj {args:List AV} {n:Nat} {k:Nat->Rat} {l:List Prop} (ha:aF l->iT (bH []) args [.eJ false 3 n (fun i=>.rat (k i) ag)]) (hn:aF l->n<2^30) (K:Nat):aY P wk K args [] ⟨p7 [.own K 3 0 n],[(K,dL n k ag)],l⟩:=by
 refine Kk hT K3 ha br fun need c hk=>?_
 have h2:=hn need
 refine aA.bM hT (jh cK) hm 60 [2] Z0 ah ?_
 simp only[af.all,aF]
 exact⟨⟨aa,aa⟩,fun s' hs'=>⟨.inr trivial,[2],_,[.own 20480 3 0 (0+n)],_,20480,_,hs',ah,⟨⟨rfl,e9 (by simp[bH,look]) rfl aa⟩,trivial⟩,rfl,jj aa fun i hi=>jS rfl⟩⟩
theorem Yf {n:Nat} {k:Nat->Rat} {l:List Prop} (hn:aF l->1<=n/\n<2^30) (K:Nat):aY P wk K [bS k n ag] [] ⟨p7 [.own K 3 0 n],[(K,dL n k ag)],l⟩:=by
 refine EW fun b hb=>?_
 intro need
 have h1:=hn need
 cases b
 ·exact adj (args:=[.eJ false 3 n (fun i=>.rat (k i) ag)]) (fun _=>⟨aU,trivial⟩) (fun h=>(hn h).2) K need
 ·have:=hb rfl
  omega
theorem afs {k:Nat->Rat} (K:Nat):aY P wk K [bS k 0 ag] [] (aT (bS k 0 ag) []):=by
 refine EW fun b hb=>?_
 refine cB hT (jD cK) hm K3 rfl br rfl 60 Yc (fun _=>?_) K []
 simp only[af.all,aF]
 exact⟨fun _=>mC aa,fun _=>⟨⟨aa,aa⟩,ko fun i hi=>absurd hi (Nat.not_lt_zero i)⟩⟩
theorem XF:bF P KH wk:=by
 refine G4 fun K args r hk hs=>?_
 split at hs
 ·rename_i v
  split at hs
  ·rename_i k q hv
   simp only[aB]at hs
   subst hs
   intro need
   exact je (afs K) hk ⟨(kL ag).ok hv need,trivial⟩ [] trivial
  ·rename_i n k q hv
   simp only[aB]at hs
   subst hs
   intro need
   obtain⟨hn1,hn2⟩:=iy.1 need
   exact je (Yf (l:=q++[n+1<2^30]) (fun h=>⟨Nat.succ_pos n,(iy (a:=q) (b:=[n+1<2^30]).1 h).2⟩) K) hk ⟨(kL ag).ok hv hn1,trivial⟩ [] need
  ·simp at hs
 ·simp at hs
theorem acT:cm P Mp:=jD (aM (kS fun _ _ K hn=>DJ hn.1 hn.2 K) (aM JJ gU))
theorem IC {n:Nat} {c:Nat->Rat} (i:Nat):((1:Int):Rat)/c (n-1)*c i=cT n c i:=by
 unfold cT;rw[Rat.div_def,Rat.div_def,Rat.mul_comm];congr 1;exact Rat.one_mul _
theorem Wd {n:Nat} {c:Nat->Rat} (hn:n<2^40) (hz:dy n (cT n c)) (K:Nat):aY P 135 K [bS c n ag] [] (aT (bS (cT n c) n ag) []):=by
 have hW:=dc
 have hX:=Fv
 refine cB hT acT hm Vv rfl br rfl 60 VC (fun _=>?_) K []
 simp only[af.all,aF,beq_iff_eq,beq_eq_false_iff_ne]
 refine⟨fun h=>?_,fun h=>?_⟩
 ·rw[show n=0 by omega];exact mC aa
 ·rw[show((n:Int)-1).toNat=n-1 by omega]
  have hb:bU (Int.natAbs 1)=1:=by decide
  refine⟨⟨aa,aa,aa,aa,by rw[hb];decide,aa,aa⟩,⟨aa,eG aX,?_,hn,fun i hi=>by show Sz (_*c i) _;rw[IC];exact hz i hi⟩,ko fun i hi=>fh (IC i) aX⟩
  rw[hb,Nat.max_self];omega
def Gg:Spec:=eR (kC (kL ag) kN) (fun a=>bS (cT a.1.1 a.1.2) a.1.1 ag) fun a=>[a.1.1<2^40,dy a.1.1 (cT a.1.1 a.1.2)]
theorem NG:bF P Gg 135:=fk fun⟨⟨n,c⟩,_⟩ K hn=>Wd hn.1 hn.2 K
theorem abh:cm P H6:=jD (aM aau gU)
theorem TJ {n:Nat} {c:Nat->Rat} (hn:n<=41) (hz:mT n c) (K:Nat):aY P 81 K [bS c n ag] [] (aT (bS (Ot n c) (GY n) ag) []):=by
 refine cB hT abh hm Su rfl br rfl 60 QC (fun _=>?_) K []
 simp only[af.all,aF,beq_iff_eq,beq_eq_false_iff_ne]
 refine⟨fun h=>⟨aa,?_⟩,fun h=>⟨⟨eG aX,aa,hn,hz⟩,?_⟩⟩
 ·obtain rfl:n=0:=aa
  refine ko (n:=1) fun i hi=>?_
  obtain rfl:i=0:=aa
  exact pD
 ·have e1:GY n=n:=if_neg aa
  rw[e1]
  exact ko fun i hi=>fh (if_neg (show¬n=0 by omega)).symm aX
theorem Qy:cm P MP:=jD (aM Y8 (aM DO gU))
theorem XL {n:Nat} {c:Nat->Rat} (h1:1<=n) (h2:n<=41) (h3:yK n c) (K:Nat):aY P 57 K [bS c n ag] [] (aT (bS (gI n c) (cr (gI n c) n) ag) []):=by
 refine cB hT Qy hm Vq rfl br rfl 60 adJ (fun _=>?_) K []
 simp only[af.all,aF]
 exact⟨⟨eG aX,h1,h2,h3,eG aX,aa⟩,.refl _⟩
def DH:Spec:=fun K args pre=>match Ei K args pre with
 |some r=>some r
 |none=>Co K args pre
def qN:bG:=zG::(wk,KH)::(114,DH)::(142,jV kR kR Cx qo)::gF
abbrev wq:Code:=aJ f88
abbrev Fm:Code:=part wq [1,1,1,1,0,0,0]
abbrev zF:Code:=part Fm [1,0]
abbrev tX:List Nat:=[1,4,5,6]
abbrev xz (e:Nat) (d:Nat->Rat) (R L:Nat):List AV:=[bS d (e+1) ag,.own 1 3 0 R,.own 0 3 0 L,.int .i64 e]
abbrev xD (n R:Nat) (x q:Nat->Rat):aG:=[(0,dL n x ag),(1,dL R q ag)]
abbrev xP:List Nat:=[1,4,5,6,7,8,55,56,57]
abbrev Eg (e:Nat) (d:Nat->Rat) (R L k i:Nat):List AV:=[bS d (e+1) ag,.own 1 3 0 R,.own 0 3 0 L,.int .i64 e,.int .i64 k,.ptr 2 0 3 0 [],bS d e ag,.int .i64 e,.int .i64 i]
abbrev Gf (n R:Nat) (x q:Nat->Rat) (f:Rat):aG:=[(2,⟨false,true,3,1,fun _=>.rat f ag⟩),(0,dL n x ag),(1,dL R q ag)]
theorem CW:bC 88 f88:=bD func88
theorem Ud {e:Nat} {a d:Nat->Rat}:cy T qN [200020,200029] 60 f88 (aJ f88) ⟨bf 0 [bS a 0 ag,bS d (e+1) ag],[],0⟩=
  let c3:AV:=rat 0 1;let c2:Int:=(↑(0:Nat):Int);let c1:Int:=(↑(e+1):Int)-1;some (aj [cX (fun i=>rat (a i) ag) 0 ag] (aj [-(2:Int)^63<=c1/\c1<2^63] (aj [decide (c2>c1)=false] (aj [decide (c2>c1)=false] (aj [cX (fun x=>c3) 0 ag,(0:Nat)<2^40] (leaf ret [az 3 0 fun i=>rat (aN c3) ag,az 3 0 fun i=>rat (aN (rat (a i) ag)) ag])))))):=ah
theorem Wv {n e:Nat} {a d:Nat->Rat}:aK T qN [20] 60 tX (before wq [1,1,1,1,0]) ⟨bf 0 [bS a (n+1) ag,bS d (e+1) ag],[],0⟩=
  let c6:Int:=(2:Int)^63;let c5:AV:=az 3 (e+1) fun i=>rat (d i) ag;let c3:Int:=(↑(e+1):Int)-1;let c2:Nat:=n+1;let c7:List AV:=[own 12288 3 0 c2,int i64 c3];let c4:Nat×aC:=(12288,aC.mk true true 3 c2 fun i=>rat (aN (rat (a i) ag)) ag);let c1:Int:=(↑c2:Int)-c3;some (aj [cX (fun i=>rat (a i) ag) (n+1) ag,c2<2^30] (aj [-c6<=c3/\c3<c6] (fork (decide ((↑c2:Int)>c3)) (aj [-c6<=c1/\c1<c6,(0:Int)<=c1/\c1<=c1/\c1<=2^47/\c1*(↑(56:Nat):Int)<=2^47] (leaf normal (c5::own 69632 3 0 c1.toNat::c7,[c4,(69632,aC.mk true true 3 c1.toNat fun x=>rat 0 1)]))) (leaf normal (c5::nil::c7,[c4]))))):=ah
theorem QS {n e R L:Nat} {d x q:Nat->Rat}:aK T qN [29] 60 tX (before Fm [1]) ⟨aH tX (xz e d R L),xD n R x q,2⟩=
  let c1:List AV×aG:=([az 3 (e+1) fun i=>rat (d i) ag,own 1 3 0 R,own 0 3 0 L,int i64 (↑e:Int)],[(0,aC.mk true true 3 n fun i=>rat (x i) ag),(1,aC.mk true true 3 R fun i=>rat (q i) ag)]);some (fork (decide ((↑L:Int)>(↑e:Int))) (leaf normal c1) (leaf (exit 0) c1)):=ah
theorem Th {n e R L:Nat} {d x q:Nat->Rat}:aK T qN [] 60 xP (before zF [1,1,1,0,1]) ⟨aH tX (xz e d R L),xD n R x q,2⟩=
  let c7:Prop:=ag<2^42;let c6:Nat:=Int.toNat (0:Int);let c3:Int:=(2:Int)^63;let c2:Int:=(↑e:Int);let c1:Int:=(↑L:Int)-1;let c5:Nat:=c1.toNat+0;let c4:Nat:=(c1-c2).toNat+0;some (aj [-c3<=c1/\c1<c3,-c3<=c1-c2/\c1-c2<c3] (aj [-c3<=c1/\c1<c3,(0:Int)<=c1/\c1.toNat<L,c5<n,(0:Int)<=c2/\c2.toNat<e+1,c7,c7,(0:Nat)<1] (aj [(0:Nat)<1,(0:Int)<=c1-c2/\(c1-c2).toNat<R,c4<R] (aj [(0:Int)<=0/\(0:Int)<=c2/\c2<=c2/\c2<=(↑(e+1):Int)] (leaf normal ([az 3 (e+1) fun i=>rat (d i) ag,own 1 3 0 R,own 0 3 0 L,int i64 c2,int i64 (c1-c2),ptr 81922 0 3 0 [],az 3 (c2.toNat-c6) fun i=>rat (d (i+c6)) ag,int i64 (↑(c2.toNat-c6):Int),int i64 0],[((81922:Nat),iz fun j=>if(j==0)=true then dM (rA (x c5/d c2.toNat) (ag+ag))else rat 0 1),(0,aC.mk true true 3 n fun i=>rat (x i) ag),(1,aC.mk true true 3 R fun j=>rat (bif j==c4 then x c5/d c2.toNat else q j) (bif j==c4 then ag+ag else ag))])))))):=ah
theorem WC {n e R L k i:Nat} {d x q:Nat->Rat} {f:Rat}:aK T qN [58] 60 xP [part zF [1,1,1,0,1,0,0]] ⟨aH xP (Eg e d R L k i),Gf n R x q f,3⟩=
  let c14:AV:=own 0 3 0 L;let c13:AV:=own 1 3 0 R;let c12:Prop:=0<1;let c11:AV:=ptr 2 0 3 0 [];let c10:AV:=int i64 (↑e:Int);let c9:AV:=az 3 e fun i=>rat (d i) ag;let c8:Nat:=2^42;let c7:Int:=(↑i:Int);let c6:AV:=az 3 (e+1) fun i=>rat (d i) ag;let c4:Nat×aC:=(1,aC.mk true true 3 R fun i=>rat (q i) ag);let c3:Nat×aC:=((2:Nat),iz fun x=>rat f ag);let c2:Int:=(2:Int)^63;let c16:Int:=c7+1;let c1:Int:=(↑k:Int)+c7;let c15:Prop:=(0:Int)<=c1/\c1.toNat<L;let c5:Nat:=c1.toNat+0;some (fork (decide (c7<(↑e:Int))) (aj [(0:Int)<=c7/\c7.toNat<e,c12] (aj [-c2<=c1/\c1<c2,-c2<=c1/\c1<c2,c15,c5<n,c12,c12,ag<c8,ag<c8,ag<c8,ag+ag<c8,c15,c5<n] (aj [-c2<=c16/\c16<c2] (leaf normal ([c6,c13,c14,c10,int i64 (↑k:Int),c11,c9,c10,int i64 c16],[c3,(0,aC.mk true true 3 n fun j=>rat (bif j==c5 then x c5-f*d c7.toNat else x j) (bif j==c5 then ag+(ag+ag)+1 else ag)),c4]))))) (leaf (exit 2) ([c6,c13,c14,c10,int i64 (↑k:Int),c11,c9,c10,int i64 c7],[c3,(0,aC.mk true true 3 n fun i=>rat (x i) ag),c4]))):=ah
theorem X6 {n e R L k i:Nat} {d x q:Nat->Rat} {f:Rat}:aK T qN [] 60 tX (behind zF [1,1,1,0,1]) ⟨aH xP (Eg e d R L k i),Gf n R x q f,3⟩=
  let c1:Int:=(↑L:Int)-1;let c2:Nat:=c1.toNat-Int.toNat (0:Int);some (aj [-(2:Int)^63<=c1/\c1<2^63,(0:Int)<=0/\(0:Int)<=c1/\c1<=c1/\c1<=(↑L:Int),c2<=n,c2<2^40,GI (fun i=>rat (x i) ag) n ag] (leaf normal ([az 3 (e+1) fun i=>rat (d i) ag,own 1 3 0 R,own 0 3 0 (cr (fun i=>aN (rat (x i) ag)) c2),int i64 (↑e:Int)],[(0,aC.mk true true 3 n fun i=>rat (aN (rat (x i) ag)) ag),(1,aC.mk true true 3 R fun i=>rat (q i) ag)]))):=ah
theorem aag {n e R L:Nat} {d x q:Nat->Rat}:dJ T qN [] 60 f88 [part wq [1,1,1,1,1]] ⟨aH tX (xz e d R L),xD n R x q,2⟩=
  some (aj [R<=R,R<2^40,GI (fun i=>rat (q i) ag) R ag] (leaf ret [az 3 (cr (fun i=>aN (rat (q i) ag)) R) fun i=>rat (aN (rat (q (i+0)) ag)) ag,az 3 L fun i=>rat (x (i+0)) ag])):=ah
theorem acM:bF P DH 114:=by
 intro K args pre r h
 unfold DH at h
 split at h
 ·rename_i h1
  exact aeC K args pre r (h1.trans h)
 ·exact DO K args pre r h
theorem GO:cm P qN:=jD (aM XF (aM acM (aM (kS fun _ _ K hn=>DJ hn.1 hn.2 K) gU)))
def tM (n e:Nat) (d a:Nat->Rat):Prop:=(∀j,j<=n-e->dy n (cM e d a (n-e) j))/\dy (n-e) (fN e d a (n-e))
abbrev Cz (n e:Nat) (d a:Nat->Rat):AV:=.tuple [bS (fN e d a (n-e)) (cr (fN e d a (n-e)) (n-e)) ag,bS (cM e d a (n-e) (n-e)) (cr (cM e d a (n-e) (n-e)) n) ag]
theorem OR {e:Nat} {a d:Nat->Rat} (he:e<2^30) (K:Nat):aY P 88 K [bS a 0 ag,bS d (e+1) ag] [] (aT (Cz 0 e d a) []):=by
 refine cB hT GO hm CW rfl br rfl 60 Ud (fun _=>?_) K []
 simp only[af.all,aF,bO]
 have e0:cr (fN e d a (0-e)) (0-e)=0:=by rw[Nat.zero_sub];rfl
 refine⟨fun i hi=>absurd hi (Nat.not_lt_zero i),aa,aa,aa,⟨fun i hi=>absurd hi (Nat.not_lt_zero i),aa⟩,?_⟩
 show bg _ _/\bg _ _/\True
 rw[e0]
 exact⟨ko fun i hi=>absurd hi (Nat.not_lt_zero i),ko fun i hi=>absurd hi (Nat.not_lt_zero i),trivial⟩
theorem JT {n e:Nat} {a d:Nat->Rat} (hn:n+1<2^30) (he:e<2^30) (ha:a n≠0) (hd:d e≠0) (hz:tM (n+1) e d a) (K:Nat):aY P 88 K [bS a (n+1) ag,bS d (e+1) ag] [] (aT (Cz (n+1) e d a) []):=by
 refine ja (r:=aT (Cz (n+1) e d a) []) hT CW rfl br rfl (fun _ cx h0=>?_) K []
 have hk:=oD h0
 have hW:=dc
 obtain⟨N,hN⟩:∃N,N=n+1:=⟨_,rfl⟩
 obtain⟨R,hR⟩:∃R,R=N-e:=⟨_,rfl⟩
 have hRr:R=n+1-e:=aa
 unfold tM at hz
 rw[<-hN,<-hR]at hz
 obtain⟨hzR,hzQ⟩:=hz
 refine aA.VU hT GO hm (x:=wq) [1,1,1,1,0] (i:=0) (y:=Fm) ah ah CW.dst [1] (j:=1) (x1:=zF) ah ah ah [1,1,1,0,1] (i2:=2) (y2:=part zF [1,1,1,0,1,0,0]) ah ah rfl ah hk
  (f1:=[20]) (f2:=[29]) (f3:=[]) (f4:=[58]) (f5:=[]) 60 tX xP 2 3 (fun a:Nat×(Nat->Rat)×(Nat->Rat)=>xz e d R a.1) (fun a=>xD N R a.2.1 a.2.2) (fun b=>lM N e R d a b.1 b.2.1 b.2.2/\dy N b.2.1) (fun b=>lM N e R d a b.1 b.2.1 b.2.2/\b.1<=e) (fun b=>b.1) (fun b=>e<b.1) (fun _=>False) (fun _=>False)
  (fun b (i:Nat)=>Eg e d R b.1 (b.1-1-e) i) (fun b i=>Gf N R (jo e d b.2.1 (b.1-1-e) (b.2.1 (b.1-1)/d e) i) (fun j=>if j=b.1-1-e then b.2.1 (b.1-1)/d e else b.2.2 j) (b.2.1 (b.1-1)/d e)) (fun b i=>i<=e/\dy N (jo e d b.2.1 (b.1-1-e) (b.2.1 (b.1-1)/d e) i)) (fun b i=>i=e/\dy N (jo e d b.2.1 (b.1-1-e) (b.2.1 (b.1-1)/d e) e)) (fun _ i=>e-i)
  ⟨_,Wv,?_⟩ (fun b ⟨hb,hx⟩=>⟨_,QS,?_⟩) (fun b ⟨hb,hx⟩ hG=>⟨_,Th,?_⟩) (fun b ⟨hb,hx⟩ hG i ⟨hi,hxi⟩=>⟨_,WC,?_⟩) (fun b ⟨hb,hx⟩ hG i ⟨hi,hxi⟩=>⟨_,X6,?_⟩) (fun b s' ⟨hb,hle⟩ hs'=>?_) (fun _ _ h=>h.elim) (fun _ _ h=>h.elim)
 ·simp only[af.all,aF,bI,bO]
  have hs0:lM N e R d a N a fun _=>0:=lM.start hR (.inr (by rw[hN];exact ha))
  have hsz:dy N a:=hzR 0 (Nat.zero_le _)
  refine⟨⟨eG aX,hn⟩,aa,fun h=>⟨aa,(N,a,fun _=>0),⟨hs0,hsz⟩,[(0,12288),(1,69632)],rfl,?_,rfl,bX rfl rfl hN.symm (fun j hj=>cA rfl rfl) (bX rfl rfl aa (fun j hj=>.inr ⟨rfl,fh rfl aa⟩) trivial)⟩,fun h=>?_⟩
  ·rw[show((n+1:Nat):Int)-(((e+1:Nat):Int)-1)=(R:Nat) by omega,show((e+1:Nat):Int)-1=(e:Nat) by omega,bJ,<-hN];rfl
  ·have h0:R=0:=aa
   clear hzR hzQ
   subst h0
   refine⟨(N,a,fun _=>0),⟨hs0,hsz⟩,[(0,12288)],rfl,?_,rfl,bX rfl rfl hN.symm (fun j hj=>cA rfl rfl) (xL rfl aa aa trivial)⟩
   rw[show((e+1:Nat):Int)-1=(e:Nat) by omega,<-hN];rfl
 ·obtain⟨L,x,q⟩:=b
  simp only[af.all,aF,bI,bO]
  have re:fm [] ([az 3 (e+1) fun i=>rat (d i) ag,own 1 3 0 R,own 0 3 0 L,int i64 (↑e:Int)],[(0,aC.mk true true 3 N fun i=>rat (x i) ag),(1,aC.mk true true 3 R fun i=>rat (q i) ag)]) (xz e d R L) (xD N R x q) 2:=⟨[(0,0),(1,1)],rfl,rfl,rfl,bX rfl rfl rfl (fun j hj=>cA rfl rfl) (bX rfl rfl rfl (fun j hj=>cA rfl rfl) trivial)⟩
  exact⟨fun h=>⟨aa,re⟩,fun h=>⟨rfl,(L,x,q),⟨hb,by dsimp only;omega⟩,re⟩⟩
 ·obtain⟨L,x,q⟩:=b
  have hl:=hb.le
  have hG:e<L:=hG
  dsimp only at hl hb
  have hq:=hb.quot hR hG
  have hf:Sz (x (L-1)/d e) ag:=by rw[hq];exact hzQ _ aa
  simp only[af.all,aF,Nat.add_zero]
  rw[show((L:Int)-1).toNat=L-1 by omega,show((L:Int)-1-(e:Int)).toNat=L-1-e by omega,bJ]
  have hu0:jo e d x (L-1-e) (x (L-1)/d e) 0=x:=by funext j;unfold jo;rw[if_neg aa]
  refine⟨aa,aa,aa,aa,0,⟨Nat.zero_le _,by rw[hu0];exact hx⟩,[(0,0),(1,1),(2,81922)],rfl,?_,rfl,?_⟩
  ·rw[show(L:Int)-1-(e:Int)=(L-1-e:Nat) by omega];rfl
  ·refine kW rfl rfl (.inr ⟨rfl,fO rfl hf⟩) (bX rfl rfl rfl (fun j hj=>.inr ⟨rfl,fh (by rw[hu0]) aX⟩) (bX rfl rfl rfl (fun j hj=>?_) trivial))
   exact qD (x:=q) (y:=fun j=>if j=L-1-e then x (L-1)/d e else q j) (fO (if_pos rfl).symm (by show Sz (if _ then _ else _) _;rw[if_pos rfl];exact hf)) fun hj=>fh (if_neg hj).symm aX
 ·obtain⟨L,x,q⟩:=b
  have hl:=hb.le
  have hG:e<L:=hG
  dsimp only at hl hb hi hxi
  simp only[af.all,aF,bI,bO,Nat.add_zero]
  rw[show((L-1-e:Nat):Int)+(i:Int)=(L-1-e+i:Nat) by omega,bJ,bJ]
  generalize hf:x (L-1)/d e=f at*
  have h1:∀j,j≠L-1-e+i->jo e d x (L-1-e) f i j=jo e d x (L-1-e) f (i+1) j:=fun j hj=>by
   unfold jo
   by_cases h2:L-1-e<=j/\j<L-1-e+i
   ·rw[if_pos h2,if_pos aa]
   ·rw[if_neg h2,if_neg aa]
  have h2:jo e d x (L-1-e) f i (L-1-e+i)-f*d i=jo e d x (L-1-e) f (i+1) (L-1-e+i):=by
   unfold jo
   rw[if_neg aa,if_pos aa,show L-1-e+i-(L-1-e)=i by omega]
  refine⟨fun h=>?_,fun h=>⟨rfl,i,⟨aa,by rw[show i=e by omega]at hxi;exact hxi⟩,[(0,0),(1,1),(2,2)],rfl,rfl,rfl,fq (bX rfl rfl rfl (fun j hj=>cA rfl rfl) (bX rfl rfl rfl (fun j hj=>cA rfl rfl) trivial))⟩⟩
  have hs:Sz (jo e d x (L-1-e) f (i+1) (L-1-e+i)) ag:=by
   subst hf
   rw[hb.HO hR hG (i:=i+1) aa aa aa]
   exact hzR _ aa _ aa
  refine⟨aa,aa,aa,i+1,⟨aa,fun j hj=>?_⟩,by dsimp only;omega,[(0,0),(1,1),(2,2)],rfl,rfl,rfl,fq (bX rfl rfl rfl (fun j hj=>?_) (bX rfl rfl rfl (fun j hj=>cA rfl rfl) trivial))⟩
  ·by_cases h3:j=L-1-e+i
   ·rw[h3];exact hs
   ·rw[<-h1 j h3];exact hxi j hj
  ·exact qD (x:=jo e d x (L-1-e) f i) (y:=jo e d x (L-1-e) f (i+1)) (fO h2 hs) fun hj=>fh (h1 j hj) aX
 ·obtain⟨L,x,q⟩:=b
  have hl:=hb.le
  have hG:e<L:=hG
  dsimp only at hl hb hi hxi
  subst hi
  simp only[af.all,aF]
  rw[show((L:Int)-1).toNat-(0:Int).toNat=L-1 by omega]
  exact⟨⟨aa,aa,aa,aa,fun j hj=>⟨rfl,.refl _⟩⟩,(_,_,_),⟨hb.next hR hd hG,hxi⟩,Nat.lt_of_le_of_lt fU (show L-1<L by omega),[(0,0),(1,1)],rfl,rfl,rfl,bX rfl rfl rfl (fun j hj=>cA rfl rfl) (bX rfl rfl rfl (fun j hj=>cA rfl rfl) trivial)⟩
 ·obtain⟨L,x,q⟩:=b
  dsimp only at hb hle
  obtain⟨f1,f2,f3⟩:=hb.fin hR hle
  have hl:=hb.le
  rw[show behind wq [1,1,1,1,0]=[part wq [1,1,1,1,1]]from by kernel_rfl]
  refine aI.weak rfl hs' (aI.mono (fun _ _ h=>.inl h) (aI.fin hT GO hm 60 aag ah ?_))
  simp only[af.all,aF,Nat.add_zero]
  refine⟨⟨aX,aa,fun j hj=>⟨rfl,.refl _⟩⟩,?_⟩
  show bg _ _/\bg _ _/\True
  rw[<-hN,<-hR,<-f1,<-BY (k:=q) f3]
  exact⟨ko fun i hi=>fh (f3 i (Nat.lt_of_lt_of_le hi fU)) aX,ko fun i hi=>fh (f2 i hi) aX,trivial⟩
def B2:Spec:=eR (kC (kL ag) (kC (kL ag) kN)) (fun a=>Cz a.1.1 (a.2.1.1-1) a.2.1.2 a.1.2) fun a=>[a.1.1<2^30,1<=a.2.1.1,a.2.1.1<2^30,a.1.1=0\/a.1.2 (a.1.1-1)≠0,a.2.1.2 (a.2.1.1-1)≠0,tM a.1.1 (a.2.1.1-1) a.2.1.2 a.1.2]
theorem CZ:bF P B2 88:=fk fun⟨⟨n,a⟩,⟨m,d⟩,_⟩ K hn=>by
 obtain⟨h1,h2,h3,h4,h5,h6⟩:=hn
 simp only at h1 h2 h3 h4 h5 h6
 obtain⟨e,rfl⟩:∃e,m=e+1:=⟨m-1,aa⟩
 cases n with
 |zero=>exact OR aa K
 |succ n=>exact JT h1 aa (by simpa using h4) h5 h6 K
abbrev aO (a:PP):AV:=bS a.2 a.1 ag
def Ba:bG:=zG::(88,B2)::(135,Gg)::gF
abbrev yx:Code:=aJ f72
abbrev zk:List Nat:=[0,1]
abbrev CN (s:PP×PP):List AV:=[aO s.1,aO s.2]
def s7 (a d:PP):Prop:=tM a.1 (d.1-1) d.2 a.2
def oe (s:PP×PP):Prop:=(∀j,(ct s j).2.1≠0->s7 (ct s j).1 (ct s j).2/\dy (fe (ct s j).1 (ct s j).2).1 (cT (fe (ct s j).1 (ct s j).2).1 (fe (ct s j).1 (ct s j).2).2))/\dy (bL s.1 s.2).1 (bL s.1 s.2).2
def zq:Spec:=eR (kC (kL ag) (kC (kL ag) kN)) (fun a=>aO (bL a.1 a.2.1)) fun a=>[a.1.1<2^30,a.2.1.1<2^30,Trim a.1,Trim a.2.1,oe (a.1,a.2.1)]
def zR (a:PP):Prop:=a.1≠0->oe (a,bh a)/\s7 a (bL a (bh a))/\dy (aW a).1 (aW a).2
def HK:bG:=zG::(88,B2)::(135,Gg)::(73,Bf)::(72,zq)::gF
theorem Ts:bC 72 f72:=bD func72
theorem afi:bC 80 f80:=bD func80
theorem Tg {s:PP×PP}:aK T Ba [] 60 zk (before yx [1,0]) ⟨bf 0 [aO s.1,aO s.2],[],0⟩=
  some (leaf normal ([az 3 s.fst.fst fun i=>rat (s.fst.snd i) ag,az 3 s.snd.fst fun i=>rat (s.snd.snd i) ag],[])):=ah
theorem ZH {a b:PP}:aK T Ba [9] 60 zk [part yx [1,0,0,0]] ⟨aH zk [aO a,aO b],[],0⟩=
  let c3:AV:=az 3 b.fst fun i=>rat (b.snd i) ag;let c2:Nat:=b.fst-1;let c4:Nat:=a.fst-c2;let c1:Nat:=cr (cM c2 (fun i=>aN (rat (b.snd i) ag)) (fun i=>aN (rat (a.snd i) ag)) c4 c4) a.fst;some (fork (decide ((↑b.fst:Int)>0)) (aj [cX (fun i=>rat (a.snd i) ag) a.fst ag,cX (fun i=>rat (b.snd i) ag) b.fst ag,a.fst<2^30,(1:Nat)<=b.fst,b.fst<2^30,a.fst=0\/aN (rat (a.snd (a.fst-1)) ag)≠0,aN (rat (b.snd c2) ag)≠0,tM a.fst c2 (fun i=>aN (rat (b.snd i) ag)) fun i=>aN (rat (a.snd i) ag)] (aj [cX (fun i=>rat (cM c2 (fun i=>aN (rat (b.snd i) ag)) (fun i=>aN (rat (a.snd i) ag)) c4 c4 i) ag) c1 ag,c1<2^40,dy c1 (cT c1 fun i=>aN (rat (cM c2 (fun i=>aN (rat (b.snd i) ag)) (fun i=>aN (rat (a.snd i) ag)) c4 c4 i) ag))] (leaf normal ([c3,az 3 c1 fun i=>rat (cT c1 (fun i=>aN (rat (cM c2 (fun i=>aN (rat (b.snd i) ag)) (fun i=>aN (rat (a.snd i) ag)) c4 c4 i) ag)) i) ag],[])))) (leaf (exit 0) ([az 3 a.fst fun i=>rat (a.snd i) ag,c3],[]))):=ah
theorem W4 {a b:PP}:dJ T Ba [] 60 f72 [part yx [1,1]] ⟨aH zk [aO a,aO b],[],0⟩=
  some (aj [cX (fun i=>rat (a.snd i) ag) a.fst ag,a.fst<2^40,dy a.fst (cT a.fst fun i=>aN (rat (a.snd i) ag))] (leaf ret [az 3 a.fst fun i=>rat (cT a.fst (fun i=>aN (rat (a.snd i) ag)) i) ag])):=ah
theorem Sr {a:PP}:cy T HK [7] 60 f80 (aJ f80) ⟨bf 0 [aO a],[],0⟩=
  let c9:Nat:=a.fst;let c8:Nat:=2^30;let c11:Nat:=c9-1;let c7:Nat×(Nat->Rat):=(c9,fun i=>aN (rat (a.snd i) ag));let c6:Prop:=cX (fun i=>rat (a.snd i) ag) c9 ag;let c3:Nat:=cr (dF fun i=>aN (rat (a.snd i) ag)) c11;let c5:Nat×(Nat->Rat):=(c3,fun i=>aN (rat (dF (fun i=>aN (rat (a.snd i) ag)) i) ag));let c1:PP:=(ct (c7,c5) c3).fst;let c10:Nat:=c1.fst;let c4:Nat:=c10-1;let c2:Nat:=cr (fN c4 (fun i=>aN (rat (cT c10 c1.snd i) ag)) (fun i=>aN (rat (a.snd i) ag)) (c9-c4)) (c9-c4);some (fork ((↑c9:Int)==0) (leaf ret [nil]) (aj [c6,c9<2^40,dy c11 (dF fun i=>aN (rat (a.snd i) ag)),c6,cX (fun i=>rat (dF (fun i=>aN (rat (a.snd i) ag)) i) ag) c3 ag,c9<c8,c3<c8,Trim c7,Trim c5,oe (c7,c5),c6,cX (fun i=>rat (cT c10 c1.snd i) ag) c10 ag,c9<c8,(1:Nat)<=c10,c10<c8,c9=0\/aN (rat (a.snd c11) ag)≠0,aN (rat (cT c10 c1.snd c4) ag)≠0,tM c9 c4 (fun i=>aN (rat (cT c10 c1.snd i) ag)) fun i=>aN (rat (a.snd i) ag)] (aj [cX (fun i=>rat (fN c4 (fun i=>aN (rat (cT c10 c1.snd i) ag)) (fun i=>aN (rat (a.snd i) ag)) (c9-c4) i) ag) c2 ag,c2<2^40,dy c2 (cT c2 fun i=>aN (rat (fN c4 (fun i=>aN (rat (cT c10 c1.snd i) ag)) (fun i=>aN (rat (a.snd i) ag)) (c9-c4) i) ag))] (leaf ret [az 3 c2 fun i=>rat (cT c2 (fun i=>aN (rat (fN c4 (fun i=>aN (rat (cT c10 c1.snd i) ag)) (fun i=>aN (rat (a.snd i) ag)) (c9-c4) i) ag)) i) ag])))):=ah
theorem TO:cm P Ba:=jD (aM CZ (aM NG gU))
theorem SM {a b:PP} (ha:a.1<2^30) (hb:b.1<2^30) (ta:Trim a) (tb:Trim b) (hz:oe (a,b)) (K:Nat):aY P 72 K [aO a,aO b] [] (aT (aO (bL a b)) []):=by
 obtain⟨s,hs⟩:∃s,s=(a,b):=⟨_,rfl⟩
 have hT1:=mH (s:=s) (by rw[hs];exact ta) (by rw[hs];exact tb)
 have hL:=BE (s:=s) (by rw[hs];exact ta) (by rw[hs];exact tb)
 have hB:=Cg (s:=s) (B:=2^30-1) (by rw[hs];dsimp only;omega) (by rw[hs];dsimp only;omega) (by rw[hs];exact ta) (by rw[hs];exact tb)
 have hb2:s.2.1=b.1:=by rw[hs]
 rw[<-hs]at hz
 refine pX (r:=aT (aO (bL a b)) []) hT TO hm Ts rfl br rfl [1,0] (i:=0) (y:=part yx [1,0,0,0]) (z:=part yx [1,1]) ah ah ah (f1:=[]) (f2:=[9]) (f3:=[]) 60 zk 0
  (fun j:Nat=>CN (ct s j)) (fun _=>[]) (fun j=>j<=b.1) (fun j=>j<=b.1/\(ct s j).2.1=0) (fun j=>(ct s j).2.1) (fun _=>⟨⟨_,Tg (s:=(a,b)),?_⟩,fun j hj=>⟨_,ZH,?_⟩,fun j hj=>⟨_,W4,?_⟩⟩) K []
 ·simp only[af.all,aF]
  exact⟨0,Nat.zero_le _,by rw[hs];exact fm.vals rfl⟩
 ·have h1:=hT1 j
  have h2:=hL j
  have h3:=hB j
  have h4:=hB (j+1)
  have h5:=hz.1 j
  have e1:(ct s j).2.1≠0->ct s (j+1)=((ct s j).2,gq (fe (ct s j).1 (ct s j).2)):=fun h=>if_neg h
  have e2:=hL (j+1)
  obtain⟨x,y,hx⟩:∃x y,ct s j=(x,y):=⟨_,_,rfl⟩
  rw[hx]at h1 h2 h3 h5 e1
  dsimp only at h1 h2 h3 h5 e1
  simp only[af.all,aF,bI,bO,hx]
  refine⟨fun h=>?_,fun h=>⟨rfl,j,⟨hj,by rw[hx];dsimp only;omega⟩,by show fm _ _ (CN (ct s j)) _ _;rw[hx];exact fm.vals rfl⟩⟩
  have hy:y.1≠0:=aa
  have e1:=e1 hy
  rw[e1]at h4 e2
  have hr:(fe x y).1<y.1:=oG aa h1.2
  have ty:y.2 (y.1-1)≠0:=by rcases h1.2 with h|h;omega;exact h
  refine⟨⟨eG aX,eG aX,aa,aa,aa,h1.1,ty,(h5 hy).1⟩,⟨eG aX,by show(fe x y).1<_;omega,(h5 hy).2⟩,j+1,aa,?_,?_⟩
  ·show(ct s (j+1)).2.1<(ct s j).2.1
   rw[e1,hx];exact hr
  ·show fm _ _ (CN (ct s (j+1))) _ _
   rw[e1];exact fm.vals rfl
 ·obtain⟨hj,h0⟩:=hj
  have hg:gq (ct s j).1=bL a b:=by rw[hs]at h0 ⊢;exact aed ta tb hj h0
  have h3:=hB j
  have hz2:=hz.2
  rw[show s.1=a by rw[hs],show s.2=b by rw[hs],<-hg]at hz2
  rw[<-hg]
  simp only[af.all,aF]
  exact⟨⟨eG aX,aa,hz2⟩,.refl _⟩
theorem As:bF P zq 72:=fk fun⟨a,b,_⟩ K hn=>SM hn.1 hn.2.1 hn.2.2.1 hn.2.2.2.1 hn.2.2.2.2 K
theorem aeT:cm P HK:=jD (aM CZ (aM NG (aM Gc (aM As gU))))
theorem JW {a:PP} (ha:a.1<2^30) (ta:Trim a) (hd:dy (a.1-1) (dF a.2)) (hz:zR a) (K:Nat):aY P 80 K [aO a] [] (aT (aO (aW a)) []):=by
 refine cB hT aeT hm afi rfl br rfl 60 Sr (fun _=>?_) K []
 simp only[af.all,aF,beq_iff_eq,beq_eq_false_iff_ne]
 refine⟨fun h=>?_,fun h=>?_⟩
 ·have h0:a.1=0:=aa
  unfold aW
  rw[if_pos h0];exact mC aa
 ·have h0:a.1≠0:=aa
  obtain⟨z1,z2,z3⟩:=hz h0
  have e0:aW a=gq (gJ a (bL a (bh a))):=if_neg h0
  rw[e0]at z3 ⊢
  have hd1:(bh a).1<=a.1-1:=fU
  have hg:=Cg (s:=(a,bh a)) (B:=a.1) aX (by dsimp only;omega) ta dS (bh a).1
  have hgp:0<(bL a (bh a)).1:=mP aa
  have tg:Trim (bL a (bh a)):=j8 ta dS
  have tg':(bL a (bh a)).2 ((bL a (bh a)).1-1)≠0:=by rcases tg with h|h;omega;exact h
  have hq:(gJ a (bL a (bh a))).1<=a.1:=Nat.le_trans fU (Nat.sub_le _ _)
  exact⟨⟨eG aX,aa,hd,eG aX,eG aX,ha,Nat.lt_of_le_of_lt hd1 aa,ta,dS,z1,eG aX,eG aX,ha,hgp,Nat.lt_of_le_of_lt hg ha,ta,tg',z2⟩,⟨eG aX,Nat.lt_of_le_of_lt hq aa,z3⟩,.refl _⟩
def Ia:Spec:=eR (kC (kL ag) kN) (fun a=>aO (aW a.1)) fun a=>[a.1.1<2^30,Trim a.1,dy (a.1.1-1) (dF a.1.2),zR a.1]
theorem Rq:bF P Ia 80:=fk fun⟨a,_⟩ K hn=>JW hn.1 hn.2.1 hn.2.2.1 hn.2.2.2 K
end Go.Am.B
