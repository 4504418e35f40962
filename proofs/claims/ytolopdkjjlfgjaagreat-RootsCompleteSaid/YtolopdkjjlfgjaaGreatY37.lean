/- bB by the shape of the arguments: numbers, points, planes, maps. -/
import Derived.Test.YtolopdkjjlfgjaaGreatB33
import Init
import Derived.Test.YtolopdkjjlfgjaaGreatZ2
set_option linter.unusedVariables false
noncomputable section
namespace Go.Am.B
open Go Go.Am.N AV Proofs.Tryz IntKind
@[ext] structure V3 where
 x:Rat
 y:Rat
 z:Rat
structure M3 where
 a:V3
 b:V3
 c:V3
abbrev rA (q:Rat) (n:Nat):AV:=.rat q n
abbrev vA (v:V3) (n:Nat):AV:=.agg [.rat v.x n,.rat v.y n,.rat v.z n]
abbrev Gk (m:M3) (n:Nat):AV:=.agg [vA m.a n,vA m.b n,vA m.c n]
theorem dD {q r:Rat} {n k:Nat} (h:q=r) (hk:n<=k):bG (.rat q n) (.rat r k):=h▸nu hk
theorem B3 {u v:V3} {n k:Nat} (h:u=v) (hk:n<=k):bG (vA u n) (vA v k):=
 h▸nD ⟨dD rfl hk,dD rfl hk,dD rfl hk,trivial⟩
structure Kind (α:Type) where
 read:AV->Option (α×List Prop)
 make:α->AV
 ok:∀{v:AV} {a:α} {q:List Prop},read v=some (a,q)->aA q->bG v (make a)
def oN:AV->Option (Rat×Nat)
 |.rat q n=>some (q,n)
 |.agg [.bool false,.mag 0,.mag 0]=>some (0,1)
 |_=>none
theorem yJ {v:AV} {a:Rat×Nat} (h:oN v=some a):bG v (rA a.1 a.2):=by
 unfold oN at h
 split at h
 ·simp only[ax]at h;subst h;exact .refl _
 ·simp only[ax]at h;subst h;exact oH
 ·simp at h
def DX (v:AV):Option ((Rat×Nat)×List Prop):=match oN v with
 |some a=>some (a,[])
 |none=>none
theorem aaJ {v:AV} {a:Rat×Nat} {q:List Prop} (h:DX v=some (a,q)) (_:aA q):bG v (rA a.1 a.2):=by
 unfold DX at h
 split at h
 ·rename_i h1
  simp only[ax,Prod.mk.injEq]at h
  obtain⟨rfl,rfl⟩:=h
  exact yJ h1
 ·simp at h
def kR:Kind (Rat×Nat):=⟨DX,fun a=>rA a.1 a.2,aaJ⟩
section specs
variable {α β γ δ:Type} {f:FuncId}
def Eg (k:Kind α) (g:α->AV) (need:α->List Prop):Spec:=b7 fun l=>match l with
 |[x]=>match k.read x with
  |some (a,p)=>some (aM (g a) (p++need a))
  |none=>none
 |_=>none
theorem Nv {k:Kind α} {g:α->AV} {need:α->List Prop} (h:∀a K,aA (need a)->aQ P f K [k.make a] [] (aM (g a) [])):bA P (Eg k g need) f:=by
 refine cP fun K args r hk hs _=>?_
 split at hs
 ·split at hs
  ·rename_i h1
   simp only[ax]at hs
   subst hs
   intro hn
   obtain⟨n1,hn⟩:=gj.1 hn
   exact gY (h _ K hn) hk ⟨k.ok h1 n1,trivial⟩ [] trivial
  ·simp at hs
 ·simp at hs
def jA (k:Kind α) (k2:Kind β) (g:α->β->AV) (need:α->β->List Prop):Spec:=b7 fun l=>match l with
 |[x,y]=>match k.read x,k2.read y with
  |some (a,p),some (b,q)=>some (aM (g a b) (p++(q++need a b)))
  |_,_=>none
 |_=>none
theorem jZ {k:Kind α} {k2:Kind β} {g:α->β->AV} {need:α->β->List Prop} (h:∀a b K,aA (need a b)->aQ P f K [k.make a,k2.make b] [] (aM (g a b) [])):bA P (jA k k2 g need) f:=by
 refine cP fun K args r hk hs _=>?_
 split at hs
 ·split at hs
  ·rename_i h1 h2
   simp only[ax]at hs
   subst hs
   intro hn
   obtain⟨n1,hn⟩:=gj.1 hn
   obtain⟨n2,hn⟩:=gj.1 hn
   exact gY (h _ _ K hn) hk ⟨k.ok h1 n1,k2.ok h2 n2,trivial⟩ [] trivial
  ·simp at hs
 ·simp at hs
def KW (k:Kind α) (k2:Kind β) (k3:Kind γ) (g:α->β->γ->AV) (need:α->β->γ->List Prop):Spec:=b7 fun l=>match l with
 |[x,y,z]=>match k.read x,k2.read y,k3.read z with
  |some (a,p),some (b,q),some (c,r)=>some (aM (g a b c) (p++(q++(r++need a b c))))
  |_,_,_=>none
 |_=>none
theorem PU {k:Kind α} {k2:Kind β} {k3:Kind γ} {g:α->β->γ->AV} {need:α->β->γ->List Prop} (h:∀a b c K,aA (need a b c)->aQ P f K [k.make a,k2.make b,k3.make c] [] (aM (g a b c) [])):bA P (KW k k2 k3 g need) f:=by
 refine cP fun K args r hk hs _=>?_
 split at hs
 ·split at hs
  ·rename_i h1 h2 h3
   simp only[ax]at hs
   subst hs
   intro hn
   obtain⟨n1,hn⟩:=gj.1 hn
   obtain⟨n2,hn⟩:=gj.1 hn
   obtain⟨n3,hn⟩:=gj.1 hn
   exact gY (h _ _ _ K hn) hk ⟨k.ok h1 n1,k2.ok h2 n2,k3.ok h3 n3,trivial⟩ [] trivial
  ·simp at hs
 ·simp at hs
end specs
def pJ (a b:Rat×Nat):List Prop:=[a.2<2^42,b.2<2^42]
def qx (a b:Rat×Nat):List Prop:=[a.2<2^41,b.2<2^41]
def AF (a b:Rat×Nat):AV:=rA (a.1+b.1) (a.2+b.2+1)
def Lh (a b:Rat×Nat):AV:=rA (a.1-b.1) (a.2+b.2+1)
def C0 (a b:Rat×Nat):AV:=rA (a.1*b.1) (a.2+b.2)
def yV (a b:Rat×Nat):AV:=.tuple [rA (a.1/b.1) (a.2+b.2),.int .i64 (if b.1=0 then 3 else 0)]
def Na (a b:Rat×Nat):AV:=.int .i64 (iw a.1 b.1)
def G5 (a b:Rat×Nat):AV:=.bool (decide (a.1=b.1))
def Nd (a:Rat×Nat):AV:=.int .i64 (bC a.1)
abbrev DM:FuncId×Spec:=(71,MF)
def ia:bB:=[(128,jA kR kR AF pJ),(143,jA kR kR Lh pJ),(129,jA kR kR C0 pJ),(110,jA kR kR G5 pJ),(58,jA kR kR Na pJ),(65,Eg kR Nd fun a=>[a.2<2^42]),DM]
def nr:bB:=[(92,jA kR kR AF qx),(53,jA kR kR Lh qx),(90,jA kR kR C0 qx),(26,jA kR kR G5 qx),(27,jA kR kR Na qx),(24,Eg kR Nd fun a=>[a.2<2^41]),(23,BX)]
theorem WC:bA P DM.2 DM.1:=SX
theorem ir:bT P ia:=aN (jZ fun _ _ K hn=>Y5 hn.1 hn.2 K) (aN (jZ fun _ _ K hn=>Se hn.1 hn.2 K) (aN (jZ fun _ _ K hn=>Ip hn.1 hn.2 K)
 (aN (jZ fun _ _ K hn=>Rd (Nat.lt_trans hn.1 aa) (Nat.lt_trans hn.2 aa) K []) (aN (jZ fun _ _ K hn=>Jt hn.1 hn.2 K []) (aN (Nv fun _ K hn=>Gh (Nat.lt_trans hn aa) K []) (aN WC ct))))))
theorem o4:bT P nr:=aN (jZ fun _ _ K hn=>IU hn.1 hn.2 K) (aN (jZ fun _ _ K hn=>UH hn.1 hn.2 K) (aN (jZ fun _ _ K hn=>Sd hn.1 hn.2 K)
 (aN (jZ fun _ _ K hn=>US (Nat.lt_trans hn.1 aa) (Nat.lt_trans hn.2 aa) K []) (aN (jZ fun _ _ K hn=>ab8 hn.1 hn.2 K) (aN (Nv fun _ K _=>Jp K []) (aN Nx ct))))))
end Go.Am.B
namespace Go.Am.B
structure Kn (n p:Nat) (k:Nat->Rat):Prop where
 p1:1<=p
 len:2*p+2<=n
 sorted:∀i,i+1<n->k i<=k (i+1)
 first:∀i,i<=p->k i=k 0
 last:∀i,n<=i+p+1->i<n->k i=k (n-1)
 mult:∀i,1<=i->i+p+1<n->k i<k (i+p)
theorem CP {n:Nat} {k:Nat->Rat} (h:∀i,i+1<n->k i<=k (i+1)) {i:Nat}:∀{j:Nat},i<=j->j<n->k i<=k j
 |0,hij,_=>by
    have:i=0:=by omega
    subst this;exact Rat.le_refl
 |j+1,hij,hj=>by
  by_cases he:i=j+1
  ·subst he;exact Rat.le_refl
  ·exact Rat.le_trans (CP h (j:=j) (by omega) (by omega)) (h j hj)
theorem Kn.mono {n p:Nat} {k:Nat->Rat} (h:Kn n p k) {i j:Nat} (hij:i<=j) (hj:j<n):k i<=k j:=CP h.sorted hij hj
def fr (a b t:Rat):Rat:=(t-a)/(b-a)
def vB (k:Nat->Rat) (i:Nat) (t:Rat):Nat->Nat->Rat
 |0,j=>if j=0 then 1 else 0
 |d+1,j=>(if j=0 then 0 else fr (k (i-d+(j-1))) (k (i-d+(j-1)+(d+1))) t*vB k i t d (j-1))+
   (if j<=d then(1-fr (k (i-d+j)) (k (i-d+j+(d+1))) t)*vB k i t d j else 0)
structure At (n:Nat) (k:Nat->Rat) (i:Nat):Prop where
 lt:i+1<n
 sorted:∀i,i+1<n->k i<=k (i+1)
 wide:k i<k (i+1)
def W5 (k:Nat->Rat) (b p r:Nat) (t:Rat) (x:Nat->Rat) (j:Nat):Rat:=
 if r<j then x (j-1)+fr (k (b+j)) (k (b+j+(p-r))) t*(x j-x (j-1))else x j
def bl (k:Nat->Rat) (b p:Nat):Nat->(Nat->Rat)->List Rat->Nat->Rat
 |_,x,[]=>x
 |r,x,t::l=>bl k b p (r+1) (W5 k b p r t x) l
variable {k:Nat->Rat} {b p:Nat}
variable {n:Nat}
end Go.Am.B
namespace Go.Am.B
open AV
def aW:AV->Rat
 |.rat q _=>q
 |_=>0
def dU (f:Nat->AV) (n s:Nat):Prop:=∀i,i<n->bG (f i) (.rat (aW (f i)) s)
abbrev bD (k:Nat->Rat) (n s:Nat):AV:=.aq 3 n (fun i=>.rat (k i) s)
theorem eG {k:Nat->Rat} {n s s':Nat} (h:s<=s'):dU (fun i=>.rat (k i) s) n s':=fun _ _=>nu h
theorem Vd {f:Nat->AV} {n s:Nat} (h:dU f n s):bG (.aq 3 n f) (bD (fun i=>aW (f i)) n s):=iz h
def yl:AV->Option (Nat×(Nat->AV))
 |.aq 3 n f=>some (n,f)
 |.nil=>some (0,fun _=>.rat 0 1)
 |_=>none
theorem Z1 {v:AV} {n s:Nat} {f:Nat->AV} (h:yl v=some (n,f)) (ha:dU f n s):bG v (bD (fun i=>aW (f i)) n s):=by
 unfold yl at h
 split at h
 ·simp only[ax,Prod.mk.injEq]at h
  obtain⟨rfl,rfl⟩:=h
  exact Vd ha
 ·simp only[ax,Prod.mk.injEq]at h
  obtain⟨rfl,rfl⟩:=h
  exact lS aa
 ·simp at h
end Go.Am.B
namespace Go.Am
def bn:Nat->Nat->Nat
 |_,0=>1
 |0,_+1=>0
 |n+1,k+1=>bn n k+bn n (k+1)
theorem qc (n:Nat):bn n 0=1:=by cases n<;>rfl
theorem oy (n k:Nat):bn (n+1) (k+1)=bn n k+bn n (k+1):=rfl
theorem nS:∀{n k:Nat},n<k->bn n k=0
 |0,_+1,_=>rfl
 |n+1,k+1,h=>by rw[oy,nS (by omega),nS (by omega)]
theorem MV:∀n:Nat,bn n n=1
 |0=>rfl
 |n+1=>by rw[oy,MV n,nS (by omega)]
theorem qO:∀n k:Nat,bn n k<=2^n
 |0,0=>by decide
 |0,_+1=>by rw[nS (by omega)];exact Nat.zero_le _
 |n+1,0=>by rw[qc];exact Nat.one_le_two_pow
 |n+1,k+1=>by
  have h1:=qO n k
  have h2:=qO n (k+1)
  rw[oy,Nat.pow_succ];omega
theorem zn:∀{n k:Nat},k<=n->0<bn n k
 |n,0,_=>by rw[qc];exact Nat.one_pos
 |n+1,k+1,h=>by
  have:=zn (n:=n) (k:=k) (by omega)
  rw[oy];omega
theorem zY {n k:Nat} (h:n<=40):bn n k<=2^40:=Nat.le_trans (qO n k) (Nat.pow_le_pow_right (by decide) h)
theorem ze:∀n k:Nat,(k+1)*bn n (k+1)=(n-k)*bn n k
 |0,0=>rfl
 |0,k+1=>by rw[nS (by omega),Nat.zero_sub];simp
 |n+1,0=>by
  have:=ze n 0
  simp only[qc,Nat.zero_add,Nat.one_mul,Nat.sub_zero,Nat.mul_one]at this ⊢
  rw[oy,qc,this];omega
 |n+1,k+1=>by
  have h1:=ze n k
  have h2:=ze n (k+1)
  rw[oy n (k+1),oy n k,show n+1-(k+1)=n-k by omega]
  by_cases h:k+1<=n
  ·obtain⟨m,rfl⟩:∃m,n=k+1+m:=⟨n-(k+1),by omega⟩
   rw[show k+1+m-(k+1)=m by omega]at h2
   rw[show k+1+m-k=m+1 by omega]at h1 ⊢
   generalize bn (k+1+m) (k+1+1)=A at*
   generalize bn (k+1+m) (k+1)=B at*
   generalize bn (k+1+m) k=C at*
   have e1:(k+1+1)*(B+A)=(k+1)*B+B+(k+1+1)*A:=by rw[Nat.mul_add,Nat.add_mul (k+1) 1 B,Nat.one_mul]
   have e2:(m+1)*(C+B)=(m+1)*C+(m*B+B):=by rw[Nat.mul_add,Nat.add_mul m 1 B,Nat.one_mul]
   rw[e1,e2,h2,h1];omega
  ·rw[nS (n:=n) (k:=k+1+1) (by omega)]
   by_cases h3:k=n
   ·subst h3
    rw[nS (by omega),Nat.sub_self];simp
   ·rw[nS (n:=n) (k:=k+1) (by omega),nS (n:=n) (k:=k) (by omega)];simp
end Go.Am
namespace Go.Am.B
open Go Go.Am.N AV af ak IntKind Proofs.Tryz
abbrev qB (n:Nat) (g:Nat->Int):ay:=⟨true,true,1,n,fun i=>.int .i64 (g i)⟩
abbrev cZ (m:Nat) (k:Nat->Rat) (s:Nat):ay:=⟨true,true,3,m,fun i=>.rat (k i) s⟩
def GZ:bB:=zG::ia
abbrev AR:Code:=aG f158
abbrev xT:Code:=part AR [1,1,0,1,0,0]
abbrev z7:Code:=part xT [1,1,0,0]
abbrev rR:Code:=part AR [1,1,1]
abbrev rY:List Nat:=[0,3,9,10]
abbrev BG (n r:Nat):List AV:=[.int .i64 n,.own 0 1 0 (r+1),.int .i64 n,.int .i64 r]
abbrev xW:List Nat:=[0,3,9,10,4]
abbrev Ce (n r j:Nat):List AV:=[.int .i64 n,.own 0 1 0 (r+1+1),.int .i64 n,.int .i64 r,.int .i64 j]
abbrev ye:List Nat:=[37,5,38,39]
abbrev D7 (n i:Nat):List AV:=[.own 0 1 0 (n+1),.own 1 3 0 (n+1),.int .i64 (n+1:Nat),.int .i64 i]
abbrev Ex (n:Nat) (g:Nat->Int) (x:Nat->Rat):aD:=[(1,cZ (n+1) x 64),(0,qB (n+1) g)]
theorem Ot:bu 158 f158:=bz func158
theorem R5 {n:Nat}:aH T GZ [] 60 rY (before AR [1,1,0,1]) ⟨aV 0 [.int .i64 n],[],0⟩=
  some (aj [(1:Nat)*1<=2^24] (leaf normal ([int i64 (↑n:Int),own 4096 1 0 1,int i64 (↑n:Int),int i64 0],[(4096,ay.mk true true 1 1 fun i=>nth [int i64 1] (int i64 0) i)]))):=ag
theorem S3 {n r:Nat} {g:Nat->Int}:aH T GZ [11] 60 rY (before xT [1,1,0]) ⟨aE rY (BG n r),[(0,qB (r+1) g)],1⟩=
  let c2:Int:=(↑n:Int);let c1:List AV×aD:=([int i64 c2,own 0 1 0 (r+1),int i64 c2,int i64 (↑r:Int)],[(0,ay.mk true true 1 (r+1) fun i=>int i64 (g i))]);some (fork (decide ((↑r:Int)<c2)) (leaf normal c1) (leaf (exit 0) c1)):=ag
theorem Zz {n r:Nat} {g:Nat->Int}:aH T GZ [] 60 xW (before z7 [1,1]) ⟨aE rY (BG n r),[(0,qB (r+1) g)],1⟩=
  let c3:Nat:=r+1;let c1:Nat:=c3+1;let c2:Int:=(↑c1:Int)-2;some (aj [(1:Nat)*1<=2^24,c1*((8:Nat)+1)*2<=2^47] (aj [-(2:Int)^63<=c2/\c2<2^63] (leaf normal ([int i64 (↑n:Int),own 8193 1 0 c1,int i64 (↑n:Int),int i64 (↑r:Int),int i64 c2],[(8193,ay.mk true true 1 c1 fun i=>if i<c3 then int i64 (g i)else nth [int i64 1] (int i64 0) (i-c3+0))])))):=ag
theorem Sb {n r j:Nat} {g:Nat->Int}:aH T GZ [19] 60 xW [part z7 [1,1,0,0]] ⟨aE xW (Ce n r j),[(0,qB (r+1+1) g)],1⟩=
  let c7:AV:=int i64 (↑n:Int);let c5:Int:=(↑j:Int);let c4:Int:=(2:Int)^63;let c1:Nat:=r+1+1;let c9:Prop:=(0:Int)<=c5/\c5.toNat<c1;let c8:AV:=own 0 1 0 c1;let c3:Nat:=c5.toNat+0;let c2:Int:=c5-1;let c6:Int:=g c3+g (c2.toNat+0);some (fork (decide (c5>0)) (aj [c9,c3<c1,-c4<=c2/\c2<c4,(0:Int)<=c2/\c2.toNat<c1,c2.toNat+0<c1,-c4<=c6/\c6<c4,c9,c3<c1] (aj [-c4<=c2/\c2<c4] (leaf normal ([c7,c8,c7,int i64 (↑r:Int),int i64 c2],[(0,ay.mk true true 1 c1 fun j=>int i64 (bif j==c3 then c6 else g j))])))) (leaf (exit 2) ([c7,c8,c7,int i64 (↑r:Int),int i64 c5],[(0,ay.mk true true 1 c1 fun i=>int i64 (g i))]))):=ag
theorem Te {n r j:Nat} {g:Nat->Int}:aH T GZ [] 60 rY [part xT [1,1,1]] ⟨aE xW (Ce n r j),[(0,qB (r+1+1) g)],1⟩=
  let c2:Nat:=r+1+1;let c1:Int:=(↑r:Int)+1;some (aj [-(2:Int)^63<=c1/\c1<2^63] (leaf normal ([int i64 (↑n:Int),own 0 1 0 c2,int i64 (↑n:Int),int i64 c1],[(0,ay.mk true true 1 c2 fun i=>int i64 (g i))]))):=ag
theorem aex {n r:Nat} {g:Nat->Int}:aH T GZ [] 60 ye (before rR [1,0,1]) ⟨aE rY (BG n r),[(0,qB (r+1) g)],1⟩=
  let c1:Int:=(↑(r+1):Int);some (aj [(0:Int)<=c1/\c1<=c1/\c1<=2^47/\c1*(↑(56:Nat):Int)<=2^47] (leaf normal ([own 0 1 0 (r+1),own 8193 3 0 c1.toNat,int i64 c1,int i64 0],[(8193,ay.mk true true 3 c1.toNat fun x=>rat 0 1),(0,ay.mk true true 1 (r+1) fun i=>int i64 (g i))]))):=ag
theorem XY {n i:Nat} {g:Nat->Int} {x:Nat->Rat}:aH T GZ [40] 60 ye [part rR [1,0,1,0,0]] ⟨aE ye (D7 n i),Ex n g x,2⟩=
  let c4:Int:=(2:Int)^63;let c3:Int:=(↑i:Int);let c2:Nat:=n+1;let c10:Int:=c3+1;let c9:Int:=(↑c2:Int);let c7:AV:=own 0 1 0 c2;let c6:AV:=own 1 3 0 c2;let c5:Nat×ay:=(0,ay.mk true true 1 c2 fun i=>int i64 (g i));let c1:Nat:=c3.toNat+0;let c8:List Prop:=[(0:Int)<=c3/\c3.toNat<c2,c1<c2];some (fork (decide (c3<c9)) (aj c8 (aj ((-c4<=g c1)::(g c1<c4)::c8) (aj [-c4<=c10/\c10<c4] (leaf normal ([c7,c6,int i64 c9,int i64 c10],[(1,ay.mk true true 3 c2 fun j=>rat (bif j==c1 then(↑(g c1):Rat)else x j) (bif j==c1 then Max.max 1 (bP (g c1).natAbs)else 64)),c5]))))) (leaf (exit 4) ([c7,c6,int i64 c9,int i64 c3],[(1,ay.mk true true 3 c2 fun i=>rat (x i) 64),c5]))):=ag
theorem ac4 {n i:Nat} {g:Nat->Int} {x:Nat->Rat}:dA T GZ [] 60 f158 [part rR [1,1]] ⟨aE ye (D7 n i),Ex n g x,2⟩=
  some (leaf ret [aq 3 (n+1) fun i=>rat (x (i+0)) 64]):=ag
theorem oD:bT P GZ:=ja ir
def oP (r j i:Nat):Int:=if i<=j then(if i=r+1 then 1 else(bn r i:Int))else bn (r+1) i
theorem Jr {r j i:Nat} (hr:r<40) (hi:i<=r):-2^41<=oP r j i/\oP r j i<=2^40:=by
 have h1:=zY (n:=r) (k:=i) aa
 have h2:=zY (n:=r+1) (k:=i) aa
 unfold oP;rw[if_neg (c:=i=r+1) aa];split<;>omega
theorem aeR {n:Nat} (hn:n<=40) (K:Nat):aQ P 158 K [.int .i64 n] [] (aM (bD (fun i=>((bn n i:Int):Rat)) (n+1) 64) []):=by
 refine iI (r:=aM (bD (fun i=>((bn n i:Int):Rat)) (n+1) 64) []) hT Ot rfl bp rfl (fun _ cx h0=>?_) K []
 have hk:=nV h0
 refine au.qV hT oD hm (x:=AR) [1,1,0,1] (i:=0) (y:=xT) (z:=rR) ag ag ag Ot.dst [1,1,0] (j:=1) (x1:=z7) (zb:=part xT [1,1,1]) ag ag ag [1,1] (i2:=2) (y2:=part z7 [1,1,0,0]) ag ag rfl hk
  (f1:=[]) (f2:=[11]) (f3:=[]) (f4:=[19]) (f5:=[]) 60 rY xW 1 1 (fun r:Nat=>BG n r) (fun r=>[(0,qB (r+1) fun i=>bn r i)]) (fun r=>r<=n) (fun r=>r=n) (fun r=>n-r) (fun r=>r<n) (fun _=>False) (fun _=>False)
  (fun r (j:Nat)=>Ce n r j) (fun r j=>[(0,qB (r+1+1) (oP r j))]) (fun r j=>j<=r) (fun _ j=>j=0) (fun _ j=>j)
  ⟨_,R5,?_⟩ (fun r hr=>⟨_,S3,?_⟩) (fun r hr hG=>⟨_,Zz,?_⟩) (fun r hr hG j hj=>⟨_,Sb,?_⟩) (fun r hr hG j hj=>⟨_,Te,?_⟩) (fun r hr=>?_) (fun _ _ h=>h.elim) (fun _ _ h=>h.elim)
 ·simp only[af.all,aA]
  refine⟨aa,0,aa,[(0,4096)],rfl,rfl,rfl,bH rfl rfl rfl (fun i hi=>by obtain rfl:i=0:=aa;exact bX rfl rfl) trivial⟩
 ·simp only[af.all,aA,bK,bO]
  exact⟨fun h=>⟨aa,[(0,0)],rfl,rfl,rfl,bH rfl rfl rfl (fun i hi=>bX rfl rfl) trivial⟩,fun h=>⟨rfl,r,aa,[(0,0)],rfl,rfl,rfl,bH rfl rfl rfl (fun i hi=>bX rfl rfl) trivial⟩⟩
 ·simp only[af.all,aA]
  refine⟨aa,aa,r,aa,[(0,8193)],rfl,?_,rfl,bH rfl rfl rfl (fun i hi=>bX ?_ ?_) trivial⟩
  ·rw[show((r+1+1:Nat):Int)-2=(r:Nat) by omega];rfl
  ·split
   ·rfl
   ·rw[show i-(r+1)+0=0 by omega];rfl
  ·unfold oP
   by_cases h:i<r+1
   ·rw[if_pos h,if_pos aa,if_neg aa]
   ·rw[if_neg h,if_neg aa,show i-(r+1)+0=0 by omega,show i=r+1 by omega,MV];rfl
 ·simp only[af.all,aA,bK,bO,bE,Nat.add_zero]
  refine⟨fun h=>?_,fun h=>⟨rfl,j,aa,[(0,0)],rfl,rfl,rfl,bH rfl rfl rfl (fun i hi=>bX rfl rfl) trivial⟩⟩
  obtain⟨m,rfl⟩:∃m,j=m+1:=⟨j-1,aa⟩
  have e1:(((m+1:Nat):Int)-1).toNat=m:=aa
  have h1:=Jr (r:=r) (j:=m+1) (i:=m+1) aa hj
  have h2:=Jr (r:=r) (j:=m+1) (i:=m) aa aa
  rw[e1]
  refine⟨aa,aa,m,aa,by dsimp only;omega,[(0,0)],rfl,?_,rfl,bH rfl rfl rfl (fun i hi=>bX rfl ?_) trivial⟩
  ·rw[show((m+1:Nat):Int)-1=(m:Nat) by omega];rfl
  ·by_cases h:i=m+1
   ·subst h
    simp only[beq_self_eq_true,cond_true]
    unfold oP
    rw[if_pos aa,if_neg aa,if_pos aa,if_neg aa,if_neg aa,oy,Int.natCast_add,Int.add_comm]
   ·have hb:(i==m+1)=false:=by simpa using h
    rw[hb,cond_false]
    unfold oP
    by_cases h2:i<=m
    ·rw[if_pos h2,if_pos aa]
    ·rw[if_neg h2,if_neg aa]
 ·subst hj
  simp only[af.all,aA]
  refine⟨aa,r+1,aa,by dsimp only;omega,[(0,0)],rfl,rfl,rfl,bH rfl rfl rfl (fun i hi=>bX rfl ?_) trivial⟩
  show AV.int i64 (oP r 0 i)=AV.int i64 (bn (r+1) i)
  unfold oP
  by_cases h:i<=0
  ·rw[if_pos h,if_neg aa,show i=0 by omega,qc,qc]
  ·rw[if_neg h]
 ·subst hr
  refine au.r8 hT oD hm (x:=rR) [1,0,1] (i:=4) (y:=part rR [1,0,1,0,0]) (z:=part rR [1,1]) ag ag ag ag hk (f1:=[]) (f2:=[40]) 60 ye 2 (fun i:Nat=>D7 r i) (fun i=>Ex r (fun i=>bn r i) fun j=>if j<i then((bn r j:Int):Rat)else 0)
   (fun i=>i<=r+1) (fun i=>i=r+1) (fun i=>r+1-i) (fun _=>False) ⟨_,aex,?_⟩ (fun i hi=>⟨_,XY,?_⟩) (fun i hi=>?_) (fun _ _ h=>h.elim)
  ·simp only[af.all,aA,bE]
   exact⟨aa,0,aa,[(0,0),(1,8193)],rfl,rfl,rfl,bH rfl rfl rfl (fun i hi=>.inr ⟨rfl,dD (if_neg (Nat.not_lt_zero i)).symm (by decide)⟩) (bH rfl rfl rfl (fun i hi=>bX rfl rfl) trivial)⟩
  ·have h1:=zY (n:=r) (k:=i) hn
   simp only[af.all,aA,bK,bO,bE,Nat.add_zero]
   refine⟨fun h=>⟨aa,aa,aa,i+1,aa,by dsimp only;omega,[(0,0),(1,1)],rfl,rfl,rfl,bH rfl rfl rfl (fun j hj=>.inr ⟨rfl,?_⟩) (bH rfl rfl rfl (fun i hi=>bX rfl rfl) trivial)⟩,fun h=>⟨rfl,i,aa,[(0,0),(1,1)],rfl,rfl,rfl,bH rfl rfl rfl (fun j hj=>bX rfl rfl) (bH rfl rfl rfl (fun i hi=>bX rfl rfl) trivial)⟩⟩
   by_cases h2:j=i
   ·subst h2
    simp only[beq_self_eq_true,cond_true]
    exact fj (if_pos (Nat.lt_succ_self j)).symm (by rw[if_pos (Nat.lt_succ_self j)];exact zR (y:=0) aa aa)
   ·have hb:(j==i)=false:=by simpa using h2
    rw[hb,cond_false,cond_false]
    refine dD ?_ aS
    show(if j<i then _ else _)=if j<i+1 then _ else _
    by_cases h3:j<i
    ·rw[if_pos h3,if_pos aa]
    ·rw[if_neg h3,if_neg aa]
  ·subst hi
   refine au.m7 ((aF.fin hT oD hm 60 ac4 ag (iz fun i hi=>dD ?_ aS)).mono fun _ _ h=>.inl h)
   rw[Nat.add_zero,if_pos hi]
def E1:Spec:=b7 fun l=>match l with
 |[.int .i64 n]=>some (aM (bD (fun i=>((bn n.toNat i:Int):Rat)) (n.toNat+1) 64) [0<=n,n<=40])
 |_=>none
theorem LG:bA P E1 158:=by
 refine cP fun K args r hk hs _=>?_
 split at hs
 ·rename_i n
  simp only[ax]at hs
  subst hs
  intro hn
  have h1:0<=n:=hn.1
  have h2:n<=40:=hn.2
  have:=aeR (n:=n.toNat) aa K
  rw[Int.toNat_of_nonneg h1]at this
  exact this trivial
 ·simp at hs
open Go Go.Am.N AV Proofs.Tryz IntKind
theorem aem:bu 51 f51:=bz func51
def V6:bB:=[(45,FN),(46,BQ)]
theorem Wt {d:Int}:cq T V6 [] 60 f51 (aG f51) ⟨aV 0 [.int .i64 d],[],0⟩=
  some (af.aj [(17:Int)≠(0:Int),(0:Int)<12,(12:Int)<2^62] (af.aj [(0:Int)<i64.wrap (i64.wrap ((1:Int)+i64.wrap (d.tdiv (17:Int))%(12:Int))+1),i64.wrap (i64.wrap ((1:Int)+i64.wrap (d.tdiv (17:Int))%(12:Int))+1)<2^62,-(2:Int)^63<=d%i64.wrap (i64.wrap ((1:Int)+i64.wrap (d.tdiv (17:Int))%(12:Int))+1),d%i64.wrap (i64.wrap ((1:Int)+i64.wrap (d.tdiv (17:Int))%(12:Int))+1)<2^63,-(2:Int)^63<=i64.wrap ((1:Int)+i64.wrap (d.tdiv (17:Int))%(12:Int)),i64.wrap ((1:Int)+i64.wrap (d.tdiv (17:Int))%(12:Int))<2^63,(0:Nat)<1] (af.aj [(0:Nat)<1] (af.leaf ak.ret [rat ((↑(d%i64.wrap (i64.wrap ((1:Int)+i64.wrap (d.tdiv (17:Int))%(12:Int))+1)):Rat)/(↑(i64.wrap ((1:Int)+i64.wrap (d.tdiv (17:Int))%(12:Int))):Rat)) 64])))):=ag
def iU (d:Int):Int:=1+i64.wrap (d.tdiv 17)%12
def lJ (d:Int):Rat:=((d%(iU d+1):Int):Rat)/((iU d:Int):Rat)
def Im:Spec:=b7 fun l=>match l with
 |[.int .i64 d]=>some (aM (.rat (lJ d) 64) [])
 |_=>none
theorem QT:bA P Im 51:=by
 refine cP fun K args r hk hs _=>?_
 split at hs
 ·rename_i d
  simp only[ax]at hs
  subst hs
  refine cA hT (aN I6 (aN D4 ct)) hm aem rfl bp rfl 60 Wt (fun _=>?_) K []
  unfold lJ iU
  generalize i64.wrap (d.tdiv 17)=w at*
  have w1:=Int.emod_nonneg w (show(12:Int)≠0 by omega)
  have w2:=Int.emod_lt_of_pos w (show(0:Int)<12 by omega)
  generalize w%12=x at*
  have e1:i64.wrap (1+x)=1+x:=wrap_i64 aa aa
  have e2:i64.wrap (1+x+1)=1+x+1:=wrap_i64 aa aa
  rw[e1,e2]
  have v1:=Int.emod_nonneg d (show 1+x+1≠0 by omega)
  have v2:=Int.emod_lt_of_pos d (show 0<1+x+1 by omega)
  generalize d%(1+x+1)=y at*
  simp only[af.all,aA]
  exact⟨⟨aa,aa,aa⟩,⟨aa,aa,aa,aa,aa,aa,aa⟩,aa,.refl _⟩
 ·simp at hs
structure Kd (α:Type) where
 read:AV->Option α
 make:α->AV
 ok:∀{v:AV} {a:α},read v=some a->bG v (make a)
def ue:AV->Option (V3×Nat)
 |.agg [x,y,z]=>match oN x,oN y,oN z with
  |some (x,a),some (y,b),some (z,c)=>some (⟨x,y,z⟩,max a (max b c))
  |_,_,_=>none
 |_=>none
theorem Ba {v:AV} {a:V3×Nat} (h:ue v=some a):bG v (vA a.1 a.2):=by
 unfold ue at h
 split at h
 ·split at h
  ·rename_i h1 h2 h3
   simp only[ax]at h
   subst h
   exact nD ⟨(yJ h1).trans (dD rfl (by simp only;omega)),(yJ h2).trans (dD rfl (by simp only;omega)),(yJ h3).trans (dD rfl (by simp only;omega)),trivial⟩
  ·simp at h
 ·simp at h
def EO:AV->Option (M3×Nat)
 |.agg [x,y,z]=>match ue x,ue y,ue z with
  |some (x,a),some (y,b),some (z,c)=>some (⟨x,y,z⟩,max a (max b c))
  |_,_,_=>none
 |_=>none
theorem ZT {v:AV} {a:M3×Nat} (h:EO v=some a):bG v (Gk a.1 a.2):=by
 unfold EO at h
 split at h
 ·split at h
  ·rename_i h1 h2 h3
   simp only[ax]at h
   subst h
   exact nD ⟨(Ba h1).trans (B3 rfl (by simp only;omega)),(Ba h2).trans (B3 rfl (by simp only;omega)),(Ba h3).trans (B3 rfl (by simp only;omega)),trivial⟩
  ·simp at h
 ·simp at h
def dV:Kd (V3×Nat):=⟨ue,fun a=>vA a.1 a.2,Ba⟩
def dM:Kd (M3×Nat):=⟨EO,fun a=>Gk a.1 a.2,ZT⟩
section specs
variable {α β γ δ:Type} {f:FuncId}
end specs
def b1 {α:Type} (e:Nat) (a:α×Nat):Bool:=Nat.blt a.2 (2^e)
def b2 {α β:Type} (e:Nat) (a:α×Nat) (b:β×Nat):Bool:=Nat.blt a.2 (2^e)&&Nat.blt b.2 (2^e)
def b3 {α β γ:Type} (e:Nat) (a:α×Nat) (b:β×Nat) (c:γ×Nat):Bool:=Nat.blt a.2 (2^e)&&(Nat.blt b.2 (2^e)&&Nat.blt c.2 (2^e))
end Go.Am.B
namespace Go.Am.B
open Go Go.Am.N AV Proofs.Tryz IntKind
theorem RL:bu 148 f148:=bz func148
theorem Zx:bu 93 f93:=bz func93
theorem Px {q r:Rat} {n m:Nat}:cq T su [9] 60 f148 (aG f148) ⟨aV 0 [.rat q n,.rat r m],[],0⟩=
  some (af.aj [(0:Nat)<1] (af.fork ((↑(nl r.num.natAbs):Int)==0) (af.aj [(0:Nat)<1] (af.aj [(0:Nat)<1] (af.leaf ak.ret [agg [AV.bool false,mag 0,mag 0],int .i64 (3:Int)]))) (af.aj [(0:Nat)<1,(0:Nat)<1,(0:Nat)<1,(0:Nat)<1,nl q.num.natAbs<2^39,nl r.den<2^39,(0:Nat)<1,(0:Nat)<1,nl q.den<2^39,nl r.num.natAbs<2^39,nl (q.num.natAbs*r.den)<2^38,nl (q.den*r.num.natAbs)<2^38,q.den*r.num.natAbs≠0,(0:Nat)<1] (af.aj [(0:Nat)<1] (af.leaf ak.ret [rat (sQ (decide (q<0)!=decide (r<0)) (q.num.natAbs*r.den) (q.den*r.num.natAbs)) (dK (sQ (decide (q<0)!=decide (r<0)) (q.num.natAbs*r.den) (q.den*r.num.natAbs))),int .i64 (0:Int)]))))):=ag
theorem TY {q r:Rat} {n m:Nat} (hn:n<2^41) (hm':m<2^41) (K:Nat):aQ P 148 K [.rat q n,.rat r m] [] (aM (.tuple [.rat (q/r) (n+m),.int .i64 (if r=0 then 3 else 0)]) []):=by
 refine lM fun⟨hq,hr,_⟩=>?_
 have hq:Sz q n:=hq
 have hr:Sz r m:=hr
 have d1:=q.den_nz
 have d2:=r.den_nz
 have a1:nl q.num.natAbs<2^38:=gz hq.1 aa
 have a2:nl q.den<2^38:=gz hq.2 aa
 have b1:nl r.num.natAbs<2^38:=gz hr.1 aa
 have b2:nl r.den<2^38:=gz hr.2 aa
 have m1:nl (q.num.natAbs*r.den)<2^38:=gz (ow hq.1 hr.2) aa
 have m3:nl (q.den*r.num.natAbs)<2^38:=gz (ow hq.2 hr.1) aa
 refine cA hT u9 hm RL rfl bp rfl 60 Px (fun _=>?_) K []
 have key:((nl r.num.natAbs:Int)==0)=decide (r=0):=by
  by_cases h:r=0
  ·subst h;rfl
  ·have h1:r.num.natAbs≠0:=fun e=>h (oU.1 e)
   have:=gZ.2 h1
   simp only[h,decide_false,beq_eq_false_iff_ne];omega
 rw[key]
 simp only[af.all,aA,bK,bO]
 refine⟨aa,fun h0=>?_,fun h0=>?_⟩
 ·refine⟨aa,aa,?_,bV (by rw[if_pos h0]),trivial⟩
  have e:q/r=0:=by rw[h0,Rat.div_def,Rat.inv_zero,Rat.mul_zero]
  obtain⟨k,hk⟩:∃k,n+m=k+1:=⟨n+m-1,by have:=hq.pos;omega⟩
  rw[e,hk]
  first|exact oH|exact nu aa
 ·have hr0:r.num.natAbs≠0:=fun h=>h0 (oU.1 h)
  have hv:=Fq q r h0
  (repeat' with_reducible refine And.intro ?_ ?_)
  all_goals first|omega|exact m1|exact m3|exact Nat.mul_ne_zero d1 hr0|skip
  exact⟨fj hv (hq.div hr),bV (by rw[if_neg h0]),trivial⟩
def NO:bB:=[(148,jA kR kR yV qx)]
theorem acG:bT P NO:=aN (jZ fun _ _ K hn=>TY hn.1 hn.2 K) ct
theorem ZE {q r:Rat} {n m:Nat}:cq T NO [] 60 f93 (aG f93) ⟨aV 0 [.rat q n,.rat r m],[],0⟩=
  some (af.aj [(0:Nat)<1,(0:Nat)<1,n<2^41,m<2^41,(0:Nat)<1] (af.aj [(0:Nat)<1,(0:Nat)<1] (af.aj [(0:Nat)<1] (af.leaf ak.ret [rat (q/r) (n+m)])))):=ag
theorem Hq {q r:Rat} {n m:Nat} (hn:n<2^41) (hm':m<2^41) (K:Nat):aQ P 93 K [.rat q n,.rat r m] [] (aM (.rat (q/r) (n+m)) []):=by
 refine cA hT acG hm Zx rfl bp rfl 60 ZE (fun _=>?_) K []
 simp only[af.all,aA]
 (repeat' with_reducible refine And.intro ?_ ?_)
 all_goals first|omega|exact bG.refl _
def NC (a b:Rat×Nat):AV:=rA (a.1/b.1) (a.2+b.2)
structure KG (p j:Nat) (k:Nat->Rat) (t:Rat):Prop where
 p1:1<=p
 first:∀i,i<=p->k i=k 0
 top:k (p+j)=t
 sorted:∀i,i<p+j->k i<=k (i+1)
 mult:∀i,1<=i->i<=j->k i<k (i+p)
 half:∀i,i<=p+j->∃z:Int,k i=(z:Rat)/2/\-4<=z/\z<=2+6*(j:Int)
def xe (k:Nat->Rat) (m:Nat) (t:Rat):Nat->Rat:=fun i=>if i=m then t else k i
theorem Av {k:Nat->Rat} {m:Nat} {t:Rat}:xe k m t m=t:=if_pos rfl
theorem oQ {k:Nat->Rat} {m i:Nat} {t:Rat} (h:i≠m):xe k m t i=k i:=if_neg h
theorem KG.start {p:Nat} (hp:1<=p) {z:Int} (h1:-2<=z) (h2:z<=1):KG p 0 (fun _=>(z:Rat)) (z:Rat) where
 p1:=hp
 first:=fun _ _=>rfl
 top:=rfl
 sorted:=fun _ _=>Rat.le_refl
 mult:=fun i h1 h2=>by omega
 half:=fun i _=>⟨2*z,by
  have:((2*z:Int):Rat)=2*(z:Rat):=by simp
  rw[this];grind,by omega,by omega⟩
theorem KG.le_top {p j:Nat} {k:Nat->Rat} {t:Rat} (h:KG p j k t) {i:Nat} (hi:i<=p+j):k i<=t:=by
 rw[<-h.top]
 exact CP (n:=p+j+1) (fun i hi=>h.sorted i (by omega)) hi (by omega)
theorem KG.next {p j:Nat} {k:Nat->Rat} {t t':Rat} (h:KG p j k t) (hc:(t<t'/\∃z:Int,t'=t+(z:Rat)/2/\z<=6)\/(t'=t/\1<=j/\t≠k (j+1))):KG p (j+1) (xe k (p+1+j) t') t':=by
 have hle:t<=t':=by
  rcases hc with⟨h1,_⟩|⟨h1,_⟩
  ·grind
  ·rw[h1];exact Rat.le_refl
 have hp:=h.p1
 refine⟨hp,fun i hi=>?_,?_,fun i hi=>?_,fun i h1 h2=>?_,fun i hi=>?_⟩
 ·rw[oQ (by omega),oQ (by omega)];exact h.first i hi
 ·rw[show p+(j+1)=p+1+j by omega,Av]
 ·by_cases he:i+1=p+1+j
  ·rw[he,Av,oQ (by omega),show i=p+j by omega,h.top];exact hle
  ·rw[oQ (by omega),oQ he];exact h.sorted i (by omega)
 ·by_cases he:i=j+1
  ·subst he
   rw[show j+1+p=p+1+j by omega,Av,oQ (by omega)]
   have:=h.le_top (i:=j+1) (by omega)
   rcases hc with⟨h3,_⟩|⟨h3,h4,h5⟩
   ·grind
   ·rw[h3];grind
  ·rw[oQ (by omega),oQ (by omega)];exact h.mult i h1 (by omega)
 ·by_cases he:i=p+1+j
  ·subst he
   rw[Av]
   obtain⟨z,e1,e2,e3⟩:=h.half (p+j) (by omega)
   rw[h.top]at e1
   rcases hc with⟨h3,y,e4,e5⟩|⟨h3,_⟩
   ·refine⟨z+y,?_,?_,by omega⟩
    ·rw[e4,e1]
     have:((z+y:Int):Rat)=(z:Rat)+(y:Rat):=by simp
     rw[this];grind
    ·have hy:0<y:=by
      rcases Int.lt_or_le 0 y with h6|h6
      ·exact h6
      ·exfalso
       have:((y:Int):Rat)<=0:=Rat.intCast_nonpos.2 h6
       grind
     omega
   ·exact⟨z,by rw[h3,e1],e2,by omega⟩
  ·rw[oQ he]
   obtain⟨z,e1,e2,e3⟩:=h.half i (by omega)
   exact⟨z,e1,e2,by omega⟩
def CE (p j:Nat) (k:Nat->Rat) (t:Rat):Nat->Rat:=fun i=>if i<p+1+j then k i else t+1
theorem KG.done {p j:Nat} {k:Nat->Rat} {t:Rat} (h:KG p j k t):Kn (2*p+2+j) p (CE p j k t):=by
 have hp:=h.p1
 have lo:∀{i},i<p+1+j->CE p j k t i=k i:=fun hi=>if_pos hi
 have hi':∀{i},p+1+j<=i->CE p j k t i=t+1:=fun hi=>if_neg (by omega)
 refine⟨hp,by omega,fun i hi=>?_,fun i hi=>?_,fun i h1 h2=>?_,fun i h1 h2=>?_⟩
 ·by_cases h1:i+1<p+1+j
  ·rw[lo h1,lo (by omega)];exact h.sorted i (by omega)
  ·rw[hi' (i:=i+1) (by omega)]
   by_cases h2:i<p+1+j
   ·rw[lo h2]
    have:=h.le_top (i:=i) (by omega)
    grind
   ·rw[hi' (by omega)];exact Rat.le_refl
 ·rw[lo (i:=i) (by omega),lo (i:=0) (by omega)];exact h.first i hi
 ·rw[hi' (i:=i) (by omega),hi' (i:=2*p+2+j-1) (by omega)]
 ·by_cases h3:i+p<p+1+j
  ·rw[lo (by omega),lo h3];exact h.mult i h1 (by omega)
  ·rw[hi' (i:=i+p) (by omega),lo (i:=i) (by omega)]
   have:=h.le_top (i:=i) (by omega)
   grind
def kL (s:Nat):Kind (Nat×(Nat->Rat)):=⟨fun v=>match yl v with
 |some (n,f)=>some ((n,fun i=>aW (f i)),[dU f n s])
 |none=>none,fun a=>bD a.2 a.1 s,fun {v a q} h hq=>by
  split at h
  ·rename_i h1
   simp only[ax,Prod.mk.injEq]at h
   obtain⟨rfl,rfl⟩:=h
   exact Z1 h1 hq
  ·simp at h⟩
def gE (s:Nat):Kind Rat:=⟨fun v=>match oN v with
 |some (q,n)=>some (q,[n<=s])
 |none=>none,fun a=>.rat a s,fun {v a q} h hq=>by
  split at h
  ·rename_i h1
   simp only[ax,Prod.mk.injEq]at h
   obtain⟨rfl,rfl⟩:=h
   exact(yJ h1).trans (nu hq)
  ·simp at h⟩
structure yq (α:Type) where
 read:List AV->Option (α×List Prop)
 make:α->List AV
 ok:∀{l:List AV} {a:α} {q:List Prop},read l=some (a,q)->aA q->gI l (make a)
def kN:yq Unit:=⟨fun l=>match l with
 |[]=>some ((),[])
 |_=>none,fun _=>[],fun {l a q} h _=>by
  split at h
  ·trivial
  ·simp at h⟩
def kC {α β:Type} (k:Kind α) (kl:yq β):yq (α×β):=⟨fun l=>match l with
 |v::l=>match k.read v,kl.read l with
  |some (a,p),some (b,q)=>some ((a,b),p++q)
  |_,_=>none
 |[]=>none,fun a=>k.make a.1::kl.make a.2,fun {l a q} h hq=>by
  split at h
  ·split at h
   ·rename_i h1 h2
    simp only[ax,Prod.mk.injEq]at h
    obtain⟨rfl,rfl⟩:=h
    obtain⟨q1,q2⟩:=gj.1 hq
    exact⟨k.ok h1 q1,kl.ok h2 q2⟩
   ·simp at h
  ·simp at h⟩
def fu {α:Type} (k:yq α) (g:α->AV) (need:α->List Prop):Spec:=b7 fun l=>match k.read l with
 |some (a,p)=>some (aM (g a) (p++need a))
 |none=>none
theorem fF {α:Type} {f:FuncId} {k:yq α} {g:α->AV} {need:α->List Prop} (h:∀a K,aA (need a)->aQ P f K (k.make a) [] (aM (g a) [])):bA P (fu k g need) f:=by
 refine cP fun K args r hk hs _=>?_
 split at hs
 ·rename_i h1
  simp only[ax]at hs
  subst hs
  intro hn
  obtain⟨n1,hn⟩:=gj.1 hn
  exact gY (h _ K hn) hk (k.ok h1 n1) [] trivial
 ·simp at hs
end Go.Am.B
namespace Go.Am
def ek (p:Nat->Rat):Nat->Nat->Rat
 |0,i=>p i
 |k+1,i=>ek p k (i+1)-ek p k i
def gA (n:Nat) (p:Nat->Rat) (k:Nat):Rat:=((bn (n-1) k:Int):Rat)*ek p k 0
def jK (n:Nat) (c:Nat->Rat) (i:Nat):Nat->Rat
 |0=>0
 |k+1=>jK n c i k+((bn i k:Int):Rat)/((bn (n-1) k:Int):Rat)*c k
def eJ (n:Nat) (c:Nat->Rat) (i:Nat):Rat:=jK n c i (i+1)
def nk (m:Nat) (p:Nat->Rat) (k j:Nat):Rat:=ek p (min k (m-j)) j
def kU (m:Nat) (p:Nat->Rat) (k i j:Nat):Rat:=if j<i then ek p (k+1) j else nk m p k j
theorem CV {m k j:Nat} {p:Nat->Rat} (h:k+j<=m):nk m p k j=ek p k j:=by unfold nk;rw[show min k (m-j)=k by omega]
theorem Ph {m k j:Nat} {p:Nat->Rat}:kU m p k (m-k) j=nk m p (k+1) j:=by
 unfold kU nk
 split
 ·rw[show min (k+1) (m-j)=k+1 by omega]
 ·rw[show min (k+1) (m-j)=min k (m-j) by omega]
theorem OH {m k i j:Nat} {p:Nat->Rat} (h:i+k<m):(if j=i then kU m p k i (i+1)-kU m p k i i else kU m p k i j)=kU m p k (i+1) j:=by
 unfold kU
 by_cases h1:j=i
 ·subst h1
  rw[if_pos rfl,if_neg (by omega),if_neg (by omega),if_pos (by omega),CV (by omega),CV (by omega)];rfl
 ·rw[if_neg h1]
  by_cases h2:j<i
  ·rw[if_pos h2,if_pos (by omega)]
  ·rw[if_neg h2,if_neg (by omega)]
def bY (k:Nat->Rat):Nat->Nat
 |0=>0
 |n+1=>if k n=0 then bY k n else n+1
theorem fP {k:Nat->Rat}:∀{n:Nat},bY k n<=n
 |0=>Nat.le_refl _
 |n+1=>by unfold bY;split;exact Nat.le_succ_of_le fP;exact Nat.le_refl _
theorem E7 {k:Nat->Rat}:∀{n:Nat},0<bY k n->k (bY k n-1)≠0
 |0,h=>by simp[bY]at h
 |n+1,h=>by
  unfold bY at h ⊢
  split
  ·rename_i h1;rw[if_pos h1]at h;exact E7 h
  ·rename_i h1;simpa using h1
theorem Cq {k:Nat->Rat}:∀{n i:Nat},bY k n<=i->i<n->k i=0
 |0,_,_,h=>absurd h (Nat.not_lt_zero _)
 |n+1,i,h,hi=>by
  unfold bY at h
  split at h
  ·rename_i h1
   rcases Nat.lt_or_ge i n with h2|h2
   ·exact Cq h h2
   ·rw[show i=n by omega];exact h1
  ·omega
theorem vT {k:Nat->Rat} {n:Nat} (h:n=0\/k (n-1)≠0):bY k n=n:=by
 cases n with
 |zero=>rfl
 |succ n=>unfold bY;rw[if_neg (by simpa using h)]
theorem Au {k l:Nat->Rat}:∀{n:Nat},(∀i,i<n->k i=l i)->bY k n=bY l n
 |0,_=>rfl
 |n+1,h=>by unfold bY;rw[h n (by omega),Au fun i hi=>h i (by omega)]
theorem DP {k:Nat->Rat} {n:Nat}:∀{m:Nat},(∀i,n<=i->i<n+m->k i=0)->bY k (n+m)=bY k n
 |0,_=>rfl
 |m+1,h=>by
  show bY k (n+m+1)=_
  unfold bY
  rw[if_pos (h (n+m) (by omega) (by omega)),DP fun i h1 h2=>h i h1 (by omega)]
  cases n<;>rfl
end Go.Am
namespace Go.Am.B
open Go Go.Am.N AV af ak IntKind Proofs.Tryz
def ah:Nat:=68719476736
def dj (n:Nat) (k:Nat->Rat):Prop:=∀i,i<n->Sz (k i) ah
abbrev wj:Code:=aG f157
abbrev xy:List Nat:=[3,9,10,11]
abbrev Fi (n:Nat) (k:Nat->Rat) (s i:Nat):List AV:=[.own 0 3 0 n,bD k n s,.int .i64 n,.int .i64 i]
def JY:Spec:=ur fun K l=>match l with
 |[v]=>match(kL ah).read v with
  |some ((n,k),q)=>some ⟨.own K 3 0 n,[(K,cZ n k ah)],q++[n<2^40,dj n k]⟩
  |none=>none
 |_=>none
def qK:bB:=zG::(157,JY)::(158,E1)::ia
abbrev wE:Code:=aG f115
abbrev xH:Code:=part wE [1,1,1,0,1,0,0]
abbrev wS:Code:=part xH [1,1,0,0]
abbrev qJ:List Nat:=[0,3,4,17,18,19]
abbrev Bs (m:Nat) (p:Nat->Rat) (k:Nat):List AV:=[bD p (m+1) ah,.own 0 3 0 (m+1-k),.own 1 3 0 k,bD (fun i=>((bn m i:Int):Rat)) (m+1) 64,.int .i64 (m+1:Nat),.int .i64 k]
abbrev rL (m:Nat) (d x:Nat->Rat) (k:Nat):aD:=[(1,cZ k x ah),(0,cZ (m+1) d ah)]
abbrev vW:List Nat:=[0,3,4,17,18,19,38,39]
abbrev EU (m:Nat) (p:Nat->Rat) (k i:Nat):List AV:=[bD p (m+1) ah,.own 0 3 0 (m+1-k),.own 1 3 0 (k+1),bD (fun i=>((bn m i:Int):Rat)) (m+1) 64,.int .i64 (m+1:Nat),.int .i64 k,.int .i64 (m-k:Nat),.int .i64 i]
theorem Lf:bu 115 f115:=bz func115
theorem Zk {m:Nat} {p:Nat->Rat}:aH T qK [] 60 qJ (before wE [1,1,1,0,1]) ⟨aV 0 [bD p (m+1) ah],[],0⟩=
  let c3:Nat:=m+1;let c4:Int:=(↑c3:Int);let c1:Int:=c4-1;let c2:Int:=if c1<0 then(0:Int)else c1;some (aj [dU (fun i=>rat (p i) ah) c3 ah,c3<2^40,dj c3 fun i=>aW (rat (p i) ah)] (aj [(0:Int)<=0/\(0:Int)<=c4/\c4<=2^47/\c4*(↑(56:Nat):Int)<=2^47] (aj [-(2:Int)^63<=c1/\c1<2^63,(0:Int)<=c2,c2<=40] (leaf normal ([aq 3 c3 fun i=>rat (p i) ah,own 8192 3 0 c3,own 24576 3 0 0,aq 3 (c2.toNat+1) fun i=>rat (↑(↑(bn c2.toNat i):Int):Rat) 64,int i64 (↑(c2.toNat+1):Int),int i64 0],[(24576,ay.mk true true 3 0 fun x=>rat 0 1),(8192,ay.mk true true 3 c3 fun i=>rat (aW (rat (p i) ah)) ah)]))))):=ag
theorem X7 {m k:Nat} {p d x:Nat->Rat}:aH T qK [20] 60 qJ (before xH [1,1,0]) ⟨aE qJ (Bs m p k),rL m d x k,2⟩=
  let c2:Nat:=m+1;let c1:List AV×aD:=([aq 3 c2 fun i=>rat (p i) ah,own 0 3 0 (c2-k),own 1 3 0 k,aq 3 c2 fun i=>rat (↑(↑(bn m i):Int):Rat) 64,int i64 (↑c2:Int),int i64 (↑k:Int)],[(1,ay.mk true true 3 k fun i=>rat (x i) ah),(0,ay.mk true true 3 c2 fun i=>rat (d i) ah)]);some (fork (decide ((↑k:Int)<(↑c2:Int))) (leaf normal c1) (leaf (exit 0) c1)):=ag
theorem SU {m k:Nat} {p d x:Nat->Rat}:aH T qK [200027] 60 vW (before wS [1,1,1,0,1]) ⟨aE qJ (Bs m p k),rL m d x k,2⟩=
  let c4:Int:=(↑k:Int);let c3:Nat:=Int.toNat (0:Int);let c1:Nat:=m+1;let c2:Int:=(↑(c1-k):Int)-1;some (aj [(0:Int)<=c4/\c4.toNat<c1,(0:Nat)<1] (aj [(c4==(↑c1:Int))=false] (aj [(0:Nat)<1,(0:Int)<=0/\c3<c1-k,c3+0<c1,(64:Nat)<2^42,ah<2^42,(1:Nat)*3<=2^24,(k+1)*((56:Nat)+1)*2<=2^47] (aj [-(2:Int)^63<=c2/\c2<2^63] (leaf normal ([aq 3 c1 fun i=>rat (p i) ah,own 0 3 0 (c1-k),own 69634 3 0 (k+1),aq 3 c1 fun i=>rat (↑(↑(bn m i):Int):Rat) 64,int i64 (↑c1:Int),int i64 c4,int i64 c2,int i64 0],[(69634,ay.mk true true 3 (k+1) fun i=>if i<k then rat (x i) ah else nth [rat ((↑(↑(bn m c4.toNat):Int):Rat)*d (c3+0)) ((64:Nat)+ah)] (rat 0 1) (i-k+0)),(0,ay.mk true true 3 c1 fun i=>rat (d i) ah)])))))):=ag
theorem aeM {m k i:Nat} {p d x:Nat->Rat}:aH T qK [40] 60 vW [part wS [1,1,1,0,1,0,0]] ⟨aE vW (EU m p k i),rL m d x (k+1),2⟩=
  let c13:Prop:=ah<2^42;let c11:Int:=(↑(m-k):Int);let c9:AV:=own 1 3 0 (k+1);let c7:Int:=(↑i:Int);let c6:Int:=(2:Int)^63;let c4:Nat×ay:=(1,ay.mk true true 3 (k+1) fun i=>rat (x i) ah);let c2:Nat:=m+1;let c12:Prop:=(0:Int)<=c7/\c7.toNat<c2-k;let c10:AV:=own 0 3 0 (c2-k);let c8:AV:=aq 3 c2 fun i=>rat (p i) ah;let c5:AV:=aq 3 c2 fun i=>rat (↑(↑(bn m i):Int):Rat) 64;let c3:Nat:=c7.toNat+0;let c1:Int:=c7+1;some (fork (decide (c7<c11)) (aj [-c6<=c1/\c1<c6,(0:Int)<=c1/\c1.toNat<c2-k,c1.toNat+0<c2,c12,c3<c2,c13,c13,c12,c3<c2] (aj [-c6<=c1/\c1<c6] (leaf normal ([c8,c10,c9,c5,int i64 (↑c2:Int),int i64 (↑k:Int),int i64 c11,int i64 c1],[c4,(0,ay.mk true true 3 c2 fun j=>rat (bif j==c3 then d (c1.toNat+0)-d c3 else d j) (bif j==c3 then ah+ah+1 else ah))])))) (leaf (exit 2) ([c8,c10,c9,c5,int i64 (↑c2:Int),int i64 (↑k:Int),int i64 c11,int i64 c7],[c4,(0,ay.mk true true 3 c2 fun i=>rat (d i) ah)]))):=ag
theorem Va {m k i:Nat} {p d x:Nat->Rat}:aH T qK [] 60 qJ (behind wS [1,1,1,0,1]++[part xH [1,1,1]]) ⟨aE vW (EU m p k i),rL m d x (k+1),2⟩=
  let c4:Int:=(↑k:Int)+1;let c3:Nat:=m+1;let c2:Int:=(2:Int)^63;let c1:Int:=(↑(c3-k):Int)-1;some (aj [-c2<=c1/\c1<c2,(0:Int)<=0/\(0:Int)<=c1/\c1<=c1/\c1<=(↑(c3-k):Int)] (aj [-c2<=c4/\c4<c2] (leaf normal ([aq 3 c3 fun i=>rat (p i) ah,own 0 3 0 (c1.toNat-Int.toNat (0:Int)),own 1 3 0 (k+1),aq 3 c3 fun i=>rat (↑(↑(bn m i):Int):Rat) 64,int i64 (↑c3:Int),int i64 c4],[(1,ay.mk true true 3 (k+1) fun i=>rat (x i) ah),(0,ay.mk true true 3 c3 fun i=>rat (d i) ah)])))):=ag
theorem Tv {m k:Nat} {p d x:Nat->Rat}:dA T qK [] 60 f115 [part wE [1,1,1,1]] ⟨aE qJ (Bs m p k),rL m d x k,2⟩=
  some (leaf ret [aq 3 k fun i=>rat (x (i+0)) ah]):=ag
theorem IE:bu 157 f157:=bz func157
theorem adw {n s:Nat} {k:Nat->Rat}:aH T GZ [] 60 xy (before wj [1,1,0,1]) ⟨aV 0 [bD k n s],[],0⟩=
  let c1:Int:=(↑n:Int);some (aj [(0:Int)<=c1/\c1<=c1/\c1<=2^47/\c1*(↑(56:Nat):Int)<=2^47] (leaf normal ([own 12288 3 0 c1.toNat,aq 3 n fun i=>rat (k i) s,int i64 c1,int i64 0],[(12288,ay.mk true true 3 c1.toNat fun x=>rat 0 1)]))):=ag
theorem SL {n s i:Nat} {k x:Nat->Rat}:aH T GZ [12] 60 xy [part wj [1,1,0,1,0,0]] ⟨aE xy (Fi n k s i),[(0,cZ n x ah)],1⟩=
  let c7:Int:=(↑n:Int);let c4:AV:=own 0 3 0 n;let c3:AV:=aq 3 n fun i=>rat (k i) s;let c1:Int:=(↑i:Int);let c6:Int:=c1+1;let c5:Prop:=(0:Int)<=c1/\c1.toNat<n;let c2:Nat:=c1.toNat+0;some (fork (decide (c1<c7)) (aj [c5,(0:Nat)<1] (aj [(0:Nat)<1,s<2^42,(1:Nat)<2^42,c5,c2<n] (aj [-(2:Int)^63<=c6/\c6<2^63] (leaf normal ([c4,c3,int i64 c7,int i64 c6],[(0,ay.mk true true 3 n fun j=>rat (bif j==c2 then k c1.toNat+0 else x j) (bif j==c2 then s+1+1 else ah))]))))) (leaf (exit 0) ([c4,c3,int i64 c7,int i64 c1],[(0,ay.mk true true 3 n fun i=>rat (x i) ah)]))):=ag
theorem YO {n s i:Nat} {k x:Nat->Rat}:aH T GZ [] 60 [2] [part wj [1,1,1]] ⟨aE xy (Fi n k s i),[(0,cZ n x ah)],1⟩=
  some (leaf ret ([own 0 3 0 n],[(0,ay.mk true true 3 n fun i=>rat (x i) ah)])):=ag
theorem dI:ah=2^36:=rfl
theorem mN {rl:List (Nat×Nat)} {i j zt z w:Nat} {t:Rat} {x y:Nat->Rat} (h1:bG (.rat t zt) (.rat (y i) w)) (h2:j≠i->bG (.rat (x j) z) (.rat (y j) w)):pU rl (.rat (bif j==i then t else x j) (bif j==i then zt else z)) (.rat (y j) w):=by
 refine .inr ⟨rfl,?_⟩
 by_cases h:j=i
 ·subst h;rw[beq_self_eq_true];exact h1
 ·rw[show(j==i)=false by simpa using h];exact h2 h
theorem zh {α:Type} {i j:Nat} {a b:α} (h:j≠i):(if j<i+1 then a else b)=if j<i then a else b:=by
 by_cases h1:j<i
 ·rw[if_pos h1,if_pos aa]
 ·rw[if_neg h1,if_neg aa]
theorem Qu {args:List AV} {n:Nat} {k:Nat->Rat} {l:List Prop} (ha:aA l->gN (aY []) args [bD k n ah]) (hn:aA l->n<2^40/\dj n k) (K:Nat):aQ P 157 K args [] ⟨oE [.own K 3 0 n],[(K,cZ n k ah)],l⟩:=by
 refine Km hT IE ha bp fun need c hk=>?_
 obtain⟨hn,hz⟩:=hn need
 have hW:=dI
 refine au.r8 hT oD hm [1,1,0,1] (i:=0) (y:=part wj [1,1,0,1,0,0]) (z:=part wj [1,1,1]) ag ag ag IE.dst hk (f1:=[]) (f2:=[12]) 60 xy 1 (fun i:Nat=>Fi n k ah i) (fun i=>[(0,cZ n (fun j=>if j<i then k j else 0) ah)])
  (fun i=>i<=n) (fun i=>i=n) (fun i=>n-i) (fun _=>False) ⟨_,adw,?_⟩ (fun i hi=>⟨_,SL,?_⟩) (fun i hi=>?_) (fun _ _ h=>h.elim)
 ·simp only[af.all,aA,bE]
  exact⟨aa,0,Nat.zero_le _,[(0,12288)],rfl,rfl,rfl,bH rfl rfl rfl (fun i hi=>.inr ⟨rfl,dD (if_neg (Nat.not_lt_zero i)).symm aa⟩) trivial⟩
 ·simp only[af.all,aA,bK,bO,bE,Nat.add_zero]
  refine⟨fun h2=>⟨aa,aa,aa,i+1,aa,by dsimp only;omega,[(0,0)],rfl,rfl,rfl,bH rfl rfl rfl (fun j hj=>?_) trivial⟩,fun h2=>⟨rfl,i,aa,[(0,0)],rfl,rfl,rfl,bH rfl rfl rfl (fun j hj=>bX rfl rfl) trivial⟩⟩
  exact mN (x:=fun j=>if j<i then k j else 0) (y:=fun j=>if j<i+1 then k j else 0) (fj ((Rat.add_zero _).trans (if_pos (Nat.lt_succ_self i)).symm) (by show Sz (if i<i+1 then _ else _) _;rw[if_pos (Nat.lt_succ_self i)];exact hz i aa)) fun hj=>dD (zh hj).symm aS
 ·subst hi
  refine au.bJ hT oD hm 60 [2] YO ag fun s' hs'=>⟨.inr rfl,[2],_,[.own 0 3 0 i],_,0,_,hs',ag,⟨⟨rfl,en (by simp[aY,look]) rfl rfl⟩,trivial⟩,rfl,iH rfl fun j hj=>?_⟩
  rw[if_pos hj];exact iu rfl
theorem RH:bA P JY 157:=by
 refine Ai fun K args r hk hs=>?_
 split at hs
 ·rename_i v
  split at hs
  ·rename_i n k q hv
   simp only[ax]at hs
   subst hs
   exact Qu (fun hn=>Ox hk (by cases v<;>first|rfl|simp[kL,yl]at hv) ⟨(kL ah).ok hv (gj.1 hn).1,trivial⟩) (fun hn=>have:=(gj (a:=q) (b:=[n<2^40,dj n k]).1 hn).2;⟨this.1,this.2⟩) K
  ·simp at hs
 ·simp at hs
theorem KE:bT P qK:=ja (aN RH (aN LG ir))
theorem dj.up {n:Nat} {k:Nat->Rat} {i z:Nat} (h:dj n k) (hi:i<n):bG (.rat (k i) z) (.rat (k i) ah):=fj rfl (h i hi)
def xS (n:Nat) (p:Nat->Rat):Prop:=(∀k i,k+i<n->Sz (ek p k i) ah)/\dj n (gA n p)
theorem UG {m:Nat} {p:Nat->Rat} (hm1:m<=40) (hz:xS (m+1) p) (K:Nat):aQ P 115 K [bD p (m+1) ah] [] (aM (bD (gA (m+1) p) (m+1) ah) []):=by
 refine iI (r:=aM (bD (gA (m+1) p) (m+1) ah) []) hT Lf rfl bp rfl (fun _ cx h0=>?_) K []
 have hk:=nV h0
 have hW:=dI
 have hd:∀k i,k+i<=m->Sz (ek p k i) ah:=fun k i h=>hz.1 k i aa
 refine au.qV hT KE hm (x:=wE) [1,1,1,0,1] (i:=0) (y:=xH) (z:=part wE [1,1,1,1]) ag ag ag Lf.dst [1,1,0] (j:=1) (x1:=wS) (zb:=part xH [1,1,1]) ag ag ag [1,1,1,0,1] (i2:=2) (y2:=part wS [1,1,1,0,1,0,0]) ag ag rfl hk
  (f1:=[]) (f2:=[20]) (f3:=[200027]) (f4:=[40]) (f5:=[]) 60 qJ vW 2 2 (fun k:Nat=>Bs m p k) (fun k=>rL m (nk m p k) (gA (m+1) p) k) (fun k=>k<=m+1) (fun k=>k=m+1) (fun k=>m+1-k) (fun k=>k<m+1) (fun _=>False) (fun _=>False)
  (fun k (i:Nat)=>EU m p k i) (fun k i=>rL m (kU m p k i) (gA (m+1) p) (k+1)) (fun k i=>i<=m-k) (fun k i=>i=m-k) (fun k i=>m-k-i)
  ⟨_,Zk,?_⟩ (fun k hk=>⟨_,X7,?_⟩) (fun k hk hG=>⟨_,SU,?_⟩) (fun k hk hG i hi=>⟨_,aeM,?_⟩) (fun k hk hG i hi=>⟨_,Va,?_⟩) (fun k hk=>?_) (fun _ _ h=>h.elim) (fun _ _ h=>h.elim)
 ·simp only[af.all,aA]
  have e1:(if((m+1:Nat):Int)-1<0 then 0 else((m+1:Nat):Int)-1)=(m:Nat):=by rw[if_neg aa];omega
  rw[e1]
  refine⟨⟨eG aS,aa,fun i hi=>hd 0 i aa⟩,aa,aa,0,aa,[(0,8192),(1,24576)],rfl,rfl,rfl,bH rfl rfl rfl (fun i hi=>absurd hi (Nat.not_lt_zero i)) (bH rfl rfl rfl (fun i hi=>bX rfl ?_) trivial)⟩
  show AV.rat (p i) ah=AV.rat (nk m p 0 i) ah
  unfold nk;rw[Nat.zero_min];rfl
 ·simp only[af.all,aA,bK,bO]
  exact⟨fun h=>⟨aa,[(0,0),(1,1)],rfl,rfl,rfl,bH rfl rfl rfl (fun i hi=>bX rfl rfl) (bH rfl rfl rfl (fun i hi=>bX rfl rfl) trivial)⟩,fun h=>⟨rfl,k,aa,[(0,0),(1,1)],rfl,rfl,rfl,bH rfl rfl rfl (fun i hi=>bX rfl rfl) (bH rfl rfl rfl (fun i hi=>bX rfl rfl) trivial)⟩⟩
 ·simp only[af.all,aA,bE,beq_eq_false_iff_ne]
  have e0:(0:Int).toNat=0:=rfl
  refine⟨aa,aa,aa,aa,0,aa,[(0,0),(1,69634)],rfl,?_,rfl,bH rfl rfl rfl (fun i hi=>?_) (bH rfl rfl rfl (fun i hi=>bX rfl ?_) trivial)⟩
  ·rw[show((m+1-k:Nat):Int)-1=(m-k:Nat) by omega];rfl
  ·refine .inr ⟨?_,?_⟩
   ·split
    ·rfl
    ·rw[show i-k+0=0 by omega];rfl
   ·split
    ·exact .refl _
    ·rw[show i-k+0=0 by omega,show i=k by omega]
     exact fj (by rw[CV aa];rfl) (hz.2 k hG)
  ·show AV.rat (nk m p k i) ah=AV.rat (kU m p k 0 i) ah
   unfold kU;rw[if_neg (Nat.not_lt_zero i)]
 ·simp only[af.all,aA,bK,bO,bE,Nat.add_zero]
  have e1:((i:Int)+1).toNat=i+1:=aa
  rw[e1]
  refine⟨fun h=>⟨aa,aa,i+1,aa,by dsimp only;omega,[(0,0),(1,1)],rfl,rfl,rfl,bH rfl rfl rfl (fun j hj=>bX rfl rfl) (bH rfl rfl rfl (fun j hj=>?_) trivial)⟩,fun h=>⟨rfl,i,aa,[(0,0),(1,1)],rfl,rfl,rfl,bH rfl rfl rfl (fun j hj=>bX rfl rfl) (bH rfl rfl rfl (fun j hj=>bX rfl rfl) trivial)⟩⟩
  have h3:=fun j=>OH (m:=m) (k:=k) (i:=i) (j:=j) (p:=p) aa
  exact mN (x:=kU m p k i) (y:=kU m p k (i+1)) (fj ((if_pos rfl).symm.trans (h3 i)) (by unfold kU;rw[if_pos (Nat.lt_succ_self i)];exact hd _ _ aa)) fun hj=>dD ((if_neg hj).symm.trans (h3 j)) aS
 ·subst hi
  simp only[af.all,aA]
  refine⟨aa,aa,k+1,aa,by dsimp only;omega,[(0,0),(1,1)],rfl,?_,rfl,bH rfl rfl rfl (fun j hj=>bX rfl rfl) (bH rfl rfl rfl (fun j hj=>bX rfl ?_) trivial)⟩
  ·rw[show(((m+1-k:Nat):Int)-1).toNat-(0:Int).toNat=m+1-(k+1) by omega];rfl
  ·show AV.rat (kU m p k (m-k) j) ah=AV.rat (nk m p (k+1) j) ah
   rw[Ph]
 ·subst hk
  exact au.m7 ((aF.fin hT KE hm 60 Tv ag (iz fun _ _=>.refl _)).mono fun _ _ h=>.inl h)
def Hz:Spec:=fu (kC (kL ah) kN) (fun a=>bD (gA a.1.1 a.1.2) a.1.1 ah) fun a=>[1<=a.1.1,a.1.1<=41,xS a.1.1 a.1.2]
theorem SN:bA P Hz 115:=fF fun⟨⟨n,p⟩,_⟩ K hn=>by
 obtain⟨h1,h2,h3⟩:=hn
 simp only at h1 h2 h3
 obtain⟨m,rfl⟩:∃m,n=m+1:=⟨n-1,aa⟩
 exact UG aa h3 K
end Go.Am.B
namespace Go.Am
def gR (e:Nat) (d:Nat->Rat) (k:Nat) (r:Nat->Rat) (i:Nat):Rat:=if k<=i/\i<k+e+1 then r i-r (k+e)/d e*d (i-k)else r i
def cD (e:Nat) (d a:Nat->Rat) (R:Nat):Nat->Nat->Rat
 |0=>a
 |j+1=>gR e d (R-1-j) (cD e d a R j)
def fA (e:Nat) (d a:Nat->Rat) (R k:Nat):Rat:=cD e d a R (R-1-k) (k+e)/d e
theorem LN {e k:Nat} {d r:Nat->Rat} (hd:d e≠0):gR e d k r (k+e)=0:=by
 unfold gR
 rw[if_pos (by omega),show k+e-k=e by omega,Rat.div_mul_cancel hd,Rat.sub_self]
theorem QU {e k:Nat} {d r:Nat->Rat} (h:r (k+e)=0):gR e d k r=r:=by
 funext i
 unfold gR
 split
 ·rw[h,Rat.div_def,Rat.zero_mul,Rat.zero_mul];grind
 ·rfl
section
variable {n e R:Nat} {d a:Nat->Rat}
def fq (n R L:Nat):Nat:=min (n-L) R
theorem DY (hR:R=n-e) {L:Nat} (hL:L<=n) (hz:∀i,L<=i->i<n->cD e d a R (fq n R L) i=0):∀m,m<=L->(∀i,L-m<=i->i<n->cD e d a R (fq n R L) i=0)->cD e d a R (fq n R (L-m))=cD e d a R (fq n R L)
 |0,_,_=>rfl
 |m+1,hm,h=>by
  have ih:=DY hR hL hz m (by omega) (fun i h1 h2=>h i (by omega) h2)
  rw[<-ih]
  by_cases h1:n-(L-m)<R
  ·rw[show fq n R (L-(m+1))=n-(L-m)+1 by unfold fq;omega,show fq n R (L-m)=n-(L-m) by unfold fq;omega]
   show gR e d (R-1-(n-(L-m))) (cD e d a R (n-(L-m)))=_
   refine QU ?_
   rw[show n-(L-m)=fq n R (L-m) by unfold fq;omega,ih]
   exact h _ (by unfold fq;omega) (by unfold fq;omega)
  ·rw[show fq n R (L-(m+1))=fq n R (L-m) by unfold fq;omega]
structure j7 (n e R:Nat) (d a:Nat->Rat) (L:Nat) (x q:Nat->Rat):Prop where
 le:L<=n
 yH:∀i,i<L->x i=cD e d a R (fq n R L) i
 zero:∀i,L<=i->i<n->cD e d a R (fq n R L) i=0
 top:L=0\/cD e d a R (fq n R L) (L-1)≠0
 quo:∀k,k<R->q k=if k+e<L then 0 else fA e d a R k
theorem j7.start (hR:R=n-e) (ha:n=0\/a (n-1)≠0):j7 n e R d a n a fun _=>0 where
 le:=Nat.le_refl _
 yH i hi:=by rw[show fq n R n=0 by unfold fq;omega];rfl
 zero i h1 h2:=by omega
 top:=by rw[show fq n R n=0 by unfold fq;omega];exact ha
 quo k hk:=by rw[if_pos (by omega)]
def iZ (e:Nat) (d x:Nat->Rat) (k:Nat) (f:Rat) (i j:Nat):Rat:=if k<=j/\j<k+i then x j-f*d (j-k)else x j
variable {L:Nat} {x q:Nat->Rat}
theorem j7.quot (hR:R=n-e) (h:j7 n e R d a L x q) (hL:e<L):x (L-1)/d e=fA e d a R (L-1-e):=by
 have:=h.le
 unfold fA
 rw[h.yH _ (by omega),show fq n R L=R-1-(L-1-e) by unfold fq;omega,show L-1-e+e=L-1 by omega]
theorem j7.K6 (hR:R=n-e) (h:j7 n e R d a L x q) (hL:e<L) {i j:Nat} (hi:i<=e) (hj:j<L-1) (hij:j<L-1-e+i):iZ e d x (L-1-e) (x (L-1)/d e) i j=cD e d a R (n-L+1) j:=by
 have hl:=h.le
 have e1:fq n R L=n-L:=by unfold fq;omega
 show _=gR e d (R-1-(n-L)) (cD e d a R (n-L)) j
 rw[show R-1-(n-L)=L-1-e by omega]
 unfold iZ gR
 rw[show L-1-e+e=L-1 by omega,<-e1,<-h.yH j (by omega),<-h.yH (L-1) (by omega)]
 by_cases hk:L-1-e<=j
 ·rw[if_pos ⟨hk,hij⟩,if_pos (by omega)]
 ·rw[if_neg (by omega),if_neg (by omega)]
theorem j7.next (hR:R=n-e) (hd:d e≠0) (h:j7 n e R d a L x q) (hL:e<L):
  j7 n e R d a (bY (iZ e d x (L-1-e) (x (L-1)/d e) e) (L-1)) (iZ e d x (L-1-e) (x (L-1)/d e) e) fun j=>if j=L-1-e then x (L-1)/d e else q j:=by
 have hl:=h.le
 have hu:∀j,j<L-1->iZ e d x (L-1-e) (x (L-1)/d e) e j=cD e d a R (n-L+1) j:=fun j hj=>h.K6 hR hL (Nat.le_refl _) hj (by omega)
 have e1:fq n R L=n-L:=by unfold fq;omega
 have e2:fq n R (L-1)=n-L+1:=by unfold fq;omega
 obtain⟨M,hM⟩:∃M,M=bY (iZ e d x (L-1-e) (x (L-1)/d e) e) (L-1):=⟨_,rfl⟩
 have hM2:M=bY (cD e d a R (n-L+1)) (L-1):=by rw[hM];exact Au hu
 have hMl:M<=L-1:=by rw[hM2];exact fP
 have hz1:∀i,L-1<=i->i<n->cD e d a R (n-L+1) i=0:=fun i h1 h2=>by
  show gR e d (R-1-(n-L)) (cD e d a R (n-L)) i=0
  rw[show R-1-(n-L)=L-1-e by omega]
  by_cases h3:i=L-1
  ·have:=LN (k:=L-1-e) (r:=cD e d a R (n-L)) hd
   rwa [show L-1-e+e=i by omega]at this
  ·unfold gR
   rw[if_neg (by omega),<-e1]
   exact h.zero i (by omega) h2
 have hz:∀i,M<=i->i<n->cD e d a R (n-L+1) i=0:=fun i h1 h2=>by
  rcases Nat.lt_or_ge i (L-1)with h3|h3
  ·exact Cq (by rw[<-hM2];exact h1) h3
  ·exact hz1 i h3 h2
 have hs:cD e d a R (fq n R M)=cD e d a R (n-L+1):=by
  have:=DY (d:=d) (a:=a) hR (L:=L-1) (by omega) (by rw[e2];exact hz1) (L-1-M) (by omega) (by rw[e2,show L-1-(L-1-M)=M by omega];exact hz)
  rwa [show L-1-(L-1-M)=M by omega,e2]at this
 rw[<-hM]
 refine⟨by omega,fun i hi=>by rw[hs];exact hu i (by omega),fun i h1 h2=>by rw[hs];exact hz i h1 h2,?_,fun k hk=>?_⟩
 ·rw[hs]
  rcases Nat.eq_zero_or_pos M with h0|h0
  ·exact .inl h0
  ·right
   rw[hM2]at h0 ⊢
   exact E7 h0
 ·show(if k=L-1-e then x (L-1)/d e else q k)=_
  by_cases h1:k=L-1-e
  ·rw[if_pos h1,if_neg (by omega),h.quot hR hL,h1]
  ·rw[if_neg h1,h.quo k hk]
   by_cases h2:k+e<M
   ·rw[if_pos h2,if_pos (by omega)]
   ·rw[if_neg h2]
    by_cases h3:k+e<L
    ·rw[if_pos h3]
     -- a round that did nothing
     have hk2:k+e<L-1:=by omega
     unfold fA
     have e3:=DY (d:=d) (a:=a) hR (L:=L-1) (by omega) (by rw[e2];exact hz1) (L-1-(k+e+1)) (by omega) (by rw[e2,show L-1-(L-1-(k+e+1))=k+e+1 by omega];exact fun i h1 h2=>hz i (by omega) h2)
     rw[show L-1-(L-1-(k+e+1))=k+e+1 by omega,e2]at e3
     rw[show R-1-k=fq n R (k+e+1) by unfold fq;omega,e3,hz (k+e) (by omega) (by omega),Rat.div_def,Rat.zero_mul]
    ·rw[if_neg h3]
theorem j7.fin (hR:R=n-e) (h:j7 n e R d a L x q) (hL:L<=e):L=bY (cD e d a R R) n/\(∀i,i<L->x i=cD e d a R R i)/\∀k,k<R->q k=fA e d a R k:=by
 have hl:=h.le
 have e1:fq n R L=R:=by unfold fq;omega
 have hz:=h.zero
 have ht:=h.top
 have ha:=h.yH
 rw[e1]at hz ht ha
 refine⟨?_,ha,fun k hk=>by rw[h.quo k hk,if_neg (by omega)]⟩
 have:=DP (k:=cD e d a R R) (n:=L) (m:=n-L) fun i h1 h2=>hz i h1 (by omega)
 rw[show L+(n-L)=n by omega,vT ht]at this
 exact this.symm
end
end Go.Am
namespace Go.Am
abbrev PP:=Nat×(Nat->Rat)
def fl (a d:PP):PP:=(bY (cD (d.1-1) d.2 a.2 (a.1-(d.1-1)) (a.1-(d.1-1))) a.1,cD (d.1-1) d.2 a.2 (a.1-(d.1-1)) (a.1-(d.1-1)))
def gk (a d:PP):PP:=(bY (fA (d.1-1) d.2 a.2 (a.1-(d.1-1))) (a.1-(d.1-1)),fA (d.1-1) d.2 a.2 (a.1-(d.1-1)))
def cV (n:Nat) (c:Nat->Rat) (i:Nat):Rat:=c i/c (n-1)
def ga (a:PP):PP:=(a.1,cV a.1 a.2)
def dw (c:Nat->Rat) (i:Nat):Rat:=((i+1:Nat):Int)*c (i+1)
def bL (a:PP):PP:=(bY (dw a.2) (a.1-1),dw a.2)
def Trim (a:PP):Prop:=a.1=0\/a.2 (a.1-1)≠0
theorem k8 {k:Nat->Rat} {n:Nat}:Trim (bY k n,k):=by
 rcases Nat.eq_zero_or_pos (bY k n)with h|h
 ·exact .inl h
 ·exact .inr (E7 h)
theorem qZ {a d:PP}:Trim (fl a d):=k8
theorem vP {a d:PP}:Trim (gk a d):=k8
theorem dR {a:PP}:Trim (bL a):=k8
theorem p9 {a:PP} (h:Trim a):Trim (ga a):=by
 rcases h with h|h
 ·exact .inl h
 ·right
  show cV a.1 a.2 (a.1-1)≠0
  unfold cV
  rw[Rat.div_def,Rat.mul_inv_cancel _ h];decide
theorem GC {n e R:Nat} {d a:Nat->Rat} (hR:R=n-e) (hd:d e≠0):∀j,j<=R->∀i,n-j<=i->i<n->cD e d a R j i=0
 |0,_,i,h1,h2=>by omega
 |j+1,hj,i,h1,h2=>by
  show gR e d (R-1-j) (cD e d a R j) i=0
  by_cases h:i=R-1-j+e
  ·rw[h];exact LN hd
  ·unfold gR
   rw[if_neg (by omega)]
   exact GC hR hd j (by omega) i (by omega) h2
theorem nH {a d:PP} (hd:0<d.1) (ht:Trim d):(fl a d).1<d.1:=by
 show bY _ _<_
 have h0:d.2 (d.1-1)≠0:=by rcases ht with h|h;omega;exact h
 have:=fun i=>GC (n:=a.1) (a:=a.2) (rfl) h0 _ (Nat.le_refl (a.1-(d.1-1))) i
 rcases Nat.lt_or_ge a.1 d.1 with h|h
 ·exact Nat.lt_of_le_of_lt fP h
 ·have e1:=DP (k:=cD (d.1-1) d.2 a.2 (a.1-(d.1-1)) (a.1-(d.1-1))) (n:=d.1-1) (m:=a.1-(d.1-1)) fun i h1 h2=>this i (by omega) (by omega)
  rw[show d.1-1+(a.1-(d.1-1))=a.1 by omega]at e1
  rw[e1]
  have:=fP (k:=cD (d.1-1) d.2 a.2 (a.1-(d.1-1)) (a.1-(d.1-1))) (n:=d.1-1)
  omega
def gb (s:PP×PP):PP×PP:=if s.2.1=0 then s else(s.2,ga (fl s.1 s.2))
def bZ (s:PP×PP):Nat->PP×PP
 |0=>s
 |j+1=>gb (bZ s j)
theorem mY {s:PP×PP} (h1:Trim s.1) (h2:Trim s.2):∀j,Trim (bZ s j).1/\Trim (bZ s j).2
 |0=>⟨h1,h2⟩
 |j+1=>by
  have:=mY h1 h2 j
  show Trim (gb _).1/\Trim (gb _).2
  unfold gb
  split
  ·exact this
  ·exact⟨this.2,p9 qZ⟩
theorem yQ {s:PP×PP} (h1:Trim s.1) (h2:Trim s.2):∀j,(bZ s j).2.1<=s.2.1-j
 |0=>Nat.le_refl _
 |j+1=>by
  have:=yQ h1 h2 j
  have ht:=mY h1 h2 j
  show(gb _).2.1<=_
  unfold gb
  split
  ·rename_i h;rw[h];exact Nat.zero_le _
  ·rename_i h
   have:=nH (a:=(bZ s j).1) (d:=(bZ s j).2) (by omega) ht.2
   show(fl _ _).1<=_
   omega
theorem IQ {s:PP×PP} {j:Nat} (h:(bZ s j).2.1=0):∀m,bZ s (j+m)=bZ s j
 |0=>rfl
 |m+1=>by
  show gb (bZ s (j+m))=_
  rw[IQ h m]
  unfold gb
  rw[if_pos h]
theorem xx {s:PP×PP} (h:0<s.1.1):∀j,0<(bZ s j).1.1
 |0=>h
 |j+1=>by
  have:=xx h j
  show 0<(gb _).1.1
  unfold gb
  split
  ·exact this
  ·dsimp only;omega
theorem Af {s:PP×PP} {B:Nat} (ha:s.1.1<=B) (hb:s.2.1<=B) (h1:Trim s.1) (h2:Trim s.2):∀j,(bZ s j).1.1<=B
 |0=>ha
 |j+1=>by
  have:=Af ha hb h1 h2 j
  have h3:=yQ h1 h2 j
  show(gb _).1.1<=_
  unfold gb
  split
  ·exact this
  ·dsimp only;omega
def bW (a b:PP):PP:=ga (bZ (a,b) b.1).1
theorem VL {a b:PP} (h1:Trim a) (h2:Trim b) {j:Nat} (hj:j<=b.1) (h:(bZ (a,b) j).2.1=0):ga (bZ (a,b) j).1=bW a b:=by
 have:=IQ h (b.1-j)
 rw[show j+(b.1-j)=b.1 by omega]at this
 unfold bW
 rw[this]
theorem jS {a b:PP} (h1:Trim a) (h2:Trim b):Trim (bW a b):=p9 (mY (s:=(a,b)) h1 h2 _).1
theorem m8 {a b:PP} (h:0<a.1):0<(bW a b).1:=xx (s:=(a,b)) h _
def aZ (a:PP):PP:=if a.1=0 then(0,a.2)else ga (gk a (bW a (bL a)))
def rz (s:PP×PP):PP×PP:=(s.2,((fl s.1 s.2).1,fun i=>((-1:Int):Rat)*(fl s.1 s.2).2 i))
def cm (s:PP×PP):Nat->PP×PP
 |0=>s
 |j+1=>rz (cm s j)
theorem xC {a:PP} {r:Rat} (h:Trim a) (hr:r≠0):Trim (a.1,fun i=>r*a.2 i):=by
 rcases h with h|h
 ·exact .inl h
 ·right
  show r*a.2 (a.1-1)≠0
  intro h0
  rcases Rat.mul_eq_zero.1 h0 with h1|h1
  ·exact hr h1
  ·exact h h1
theorem oW {s:PP×PP} (h1:Trim s.1) (h2:Trim s.2):∀j,Trim (cm s j).1/\Trim (cm s j).2
 |0=>⟨h1,h2⟩
 |j+1=>⟨(oW h1 h2 j).2,xC (a:=fl (cm s j).1 (cm s j).2) qZ (by decide)⟩
def stM (s:PP×PP):Nat->Nat->Nat
 |0,j=>j
 |f+1,j=>if(cm s j).2.1=0 then j else stM s f (j+1)
def gD (s:PP×PP):Nat:=stM s s.2.1 0
theorem Oe {s:PP×PP} (h1:Trim s.1) (h2:Trim s.2):∀f j,(cm s j).2.1<=f->j<=stM s f j/\stM s f j<=j+f/\(cm s (stM s f j)).2.1=0/\∀i,j<=i->i<stM s f j->(cm s i).2.1≠0
 |0,j,h=>⟨Nat.le_refl _,by show j<=_;omega,by show(cm s j).2.1=0;omega,fun i h1 h2=>by have:i<j:=h2;omega⟩
 |f+1,j,h=>by
  unfold stM
  split
  ·rename_i h0
   exact⟨Nat.le_refl _,by omega,h0,fun i h1 h2=>by omega⟩
  ·rename_i h0
   have hr:=nH (a:=(cm s j).1) (d:=(cm s j).2) (by omega) (oW h1 h2 j).2
   have hr:(cm s (j+1)).2.1<(cm s j).2.1:=hr
   obtain⟨g1,g2,g3,g4⟩:=Oe h1 h2 f (j+1) (by omega)
   refine⟨by omega,by omega,g3,fun i k1 k2=>?_⟩
   rcases Nat.eq_or_lt_of_le k1 with h|h
   ·subst h;exact h0
   ·exact g4 i h k2
theorem nE {s:PP×PP} (h1:Trim s.1) (h2:Trim s.2):gD s<=s.2.1/\(cm s (gD s)).2.1=0/\∀i,i<gD s->(cm s i).2.1≠0:=by
 obtain⟨_,g2,g3,g4⟩:=Oe h1 h2 s.2.1 0 (Nat.le_refl _)
 exact⟨by unfold gD;omega,g3,fun i hi=>g4 i (Nat.zero_le _) hi⟩
theorem MG {s:PP×PP} {B:Nat} (ha:s.1.1<=B) (hb:s.2.1<=B) (h1:Trim s.1) (h2:Trim s.2):∀j,j<=gD s->(cm s j).1.1<=B/\(cm s j).2.1<=B
 |0,_=>⟨ha,hb⟩
 |j+1,hj=>by
  have ih:=MG ha hb h1 h2 j (by omega)
  have h0:=(nE h1 h2).2.2 j (by omega)
  have hr:(cm s (j+1)).2.1<(cm s j).2.1:=nH (a:=(cm s j).1) (d:=(cm s j).2) (by omega) (oW h1 h2 j).2
  exact⟨ih.2,by omega⟩
def dO (a:PP):PP×PP:=(aZ a,bL (aZ a))
theorem l9 {a:PP}:Trim (aZ a):=by
 unfold aZ
 split
 ·exact .inl rfl
 ·exact p9 vP
def fC (n:Nat) (k:Nat->Rat) (t:Rat):Nat->Rat
 |0=>0
 |m+1=>fC n k t m*t+k (n-1-m)
def dm (a:PP) (t:Rat):Rat:=fC a.1 a.2 t a.1
def cC (s:Nat->Int):Nat->Int×Nat
 |0=>(0,0)
 |i+1=>(if s i=0 then(cC s i).1 else s i,if s i*(cC s i).1<0 then(cC s i).2+1 else(cC s i).2)
end Go.Am
namespace Go.Am.B
open Go Go.Am.N AV af ak IntKind Proofs.Tryz
def s6:Nat:=68719477736
abbrev mK:Code:=aG f114
abbrev nw:List Nat:=[0]
def A8:Spec:=fu (kC (kL ah) kN) (fun a=>bD a.1.2 (bY a.1.2 a.1.1) ah) fun a=>[a.1.1<2^40]
def IZ:Spec:=fu (kC kR (kC kR kN)) (fun a=>.rat (a.1.1/a.2.1.1) (a.1.2+a.2.1.2)) fun a=>[a.1.2<2^42,a.2.1.2<2^42]
def JP:bB:=zG::(142,jA kR kR yV pJ)::ia
def sS:bB:=zG::(158,E1)::(171,IZ)::ia
abbrev vE:Code:=aG f137
abbrev xw:Code:=part vE [1,1,1,1,0,1,0,0]
abbrev AM:Code:=part xw [1,1,0,0]
abbrev Cj (m:Nat):AV:=bD (fun i=>((bn m i:Int):Rat)) (m+1) 64
abbrev sF:List Nat:=[0,4,5,25,26]
abbrev Bu (m:Nat) (c:Nat->Rat) (i:Nat):List AV:=[bD c (m+1) ah,Cj m,.own 0 3 0 (m+1),.int .i64 (m+1:Nat),.int .i64 i]
abbrev xb:List Nat:=[0,4,5,25,26,6,30,31,32]
abbrev E5 (m:Nat) (c:Nat->Rat) (i k:Nat):List AV:=[bD c (m+1) ah,Cj m,.own 0 3 0 (m+1),.int .i64 (m+1:Nat),.int .i64 i,.int .i64 i,Cj i,.int .i64 (i+1:Nat),.int .i64 k]
abbrev wJ:Code:=aG f121
abbrev yz:List Nat:=[3,5,11,12,13]
abbrev FC (n:Nat) (c:Nat->Rat) (i:Nat):List AV:=[.ptr 1 0 3 0 [],.own 0 3 0 n,bD c n ah,.int .i64 n,.int .i64 i]
abbrev yK:Code:=aG f73
abbrev vU:List Nat:=[0,3,4]
abbrev DQ (n:Nat) (c:Nat->Rat) (i:Nat):List AV:=[bD c n ah,.own 0 3 0 i,.int .i64 (i+1:Nat)]
def BI:bB:=zG::(114,A8)::ia
theorem FV:bu 114 f114:=bz func114
theorem Wq:bu 171 f171:=bz func171
theorem Gq:bu 137 f137:=bz func137
theorem PL:bu 121 f121:=bz func121
theorem SB:bu 73 f73:=bz func73
theorem VJ {n:Nat} {k:Nat->Rat}:aH T GZ [] 60 nw (before mK [1,0]) ⟨aV 0 [bD k n ah],[],0⟩=
  some (leaf normal ([aq 3 n fun i=>rat (k i) ah],[])):=ag
theorem abj {n:Nat} {k:Nat->Rat}:aH T GZ [6,15] 60 nw [part mK [1,0,0,0]] ⟨aE nw [bD k n ah],[],0⟩=
  let c6:Int:=(↑n:Int);let c4:Int:=(2:Int)^63;let c3:af (List AV×aD):=leaf (exit 0) ([aq 3 n fun i=>rat (k i) ah],[]);let c5:Bool:=decide (c6>0);let c2:Int:=c6-1;let c1:af (List AV×aD):=aj [-c4<=c2/\c2<c4,(0:Int)<=0/\(0:Int)<=c2/\c2<=c2/\c2<=c6] (leaf normal ([aq 3 (c2.toNat-Int.toNat (0:Int)) fun i=>rat (k (i+Int.toNat (0:Int))) ah],[]));some (fork c5 (aj [c5=true,-c4<=c2/\c2<c4,(0:Int)<=c2/\c2.toNat<n,ah<2^42] (fork (bif true then bC (k c2.toNat)==0 else false) c1 c3)) (aj [c5=false] (fork false c1 c3))):=ag
theorem XT {n:Nat} {k:Nat->Rat}:dA T GZ [] 60 f114 [part mK [1,1]] ⟨aE nw [bD k n ah],[],0⟩=
  some (leaf ret [aq 3 n fun i=>rat (k i) ah]):=ag
theorem SG {q r:Rat} {n m:Nat}:cq T JP [] 60 f171 (aG f171) ⟨aV 0 [.rat q n,.rat r m],[],0⟩=
  let c1:Prop:=0<1;some (aj [c1,c1,n<2^42,m<2^42,c1] (aj [c1,c1] (aj [c1] (leaf ret [rat (q/r) (n+m)])))):=ag
theorem adn {m:Nat} {c:Nat->Rat}:aH T sS [200016,11] 60 sF (before vE [1,1,1,1,0,1]) ⟨aV 0 [bD c (m+1) ah],[],0⟩=
  let c1:Int:=(↑(m+1):Int);let c2:Int:=c1-1;some (aj [(bif c1==0 then true else decide (c1>41))=false] (aj [-(2:Int)^63<=c2/\c2<2^63,(0:Int)<=c2,c2<=40] (aj [(0:Int)<=c1/\c1<=c1/\c1<=2^47/\c1*(↑(56:Nat):Int)<=2^47] (leaf normal ([aq 3 (m+1) fun i=>rat (c i) ah,aq 3 (c2.toNat+1) fun i=>rat (↑(↑(bn c2.toNat i):Int):Rat) 64,own 69632 3 0 c1.toNat,int i64 (↑c1.toNat:Int),int i64 0],[(69632,ay.mk true true 3 c1.toNat fun x=>rat 0 1)]))))):=ag
theorem adJ {m i:Nat} {c x:Nat->Rat}:aH T sS [27] 60 sF (before xw [1,1,0]) ⟨aE sF (Bu m c i),[(0,cZ (m+1) x ah)],1⟩=
  let c2:Nat:=m+1;let c1:List AV×aD:=([aq 3 c2 fun i=>rat (c i) ah,aq 3 c2 fun i=>rat (↑(↑(bn m i):Int):Rat) 64,own 0 3 0 c2,int i64 (↑c2:Int),int i64 (↑i:Int)],[(0,ay.mk true true 3 c2 fun i=>rat (x i) ah)]);some (fork (decide ((↑i:Int)<(↑c2:Int))) (leaf normal c1) (leaf (exit 0) c1)):=ag
theorem Zl {m i:Nat} {c x:Nat->Rat}:aH T sS [] 60 xb (before AM [1,1]) ⟨aE sF (Bu m c i),[(0,cZ (m+1) x ah)],1⟩=
  let c2:Nat:=m+1;let c1:Int:=(↑i:Int);some (aj [(0:Int)<=c1,c1<=40] (leaf normal ([aq 3 c2 fun i=>rat (c i) ah,aq 3 c2 fun i=>rat (↑(↑(bn m i):Int):Rat) 64,own 0 3 0 c2,int i64 (↑c2:Int),int i64 c1,int i64 c1,aq 3 (c1.toNat+1) fun i=>rat (↑(↑(bn c1.toNat i):Int):Rat) 64,int i64 (↑(c1.toNat+1):Int),int i64 0],[(0,ay.mk true true 3 c2 fun i=>rat (x i) ah)]))):=ag
theorem acY {m i k:Nat} {c x:Nat->Rat}:aH T sS [33] 60 xb [part AM [1,1,0,0]] ⟨aE xb (E5 m c i k),[(0,cZ (m+1) x ah)],1⟩=
  let c10:Nat:=64+64;let c8:Int:=(↑i:Int);let c7:Int:=(↑(i+1):Int);let c5:AV:=aq 3 (i+1) fun i_1=>rat (↑(↑(bn i i_1):Int):Rat) 64;let c4:Nat:=2^42;let c3:Int:=(↑k:Int);let c1:Nat:=m+1;let c15:AV:=int i64 c8;let c14:Int:=c3+1;let c13:Prop:=(0:Int)<=c8/\c8.toNat<c1;let c12:Prop:=(0:Int)<=c3/\c3.toNat<c1;let c11:AV:=own 0 3 0 c1;let c9:AV:=aq 3 c1 fun i=>rat (c i) ah;let c6:AV:=aq 3 c1 fun i=>rat (↑(↑(bn m i):Int):Rat) 64;let c2:Nat:=c8.toNat+0;some (fork (decide (c3<c7)) (aj [(0:Int)<=c3/\c3.toNat<i+1,(0:Nat)<1] (aj [c13,c2<c1,(0:Nat)<1,c12,(64:Nat)<c4,(64:Nat)<c4,c12,c10<c4,ah<c4,ah<c4,c10+ah<c4,c13,c2<c1] (aj [-(2:Int)^63<=c14/\c14<2^63] (leaf normal ([c9,c6,c11,int i64 (↑c1:Int),c15,c15,c5,int i64 c7,int i64 c14],[(0,ay.mk true true 3 c1 fun j=>rat (bif j==c2 then x c2+(↑(↑(bn i c3.toNat):Int):Rat)/(↑(↑(bn m c3.toNat):Int):Rat)*c c3.toNat else x j) (bif j==c2 then ah+(c10+ah)+1 else ah))]))))) (leaf (exit 2) ([c9,c6,c11,int i64 (↑c1:Int),c15,c15,c5,int i64 c7,int i64 c3],[(0,ay.mk true true 3 c1 fun i=>rat (x i) ah)]))):=ag
theorem V7 {m i k:Nat} {c x:Nat->Rat}:aH T sS [] 60 sF [part xw [1,1,1]] ⟨aE xb (E5 m c i k),[(0,cZ (m+1) x ah)],1⟩=
  let c2:Int:=(↑i:Int)+1;let c1:Nat:=m+1;some (aj [-(2:Int)^63<=c2/\c2<2^63] (leaf normal ([aq 3 c1 fun i=>rat (c i) ah,aq 3 c1 fun i=>rat (↑(↑(bn m i):Int):Rat) 64,own 0 3 0 c1,int i64 (↑c1:Int),int i64 c2],[(0,ay.mk true true 3 c1 fun i=>rat (x i) ah)]))):=ag
theorem OO {m i:Nat} {c x:Nat->Rat}:dA T sS [] 60 f137 [part vE [1,1,1,1,1]] ⟨aE sF (Bu m c i),[(0,cZ (m+1) x ah)],1⟩=
  some (leaf ret [aq 3 (m+1) fun i=>rat (x (i+0)) ah,int i64 0]):=ag
theorem Us {n s:Nat} {c:Nat->Rat} {r:Rat}:aH T GZ [] 60 yz (before wJ [1,1,0,1]) ⟨aV 0 [bD c n ah,.rat r s],[],0⟩=
  let c1:Int:=(↑n:Int);some (aj [(0:Int)<=c1/\c1<=c1/\c1<=2^47/\c1*(↑(56:Nat):Int)<=2^47] (leaf normal ([ptr 0 0 (eU (rat r s)).size 0 [],own 16384 3 0 c1.toNat,aq 3 n fun i=>rat (c i) ah,int i64 c1,int i64 0],[(16384,ay.mk true true 3 c1.toNat fun x=>rat 0 1),(0,ay.mk false true (eU (rat r s)).size 1 fun x=>rat r s)]))):=ag
theorem ae3 {n s i:Nat} {c x:Nat->Rat} {r:Rat}:aH T GZ [14] 60 yz [part wJ [1,1,0,1,0,0]] ⟨aE yz (FC n c i),[(0,cZ n x ah),(1,⟨false,true,3,1,fun _=>.rat r s⟩)],2⟩=
  let c10:Int:=(↑n:Int);let c7:AV:=own 0 3 0 n;let c5:Prop:=0<1;let c4:AV:=ptr 1 0 3 0 [];let c3:AV:=aq 3 n fun i=>rat (c i) ah;let c2:Nat×ay:=((1:Nat),gX fun x=>rat r s);let c1:Int:=(↑i:Int);let c9:Int:=c1+1;let c8:Prop:=(0:Int)<=c1/\c1.toNat<n;let c6:Nat:=c1.toNat+0;some (fork (decide (c1<c10)) (aj [c8,c5] (aj [c5,c5,s<2^42,ah<2^42,c8,c6<n] (aj [-(2:Int)^63<=c9/\c9<2^63] (leaf normal ([c4,c7,c3,int i64 c10,int i64 c9],[(0,ay.mk true true 3 n fun j=>rat (bif j==c6 then r*c c1.toNat else x j) (bif j==c6 then s+ah else ah)),c2]))))) (leaf (exit 0) ([c4,c7,c3,int i64 c10,int i64 c1],[(0,ay.mk true true 3 n fun i=>rat (x i) ah),c2]))):=ag
theorem Sn {n s i:Nat} {c x:Nat->Rat} {r:Rat}:dA T GZ [] 60 f121 [part wJ [1,1,1]] ⟨aE yz (FC n c i),[(0,cZ n x ah),(1,⟨false,true,3,1,fun _=>.rat r s⟩)],2⟩=
  some (leaf ret [aq 3 n fun i=>rat (x (i+0)) ah]):=ag
theorem QH {n:Nat} {c:Nat->Rat}:aH T BI [] 60 vU (before yK [1,1,0,1]) ⟨aV 0 [bD c n ah],[],0⟩=
  some (leaf normal ([aq 3 n fun i=>rat (c i) ah,nil,int i64 1],[])):=ag
theorem Vg {n i:Nat} {c x:Nat->Rat}:aH T BI [8] 60 vU [part yK [1,1,0,1,0,0]] ⟨aE vU (DQ n c i),[(0,cZ i x ah)],1⟩=
  let c5:Nat:=i+1;let c3:AV:=aq 3 n fun i=>rat (c i) ah;let c2:Int:=(2:Int)^63;let c1:Int:=(↑c5:Int);let c6:Int:=c1+1;let c4:Nat:=Max.max 1 (bP c1.natAbs);some (fork (decide (c1<(↑n:Int))) (aj [-c2<=c1,c1<c2,(0:Int)<=c1/\c1.toNat<n,c4<2^42,ah<2^42,(1:Nat)*3<=2^24,c5*((56:Nat)+1)*2<=2^47] (aj [-c2<=c6/\c6<c2] (leaf normal ([c3,own 53249 3 0 c5,int i64 c6],[(53249,ay.mk true true 3 c5 fun i_1=>if i_1<i then rat (x i_1) ah else nth [rat ((↑c1:Rat)*c c1.toNat) (c4+ah)] (rat 0 1) (i_1-i+0))])))) (leaf (exit 0) ([c3,own 0 3 0 i,int i64 c1],[(0,ay.mk true true 3 i fun i=>rat (x i) ah)]))):=ag
theorem adF {n i:Nat} {c x:Nat->Rat}:dA T BI [] 60 f73 [part yK [1,1,1]] ⟨aE vU (DQ n c i),[(0,cZ i x ah)],1⟩=
  some (aj [dU (fun i=>rat (x (i+0)) ah) i ah,i<2^40] (leaf ret [aq 3 (bY (fun i=>aW (rat (x (i+0)) ah)) i) fun i=>rat (aW (rat (x (i+0)) ah)) ah])):=ag
theorem rV {q:Rat}:(bC q==0)=decide (q=0):=by
 unfold bC
 by_cases h:q=0
 ·simp[h]
 ·simp only[h,decide_false]
  split
  ·rfl
  ·split
   ·rfl
   ·grind
theorem acs {n:Nat} {k:Nat->Rat} (hn:n<2^40) (K:Nat):aQ P 114 K [bD k n ah] [] (aM (bD k (bY k n) ah) []):=by
 have hW:=dI
 refine nK (r:=aM (bD k (bY k n) ah) []) hT oD hm FV rfl bp rfl [1,0] (i:=0) (y:=part mK [1,0,0,0]) (z:=part mK [1,1]) ag ag ag (f1:=[]) (f2:=[6,15]) (f3:=[]) 60 nw 0
  (fun j:Nat=>[bD k j ah]) (fun _=>[]) (fun j=>j<=n/\bY k j=bY k n) (fun j=>j=bY k n) (fun j=>j) (fun _=>⟨⟨_,VJ,?_⟩,fun j hj=>⟨_,abj,?_⟩,fun j hj=>⟨_,XT,?_⟩⟩) K []
 ·simp only[af.all,aA]
  exact⟨n,⟨aS,rfl⟩,fU.vals rfl⟩
 ·obtain⟨h1,h2⟩:=hj
  simp only[af.all,aA,cond_true,rV,bK,bO]
  refine⟨fun h=>⟨⟨aa,aa,aa,aa⟩,fun h3=>⟨aa,j-1,⟨aa,?_⟩,by dsimp only;omega,?_⟩,fun h3=>⟨rfl,j,?_,fU.vals rfl⟩⟩,fun h=>⟨aa,fun h3=>absurd h3 (by decide),fun _=>⟨rfl,j,?_,fU.vals rfl⟩⟩⟩
  ·rw[<-h2]
   obtain⟨m,rfl⟩:∃m,j=m+1:=⟨j-1,aa⟩
   rw[show(((m+1:Nat):Int)-1).toNat=m by omega]at h3
   show bY k m=_
   rw[bY,if_pos h3]
  ·rw[show((j:Int)-1).toNat-(0:Int).toNat=j-1 by omega]
   exact fU.vals rfl
  ·rw[<-h2]
   obtain⟨m,rfl⟩:∃m,j=m+1:=⟨j-1,aa⟩
   rw[show(((m+1:Nat):Int)-1).toNat=m by omega]at h3
   exact(vT (.inr h3)).symm
  ·rw[<-h2,show j=0 by omega];rfl
 ·rw[hj];exact .refl _
theorem Fj:bA P A8 114:=fF fun⟨⟨n,k⟩,_⟩ K hn=>acs hn K
theorem aae:bT P JP:=ja (aN (jZ fun _ _ K hn=>FJ hn.1 hn.2 K) ir)
theorem Xp:bA P IZ 171:=fF fun⟨⟨q,n⟩,⟨r,m⟩,_⟩ K hn=>by
 obtain⟨h1,h2⟩:=hn
 refine cA hT aae hm Wq rfl bp rfl 60 SG (fun _=>?_) K []
 simp only[af.all,aA]
 exact⟨⟨aa,aa,h1,h2,aa⟩,⟨aa,aa⟩,aa,.refl _⟩
theorem Iy:bT P sS:=ja (aN LG (aN Xp ir))
def jG (n:Nat) (c:Nat->Rat):Prop:=∀i k,i<n->k<=i+1->Sz (jK n c i k) ah
def lO (n:Nat) (c:Nat->Rat) (i k j:Nat):Rat:=if j<i then eJ n c j else if j=i then jK n c i k else 0
theorem aeQ {m:Nat} {c:Nat->Rat} (hm1:m<=40) (hz:jG (m+1) c) (K:Nat):aQ P 137 K [bD c (m+1) ah] [] (aM (.tuple [bD (eJ (m+1) c) (m+1) ah,.int .i64 0]) []):=by
 refine iI (r:=aM (.tuple [bD (eJ (m+1) c) (m+1) ah,.int .i64 0]) []) hT Gq rfl bp rfl (fun _ cx h0=>?_) K []
 have hk:=nV h0
 have hW:=dI
 refine au.qV hT Iy hm (x:=vE) [1,1,1,1,0,1] (i:=0) (y:=xw) (z:=part vE [1,1,1,1,1]) ag ag ag Gq.dst [1,1,0] (j:=1) (x1:=AM) (zb:=part xw [1,1,1]) ag ag ag [1,1] (i2:=2) (y2:=part AM [1,1,0,0]) ag ag rfl hk
  (f1:=[200016,11]) (f2:=[27]) (f3:=[]) (f4:=[33]) (f5:=[]) 60 sF xb 1 1 (fun i:Nat=>Bu m c i) (fun i=>[(0,cZ (m+1) (lO (m+1) c i 0) ah)]) (fun i=>i<=m+1) (fun i=>i=m+1) (fun i=>m+1-i) (fun i=>i<m+1) (fun _=>False) (fun _=>False)
  (fun i (k:Nat)=>E5 m c i k) (fun i k=>[(0,cZ (m+1) (lO (m+1) c i k) ah)]) (fun i k=>k<=i+1) (fun i k=>k=i+1) (fun i k=>i+1-k)
  ⟨_,adn,?_⟩ (fun i hi=>⟨_,adJ,?_⟩) (fun i hi hG=>⟨_,Zl,?_⟩) (fun i hi hG k hk=>⟨_,acY,?_⟩) (fun i hi hG k hk=>⟨_,V7,?_⟩) (fun i hi=>?_) (fun _ _ h=>h.elim) (fun _ _ h=>h.elim)
 ·simp only[af.all,aA,bE]
  have e1:(((m+1:Nat):Int)-1).toNat=m:=aa
  have e2:(((m+1:Nat):Int)==0)=false:=by rw[beq_eq_false_iff_ne];omega
  rw[e1,e2]
  simp only[cond_false,bO]
  refine⟨aa,⟨aa,aa,aa⟩,aa,0,aa,[(0,69632)],rfl,rfl,rfl,bH rfl rfl rfl (fun j hj=>.inr ⟨rfl,dD ?_ aa⟩) trivial⟩
  unfold lO;rw[if_neg (Nat.not_lt_zero j)];split<;>rfl
 ·simp only[af.all,aA,bK,bO]
  exact⟨fun h=>⟨aa,[(0,0)],rfl,rfl,rfl,bH rfl rfl rfl (fun i hi=>bX rfl rfl) trivial⟩,fun h=>⟨rfl,i,aa,[(0,0)],rfl,rfl,rfl,bH rfl rfl rfl (fun i hi=>bX rfl rfl) trivial⟩⟩
 ·simp only[af.all,aA,bE]
  exact⟨aa,0,aa,[(0,0)],rfl,rfl,rfl,bH rfl rfl rfl (fun i hi=>bX rfl rfl) trivial⟩
 ·simp only[af.all,aA,bK,bO,bE,Nat.add_zero]
  refine⟨fun h=>⟨aa,aa,aa,k+1,aa,by dsimp only;omega,[(0,0)],rfl,rfl,rfl,bH rfl rfl rfl (fun j hj=>?_) trivial⟩,fun h=>⟨rfl,k,aa,[(0,0)],rfl,rfl,rfl,bH rfl rfl rfl (fun j hj=>bX rfl rfl) trivial⟩⟩
  have e1:∀q,lO (m+1) c i q i=jK (m+1) c i q:=fun q=>by unfold lO;rw[if_neg (Nat.lt_irrefl i),if_pos rfl]
  exact mN (x:=lO (m+1) c i k) (y:=lO (m+1) c i (k+1)) (fj (by rw[e1,e1];rfl) (by rw[e1];exact hz i (k+1) hG aa)) fun hj=>dD (by unfold lO;rw[if_neg hj,if_neg hj]) aS
 ·subst hk
  simp only[af.all,aA]
  refine⟨aa,i+1,aa,by dsimp only;omega,[(0,0)],rfl,rfl,rfl,bH rfl rfl rfl (fun j hj=>bX rfl ?_) trivial⟩
  show AV.rat (lO (m+1) c i (i+1) j) ah=AV.rat (lO (m+1) c (i+1) 0 j) ah
  unfold lO
  by_cases h1:j<i
  ·rw[if_pos h1,if_pos aa]
  ·by_cases h2:j=i
   ·subst h2;rw[if_neg h1,if_pos rfl,if_pos aa];rfl
   ·rw[if_neg h1,if_neg h2,if_neg aa];split<;>rfl
 ·subst hi
  refine au.m7 ((aF.fin hT Iy hm 60 OO ag ?_).mono fun _ _ h=>.inl h)
  refine⟨iz fun i hi=>dD ?_ aS,.refl _,trivial⟩
  show lO (m+1) c (m+1) 0 i=_
  unfold lO;rw[if_pos hi]
def KI:Spec:=fu (kC (kL ah) kN) (fun a=>.tuple [bD (eJ a.1.1 a.1.2) a.1.1 ah,.int .i64 0]) fun a=>[1<=a.1.1,a.1.1<=41,jG a.1.1 a.1.2]
theorem Qx:bA P KI 137:=fF fun⟨⟨n,p⟩,_⟩ K hn=>by
 obtain⟨h1,h2,h3⟩:=hn
 simp only at h1 h2 h3
 obtain⟨m,rfl⟩:∃m,n=m+1:=⟨n-1,aa⟩
 exact aeQ aa h3 K
theorem FH:s6=ah+1000:=rfl
theorem OY {n:Nat} {c:Nat->Rat} {r:Rat} (hn:n<2^40) (hz:dj n fun i=>r*c i) (K:Nat):aQ P 121 K [bD c n ah,.rat r s6] [] (aM (bD (fun i=>r*c i) n ah) []):=by
 have hW:=dI
 have hX:=FH
 refine nK (r:=aM (bD (fun i=>r*c i) n ah) []) hT oD hm PL rfl bp rfl [1,1,0,1] (i:=0) (y:=part wJ [1,1,0,1,0,0]) (z:=part wJ [1,1,1]) ag ag ag (f1:=[]) (f2:=[14]) (f3:=[]) 60 yz 2
  (fun i:Nat=>FC n c i) (fun i=>[(0,cZ n (fun j=>if j<i then r*c j else 0) ah),(1,⟨false,true,3,1,fun _=>.rat r s6⟩)]) (fun i=>i<=n) (fun i=>i=n) (fun i=>n-i) (fun _=>⟨⟨_,Us,?_⟩,fun i hi=>⟨_,ae3,?_⟩,fun i hi=>⟨_,Sn,?_⟩⟩) K []
 ·simp only[af.all,aA,bE]
  exact⟨aa,0,Nat.zero_le _,[(0,16384),(1,0)],rfl,rfl,rfl,bH rfl rfl rfl (fun i hi=>.inr ⟨rfl,dD (if_neg (Nat.not_lt_zero i)).symm aa⟩) (dY trivial)⟩
 ·simp only[af.all,aA,bK,bO,bE,Nat.add_zero]
  refine⟨fun h2=>⟨aa,aa,aa,i+1,aa,by dsimp only;omega,[(0,0),(1,1)],rfl,rfl,rfl,bH rfl rfl rfl (fun j hj=>?_) (dY trivial)⟩,fun h2=>⟨rfl,i,aa,[(0,0),(1,1)],rfl,rfl,rfl,bH rfl rfl rfl (fun j hj=>bX rfl rfl) (dY trivial)⟩⟩
  exact mN (x:=fun j=>if j<i then r*c j else 0) (y:=fun j=>if j<i+1 then r*c j else 0) (fj (if_pos (Nat.lt_succ_self i)).symm (by show Sz (if i<i+1 then _ else _) _;rw[if_pos (Nat.lt_succ_self i)];exact hz i aa)) fun hj=>dD (zh hj).symm aS
 ·subst hi
  simp only[af.all,aA]
  exact iz fun j hj=>by rw[Nat.add_zero,if_pos hj];exact .refl _
def EX:Spec:=fu (kC (kL ah) (kC (gE s6) kN)) (fun a=>bD (fun i=>a.2.1*a.1.2 i) a.1.1 ah) fun a=>[a.1.1<2^40,dj a.1.1 fun i=>a.2.1*a.1.2 i]
theorem Nh:bA P EX 121:=fF fun⟨⟨n,c⟩,r,_⟩ K hn=>OY hn.1 hn.2 K
theorem adT:bT P BI:=ja (aN Fj ir)
theorem Vs {n:Nat} {c:Nat->Rat} (hn:n<2^40) (hz:dj (n-1) (dw c)) (K:Nat):aQ P 73 K [bD c n ah] [] (aM (bD (dw c) (bY (dw c) (n-1)) ah) []):=by
 have hW:=dI
 refine nK (r:=aM (bD (dw c) (bY (dw c) (n-1)) ah) []) hT adT hm SB rfl bp rfl [1,1,0,1] (i:=0) (y:=part yK [1,1,0,1,0,0]) (z:=part yK [1,1,1]) ag ag ag (f1:=[]) (f2:=[8]) (f3:=[]) 60 vU 1
  (fun i:Nat=>DQ n c i) (fun i=>[(0,cZ i (dw c) ah)]) (fun i=>i<=n-1) (fun i=>i=n-1) (fun i=>n-1-i) (fun _=>⟨⟨_,QH,?_⟩,fun i hi=>⟨_,Vg,?_⟩,fun i hi=>⟨_,adF,?_⟩⟩) K []
 ·simp only[af.all,aA]
  exact⟨0,aa,[],rfl,rfl,rfl,uw rfl aa aa trivial⟩
 ·have hb:(max 1 (bP ((i+1:Nat):Int).natAbs))<=64:=by
   rw[Int.natAbs_natCast]
   have:=j5 (x:=i+1) (k:=64)|>.2 aa
   omega
  simp only[af.all,aA,bK,bO,bE]
  refine⟨fun h2=>⟨aa,aa,i+1,aa,by dsimp only;omega,[(0,53249)],rfl,?_,rfl,bH rfl rfl rfl (fun j hj=>?_) trivial⟩,fun h2=>⟨rfl,i,aa,[(0,0)],rfl,rfl,rfl,bH rfl rfl rfl (fun j hj=>bX rfl rfl) trivial⟩⟩
  ·rw[show((i+1:Nat):Int)+1=((i+1+1:Nat):Int) by omega];rfl
  ·refine .inr ⟨?_,?_⟩
   ·split
    ·rfl
    ·rw[show j-i+0=0 by omega];rfl
   ·split
    ·exact .refl _
    ·rw[show j-i+0=0 by omega,show j=i by omega]
     exact fj rfl (hz i aa)
 ·subst hi
  simp only[af.all,aA]
  exact⟨⟨eG aS,aa⟩,.refl _⟩
def za:Spec:=fu (kC (kL ah) kN) (fun a=>bD (dw a.1.2) (bY (dw a.1.2) (a.1.1-1)) ah) fun a=>[a.1.1<2^40,dj (a.1.1-1) (dw a.1.2)]
theorem BZ:bA P za 73:=fF fun⟨⟨n,c⟩,_⟩ K hn=>Vs hn.1 hn.2 K
def Ck (f:Nat->AV) (n s:Nat):Prop:=∀i,i<n->keys (f i)=[]/\bG (f i) (.rat (aW (f i)) s)
def Cm:Spec:=fun _ args pre=>match args,pre with
 |[.own k 3 0 n],[(k',⟨true,true,3,m,f⟩)]=>match k'==k with
  |true=>some ⟨.own k 3 0 (bY (fun i=>aW (f i)) n),[(k,cZ m (fun i=>aW (f i)) ah)],[n<=m,n<2^40,Ck f m ah]⟩
  |false=>none
 |_,_=>none
abbrev uF:FuncId:=141
abbrev BM:Func:=f141
def NJ:Spec:=ur fun K l=>match l with
 |[v]=>match(kL ah).read v with
  |some ((0,k),q)=>some (aM (bD k 0 ah) q)
  |some ((n+1,k),q)=>some ⟨.own K 3 0 (n+1),[(K,cZ (n+1) k ah)],q++[n+1<2^30]⟩
  |none=>none
 |_=>none
def Om:bB:=zG::(142,jA kR kR yV pJ)::(121,EX)::ia
def mz (n:Nat):Nat:=if n=0 then 1 else n
def qn (n:Nat) (c:Nat->Rat) (i:Nat):Rat:=if n=0 then 0 else eJ n c i
def JL:bB:=zG::(137,KI)::ia
def Ou:bB:=zG::(115,Hz)::(114,A8)::ia
theorem H8:bu uF BM:=bz func141
theorem Uk:bu 135 f135:=bz func135
theorem adP:bu 81 f81:=bz func81
theorem aaj:bu 57 f57:=bz func57
theorem TZ {n m:Nat} {x:Nat->Rat}:aH T GZ [] 60 nw (before mK [1,0]) ⟨aV 0 [.own 0 3 0 n],[(0,cZ m x ah)],1⟩=
  some (leaf normal ([own 0 3 0 n],[(0,ay.mk true true 3 m fun i=>rat (x i) ah)])):=ag
theorem Wr {n m:Nat} {x:Nat->Rat}:aH T GZ [6,15] 60 nw [part mK [1,0,0,0]] ⟨aE nw [.own 0 3 0 n],[(0,cZ m x ah)],1⟩=
  let c7:Int:=(↑n:Int);let c4:Int:=(2:Int)^63;let c3:Nat×ay:=(0,ay.mk true true 3 m fun i=>rat (x i) ah);let c6:af (List AV×aD):=leaf (exit 0) ([own 0 3 0 n],[c3]);let c5:Bool:=decide (c7>0);let c2:Int:=c7-1;let c1:af (List AV×aD):=aj [-c4<=c2/\c2<c4,(0:Int)<=0/\(0:Int)<=c2/\c2<=c2/\c2<=c7] (leaf normal ([own 0 3 0 (c2.toNat-Int.toNat (0:Int))],[c3]));some (fork c5 (aj [c5=true,-c4<=c2/\c2<c4,(0:Int)<=c2/\c2.toNat<n,c2.toNat+0<m,ah<2^42] (fork (bif true then bC (x (c2.toNat+0))==0 else false) c1 c6)) (aj [c5=false] (fork false c1 c6))):=ag
theorem aed {n m:Nat} {x:Nat->Rat}:aH T GZ [] 60 [2] [part mK [1,1]] ⟨aE nw [.own 0 3 0 n],[(0,cZ m x ah)],1⟩=
  some (leaf ret ([own 0 3 0 n],[(0,ay.mk true true 3 m fun i=>rat (x i) ah)])):=ag
theorem Pt {n:Nat} {k:Nat->Rat}:aH T [nG] [] 60 [2] [aG BM] ⟨aV 0 [.eF false 3 n (fun i=>.rat (k i) ah)],[],0⟩=
  some (aj [(0:Nat)*3<=2^24,((0:Nat)+n)*((56:Nat)+1)*2<=2^47] (leaf ret ([own 20480 3 0 ((0:Nat)+n)],[(20480,ay.mk true true 3 ((0:Nat)+n) fun i=>rat (k (i-0)) ah)]))):=ag
theorem YC {b:Bool} {k:Nat->Rat}:cq T [zG] [4] 60 BM (aG BM) ⟨aV 0 [.eF b 3 0 (fun i=>.rat (k i) ah)],[],0⟩=
  some (fork b (leaf ret [nil]) (aj [(0:Nat)*3<=2^24,((0:Nat)+0)*((56:Nat)+1)*2<=2^47] (leaf ret [aq 3 0 fun i=>rat (k (i+0-0)) ah]))):=ag
theorem TV {n:Nat} {c:Nat->Rat}:cq T Om [7] 60 f135 (aG f135) ⟨aV 0 [bD c n ah],[],0⟩=
  let c3:Nat:=Max.max 1 (bP (Int.natAbs (1:Int)));let c2:Int:=(2:Int)^63;let c1:Int:=(↑n:Int)-1;let c4:Rat:=(↑(1:Int):Rat)/c c1.toNat;some (fork ((↑n:Int)==0) (leaf ret [nil]) (aj [-c2<=1,(1:Int)<c2,-c2<=c1/\c1<c2,(0:Int)<=c1/\c1.toNat<n,c3<2^42,ah<2^42,(0:Nat)<1] (aj [(0:Nat)<1,dU (fun i=>rat (c i) ah) n ah,c3+ah<=s6,n<2^40,dj n fun i=>c4*aW (rat (c i) ah)] (leaf ret [aq 3 n fun i=>rat (c4*aW (rat (c i) ah)) ah])))):=ag
theorem VT {n:Nat} {c:Nat->Rat}:cq T JL [7] 60 f81 (aG f81) ⟨aV 0 [bD c n ah],[],0⟩=
  some (fork ((↑n:Int)==0) (aj [(1:Nat)*3<=2^24] (leaf ret [aq 3 1 fun i=>nth [agg [AV.bool (decide ((0:Rat)<0)),mag (↑(nat_lit 0):Int).natAbs,mag (if 1=1 then 0 else 1)]] (rat 0 1) (i+0)])) (aj [dU (fun i=>rat (c i) ah) n ah,(1:Nat)<=n,n<=41,jG n fun i=>aW (rat (c i) ah)] (leaf ret [aq 3 n fun i=>rat (eJ n (fun i=>aW (rat (c i) ah)) i) ah]))):=ag
theorem VO {n:Nat} {c:Nat->Rat}:cq T Ou [] 60 f57 (aG f57) ⟨aV 0 [bD c n ah],[],0⟩=
  some (aj [dU (fun i=>rat (c i) ah) n ah,(1:Nat)<=n,n<=41,xS n fun i=>aW (rat (c i) ah),dU (fun i=>rat (gA n (fun i=>aW (rat (c i) ah)) i) ah) n ah,n<2^40] (leaf ret [aq 3 (bY (fun i=>aW (rat (gA n (fun i=>aW (rat (c i) ah)) i) ah)) n) fun i=>rat (aW (rat (gA n (fun i=>aW (rat (c i) ah)) i) ah)) ah])):=ag
theorem QO {kk n m:Nat} {x:Nat->Rat} (hn:n<2^40) (hnm:n<=m) (c:Ctx) (hk:Kept [0] c):au P c f114.ntmps mK ⟨aV 0 [.own 0 3 0 n],[(0,cZ m x ah)],1⟩ (NM f114 kk [.own kk 3 0 (bY x n)] (cZ m x ah)):=by
 have hW:=dI
 have re:∀j,fU [0] ([.own 0 3 0 j],[((0:Nat),cZ m x ah)]) [.own 0 3 0 j] [(0,cZ m x ah)] 1:=fun j=>⟨[(0,0)],rfl,rfl,rfl,oe trivial⟩
 refine au.r8 hT oD hm [1,0] (i:=0) (y:=part mK [1,0,0,0]) (z:=part mK [1,1]) ag ag ag FV.dst hk (f1:=[]) (f2:=[6,15]) 60 nw 1
  (fun j:Nat=>[.own 0 3 0 j]) (fun _=>[(0,cZ m x ah)]) (fun j=>j<=n/\bY x j=bY x n) (fun j=>j=bY x n) (fun j=>j) (fun _=>False) ⟨_,TZ,?_⟩ (fun j hj=>⟨_,Wr,?_⟩) (fun j hj=>?_) (fun _ _ h=>h.elim)
 ·simp only[af.all,aA]
  exact⟨n,⟨aS,rfl⟩,re n⟩
 ·obtain⟨h1,h2⟩:=hj
  simp only[af.all,aA,cond_true,rV,bK,bO,Nat.add_zero]
  refine⟨fun h=>⟨⟨aa,aa,aa,aa,aa⟩,fun h3=>⟨aa,j-1,⟨aa,?_⟩,by dsimp only;omega,?_⟩,fun h3=>⟨rfl,j,?_,re j⟩⟩,fun h=>⟨aa,fun h3=>absurd h3 (by decide),fun _=>⟨rfl,j,?_,re j⟩⟩⟩
  ·rw[<-h2]
   obtain⟨m,rfl⟩:∃m,j=m+1:=⟨j-1,aa⟩
   rw[show(((m+1:Nat):Int)-1).toNat=m by omega]at h3
   show bY x m=_
   rw[bY,if_pos h3]
  ·rw[show((j:Int)-1).toNat-(0:Int).toNat=j-1 by omega]
   exact re (j-1)
  ·rw[<-h2]
   obtain⟨m,rfl⟩:∃m,j=m+1:=⟨j-1,aa⟩
   rw[show(((m+1:Nat):Int)-1).toNat=m by omega]at h3
   exact(vT (.inr h3)).symm
  ·rw[<-h2,show j=0 by omega];rfl
 ·subst hj
  exact au.bJ hT oD hm 60 [2] aed ag fun s' hs'=>⟨.inr rfl,[2],_,[.own 0 3 0 (bY x n)],_,_,hs',ag,⟨⟨rfl,en (by simp[aY,look]) rfl rfl⟩,trivial⟩,rfl,iH rfl fun i hi=>iu rfl⟩
theorem Yi:bA P Cm 114:=by
 intro K args pre r h
 unfold Cm at h
 split at h
 ·rename_i k n k' m f
  split at h
  ·rename_i hc
   have hc:=eq_of_beq hc
   subst hc
   simp only[ax]at h
   subst h
   intro need
   have h0:=need
   obtain⟨n1,n2,n3⟩:=need
   exact XU hT FV (rest:=[]) (ws:=[.own k' 3 0 _]) (o2:=⟨true,true,3,m,f⟩) (o:=cZ m (fun i=>aW (f i)) ah) rfl rfl bp (fun ρ=>iH rfl fun i hi=>jb (n3 i hi).1 (n3 i hi).2) (fun _ c hk=>QO n2 n1 c hk) K h0
  ·simp at h
 ·simp at h
theorem abC {args:List AV} {n:Nat} {k:Nat->Rat} {l:List Prop} (ha:aA l->gN (aY []) args [.eF false 3 n (fun i=>.rat (k i) ah)]) (hn:aA l->n<2^30) (K:Nat):aQ P uF K args [] ⟨oE [.own K 3 0 n],[(K,cZ n k ah)],l⟩:=by
 refine Km hT H8 ha bp fun need c hk=>?_
 have h2:=hn need
 refine au.bJ hT (jM ct) hm 60 [2] Pt ag ?_
 simp only[af.all,aA]
 exact⟨⟨aa,aa⟩,fun s' hs'=>⟨.inr trivial,[2],_,[.own 20480 3 0 (0+n)],_,20480,_,hs',ag,⟨⟨rfl,en (by simp[aY,look]) rfl aa⟩,trivial⟩,rfl,iH aa fun i hi=>iu rfl⟩⟩
theorem Xi {n:Nat} {k:Nat->Rat} {l:List Prop} (hn:aA l->1<=n/\n<2^30) (K:Nat):aQ P uF K [bD k n ah] [] ⟨oE [.own K 3 0 n],[(K,cZ n k ah)],l⟩:=by
 refine Dw fun b hb=>?_
 intro need
 have h1:=hn need
 cases b
 ·exact abC (args:=[.eF false 3 n (fun i=>.rat (k i) ah)]) (fun _=>⟨aO,trivial⟩) (fun h=>(hn h).2) K need
 ·have:=hb rfl
  omega
theorem Tl {k:Nat->Rat} (K:Nat):aQ P uF K [bD k 0 ah] [] (aM (bD k 0 ah) []):=by
 refine Dw fun b hb=>?_
 refine cA hT (ja ct) hm H8 rfl bp rfl 60 YC (fun _=>?_) K []
 simp only[af.all,aA]
 exact⟨fun _=>lS aa,fun _=>⟨⟨aa,aa⟩,iz fun i hi=>absurd hi (Nat.not_lt_zero i)⟩⟩
theorem Ut:bA P NJ uF:=by
 refine Ai fun K args r hk hs=>?_
 split at hs
 ·rename_i v
  split at hs
  ·rename_i k q hv
   simp only[ax]at hs
   subst hs
   intro need
   exact gY (Tl K) hk ⟨(kL ah).ok hv need,trivial⟩ [] trivial
  ·rename_i n k q hv
   simp only[ax]at hs
   subst hs
   intro need
   obtain⟨hn1,hn2⟩:=gj.1 need
   exact gY (Xi (l:=q++[n+1<2^30]) (fun h=>⟨Nat.succ_pos n,(gj (a:=q) (b:=[n+1<2^30]).1 h).2⟩) K) hk ⟨(kL ah).ok hv hn1,trivial⟩ [] need
  ·simp at hs
 ·simp at hs
theorem V8:bT P Om:=ja (aN (jZ fun _ _ K hn=>FJ hn.1 hn.2 K) (aN Nh ir))
theorem LR {n:Nat} {c:Nat->Rat} (i:Nat):((1:Int):Rat)/c (n-1)*c i=cV n c i:=by
 unfold cV;rw[Rat.div_def,Rat.div_def,Rat.mul_comm];congr 1;exact Rat.one_mul _
theorem adW {n:Nat} {c:Nat->Rat} (hn:n<2^40) (hz:dj n (cV n c)) (K:Nat):aQ P 135 K [bD c n ah] [] (aM (bD (cV n c) n ah) []):=by
 have hW:=dI
 have hX:=FH
 refine cA hT V8 hm Uk rfl bp rfl 60 TV (fun _=>?_) K []
 simp only[af.all,aA,beq_iff_eq,beq_eq_false_iff_ne]
 refine⟨fun h=>?_,fun h=>?_⟩
 ·rw[show n=0 by omega];exact lS aa
 ·rw[show((n:Int)-1).toNat=n-1 by omega]
  have hb:bP (Int.natAbs 1)=1:=by decide
  refine⟨⟨aa,aa,aa,aa,by rw[hb];decide,aa,aa⟩,⟨aa,eG aS,?_,hn,fun i hi=>by show Sz (_*c i) _;rw[LR];exact hz i hi⟩,iz fun i hi=>dD (LR i) aS⟩
  rw[hb,Nat.max_self];omega
def En:Spec:=fu (kC (kL ah) kN) (fun a=>bD (cV a.1.1 a.1.2) a.1.1 ah) fun a=>[a.1.1<2^40,dj a.1.1 (cV a.1.1 a.1.2)]
theorem KL:bA P En 135:=fF fun⟨⟨n,c⟩,_⟩ K hn=>adW hn.1 hn.2 K
theorem WU:bT P JL:=ja (aN Qx ir)
theorem RT {n:Nat} {c:Nat->Rat} (hn:n<=41) (hz:jG n c) (K:Nat):aQ P 81 K [bD c n ah] [] (aM (bD (qn n c) (mz n) ah) []):=by
 refine cA hT WU hm adP rfl bp rfl 60 VT (fun _=>?_) K []
 simp only[af.all,aA,beq_iff_eq,beq_eq_false_iff_ne]
 refine⟨fun h=>⟨aa,?_⟩,fun h=>⟨⟨eG aS,aa,hn,hz⟩,?_⟩⟩
 ·obtain rfl:n=0:=aa
  refine iz (n:=1) fun i hi=>?_
  obtain rfl:i=0:=aa
  exact oH
 ·have e1:mz n=n:=if_neg aa
  rw[e1]
  exact iz fun i hi=>dD (if_neg (show¬n=0 by omega)).symm aS
theorem S0:bT P Ou:=ja (aN SN (aN Fj ir))
theorem acr {n:Nat} {c:Nat->Rat} (h1:1<=n) (h2:n<=41) (h3:xS n c) (K:Nat):aQ P 57 K [bD c n ah] [] (aM (bD (gA n c) (bY (gA n c) n) ah) []):=by
 refine cA hT S0 hm aaj rfl bp rfl 60 VO (fun _=>?_) K []
 simp only[af.all,aA]
 exact⟨⟨eG aS,h1,h2,h3,eG aS,aa⟩,.refl _⟩
def Em:Spec:=fun K args pre=>match Cm K args pre with
 |some r=>some r
 |none=>A8 K args pre
def qp:bB:=zG::(uF,NJ)::(114,Em)::(142,jA kR kR yV pJ)::ia
abbrev tC:Code:=aG f88
abbrev Fh:Code:=part tC [1,1,1,1,0,0,0]
abbrev wY:Code:=part Fh [1,0]
abbrev s5:List Nat:=[1,4,5,6]
abbrev yt (e:Nat) (d:Nat->Rat) (R L:Nat):List AV:=[bD d (e+1) ah,.own 1 3 0 R,.own 0 3 0 L,.int .i64 e]
abbrev vQ (n R:Nat) (x q:Nat->Rat):aD:=[(0,cZ n x ah),(1,cZ R q ah)]
abbrev wW:List Nat:=[1,4,5,6,7,8,55,56,57]
abbrev D0 (e:Nat) (d:Nat->Rat) (R L k i:Nat):List AV:=[bD d (e+1) ah,.own 1 3 0 R,.own 0 3 0 L,.int .i64 e,.int .i64 k,.ptr 2 0 3 0 [],bD d e ah,.int .i64 e,.int .i64 i]
abbrev Dm (n R:Nat) (x q:Nat->Rat) (f:Rat):aD:=[(2,⟨false,true,3,1,fun _=>.rat f ah⟩),(0,cZ n x ah),(1,cZ R q ah)]
theorem DE:bu 88 f88:=bz func88
theorem RP {e:Nat} {a d:Nat->Rat}:cq T qp [200020,200029] 60 f88 (aG f88) ⟨aV 0 [bD a 0 ah,bD d (e+1) ah],[],0⟩=
  let c3:AV:=rat 0 1;let c2:Int:=(↑(0:Nat):Int);let c1:Int:=(↑(e+1):Int)-1;some (aj [dU (fun i=>rat (a i) ah) 0 ah] (aj [-(2:Int)^63<=c1/\c1<2^63] (aj [decide (c2>c1)=false] (aj [decide (c2>c1)=false] (aj [dU (fun x=>c3) 0 ah,(0:Nat)<2^40] (leaf ret [aq 3 0 fun i=>rat (aW c3) ah,aq 3 0 fun i=>rat (aW (rat (a i) ah)) ah])))))):=ag
theorem TR {n e:Nat} {a d:Nat->Rat}:aH T qp [20] 60 s5 (before tC [1,1,1,1,0]) ⟨aV 0 [bD a (n+1) ah,bD d (e+1) ah],[],0⟩=
  let c6:Int:=(2:Int)^63;let c5:AV:=aq 3 (e+1) fun i=>rat (d i) ah;let c3:Int:=(↑(e+1):Int)-1;let c2:Nat:=n+1;let c7:List AV:=[own 12288 3 0 c2,int i64 c3];let c4:Nat×ay:=(12288,ay.mk true true 3 c2 fun i=>rat (aW (rat (a i) ah)) ah);let c1:Int:=(↑c2:Int)-c3;some (aj [dU (fun i=>rat (a i) ah) (n+1) ah,c2<2^30] (aj [-c6<=c3/\c3<c6] (fork (decide ((↑c2:Int)>c3)) (aj [-c6<=c1/\c1<c6,(0:Int)<=c1/\c1<=c1/\c1<=2^47/\c1*(↑(56:Nat):Int)<=2^47] (leaf normal (c5::own 69632 3 0 c1.toNat::c7,[c4,(69632,ay.mk true true 3 c1.toNat fun x=>rat 0 1)]))) (leaf normal (c5::nil::c7,[c4]))))):=ag
theorem So {n e R L:Nat} {d x q:Nat->Rat}:aH T qp [29] 60 s5 (before Fh [1]) ⟨aE s5 (yt e d R L),vQ n R x q,2⟩=
  let c1:List AV×aD:=([aq 3 (e+1) fun i=>rat (d i) ah,own 1 3 0 R,own 0 3 0 L,int i64 (↑e:Int)],[(0,ay.mk true true 3 n fun i=>rat (x i) ah),(1,ay.mk true true 3 R fun i=>rat (q i) ah)]);some (fork (decide ((↑L:Int)>(↑e:Int))) (leaf normal c1) (leaf (exit 0) c1)):=ag
theorem Xs {n e R L:Nat} {d x q:Nat->Rat}:aH T qp [] 60 wW (before wY [1,1,1,0,1]) ⟨aE s5 (yt e d R L),vQ n R x q,2⟩=
  let c7:Prop:=ah<2^42;let c6:Nat:=Int.toNat (0:Int);let c3:Int:=(2:Int)^63;let c2:Int:=(↑e:Int);let c1:Int:=(↑L:Int)-1;let c5:Nat:=c1.toNat+0;let c4:Nat:=(c1-c2).toNat+0;some (aj [-c3<=c1/\c1<c3,-c3<=c1-c2/\c1-c2<c3] (aj [-c3<=c1/\c1<c3,(0:Int)<=c1/\c1.toNat<L,c5<n,(0:Int)<=c2/\c2.toNat<e+1,c7,c7,(0:Nat)<1] (aj [(0:Nat)<1,(0:Int)<=c1-c2/\(c1-c2).toNat<R,c4<R] (aj [(0:Int)<=0/\(0:Int)<=c2/\c2<=c2/\c2<=(↑(e+1):Int)] (leaf normal ([aq 3 (e+1) fun i=>rat (d i) ah,own 1 3 0 R,own 0 3 0 L,int i64 c2,int i64 (c1-c2),ptr 81922 0 3 0 [],aq 3 (c2.toNat-c6) fun i=>rat (d (i+c6)) ah,int i64 (↑(c2.toNat-c6):Int),int i64 0],[((81922:Nat),gX fun j=>if(j==0)=true then eU (rA (x c5/d c2.toNat) (ah+ah))else rat 0 1),(0,ay.mk true true 3 n fun i=>rat (x i) ah),(1,ay.mk true true 3 R fun j=>rat (bif j==c4 then x c5/d c2.toNat else q j) (bif j==c4 then ah+ah else ah))])))))):=ag
theorem Sg {n e R L k i:Nat} {d x q:Nat->Rat} {f:Rat}:aH T qp [58] 60 wW [part wY [1,1,1,0,1,0,0]] ⟨aE wW (D0 e d R L k i),Dm n R x q f,3⟩=
  let c14:AV:=own 0 3 0 L;let c13:AV:=own 1 3 0 R;let c12:Prop:=0<1;let c11:AV:=ptr 2 0 3 0 [];let c10:AV:=int i64 (↑e:Int);let c9:AV:=aq 3 e fun i=>rat (d i) ah;let c8:Nat:=2^42;let c7:Int:=(↑i:Int);let c6:AV:=aq 3 (e+1) fun i=>rat (d i) ah;let c4:Nat×ay:=(1,ay.mk true true 3 R fun i=>rat (q i) ah);let c3:Nat×ay:=((2:Nat),gX fun x=>rat f ah);let c2:Int:=(2:Int)^63;let c16:Int:=c7+1;let c1:Int:=(↑k:Int)+c7;let c15:Prop:=(0:Int)<=c1/\c1.toNat<L;let c5:Nat:=c1.toNat+0;some (fork (decide (c7<(↑e:Int))) (aj [(0:Int)<=c7/\c7.toNat<e,c12] (aj [-c2<=c1/\c1<c2,-c2<=c1/\c1<c2,c15,c5<n,c12,c12,ah<c8,ah<c8,ah<c8,ah+ah<c8,c15,c5<n] (aj [-c2<=c16/\c16<c2] (leaf normal ([c6,c13,c14,c10,int i64 (↑k:Int),c11,c9,c10,int i64 c16],[c3,(0,ay.mk true true 3 n fun j=>rat (bif j==c5 then x c5-f*d c7.toNat else x j) (bif j==c5 then ah+(ah+ah)+1 else ah)),c4]))))) (leaf (exit 2) ([c6,c13,c14,c10,int i64 (↑k:Int),c11,c9,c10,int i64 c7],[c3,(0,ay.mk true true 3 n fun i=>rat (x i) ah),c4]))):=ag
theorem QB {n e R L k i:Nat} {d x q:Nat->Rat} {f:Rat}:aH T qp [] 60 s5 (behind wY [1,1,1,0,1]) ⟨aE wW (D0 e d R L k i),Dm n R x q f,3⟩=
  let c1:Int:=(↑L:Int)-1;let c2:Nat:=c1.toNat-Int.toNat (0:Int);some (aj [-(2:Int)^63<=c1/\c1<2^63,(0:Int)<=0/\(0:Int)<=c1/\c1<=c1/\c1<=(↑L:Int),c2<=n,c2<2^40,Ck (fun i=>rat (x i) ah) n ah] (leaf normal ([aq 3 (e+1) fun i=>rat (d i) ah,own 1 3 0 R,own 0 3 0 (bY (fun i=>aW (rat (x i) ah)) c2),int i64 (↑e:Int)],[(0,ay.mk true true 3 n fun i=>rat (aW (rat (x i) ah)) ah),(1,ay.mk true true 3 R fun i=>rat (q i) ah)]))):=ag
theorem VF {n e R L:Nat} {d x q:Nat->Rat}:dA T qp [] 60 f88 [part tC [1,1,1,1,1]] ⟨aE s5 (yt e d R L),vQ n R x q,2⟩=
  some (aj [R<=R,R<2^40,Ck (fun i=>rat (q i) ah) R ah] (leaf ret [aq 3 (bY (fun i=>aW (rat (q i) ah)) R) fun i=>rat (aW (rat (q (i+0)) ah)) ah,aq 3 L fun i=>rat (x (i+0)) ah])):=ag
theorem Yb:bA P Em 114:=by
 intro K args pre r h
 unfold Em at h
 split at h
 ·rename_i h1
  exact Yi K args pre r (h1.trans h)
 ·exact Fj K args pre r h
theorem DV:bT P qp:=ja (aN Ut (aN Yb (aN (jZ fun _ _ K hn=>FJ hn.1 hn.2 K) ir)))
def rP (n e:Nat) (d a:Nat->Rat):Prop:=(∀j,j<=n-e->dj n (cD e d a (n-e) j))/\dj (n-e) (fA e d a (n-e))
abbrev zN (n e:Nat) (d a:Nat->Rat):AV:=.tuple [bD (fA e d a (n-e)) (bY (fA e d a (n-e)) (n-e)) ah,bD (cD e d a (n-e) (n-e)) (bY (cD e d a (n-e) (n-e)) n) ah]
theorem Ol {e:Nat} {a d:Nat->Rat} (he:e<2^30) (K:Nat):aQ P 88 K [bD a 0 ah,bD d (e+1) ah] [] (aM (zN 0 e d a) []):=by
 refine cA hT DV hm DE rfl bp rfl 60 RP (fun _=>?_) K []
 simp only[af.all,aA,bO]
 have e0:bY (fA e d a (0-e)) (0-e)=0:=by rw[Nat.zero_sub];rfl
 refine⟨fun i hi=>absurd hi (Nat.not_lt_zero i),aa,aa,aa,⟨fun i hi=>absurd hi (Nat.not_lt_zero i),aa⟩,?_⟩
 show bG _ _/\bG _ _/\True
 rw[e0]
 exact⟨iz fun i hi=>absurd hi (Nat.not_lt_zero i),iz fun i hi=>absurd hi (Nat.not_lt_zero i),trivial⟩
theorem Nr {n e:Nat} {a d:Nat->Rat} (hn:n+1<2^30) (he:e<2^30) (ha:a n≠0) (hd:d e≠0) (hz:rP (n+1) e d a) (K:Nat):aQ P 88 K [bD a (n+1) ah,bD d (e+1) ah] [] (aM (zN (n+1) e d a) []):=by
 refine iI (r:=aM (zN (n+1) e d a) []) hT DE rfl bp rfl (fun _ cx h0=>?_) K []
 have hk:=nV h0
 have hW:=dI
 obtain⟨N,hN⟩:∃N,N=n+1:=⟨_,rfl⟩
 obtain⟨R,hR⟩:∃R,R=N-e:=⟨_,rfl⟩
 have hRr:R=n+1-e:=aa
 unfold rP at hz
 rw[<-hN,<-hR]at hz
 obtain⟨hzR,hzQ⟩:=hz
 refine au.ae0 hT DV hm (x:=tC) [1,1,1,1,0] (i:=0) (y:=Fh) ag ag DE.dst [1] (j:=1) (x1:=wY) ag ag ag [1,1,1,0,1] (i2:=2) (y2:=part wY [1,1,1,0,1,0,0]) ag ag rfl ag hk
  (f1:=[20]) (f2:=[29]) (f3:=[]) (f4:=[58]) (f5:=[]) 60 s5 wW 2 3 (fun a:Nat×(Nat->Rat)×(Nat->Rat)=>yt e d R a.1) (fun a=>vQ N R a.2.1 a.2.2) (fun b=>j7 N e R d a b.1 b.2.1 b.2.2/\dj N b.2.1) (fun b=>j7 N e R d a b.1 b.2.1 b.2.2/\b.1<=e) (fun b=>b.1) (fun b=>e<b.1) (fun _=>False) (fun _=>False)
  (fun b (i:Nat)=>D0 e d R b.1 (b.1-1-e) i) (fun b i=>Dm N R (iZ e d b.2.1 (b.1-1-e) (b.2.1 (b.1-1)/d e) i) (fun j=>if j=b.1-1-e then b.2.1 (b.1-1)/d e else b.2.2 j) (b.2.1 (b.1-1)/d e)) (fun b i=>i<=e/\dj N (iZ e d b.2.1 (b.1-1-e) (b.2.1 (b.1-1)/d e) i)) (fun b i=>i=e/\dj N (iZ e d b.2.1 (b.1-1-e) (b.2.1 (b.1-1)/d e) e)) (fun _ i=>e-i)
  ⟨_,TR,?_⟩ (fun b ⟨hb,hx⟩=>⟨_,So,?_⟩) (fun b ⟨hb,hx⟩ hG=>⟨_,Xs,?_⟩) (fun b ⟨hb,hx⟩ hG i ⟨hi,hxi⟩=>⟨_,Sg,?_⟩) (fun b ⟨hb,hx⟩ hG i ⟨hi,hxi⟩=>⟨_,QB,?_⟩) (fun b s' ⟨hb,hle⟩ hs'=>?_) (fun _ _ h=>h.elim) (fun _ _ h=>h.elim)
 ·simp only[af.all,aA,bK,bO]
  have hs0:j7 N e R d a N a fun _=>0:=j7.start hR (.inr (by rw[hN];exact ha))
  have hsz:dj N a:=hzR 0 (Nat.zero_le _)
  refine⟨⟨eG aS,hn⟩,aa,fun h=>⟨aa,(N,a,fun _=>0),⟨hs0,hsz⟩,[(0,12288),(1,69632)],rfl,?_,rfl,bH rfl rfl hN.symm (fun j hj=>bX rfl rfl) (bH rfl rfl aa (fun j hj=>.inr ⟨rfl,dD rfl aa⟩) trivial)⟩,fun h=>?_⟩
  ·rw[show((n+1:Nat):Int)-(((e+1:Nat):Int)-1)=(R:Nat) by omega,show((e+1:Nat):Int)-1=(e:Nat) by omega,bE,<-hN];rfl
  ·have h0:R=0:=aa
   clear hzR hzQ
   subst h0
   refine⟨(N,a,fun _=>0),⟨hs0,hsz⟩,[(0,12288)],rfl,?_,rfl,bH rfl rfl hN.symm (fun j hj=>bX rfl rfl) (uw rfl aa aa trivial)⟩
   rw[show((e+1:Nat):Int)-1=(e:Nat) by omega,<-hN];rfl
 ·obtain⟨L,x,q⟩:=b
  simp only[af.all,aA,bK,bO]
  have re:fU [] ([aq 3 (e+1) fun i=>rat (d i) ah,own 1 3 0 R,own 0 3 0 L,int i64 (↑e:Int)],[(0,ay.mk true true 3 N fun i=>rat (x i) ah),(1,ay.mk true true 3 R fun i=>rat (q i) ah)]) (yt e d R L) (vQ N R x q) 2:=⟨[(0,0),(1,1)],rfl,rfl,rfl,bH rfl rfl rfl (fun j hj=>bX rfl rfl) (bH rfl rfl rfl (fun j hj=>bX rfl rfl) trivial)⟩
  exact⟨fun h=>⟨aa,re⟩,fun h=>⟨rfl,(L,x,q),⟨hb,by dsimp only;omega⟩,re⟩⟩
 ·obtain⟨L,x,q⟩:=b
  have hl:=hb.le
  have hG:e<L:=hG
  dsimp only at hl hb
  have hq:=hb.quot hR hG
  have hf:Sz (x (L-1)/d e) ah:=by rw[hq];exact hzQ _ aa
  simp only[af.all,aA,Nat.add_zero]
  rw[show((L:Int)-1).toNat=L-1 by omega,show((L:Int)-1-(e:Int)).toNat=L-1-e by omega,bE]
  have hu0:iZ e d x (L-1-e) (x (L-1)/d e) 0=x:=by funext j;unfold iZ;rw[if_neg aa]
  refine⟨aa,aa,aa,aa,0,⟨Nat.zero_le _,by rw[hu0];exact hx⟩,[(0,0),(1,1),(2,81922)],rfl,?_,rfl,?_⟩
  ·rw[show(L:Int)-1-(e:Int)=(L-1-e:Nat) by omega];rfl
  ·refine mu rfl rfl (.inr ⟨rfl,fj rfl hf⟩) (bH rfl rfl rfl (fun j hj=>.inr ⟨rfl,dD (by rw[hu0]) aS⟩) (bH rfl rfl rfl (fun j hj=>?_) trivial))
   exact mN (x:=q) (y:=fun j=>if j=L-1-e then x (L-1)/d e else q j) (fj (if_pos rfl).symm (by show Sz (if _ then _ else _) _;rw[if_pos rfl];exact hf)) fun hj=>dD (if_neg hj).symm aS
 ·obtain⟨L,x,q⟩:=b
  have hl:=hb.le
  have hG:e<L:=hG
  dsimp only at hl hb hi hxi
  simp only[af.all,aA,bK,bO,Nat.add_zero]
  rw[show((L-1-e:Nat):Int)+(i:Int)=(L-1-e+i:Nat) by omega,bE,bE]
  generalize hf:x (L-1)/d e=f at*
  have h1:∀j,j≠L-1-e+i->iZ e d x (L-1-e) f i j=iZ e d x (L-1-e) f (i+1) j:=fun j hj=>by
   unfold iZ
   by_cases h2:L-1-e<=j/\j<L-1-e+i
   ·rw[if_pos h2,if_pos aa]
   ·rw[if_neg h2,if_neg aa]
  have h2:iZ e d x (L-1-e) f i (L-1-e+i)-f*d i=iZ e d x (L-1-e) f (i+1) (L-1-e+i):=by
   unfold iZ
   rw[if_neg aa,if_pos aa,show L-1-e+i-(L-1-e)=i by omega]
  refine⟨fun h=>?_,fun h=>⟨rfl,i,⟨aa,by rw[show i=e by omega]at hxi;exact hxi⟩,[(0,0),(1,1),(2,2)],rfl,rfl,rfl,dY (bH rfl rfl rfl (fun j hj=>bX rfl rfl) (bH rfl rfl rfl (fun j hj=>bX rfl rfl) trivial))⟩⟩
  have hs:Sz (iZ e d x (L-1-e) f (i+1) (L-1-e+i)) ah:=by
   subst hf
   rw[hb.K6 hR hG (i:=i+1) aa aa aa]
   exact hzR _ aa _ aa
  refine⟨aa,aa,aa,i+1,⟨aa,fun j hj=>?_⟩,by dsimp only;omega,[(0,0),(1,1),(2,2)],rfl,rfl,rfl,dY (bH rfl rfl rfl (fun j hj=>?_) (bH rfl rfl rfl (fun j hj=>bX rfl rfl) trivial))⟩
  ·by_cases h3:j=L-1-e+i
   ·rw[h3];exact hs
   ·rw[<-h1 j h3];exact hxi j hj
  ·exact mN (x:=iZ e d x (L-1-e) f i) (y:=iZ e d x (L-1-e) f (i+1)) (fj h2 hs) fun hj=>dD (h1 j hj) aS
 ·obtain⟨L,x,q⟩:=b
  have hl:=hb.le
  have hG:e<L:=hG
  dsimp only at hl hb hi hxi
  subst hi
  simp only[af.all,aA]
  rw[show((L:Int)-1).toNat-(0:Int).toNat=L-1 by omega]
  exact⟨⟨aa,aa,aa,aa,fun j hj=>⟨rfl,.refl _⟩⟩,(_,_,_),⟨hb.next hR hd hG,hxi⟩,Nat.lt_of_le_of_lt fP (show L-1<L by omega),[(0,0),(1,1)],rfl,rfl,rfl,bH rfl rfl rfl (fun j hj=>bX rfl rfl) (bH rfl rfl rfl (fun j hj=>bX rfl rfl) trivial)⟩
 ·obtain⟨L,x,q⟩:=b
  dsimp only at hb hle
  obtain⟨f1,f2,f3⟩:=hb.fin hR hle
  have hl:=hb.le
  rw[show behind tC [1,1,1,1,0]=[part tC [1,1,1,1,1]]from by kernel_rfl]
  refine aF.weak rfl hs' (aF.mono (fun _ _ h=>.inl h) (aF.fin hT DV hm 60 VF ag ?_))
  simp only[af.all,aA,Nat.add_zero]
  refine⟨⟨aS,aa,fun j hj=>⟨rfl,.refl _⟩⟩,?_⟩
  show bG _ _/\bG _ _/\True
  rw[<-hN,<-hR,<-f1,<-Au (k:=q) f3]
  exact⟨iz fun i hi=>dD (f3 i (Nat.lt_of_lt_of_le hi fP)) aS,iz fun i hi=>dD (f2 i hi) aS,trivial⟩
def AZ:Spec:=fu (kC (kL ah) (kC (kL ah) kN)) (fun a=>zN a.1.1 (a.2.1.1-1) a.2.1.2 a.1.2) fun a=>[a.1.1<2^30,1<=a.2.1.1,a.2.1.1<2^30,a.1.1=0\/a.1.2 (a.1.1-1)≠0,a.2.1.2 (a.2.1.1-1)≠0,rP a.1.1 (a.2.1.1-1) a.2.1.2 a.1.2]
theorem Cg:bA P AZ 88:=fF fun⟨⟨n,a⟩,⟨m,d⟩,_⟩ K hn=>by
 obtain⟨h1,h2,h3,h4,h5,h6⟩:=hn
 simp only at h1 h2 h3 h4 h5 h6
 obtain⟨e,rfl⟩:∃e,m=e+1:=⟨m-1,aa⟩
 cases n with
 |zero=>exact Ol aa K
 |succ n=>exact Nr h1 aa (by simpa using h4) h5 h6 K
end Go.Am.B
