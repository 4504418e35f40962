/- bp by the shape of the arguments: numbers, points, planes, maps. -/
import Derived.Test.YtolopdkjjlfgjaaGreatB33
import Init
import Derived.Test.YtolopdkjjlfgjaaGreatZ2
set_option linter.unusedVariables false
noncomputable section
namespace Go.Am.B
open Go Go.Am.N AV Proofs.Tryz IntKind
@[ext] structure V3 where
 x:Rat
 y:Rat
 z:Rat
abbrev rA (q:Rat) (n:Nat):AV:=.rat q n
abbrev vA (v:V3) (n:Nat):AV:=.agg [.rat v.x n,.rat v.y n,.rat v.z n]
theorem dj {q r:Rat} {n k:Nat} (h:q=r) (hk:n<=k):bA (.rat q n) (.rat r k):=h▸mw hk
structure Kind (α:Type) where
 read:AV->Option (α×List Prop)
 make:α->AV
 ok:∀{v:AV} {a:α} {q:List Prop},read v=some (a,q)->az q->bA v (make a)
def mW:AV->Option (Rat×Nat)
 |.rat q n=>some (q,n)
 |.agg [.bool false,.mag 0,.mag 0]=>some (0,1)
 |_=>none
theorem tQ {v:AV} {a:Rat×Nat} (h:mW v=some a):bA v (rA a.1 a.2):=by
 unfold mW at h
 split at h
 ·simp only[ay]at h;subst h;exact .refl _
 ·simp only[ay]at h;subst h;exact mb
 ·simp at h
def BZ (v:AV):Option ((Rat×Nat)×List Prop):=match mW v with
 |some a=>some (a,[])
 |none=>none
theorem XL {v:AV} {a:Rat×Nat} {q:List Prop} (h:BZ v=some (a,q)) (_:az q):bA v (rA a.1 a.2):=by
 unfold BZ at h
 split at h
 ·rename_i h1
  simp only[ay,Prod.mk.injEq]at h
  obtain⟨rfl,rfl⟩:=h
  exact tQ h1
 ·simp at h
def kR:Kind (Rat×Nat):=⟨BZ,fun a=>rA a.1 a.2,XL⟩
section specs
variable {α β γ δ:Type} {f:FuncId}
def DP (k:Kind α) (g:α->AV) (need:α->List Prop):Spec:=bR fun l=>match l with
 |[x]=>match k.read x with
  |some (a,p)=>some (aJ (g a) (p++need a))
  |none=>none
 |_=>none
theorem E4 {k:Kind α} {g:α->AV} {need:α->List Prop} (h:∀a K,az (need a)->aO P f K [k.make a] [] (aJ (g a) [])):aY P (DP k g need) f:=by
 refine cD fun K args r hk hs _=>?_
 split at hs
 ·split at hs
  ·rename_i h1
   simp only[ay]at hs
   subst hs
   intro hn
   obtain⟨n1,hn⟩:=fD.1 hn
   exact gz (h _ K hn) hk ⟨k.ok h1 n1,trivial⟩ [] trivial
  ·simp at hs
 ·simp at hs
def g8 (k:Kind α) (k2:Kind β) (g:α->β->AV) (need:α->β->List Prop):Spec:=bR fun l=>match l with
 |[x,y]=>match k.read x,k2.read y with
  |some (a,p),some (b,q)=>some (aJ (g a b) (p++(q++need a b)))
  |_,_=>none
 |_=>none
theorem iG {k:Kind α} {k2:Kind β} {g:α->β->AV} {need:α->β->List Prop} (h:∀a b K,az (need a b)->aO P f K [k.make a,k2.make b] [] (aJ (g a b) [])):aY P (g8 k k2 g need) f:=by
 refine cD fun K args r hk hs _=>?_
 split at hs
 ·split at hs
  ·rename_i h1 h2
   simp only[ay]at hs
   subst hs
   intro hn
   obtain⟨n1,hn⟩:=fD.1 hn
   obtain⟨n2,hn⟩:=fD.1 hn
   exact gz (h _ _ K hn) hk ⟨k.ok h1 n1,k2.ok h2 n2,trivial⟩ [] trivial
  ·simp at hs
 ·simp at hs
end specs
def oD (a b:Rat×Nat):List Prop:=[a.2<2^42,b.2<2^42]
def mc (a b:Rat×Nat):List Prop:=[a.2<2^41,b.2<2^41]
def uv (a b:Rat×Nat):AV:=rA (a.1+b.1) (a.2+b.2+1)
def G9 (a b:Rat×Nat):AV:=rA (a.1-b.1) (a.2+b.2+1)
def BA (a b:Rat×Nat):AV:=rA (a.1*b.1) (a.2+b.2)
def xp (a b:Rat×Nat):AV:=.tuple [rA (a.1/b.1) (a.2+b.2),.int .i64 (if b.1=0 then 3 else 0)]
def HA (a b:Rat×Nat):AV:=.int .i64 (gj a.1 b.1)
def Jl (a b:Rat×Nat):AV:=.bool (decide (a.1=b.1))
def Gv (a:Rat×Nat):AV:=.int .i64 (dm a.1)
abbrev Db:FuncId×Spec:=(71,K9)
def gn:bp:=[(128,g8 kR kR uv oD),(143,g8 kR kR G9 oD),(129,g8 kR kR BA oD),(110,g8 kR kR Jl oD),(58,g8 kR kR HA oD),(65,DP kR Gv fun a=>[a.2<2^42]),Db]
def ic:bp:=[(92,g8 kR kR uv mc),(53,g8 kR kR G9 mc),(90,g8 kR kR BA mc),(26,g8 kR kR Jl mc),(27,g8 kR kR HA mc),(24,DP kR Gv fun a=>[a.2<2^41]),(23,CV)]
theorem Y7:aY P Db.2 Db.1:=ade
theorem gD:bI P gn:=aI (iG fun _ _ K hn=>T7 hn.1 hn.2 K) (aI (iG fun _ _ K hn=>YE hn.1 hn.2 K) (aI (iG fun _ _ K hn=>Kc hn.1 hn.2 K)
 (aI (iG fun _ _ K hn=>Xg (Nat.lt_trans hn.1 aa) (Nat.lt_trans hn.2 aa) K []) (aI (iG fun _ _ K hn=>JX hn.1 hn.2 K []) (aI (E4 fun _ K hn=>J7 (Nat.lt_trans hn aa) K []) (aI Y7 bY))))))
theorem iE:bI P ic:=aI (iG fun _ _ K hn=>Et hn.1 hn.2 K) (aI (iG fun _ _ K hn=>Qf hn.1 hn.2 K) (aI (iG fun _ _ K hn=>P3 hn.1 hn.2 K)
 (aI (iG fun _ _ K hn=>Ys (Nat.lt_trans hn.1 aa) (Nat.lt_trans hn.2 aa) K []) (aI (iG fun _ _ K hn=>Oz hn.1 hn.2 K) (aI (E4 fun _ K _=>HF K []) (aI FI bY))))))
end Go.Am.B
namespace Go.Am.B
structure Kn (n p:Nat) (k:Nat->Rat):Prop where
 p1:1<=p
 len:2*p+2<=n
 sorted:∀i,i+1<n->k i<=k (i+1)
 first:∀i,i<=p->k i=k 0
 last:∀i,n<=i+p+1->i<n->k i=k (n-1)
 mult:∀i,1<=i->i+p+1<n->k i<k (i+p)
theorem AW {n:Nat} {k:Nat->Rat} (h:∀i,i+1<n->k i<=k (i+1)) {i:Nat}:∀{j:Nat},i<=j->j<n->k i<=k j
 |0,hij,_=>by
    have:i=0:=by omega
    subst this;exact Rat.le_refl
 |j+1,hij,hj=>by
  by_cases he:i=j+1
  ·subst he;exact Rat.le_refl
  ·exact Rat.le_trans (AW h (j:=j) (by omega) (by omega)) (h j hj)
theorem Kn.mono {n p:Nat} {k:Nat->Rat} (h:Kn n p k) {i j:Nat} (hij:i<=j) (hj:j<n):k i<=k j:=AW h.sorted hij hj
def fr (a b t:Rat):Rat:=(t-a)/(b-a)
def vB (k:Nat->Rat) (i:Nat) (t:Rat):Nat->Nat->Rat
 |0,j=>if j=0 then 1 else 0
 |d+1,j=>(if j=0 then 0 else fr (k (i-d+(j-1))) (k (i-d+(j-1)+(d+1))) t*vB k i t d (j-1))+
   (if j<=d then(1-fr (k (i-d+j)) (k (i-d+j+(d+1))) t)*vB k i t d j else 0)
structure At (n:Nat) (k:Nat->Rat) (i:Nat):Prop where
 lt:i+1<n
 sorted:∀i,i+1<n->k i<=k (i+1)
 wide:k i<k (i+1)
def aaz (k:Nat->Rat) (b p r:Nat) (t:Rat) (x:Nat->Rat) (j:Nat):Rat:=
 if r<j then x (j-1)+fr (k (b+j)) (k (b+j+(p-r))) t*(x j-x (j-1))else x j
def bl (k:Nat->Rat) (b p:Nat):Nat->(Nat->Rat)->List Rat->Nat->Rat
 |_,x,[]=>x
 |r,x,t::l=>bl k b p (r+1) (aaz k b p r t x) l
variable {k:Nat->Rat} {b p:Nat}
variable {n:Nat}
end Go.Am.B
namespace Go.Am.B
open AV
def aT:AV->Rat
 |.rat q _=>q
 |_=>0
def cV (f:Nat->AV) (n s:Nat):Prop:=∀i,i<n->bA (f i) (.rat (aT (f i)) s)
abbrev aV (k:Nat->Rat) (n s:Nat):AV:=.ak 3 n (fun i=>.rat (k i) s)
theorem dg {k:Nat->Rat} {n s s':Nat} (h:s<=s'):cV (fun i=>.rat (k i) s) n s':=fun _ _=>mw h
theorem aad {f:Nat->AV} {n s:Nat} (h:cV f n s):bA (.ak 3 n f) (aV (fun i=>aT (f i)) n s):=gk h
def qi:AV->Option (Nat×(Nat->AV))
 |.ak 3 n f=>some (n,f)
 |.nil=>some (0,fun _=>.rat 0 1)
 |_=>none
theorem abN {v:AV} {n s:Nat} {f:Nat->AV} (h:qi v=some (n,f)) (ha:cV f n s):bA v (aV (fun i=>aT (f i)) n s):=by
 unfold qi at h
 split at h
 ·simp only[ay,Prod.mk.injEq]at h
  obtain⟨rfl,rfl⟩:=h
  exact aad ha
 ·simp only[ay,Prod.mk.injEq]at h
  obtain⟨rfl,rfl⟩:=h
  exact kS aa
 ·simp at h
end Go.Am.B
namespace Go.Am
def bn:Nat->Nat->Nat
 |_,0=>1
 |0,_+1=>0
 |n+1,k+1=>bn n k+bn n (k+1)
theorem od (n:Nat):bn n 0=1:=by cases n<;>rfl
theorem mJ (n k:Nat):bn (n+1) (k+1)=bn n k+bn n (k+1):=rfl
theorem mm:∀{n k:Nat},n<k->bn n k=0
 |0,_+1,_=>rfl
 |n+1,k+1,h=>by rw[mJ,mm (by omega),mm (by omega)]
theorem GO:∀n:Nat,bn n n=1
 |0=>rfl
 |n+1=>by rw[mJ,GO n,mm (by omega)]
theorem pg:∀n k:Nat,bn n k<=2^n
 |0,0=>by decide
 |0,_+1=>by rw[mm (by omega)];exact Nat.zero_le _
 |n+1,0=>by rw[od];exact Nat.one_le_two_pow
 |n+1,k+1=>by
  have h1:=pg n k
  have h2:=pg n (k+1)
  rw[mJ,Nat.pow_succ];omega
theorem zw:∀{n k:Nat},k<=n->0<bn n k
 |n,0,_=>by rw[od];exact Nat.one_pos
 |n+1,k+1,h=>by
  have:=zw (n:=n) (k:=k) (by omega)
  rw[mJ];omega
theorem xj {n k:Nat} (h:n<=40):bn n k<=2^40:=Nat.le_trans (pg n k) (Nat.pow_le_pow_right (by decide) h)
theorem w8:∀n k:Nat,(k+1)*bn n (k+1)=(n-k)*bn n k
 |0,0=>rfl
 |0,k+1=>by rw[mm (by omega),Nat.zero_sub];simp
 |n+1,0=>by
  have:=w8 n 0
  simp only[od,Nat.zero_add,Nat.one_mul,Nat.sub_zero,Nat.mul_one]at this ⊢
  rw[mJ,od,this];omega
 |n+1,k+1=>by
  have h1:=w8 n k
  have h2:=w8 n (k+1)
  rw[mJ n (k+1),mJ n k,show n+1-(k+1)=n-k by omega]
  by_cases h:k+1<=n
  ·obtain⟨m,rfl⟩:∃m,n=k+1+m:=⟨n-(k+1),by omega⟩
   rw[show k+1+m-(k+1)=m by omega]at h2
   rw[show k+1+m-k=m+1 by omega]at h1 ⊢
   generalize bn (k+1+m) (k+1+1)=A at*
   generalize bn (k+1+m) (k+1)=B at*
   generalize bn (k+1+m) k=C at*
   have e1:(k+1+1)*(B+A)=(k+1)*B+B+(k+1+1)*A:=by rw[Nat.mul_add,Nat.add_mul (k+1) 1 B,Nat.one_mul]
   have e2:(m+1)*(C+B)=(m+1)*C+(m*B+B):=by rw[Nat.mul_add,Nat.add_mul m 1 B,Nat.one_mul]
   rw[e1,e2,h2,h1];omega
  ·rw[mm (n:=n) (k:=k+1+1) (by omega)]
   by_cases h3:k=n
   ·subst h3
    rw[mm (by omega),Nat.sub_self];simp
   ·rw[mm (n:=n) (k:=k+1) (by omega),mm (n:=n) (k:=k) (by omega)];simp
end Go.Am
namespace Go.Am.B
open Go Go.Am.N AV af aq IntKind Proofs.Tryz
abbrev o7 (n:Nat) (g:Nat->Int):ax:=⟨true,true,1,n,fun i=>.int .i64 (g i)⟩
abbrev bS (m:Nat) (k:Nat->Rat) (s:Nat):ax:=⟨true,true,3,m,fun i=>.rat (k i) s⟩
def GZ:bp:=zG::gn
abbrev xX:Code:=aG f158
abbrev we:Code:=part xX [1,1,0,1,0,0]
abbrev z9:Code:=part we [1,1,0,0]
abbrev p8:Code:=part xX [1,1,1]
abbrev qm:List Nat:=[0,3,9,10]
abbrev zX (n r:Nat):List AV:=[.int .i64 n,.own 0 1 0 (r+1),.int .i64 n,.int .i64 r]
abbrev ue:List Nat:=[0,3,9,10,4]
abbrev Cq (n r j:Nat):List AV:=[.int .i64 n,.own 0 1 0 (r+1+1),.int .i64 n,.int .i64 r,.int .i64 j]
abbrev wN:List Nat:=[37,5,38,39]
abbrev D7 (n i:Nat):List AV:=[.own 0 1 0 (n+1),.own 1 3 0 (n+1),.int .i64 (n+1:Nat),.int .i64 i]
abbrev DL (n:Nat) (g:Nat->Int) (x:Nat->Rat):aD:=[(1,bS (n+1) x 64),(0,o7 (n+1) g)]
theorem ET:aZ 158 f158:=bf func158
theorem Y0 {n:Nat}:aF T GZ [] 60 qm (before xX [1,1,0,1]) ⟨aQ 0 [.int .i64 n],[],0⟩=
  some (aj [(1:Nat)*1<=2^24] (leaf normal ([int i64 (↑n:Int),own 4096 1 0 1,int i64 (↑n:Int),int i64 0],[(4096,ax.mk true true 1 1 fun i=>nth [int i64 1] (int i64 0) i)]))):=ah
theorem Qg {n r:Nat} {g:Nat->Int}:aF T GZ [11] 60 qm (before we [1,1,0]) ⟨aC qm (zX n r),[(0,o7 (r+1) g)],1⟩=
  let c2:Int:=(↑n:Int);let c1:List AV×aD:=([int i64 c2,own 0 1 0 (r+1),int i64 c2,int i64 (↑r:Int)],[(0,ax.mk true true 1 (r+1) fun i=>int i64 (g i))]);some (fork (decide ((↑r:Int)<c2)) (leaf normal c1) (leaf (exit 0) c1)):=ah
theorem QN {n r:Nat} {g:Nat->Int}:aF T GZ [] 60 ue (before z9 [1,1]) ⟨aC qm (zX n r),[(0,o7 (r+1) g)],1⟩=
  let c3:Nat:=r+1;let c1:Nat:=c3+1;let c2:Int:=(↑c1:Int)-2;some (aj [(1:Nat)*1<=2^24,c1*((8:Nat)+1)*2<=2^47] (aj [-(2:Int)^63<=c2/\c2<2^63] (leaf normal ([int i64 (↑n:Int),own 8193 1 0 c1,int i64 (↑n:Int),int i64 (↑r:Int),int i64 c2],[(8193,ax.mk true true 1 c1 fun i=>if i<c3 then int i64 (g i)else nth [int i64 1] (int i64 0) (i-c3+0))])))):=ah
theorem Py {n r j:Nat} {g:Nat->Int}:aF T GZ [19] 60 ue [part z9 [1,1,0,0]] ⟨aC ue (Cq n r j),[(0,o7 (r+1+1) g)],1⟩=
  let c7:AV:=int i64 (↑n:Int);let c5:Int:=(↑j:Int);let c4:Int:=(2:Int)^63;let c1:Nat:=r+1+1;let c9:Prop:=(0:Int)<=c5/\c5.toNat<c1;let c8:AV:=own 0 1 0 c1;let c3:Nat:=c5.toNat+0;let c2:Int:=c5-1;let c6:Int:=g c3+g (c2.toNat+0);some (fork (decide (c5>0)) (aj [c9,c3<c1,-c4<=c2/\c2<c4,(0:Int)<=c2/\c2.toNat<c1,c2.toNat+0<c1,-c4<=c6/\c6<c4,c9,c3<c1] (aj [-c4<=c2/\c2<c4] (leaf normal ([c7,c8,c7,int i64 (↑r:Int),int i64 c2],[(0,ax.mk true true 1 c1 fun j=>int i64 (bif j==c3 then c6 else g j))])))) (leaf (exit 2) ([c7,c8,c7,int i64 (↑r:Int),int i64 c5],[(0,ax.mk true true 1 c1 fun i=>int i64 (g i))]))):=ah
theorem NA {n r j:Nat} {g:Nat->Int}:aF T GZ [] 60 qm [part we [1,1,1]] ⟨aC ue (Cq n r j),[(0,o7 (r+1+1) g)],1⟩=
  let c2:Nat:=r+1+1;let c1:Int:=(↑r:Int)+1;some (aj [-(2:Int)^63<=c1/\c1<2^63] (leaf normal ([int i64 (↑n:Int),own 0 1 0 c2,int i64 (↑n:Int),int i64 c1],[(0,ax.mk true true 1 c2 fun i=>int i64 (g i))]))):=ah
theorem PO {n r:Nat} {g:Nat->Int}:aF T GZ [] 60 wN (before p8 [1,0,1]) ⟨aC qm (zX n r),[(0,o7 (r+1) g)],1⟩=
  let c1:Int:=(↑(r+1):Int);some (aj [(0:Int)<=c1/\c1<=c1/\c1<=2^47/\c1*(↑(56:Nat):Int)<=2^47] (leaf normal ([own 0 1 0 (r+1),own 8193 3 0 c1.toNat,int i64 c1,int i64 0],[(8193,ax.mk true true 3 c1.toNat fun x=>rat 0 1),(0,ax.mk true true 1 (r+1) fun i=>int i64 (g i))]))):=ah
theorem VZ {n i:Nat} {g:Nat->Int} {x:Nat->Rat}:aF T GZ [40] 60 wN [part p8 [1,0,1,0,0]] ⟨aC wN (D7 n i),DL n g x,2⟩=
  let c4:Int:=(2:Int)^63;let c3:Int:=(↑i:Int);let c2:Nat:=n+1;let c10:Int:=c3+1;let c9:Int:=(↑c2:Int);let c7:AV:=own 0 1 0 c2;let c6:AV:=own 1 3 0 c2;let c5:Nat×ax:=(0,ax.mk true true 1 c2 fun i=>int i64 (g i));let c1:Nat:=c3.toNat+0;let c8:List Prop:=[(0:Int)<=c3/\c3.toNat<c2,c1<c2];some (fork (decide (c3<c9)) (aj c8 (aj ((-c4<=g c1)::(g c1<c4)::c8) (aj [-c4<=c10/\c10<c4] (leaf normal ([c7,c6,int i64 c9,int i64 c10],[(1,ax.mk true true 3 c2 fun j=>rat (bif j==c1 then(↑(g c1):Rat)else x j) (bif j==c1 then Max.max 1 (bJ (g c1).natAbs)else 64)),c5]))))) (leaf (exit 4) ([c7,c6,int i64 c9,int i64 c3],[(1,ax.mk true true 3 c2 fun i=>rat (x i) 64),c5]))):=ah
theorem Rg {n i:Nat} {g:Nat->Int} {x:Nat->Rat}:cG T GZ [] 60 f158 [part p8 [1,1]] ⟨aC wN (D7 n i),DL n g x,2⟩=
  some (leaf ret [ak 3 (n+1) fun i=>rat (x (i+0)) 64]):=ah
theorem mO:bI P GZ:=fu gD
def nK (r j i:Nat):Int:=if i<=j then(if i=r+1 then 1 else(bn r i:Int))else bn (r+1) i
theorem Hq {r j i:Nat} (hr:r<40) (hi:i<=r):-2^41<=nK r j i/\nK r j i<=2^40:=by
 have h1:=xj (n:=r) (k:=i) aa
 have h2:=xj (n:=r+1) (k:=i) aa
 unfold nK;rw[if_neg (c:=i=r+1) aa];split<;>omega
theorem ZX {n:Nat} (hn:n<=40) (K:Nat):aO P 158 K [.int .i64 n] [] (aJ (aV (fun i=>((bn n i:Int):Rat)) (n+1) 64) []):=by
 refine gB (r:=aJ (aV (fun i=>((bn n i:Int):Rat)) (n+1) 64) []) hT ET rfl aX rfl (fun _ cx h0=>?_) K []
 have hk:=j9 h0
 refine au.ov hT mO hm (x:=xX) [1,1,0,1] (i:=0) (y:=we) (z:=p8) ah ah ah ET.dst [1,1,0] (j:=1) (x1:=z9) (zb:=part we [1,1,1]) ah ah ah [1,1] (i2:=2) (y2:=part z9 [1,1,0,0]) ah ah rfl hk
  (f1:=[]) (f2:=[11]) (f3:=[]) (f4:=[19]) (f5:=[]) 60 qm ue 1 1 (fun r:Nat=>zX n r) (fun r=>[(0,o7 (r+1) fun i=>bn r i)]) (fun r=>r<=n) (fun r=>r=n) (fun r=>n-r) (fun r=>r<n) (fun _=>False) (fun _=>False)
  (fun r (j:Nat)=>Cq n r j) (fun r j=>[(0,o7 (r+1+1) (nK r j))]) (fun r j=>j<=r) (fun _ j=>j=0) (fun _ j=>j)
  ⟨_,Y0,?_⟩ (fun r hr=>⟨_,Qg,?_⟩) (fun r hr hG=>⟨_,QN,?_⟩) (fun r hr hG j hj=>⟨_,Py,?_⟩) (fun r hr hG j hj=>⟨_,NA,?_⟩) (fun r hr=>?_) (fun _ _ h=>h.elim) (fun _ _ h=>h.elim)
 ·simp only[af.all,az]
  refine⟨aa,0,aa,[(0,4096)],rfl,rfl,rfl,bg rfl rfl rfl (fun i hi=>by obtain rfl:i=0:=aa;exact bH rfl rfl) trivial⟩
 ·simp only[af.all,az,bz,bB]
  exact⟨fun h=>⟨aa,[(0,0)],rfl,rfl,rfl,bg rfl rfl rfl (fun i hi=>bH rfl rfl) trivial⟩,fun h=>⟨rfl,r,aa,[(0,0)],rfl,rfl,rfl,bg rfl rfl rfl (fun i hi=>bH rfl rfl) trivial⟩⟩
 ·simp only[af.all,az]
  refine⟨aa,aa,r,aa,[(0,8193)],rfl,?_,rfl,bg rfl rfl rfl (fun i hi=>bH ?_ ?_) trivial⟩
  ·rw[show((r+1+1:Nat):Int)-2=(r:Nat) by omega];rfl
  ·split
   ·rfl
   ·rw[show i-(r+1)+0=0 by omega];rfl
  ·unfold nK
   by_cases h:i<r+1
   ·rw[if_pos h,if_pos aa,if_neg aa]
   ·rw[if_neg h,if_neg aa,show i-(r+1)+0=0 by omega,show i=r+1 by omega,GO];rfl
 ·simp only[af.all,az,bz,bB,bw,Nat.add_zero]
  refine⟨fun h=>?_,fun h=>⟨rfl,j,aa,[(0,0)],rfl,rfl,rfl,bg rfl rfl rfl (fun i hi=>bH rfl rfl) trivial⟩⟩
  obtain⟨m,rfl⟩:∃m,j=m+1:=⟨j-1,aa⟩
  have e1:(((m+1:Nat):Int)-1).toNat=m:=aa
  have h1:=Hq (r:=r) (j:=m+1) (i:=m+1) aa hj
  have h2:=Hq (r:=r) (j:=m+1) (i:=m) aa aa
  rw[e1]
  refine⟨aa,aa,m,aa,by dsimp only;omega,[(0,0)],rfl,?_,rfl,bg rfl rfl rfl (fun i hi=>bH rfl ?_) trivial⟩
  ·rw[show((m+1:Nat):Int)-1=(m:Nat) by omega];rfl
  ·by_cases h:i=m+1
   ·subst h
    simp only[beq_self_eq_true,cond_true]
    unfold nK
    rw[if_pos aa,if_neg aa,if_pos aa,if_neg aa,if_neg aa,mJ,Int.natCast_add,Int.add_comm]
   ·have hb:(i==m+1)=false:=by simpa using h
    rw[hb,cond_false]
    unfold nK
    by_cases h2:i<=m
    ·rw[if_pos h2,if_pos aa]
    ·rw[if_neg h2,if_neg aa]
 ·subst hj
  simp only[af.all,az]
  refine⟨aa,r+1,aa,by dsimp only;omega,[(0,0)],rfl,rfl,rfl,bg rfl rfl rfl (fun i hi=>bH rfl ?_) trivial⟩
  show AV.int i64 (nK r 0 i)=AV.int i64 (bn (r+1) i)
  unfold nK
  by_cases h:i<=0
  ·rw[if_pos h,if_neg aa,show i=0 by omega,od,od]
  ·rw[if_neg h]
 ·subst hr
  refine au.nP hT mO hm (x:=p8) [1,0,1] (i:=4) (y:=part p8 [1,0,1,0,0]) (z:=part p8 [1,1]) ah ah ah ah hk (f1:=[]) (f2:=[40]) 60 wN 2 (fun i:Nat=>D7 r i) (fun i=>DL r (fun i=>bn r i) fun j=>if j<i then((bn r j:Int):Rat)else 0)
   (fun i=>i<=r+1) (fun i=>i=r+1) (fun i=>r+1-i) (fun _=>False) ⟨_,PO,?_⟩ (fun i hi=>⟨_,VZ,?_⟩) (fun i hi=>?_) (fun _ _ h=>h.elim)
  ·simp only[af.all,az,bw]
   exact⟨aa,0,aa,[(0,0),(1,8193)],rfl,rfl,rfl,bg rfl rfl rfl (fun i hi=>.inr ⟨rfl,dj (if_neg (Nat.not_lt_zero i)).symm (by decide)⟩) (bg rfl rfl rfl (fun i hi=>bH rfl rfl) trivial)⟩
  ·have h1:=xj (n:=r) (k:=i) hn
   simp only[af.all,az,bz,bB,bw,Nat.add_zero]
   refine⟨fun h=>⟨aa,aa,aa,i+1,aa,by dsimp only;omega,[(0,0),(1,1)],rfl,rfl,rfl,bg rfl rfl rfl (fun j hj=>.inr ⟨rfl,?_⟩) (bg rfl rfl rfl (fun i hi=>bH rfl rfl) trivial)⟩,fun h=>⟨rfl,i,aa,[(0,0),(1,1)],rfl,rfl,rfl,bg rfl rfl rfl (fun j hj=>bH rfl rfl) (bg rfl rfl rfl (fun i hi=>bH rfl rfl) trivial)⟩⟩
   by_cases h2:j=i
   ·subst h2
    simp only[beq_self_eq_true,cond_true]
    exact dF (if_pos (Nat.lt_succ_self j)).symm (by rw[if_pos (Nat.lt_succ_self j)];exact zI (y:=0) aa aa)
   ·have hb:(j==i)=false:=by simpa using h2
    rw[hb,cond_false,cond_false]
    refine dj ?_ aP
    show(if j<i then _ else _)=if j<i+1 then _ else _
    by_cases h3:j<i
    ·rw[if_pos h3,if_pos aa]
    ·rw[if_neg h3,if_neg aa]
  ·subst hi
   refine au.kG ((aE.fin hT mO hm 60 Rg ah (gk fun i hi=>dj ?_ aP)).mono fun _ _ h=>.inl h)
   rw[Nat.add_zero,if_pos hi]
def A4:Spec:=bR fun l=>match l with
 |[.int .i64 n]=>some (aJ (aV (fun i=>((bn n.toNat i:Int):Rat)) (n.toNat+1) 64) [0<=n,n<=40])
 |_=>none
theorem Iy:aY P A4 158:=by
 refine cD fun K args r hk hs _=>?_
 split at hs
 ·rename_i n
  simp only[ay]at hs
  subst hs
  intro hn
  have h1:0<=n:=hn.1
  have h2:n<=40:=hn.2
  have:=ZX (n:=n.toNat) aa K
  rw[Int.toNat_of_nonneg h1]at this
  exact this trivial
 ·simp at hs
open Go Go.Am.N AV Proofs.Tryz IntKind
theorem MY:aZ 51 f51:=bf func51
def JC:bp:=[(45,AY),(46,yd)]
theorem MA {d:Int}:bT T JC [] 60 f51 (aG f51) ⟨aQ 0 [.int .i64 d],[],0⟩=
  some (af.aj [(17:Int)≠(0:Int),(0:Int)<12,(12:Int)<2^62] (af.aj [(0:Int)<i64.wrap (i64.wrap ((1:Int)+i64.wrap (d.tdiv (17:Int))%(12:Int))+1),i64.wrap (i64.wrap ((1:Int)+i64.wrap (d.tdiv (17:Int))%(12:Int))+1)<2^62,-(2:Int)^63<=d%i64.wrap (i64.wrap ((1:Int)+i64.wrap (d.tdiv (17:Int))%(12:Int))+1),d%i64.wrap (i64.wrap ((1:Int)+i64.wrap (d.tdiv (17:Int))%(12:Int))+1)<2^63,-(2:Int)^63<=i64.wrap ((1:Int)+i64.wrap (d.tdiv (17:Int))%(12:Int)),i64.wrap ((1:Int)+i64.wrap (d.tdiv (17:Int))%(12:Int))<2^63,(0:Nat)<1] (af.aj [(0:Nat)<1] (af.leaf aq.ret [rat ((↑(d%i64.wrap (i64.wrap ((1:Int)+i64.wrap (d.tdiv (17:Int))%(12:Int))+1)):Rat)/(↑(i64.wrap ((1:Int)+i64.wrap (d.tdiv (17:Int))%(12:Int))):Rat)) 64])))):=ah
def gX (d:Int):Int:=1+i64.wrap (d.tdiv 17)%12
def j6 (d:Int):Rat:=((d%(gX d+1):Int):Rat)/((gX d:Int):Rat)
def Gn:Spec:=bR fun l=>match l with
 |[.int .i64 d]=>some (aJ (.rat (j6 d) 64) [])
 |_=>none
theorem Sg:aY P Gn 51:=by
 refine cD fun K args r hk hs _=>?_
 split at hs
 ·rename_i d
  simp only[ay]at hs
  subst hs
  refine cj hT (aI Bo (aI yV bY)) hm MY rfl aX rfl 60 MA (fun _=>?_) K []
  unfold j6 gX
  generalize i64.wrap (d.tdiv 17)=w at*
  have w1:=Int.emod_nonneg w (show(12:Int)≠0 by omega)
  have w2:=Int.emod_lt_of_pos w (show(0:Int)<12 by omega)
  generalize w%12=x at*
  have e1:i64.wrap (1+x)=1+x:=wrap_i64 aa aa
  have e2:i64.wrap (1+x+1)=1+x+1:=wrap_i64 aa aa
  rw[e1,e2]
  have v1:=Int.emod_nonneg d (show 1+x+1≠0 by omega)
  have v2:=Int.emod_lt_of_pos d (show 0<1+x+1 by omega)
  generalize d%(1+x+1)=y at*
  simp only[af.all,az]
  exact⟨⟨aa,aa,aa⟩,⟨aa,aa,aa,aa,aa,aa,aa⟩,aa,.refl _⟩
 ·simp at hs
structure Kd (α:Type) where
 read:AV->Option α
 make:α->AV
 ok:∀{v:AV} {a:α},read v=some a->bA v (make a)
def Dy:AV->Option (V3×Nat)
 |.agg [x,y,z]=>match mW x,mW y,mW z with
  |some (x,a),some (y,b),some (z,c)=>some (⟨x,y,z⟩,max a (max b c))
  |_,_,_=>none
 |_=>none
theorem Pz {v:AV} {a:V3×Nat} (h:Dy v=some a):bA v (vA a.1 a.2):=by
 unfold Dy at h
 split at h
 ·split at h
  ·rename_i h1 h2 h3
   simp only[ay]at h
   subst h
   exact oU ⟨(tQ h1).trans (dj rfl (by simp only;omega)),(tQ h2).trans (dj rfl (by simp only;omega)),(tQ h3).trans (dj rfl (by simp only;omega)),trivial⟩
  ·simp at h
 ·simp at h
def dV:Kd (V3×Nat):=⟨Dy,fun a=>vA a.1 a.2,Pz⟩
section specs
variable {α β γ δ:Type} {f:FuncId}
end specs
def b1 {α:Type} (e:Nat) (a:α×Nat):Bool:=Nat.blt a.2 (2^e)
def b2 {α β:Type} (e:Nat) (a:α×Nat) (b:β×Nat):Bool:=Nat.blt a.2 (2^e)&&Nat.blt b.2 (2^e)
def b3 {α β γ:Type} (e:Nat) (a:α×Nat) (b:β×Nat) (c:γ×Nat):Bool:=Nat.blt a.2 (2^e)&&(Nat.blt b.2 (2^e)&&Nat.blt c.2 (2^e))
end Go.Am.B
namespace Go.Am.B
open Go Go.Am.N AV Proofs.Tryz IntKind
theorem Zz:aZ 148 f148:=bf func148
theorem VY:aZ 93 f93:=bf func93
theorem Yb {q r:Rat} {n m:Nat}:bT T qA [9] 60 f148 (aG f148) ⟨aQ 0 [.rat q n,.rat r m],[],0⟩=
  some (af.aj [(0:Nat)<1] (af.fork ((↑(nl r.num.natAbs):Int)==0) (af.aj [(0:Nat)<1] (af.aj [(0:Nat)<1] (af.leaf aq.ret [agg [AV.bool false,mag 0,mag 0],int .i64 (3:Int)]))) (af.aj [(0:Nat)<1,(0:Nat)<1,(0:Nat)<1,(0:Nat)<1,nl q.num.natAbs<2^39,nl r.den<2^39,(0:Nat)<1,(0:Nat)<1,nl q.den<2^39,nl r.num.natAbs<2^39,nl (q.num.natAbs*r.den)<2^38,nl (q.den*r.num.natAbs)<2^38,q.den*r.num.natAbs≠0,(0:Nat)<1] (af.aj [(0:Nat)<1] (af.leaf aq.ret [rat (sQ (decide (q<0)!=decide (r<0)) (q.num.natAbs*r.den) (q.den*r.num.natAbs)) (dx (sQ (decide (q<0)!=decide (r<0)) (q.num.natAbs*r.den) (q.den*r.num.natAbs))),int .i64 (0:Int)]))))):=ah
theorem PR {q r:Rat} {n m:Nat} (hn:n<2^41) (hm':m<2^41) (K:Nat):aO P 148 K [.rat q n,.rat r m] [] (aJ (.tuple [.rat (q/r) (n+m),.int .i64 (if r=0 then 3 else 0)]) []):=by
 refine jU fun⟨hq,hr,_⟩=>?_
 have hq:Sz q n:=hq
 have hr:Sz r m:=hr
 have d1:=q.den_nz
 have d2:=r.den_nz
 have a1:nl q.num.natAbs<2^38:=fP hq.1 aa
 have a2:nl q.den<2^38:=fP hq.2 aa
 have b1:nl r.num.natAbs<2^38:=fP hr.1 aa
 have b2:nl r.den<2^38:=fP hr.2 aa
 have m1:nl (q.num.natAbs*r.den)<2^38:=fP (mI hq.1 hr.2) aa
 have m3:nl (q.den*r.num.natAbs)<2^38:=fP (mI hq.2 hr.1) aa
 refine cj hT ri hm Zz rfl aX rfl 60 Yb (fun _=>?_) K []
 have key:((nl r.num.natAbs:Int)==0)=decide (r=0):=by
  by_cases h:r=0
  ·subst h;rfl
  ·have h1:r.num.natAbs≠0:=fun e=>h (nq.1 e)
   have:=gr.2 h1
   simp only[h,decide_false,beq_eq_false_iff_ne];omega
 rw[key]
 simp only[af.all,az,bz,bB]
 refine⟨aa,fun h0=>?_,fun h0=>?_⟩
 ·refine⟨aa,aa,?_,bN (by rw[if_pos h0]),trivial⟩
  have e:q/r=0:=by rw[h0,Rat.div_def,Rat.inv_zero,Rat.mul_zero]
  obtain⟨k,hk⟩:∃k,n+m=k+1:=⟨n+m-1,by have:=hq.pos;omega⟩
  rw[e,hk]
  first|exact mb|exact mw aa
 ·have hr0:r.num.natAbs≠0:=fun h=>h0 (nq.1 h)
  have hv:=A7 q r h0
  (repeat' with_reducible refine And.intro ?_ ?_)
  all_goals first|omega|exact m1|exact m3|exact Nat.mul_ne_zero d1 hr0|skip
  exact⟨dF hv (hq.div hr),bN (by rw[if_neg h0]),trivial⟩
def Ku:bp:=[(148,g8 kR kR xp mc)]
theorem Tl:bI P Ku:=aI (iG fun _ _ K hn=>PR hn.1 hn.2 K) bY
theorem UF {q r:Rat} {n m:Nat}:bT T Ku [] 60 f93 (aG f93) ⟨aQ 0 [.rat q n,.rat r m],[],0⟩=
  some (af.aj [(0:Nat)<1,(0:Nat)<1,n<2^41,m<2^41,(0:Nat)<1] (af.aj [(0:Nat)<1,(0:Nat)<1] (af.aj [(0:Nat)<1] (af.leaf aq.ret [rat (q/r) (n+m)])))):=ah
theorem xK {q r:Rat} {n m:Nat} (hn:n<2^41) (hm':m<2^41) (K:Nat):aO P 93 K [.rat q n,.rat r m] [] (aJ (.rat (q/r) (n+m)) []):=by
 refine cj hT Tl hm VY rfl aX rfl 60 UF (fun _=>?_) K []
 simp only[af.all,az]
 (repeat' with_reducible refine And.intro ?_ ?_)
 all_goals first|omega|exact bA.refl _
def uz (a b:Rat×Nat):AV:=rA (a.1/b.1) (a.2+b.2)
structure KG (p j:Nat) (k:Nat->Rat) (t:Rat):Prop where
 p1:1<=p
 first:∀i,i<=p->k i=k 0
 top:k (p+j)=t
 sorted:∀i,i<p+j->k i<=k (i+1)
 mult:∀i,1<=i->i<=j->k i<k (i+p)
 half:∀i,i<=p+j->∃z:Int,k i=(z:Rat)/2/\-4<=z/\z<=2+6*(j:Int)
def ur (k:Nat->Rat) (m:Nat) (t:Rat):Nat->Rat:=fun i=>if i=m then t else k i
theorem yp {k:Nat->Rat} {m:Nat} {t:Rat}:ur k m t m=t:=if_pos rfl
theorem mU {k:Nat->Rat} {m i:Nat} {t:Rat} (h:i≠m):ur k m t i=k i:=if_neg h
theorem KG.start {p:Nat} (hp:1<=p) {z:Int} (h1:-2<=z) (h2:z<=1):KG p 0 (fun _=>(z:Rat)) (z:Rat) where
 p1:=hp
 first:=fun _ _=>rfl
 top:=rfl
 sorted:=fun _ _=>Rat.le_refl
 mult:=fun i h1 h2=>by omega
 half:=fun i _=>⟨2*z,by
  have:((2*z:Int):Rat)=2*(z:Rat):=by simp
  rw[this];grind,by omega,by omega⟩
theorem KG.le_top {p j:Nat} {k:Nat->Rat} {t:Rat} (h:KG p j k t) {i:Nat} (hi:i<=p+j):k i<=t:=by
 rw[<-h.top]
 exact AW (n:=p+j+1) (fun i hi=>h.sorted i (by omega)) hi (by omega)
theorem KG.next {p j:Nat} {k:Nat->Rat} {t t':Rat} (h:KG p j k t) (hc:(t<t'/\∃z:Int,t'=t+(z:Rat)/2/\z<=6)\/(t'=t/\1<=j/\t≠k (j+1))):KG p (j+1) (ur k (p+1+j) t') t':=by
 have hle:t<=t':=by
  rcases hc with⟨h1,_⟩|⟨h1,_⟩
  ·grind
  ·rw[h1];exact Rat.le_refl
 have hp:=h.p1
 refine⟨hp,fun i hi=>?_,?_,fun i hi=>?_,fun i h1 h2=>?_,fun i hi=>?_⟩
 ·rw[mU (by omega),mU (by omega)];exact h.first i hi
 ·rw[show p+(j+1)=p+1+j by omega,yp]
 ·by_cases he:i+1=p+1+j
  ·rw[he,yp,mU (by omega),show i=p+j by omega,h.top];exact hle
  ·rw[mU (by omega),mU he];exact h.sorted i (by omega)
 ·by_cases he:i=j+1
  ·subst he
   rw[show j+1+p=p+1+j by omega,yp,mU (by omega)]
   have:=h.le_top (i:=j+1) (by omega)
   rcases hc with⟨h3,_⟩|⟨h3,h4,h5⟩
   ·grind
   ·rw[h3];grind
  ·rw[mU (by omega),mU (by omega)];exact h.mult i h1 (by omega)
 ·by_cases he:i=p+1+j
  ·subst he
   rw[yp]
   obtain⟨z,e1,e2,e3⟩:=h.half (p+j) (by omega)
   rw[h.top]at e1
   rcases hc with⟨h3,y,e4,e5⟩|⟨h3,_⟩
   ·refine⟨z+y,?_,?_,by omega⟩
    ·rw[e4,e1]
     have:((z+y:Int):Rat)=(z:Rat)+(y:Rat):=by simp
     rw[this];grind
    ·have hy:0<y:=by
      rcases Int.lt_or_le 0 y with h6|h6
      ·exact h6
      ·exfalso
       have:((y:Int):Rat)<=0:=Rat.intCast_nonpos.2 h6
       grind
     omega
   ·exact⟨z,by rw[h3,e1],e2,by omega⟩
  ·rw[mU he]
   obtain⟨z,e1,e2,e3⟩:=h.half i (by omega)
   exact⟨z,e1,e2,by omega⟩
def DU (p j:Nat) (k:Nat->Rat) (t:Rat):Nat->Rat:=fun i=>if i<p+1+j then k i else t+1
theorem KG.done {p j:Nat} {k:Nat->Rat} {t:Rat} (h:KG p j k t):Kn (2*p+2+j) p (DU p j k t):=by
 have hp:=h.p1
 have lo:∀{i},i<p+1+j->DU p j k t i=k i:=fun hi=>if_pos hi
 have hi':∀{i},p+1+j<=i->DU p j k t i=t+1:=fun hi=>if_neg (by omega)
 refine⟨hp,by omega,fun i hi=>?_,fun i hi=>?_,fun i h1 h2=>?_,fun i h1 h2=>?_⟩
 ·by_cases h1:i+1<p+1+j
  ·rw[lo h1,lo (by omega)];exact h.sorted i (by omega)
  ·rw[hi' (i:=i+1) (by omega)]
   by_cases h2:i<p+1+j
   ·rw[lo h2]
    have:=h.le_top (i:=i) (by omega)
    grind
   ·rw[hi' (by omega)];exact Rat.le_refl
 ·rw[lo (i:=i) (by omega),lo (i:=0) (by omega)];exact h.first i hi
 ·rw[hi' (i:=i) (by omega),hi' (i:=2*p+2+j-1) (by omega)]
 ·by_cases h3:i+p<p+1+j
  ·rw[lo (by omega),lo h3];exact h.mult i h1 (by omega)
  ·rw[hi' (i:=i+p) (by omega),lo (i:=i) (by omega)]
   have:=h.le_top (i:=i) (by omega)
   grind
theorem aaK:aZ 15 f15:=bf func15
theorem VJ {x y:Int}:bT T JC [] 60 f15 (aG f15) ⟨aQ 0 [.int .i64 x,.int .i64 y],[],0⟩=
  some (af.aj [(0:Int)<41,(41:Int)<2^62,(0:Int)<8,(8:Int)<2^62,-(2:Int)^63<=i64.wrap (x%(41:Int)-20),i64.wrap (x%(41:Int)-20)<2^63,-(2:Int)^63<=i64.wrap (y%(8:Int)+1),i64.wrap (y%(8:Int)+1)<2^63,(0:Nat)<1] (af.aj [(0:Nat)<1] (af.leaf aq.ret [rat ((↑(i64.wrap (x%(41:Int)-20)):Rat)/(↑(i64.wrap (y%(8:Int)+1)):Rat)) 64]))):=ah
def kJ (x y:Int):Rat:=((x%41-20:Int):Rat)/((y%8+1:Int):Rat)
def JJ:Spec:=bR fun l=>match l with
 |[.int .i64 x,.int .i64 y]=>some (aJ (.rat (kJ x y) 64) [])
 |_=>none
theorem acM:aY P JJ 15:=by
 refine cD fun K args r hk hs _=>?_
 split at hs
 ·rename_i x y
  simp only[ay]at hs
  subst hs
  refine cj hT (aI Bo (aI yV bY)) hm aaK rfl aX rfl 60 VJ (fun _=>?_) K []
  unfold kJ
  have w1:=Int.emod_nonneg x (show(41:Int)≠0 by omega)
  have w2:=Int.emod_lt_of_pos x (show(0:Int)<41 by omega)
  have v1:=Int.emod_nonneg y (show(8:Int)≠0 by omega)
  have v2:=Int.emod_lt_of_pos y (show(0:Int)<8 by omega)
  generalize x%41=u at*
  generalize y%8=v at*
  have e1:i64.wrap (u-20)=u-20:=wrap_i64 aa aa
  have e2:i64.wrap (v+1)=v+1:=wrap_i64 aa aa
  rw[e1,e2]
  simp only[af.all,az]
  exact⟨⟨aa,aa,aa,aa,aa,aa,aa,aa⟩,aa,.refl _⟩
 ·simp at hs
def kL (s:Nat):Kind (Nat×(Nat->Rat)):=⟨fun v=>match qi v with
 |some (n,f)=>some ((n,fun i=>aT (f i)),[cV f n s])
 |none=>none,fun a=>aV a.2 a.1 s,fun {v a q} h hq=>by
  split at h
  ·rename_i h1
   simp only[ay,Prod.mk.injEq]at h
   obtain⟨rfl,rfl⟩:=h
   exact abN h1 hq
  ·simp at h⟩
def fq (s:Nat):Kind Rat:=⟨fun v=>match mW v with
 |some (q,n)=>some (q,[n<=s])
 |none=>none,fun a=>.rat a s,fun {v a q} h hq=>by
  split at h
  ·rename_i h1
   simp only[ay,Prod.mk.injEq]at h
   obtain⟨rfl,rfl⟩:=h
   exact(tQ h1).trans (mw hq)
  ·simp at h⟩
structure vR (α:Type) where
 read:List AV->Option (α×List Prop)
 make:α->List AV
 ok:∀{l:List AV} {a:α} {q:List Prop},read l=some (a,q)->az q->fV l (make a)
def kN:vR Unit:=⟨fun l=>match l with
 |[]=>some ((),[])
 |_=>none,fun _=>[],fun {l a q} h _=>by
  split at h
  ·trivial
  ·simp at h⟩
def kC {α β:Type} (k:Kind α) (kl:vR β):vR (α×β):=⟨fun l=>match l with
 |v::l=>match k.read v,kl.read l with
  |some (a,p),some (b,q)=>some ((a,b),p++q)
  |_,_=>none
 |[]=>none,fun a=>k.make a.1::kl.make a.2,fun {l a q} h hq=>by
  split at h
  ·split at h
   ·rename_i h1 h2
    simp only[ay,Prod.mk.injEq]at h
    obtain⟨rfl,rfl⟩:=h
    obtain⟨q1,q2⟩:=fD.1 hq
    exact⟨k.ok h1 q1,kl.ok h2 q2⟩
   ·simp at h
  ·simp at h⟩
def dU {α:Type} (k:vR α) (g:α->AV) (need:α->List Prop):Spec:=bR fun l=>match k.read l with
 |some (a,p)=>some (aJ (g a) (p++need a))
 |none=>none
theorem dD {α:Type} {f:FuncId} {k:vR α} {g:α->AV} {need:α->List Prop} (h:∀a K,az (need a)->aO P f K (k.make a) [] (aJ (g a) [])):aY P (dU k g need) f:=by
 refine cD fun K args r hk hs _=>?_
 split at hs
 ·rename_i h1
  simp only[ay]at hs
  subst hs
  intro hn
  obtain⟨n1,hn⟩:=fD.1 hn
  exact gz (h _ K hn) hk (k.ok h1 n1) [] trivial
 ·simp at hs
end Go.Am.B
namespace Go.Am
def eW (p:Nat->Rat):Nat->Nat->Rat
 |0,i=>p i
 |k+1,i=>eW p k (i+1)-eW p k i
def fy (n:Nat) (p:Nat->Rat) (k:Nat):Rat:=((bn (n-1) k:Int):Rat)*eW p k 0
def jm (n:Nat) (c:Nat->Rat) (i:Nat):Nat->Rat
 |0=>0
 |k+1=>jm n c i k+((bn i k:Int):Rat)/((bn (n-1) k:Int):Rat)*c k
def eR (n:Nat) (c:Nat->Rat) (i:Nat):Rat:=jm n c i (i+1)
def jq (m:Nat) (p:Nat->Rat) (k j:Nat):Rat:=eW p (min k (m-j)) j
def gL (m:Nat) (p:Nat->Rat) (k i j:Nat):Rat:=if j<i then eW p (k+1) j else jq m p k j
theorem Ah {m k j:Nat} {p:Nat->Rat} (h:k+j<=m):jq m p k j=eW p k j:=by unfold jq;rw[show min k (m-j)=k by omega]
theorem EY {m k j:Nat} {p:Nat->Rat}:gL m p k (m-k) j=jq m p (k+1) j:=by
 unfold gL jq
 split
 ·rw[show min (k+1) (m-j)=k+1 by omega]
 ·rw[show min (k+1) (m-j)=min k (m-j) by omega]
theorem E2 {m k i j:Nat} {p:Nat->Rat} (h:i+k<m):(if j=i then gL m p k i (i+1)-gL m p k i i else gL m p k i j)=gL m p k (i+1) j:=by
 unfold gL
 by_cases h1:j=i
 ·subst h1
  rw[if_pos rfl,if_neg (by omega),if_neg (by omega),if_pos (by omega),Ah (by omega),Ah (by omega)];rfl
 ·rw[if_neg h1]
  by_cases h2:j<i
  ·rw[if_pos h2,if_pos (by omega)]
  ·rw[if_neg h2,if_neg (by omega)]
def bu (k:Nat->Rat):Nat->Nat
 |0=>0
 |n+1=>if k n=0 then bu k n else n+1
theorem fk {k:Nat->Rat}:∀{n:Nat},bu k n<=n
 |0=>Nat.le_refl _
 |n+1=>by unfold bu;split;exact Nat.le_succ_of_le fk;exact Nat.le_refl _
theorem Ak {k:Nat->Rat}:∀{n:Nat},0<bu k n->k (bu k n-1)≠0
 |0,h=>by simp[bu]at h
 |n+1,h=>by
  unfold bu at h ⊢
  split
  ·rename_i h1;rw[if_pos h1]at h;exact Ak h
  ·rename_i h1;simpa using h1
theorem CM {k:Nat->Rat}:∀{n i:Nat},bu k n<=i->i<n->k i=0
 |0,_,_,h=>absurd h (Nat.not_lt_zero _)
 |n+1,i,h,hi=>by
  unfold bu at h
  split at h
  ·rename_i h1
   rcases Nat.lt_or_ge i n with h2|h2
   ·exact CM h h2
   ·rw[show i=n by omega];exact h1
  ·omega
theorem nC {k:Nat->Rat} {n:Nat} (h:n=0\/k (n-1)≠0):bu k n=n:=by
 cases n with
 |zero=>rfl
 |succ n=>unfold bu;rw[if_neg (by simpa using h)]
theorem Aa {k l:Nat->Rat}:∀{n:Nat},(∀i,i<n->k i=l i)->bu k n=bu l n
 |0,_=>rfl
 |n+1,h=>by unfold bu;rw[h n (by omega),Aa fun i hi=>h i (by omega)]
theorem Br {k:Nat->Rat} {n:Nat}:∀{m:Nat},(∀i,n<=i->i<n+m->k i=0)->bu k (n+m)=bu k n
 |0,_=>rfl
 |m+1,h=>by
  show bu k (n+m+1)=_
  unfold bu
  rw[if_pos (h (n+m) (by omega) (by omega)),Br fun i h1 h2=>h i h1 (by omega)]
  cases n<;>rfl
end Go.Am
namespace Go.Am.B
open Go Go.Am.N AV af aq IntKind Proofs.Tryz
def ag:Nat:=68719476736
def cB (n:Nat) (k:Nat->Rat):Prop:=∀i,i<n->Sz (k i) ag
abbrev uS:Code:=aG f157
abbrev uB:List Nat:=[3,9,10,11]
abbrev Bk (n:Nat) (k:Nat->Rat) (s i:Nat):List AV:=[.own 0 3 0 n,aV k n s,.int .i64 n,.int .i64 i]
def Fc:Spec:=qh fun K l=>match l with
 |[v]=>match(kL ag).read v with
  |some ((n,k),q)=>some ⟨.own K 3 0 n,[(K,bS n k ag)],q++[n<2^40,cB n k]⟩
  |none=>none
 |_=>none
def pN:bp:=zG::(157,Fc)::(158,A4)::gn
abbrev uK:Code:=aG f115
abbrev uL:Code:=part uK [1,1,1,0,1,0,0]
abbrev wq:Code:=part uL [1,1,0,0]
abbrev pR:List Nat:=[0,3,4,17,18,19]
abbrev yX (m:Nat) (p:Nat->Rat) (k:Nat):List AV:=[aV p (m+1) ag,.own 0 3 0 (m+1-k),.own 1 3 0 k,aV (fun i=>((bn m i:Int):Rat)) (m+1) 64,.int .i64 (m+1:Nat),.int .i64 k]
abbrev jE (m:Nat) (d x:Nat->Rat) (k:Nat):aD:=[(1,bS k x ag),(0,bS (m+1) d ag)]
abbrev vv:List Nat:=[0,3,4,17,18,19,38,39]
abbrev CP (m:Nat) (p:Nat->Rat) (k i:Nat):List AV:=[aV p (m+1) ag,.own 0 3 0 (m+1-k),.own 1 3 0 (k+1),aV (fun i=>((bn m i:Int):Rat)) (m+1) 64,.int .i64 (m+1:Nat),.int .i64 k,.int .i64 (m-k:Nat),.int .i64 i]
theorem Fj:aZ 115 f115:=bf func115
theorem Q4 {m:Nat} {p:Nat->Rat}:aF T pN [] 60 pR (before uK [1,1,1,0,1]) ⟨aQ 0 [aV p (m+1) ag],[],0⟩=
  let c3:Nat:=m+1;let c4:Int:=(↑c3:Int);let c1:Int:=c4-1;let c2:Int:=if c1<0 then(0:Int)else c1;some (aj [cV (fun i=>rat (p i) ag) c3 ag,c3<2^40,cB c3 fun i=>aT (rat (p i) ag)] (aj [(0:Int)<=0/\(0:Int)<=c4/\c4<=2^47/\c4*(↑(56:Nat):Int)<=2^47] (aj [-(2:Int)^63<=c1/\c1<2^63,(0:Int)<=c2,c2<=40] (leaf normal ([ak 3 c3 fun i=>rat (p i) ag,own 8192 3 0 c3,own 24576 3 0 0,ak 3 (c2.toNat+1) fun i=>rat (↑(↑(bn c2.toNat i):Int):Rat) 64,int i64 (↑(c2.toNat+1):Int),int i64 0],[(24576,ax.mk true true 3 0 fun x=>rat 0 1),(8192,ax.mk true true 3 c3 fun i=>rat (aT (rat (p i) ag)) ag)]))))):=ah
theorem abf {m k:Nat} {p d x:Nat->Rat}:aF T pN [20] 60 pR (before uL [1,1,0]) ⟨aC pR (yX m p k),jE m d x k,2⟩=
  let c2:Nat:=m+1;let c1:List AV×aD:=([ak 3 c2 fun i=>rat (p i) ag,own 0 3 0 (c2-k),own 1 3 0 k,ak 3 c2 fun i=>rat (↑(↑(bn m i):Int):Rat) 64,int i64 (↑c2:Int),int i64 (↑k:Int)],[(1,ax.mk true true 3 k fun i=>rat (x i) ag),(0,ax.mk true true 3 c2 fun i=>rat (d i) ag)]);some (fork (decide ((↑k:Int)<(↑c2:Int))) (leaf normal c1) (leaf (exit 0) c1)):=ah
theorem OQ {m k:Nat} {p d x:Nat->Rat}:aF T pN [200027] 60 vv (before wq [1,1,1,0,1]) ⟨aC pR (yX m p k),jE m d x k,2⟩=
  let c4:Int:=(↑k:Int);let c3:Nat:=Int.toNat (0:Int);let c1:Nat:=m+1;let c2:Int:=(↑(c1-k):Int)-1;some (aj [(0:Int)<=c4/\c4.toNat<c1,(0:Nat)<1] (aj [(c4==(↑c1:Int))=false] (aj [(0:Nat)<1,(0:Int)<=0/\c3<c1-k,c3+0<c1,(64:Nat)<2^42,ag<2^42,(1:Nat)*3<=2^24,(k+1)*((56:Nat)+1)*2<=2^47] (aj [-(2:Int)^63<=c2/\c2<2^63] (leaf normal ([ak 3 c1 fun i=>rat (p i) ag,own 0 3 0 (c1-k),own 69634 3 0 (k+1),ak 3 c1 fun i=>rat (↑(↑(bn m i):Int):Rat) 64,int i64 (↑c1:Int),int i64 c4,int i64 c2,int i64 0],[(69634,ax.mk true true 3 (k+1) fun i=>if i<k then rat (x i) ag else nth [rat ((↑(↑(bn m c4.toNat):Int):Rat)*d (c3+0)) ((64:Nat)+ag)] (rat 0 1) (i-k+0)),(0,ax.mk true true 3 c1 fun i=>rat (d i) ag)])))))):=ah
theorem Xf {m k i:Nat} {p d x:Nat->Rat}:aF T pN [40] 60 vv [part wq [1,1,1,0,1,0,0]] ⟨aC vv (CP m p k i),jE m d x (k+1),2⟩=
  let c13:Prop:=ag<2^42;let c11:Int:=(↑(m-k):Int);let c9:AV:=own 1 3 0 (k+1);let c7:Int:=(↑i:Int);let c6:Int:=(2:Int)^63;let c4:Nat×ax:=(1,ax.mk true true 3 (k+1) fun i=>rat (x i) ag);let c2:Nat:=m+1;let c12:Prop:=(0:Int)<=c7/\c7.toNat<c2-k;let c10:AV:=own 0 3 0 (c2-k);let c8:AV:=ak 3 c2 fun i=>rat (p i) ag;let c5:AV:=ak 3 c2 fun i=>rat (↑(↑(bn m i):Int):Rat) 64;let c3:Nat:=c7.toNat+0;let c1:Int:=c7+1;some (fork (decide (c7<c11)) (aj [-c6<=c1/\c1<c6,(0:Int)<=c1/\c1.toNat<c2-k,c1.toNat+0<c2,c12,c3<c2,c13,c13,c12,c3<c2] (aj [-c6<=c1/\c1<c6] (leaf normal ([c8,c10,c9,c5,int i64 (↑c2:Int),int i64 (↑k:Int),int i64 c11,int i64 c1],[c4,(0,ax.mk true true 3 c2 fun j=>rat (bif j==c3 then d (c1.toNat+0)-d c3 else d j) (bif j==c3 then ag+ag+1 else ag))])))) (leaf (exit 2) ([c8,c10,c9,c5,int i64 (↑c2:Int),int i64 (↑k:Int),int i64 c11,int i64 c7],[c4,(0,ax.mk true true 3 c2 fun i=>rat (d i) ag)]))):=ah
theorem Nm {m k i:Nat} {p d x:Nat->Rat}:aF T pN [] 60 pR (behind wq [1,1,1,0,1]++[part uL [1,1,1]]) ⟨aC vv (CP m p k i),jE m d x (k+1),2⟩=
  let c4:Int:=(↑k:Int)+1;let c3:Nat:=m+1;let c2:Int:=(2:Int)^63;let c1:Int:=(↑(c3-k):Int)-1;some (aj [-c2<=c1/\c1<c2,(0:Int)<=0/\(0:Int)<=c1/\c1<=c1/\c1<=(↑(c3-k):Int)] (aj [-c2<=c4/\c4<c2] (leaf normal ([ak 3 c3 fun i=>rat (p i) ag,own 0 3 0 (c1.toNat-Int.toNat (0:Int)),own 1 3 0 (k+1),ak 3 c3 fun i=>rat (↑(↑(bn m i):Int):Rat) 64,int i64 (↑c3:Int),int i64 c4],[(1,ax.mk true true 3 (k+1) fun i=>rat (x i) ag),(0,ax.mk true true 3 c3 fun i=>rat (d i) ag)])))):=ah
theorem N3 {m k:Nat} {p d x:Nat->Rat}:cG T pN [] 60 f115 [part uK [1,1,1,1]] ⟨aC pR (yX m p k),jE m d x k,2⟩=
  some (leaf ret [ak 3 k fun i=>rat (x (i+0)) ag]):=ah
theorem J4:aZ 157 f157:=bf func157
theorem abC {n s:Nat} {k:Nat->Rat}:aF T GZ [] 60 uB (before uS [1,1,0,1]) ⟨aQ 0 [aV k n s],[],0⟩=
  let c1:Int:=(↑n:Int);some (aj [(0:Int)<=c1/\c1<=c1/\c1<=2^47/\c1*(↑(56:Nat):Int)<=2^47] (leaf normal ([own 12288 3 0 c1.toNat,ak 3 n fun i=>rat (k i) s,int i64 c1,int i64 0],[(12288,ax.mk true true 3 c1.toNat fun x=>rat 0 1)]))):=ah
theorem SV {n s i:Nat} {k x:Nat->Rat}:aF T GZ [12] 60 uB [part uS [1,1,0,1,0,0]] ⟨aC uB (Bk n k s i),[(0,bS n x ag)],1⟩=
  let c7:Int:=(↑n:Int);let c4:AV:=own 0 3 0 n;let c3:AV:=ak 3 n fun i=>rat (k i) s;let c1:Int:=(↑i:Int);let c6:Int:=c1+1;let c5:Prop:=(0:Int)<=c1/\c1.toNat<n;let c2:Nat:=c1.toNat+0;some (fork (decide (c1<c7)) (aj [c5,(0:Nat)<1] (aj [(0:Nat)<1,s<2^42,(1:Nat)<2^42,c5,c2<n] (aj [-(2:Int)^63<=c6/\c6<2^63] (leaf normal ([c4,c3,int i64 c7,int i64 c6],[(0,ax.mk true true 3 n fun j=>rat (bif j==c2 then k c1.toNat+0 else x j) (bif j==c2 then s+1+1 else ag))]))))) (leaf (exit 0) ([c4,c3,int i64 c7,int i64 c1],[(0,ax.mk true true 3 n fun i=>rat (x i) ag)]))):=ah
theorem Mj {n s i:Nat} {k x:Nat->Rat}:aF T GZ [] 60 [2] [part uS [1,1,1]] ⟨aC uB (Bk n k s i),[(0,bS n x ag)],1⟩=
  some (leaf ret ([own 0 3 0 n],[(0,ax.mk true true 3 n fun i=>rat (x i) ag)])):=ah
theorem dw:ag=2^36:=rfl
theorem kM {rl:List (Nat×Nat)} {i j zt z w:Nat} {t:Rat} {x y:Nat->Rat} (h1:bA (.rat t zt) (.rat (y i) w)) (h2:j≠i->bA (.rat (x j) z) (.rat (y j) w)):nS rl (.rat (bif j==i then t else x j) (bif j==i then zt else z)) (.rat (y j) w):=by
 refine .inr ⟨rfl,?_⟩
 by_cases h:j=i
 ·subst h;rw[beq_self_eq_true];exact h1
 ·rw[show(j==i)=false by simpa using h];exact h2 h
theorem DH {α:Type} {i j:Nat} {a b:α} (h:j≠i):(if j<i+1 then a else b)=if j<i then a else b:=by
 by_cases h1:j<i
 ·rw[if_pos h1,if_pos aa]
 ·rw[if_neg h1,if_neg aa]
theorem abK {args:List AV} {n:Nat} {k:Nat->Rat} {l:List Prop} (ha:az l->fU (aW []) args [aV k n ag]) (hn:az l->n<2^40/\cB n k) (K:Nat):aO P 157 K args [] ⟨l9 [.own K 3 0 n],[(K,bS n k ag)],l⟩:=by
 refine AO hT J4 ha aX fun need c hk=>?_
 obtain⟨hn,hz⟩:=hn need
 have hW:=dw
 refine au.nP hT mO hm [1,1,0,1] (i:=0) (y:=part uS [1,1,0,1,0,0]) (z:=part uS [1,1,1]) ah ah ah J4.dst hk (f1:=[]) (f2:=[12]) 60 uB 1 (fun i:Nat=>Bk n k ag i) (fun i=>[(0,bS n (fun j=>if j<i then k j else 0) ag)])
  (fun i=>i<=n) (fun i=>i=n) (fun i=>n-i) (fun _=>False) ⟨_,abC,?_⟩ (fun i hi=>⟨_,SV,?_⟩) (fun i hi=>?_) (fun _ _ h=>h.elim)
 ·simp only[af.all,az,bw]
  exact⟨aa,0,Nat.zero_le _,[(0,12288)],rfl,rfl,rfl,bg rfl rfl rfl (fun i hi=>.inr ⟨rfl,dj (if_neg (Nat.not_lt_zero i)).symm aa⟩) trivial⟩
 ·simp only[af.all,az,bz,bB,bw,Nat.add_zero]
  refine⟨fun h2=>⟨aa,aa,aa,i+1,aa,by dsimp only;omega,[(0,0)],rfl,rfl,rfl,bg rfl rfl rfl (fun j hj=>?_) trivial⟩,fun h2=>⟨rfl,i,aa,[(0,0)],rfl,rfl,rfl,bg rfl rfl rfl (fun j hj=>bH rfl rfl) trivial⟩⟩
  exact kM (x:=fun j=>if j<i then k j else 0) (y:=fun j=>if j<i+1 then k j else 0) (dF ((Rat.add_zero _).trans (if_pos (Nat.lt_succ_self i)).symm) (by show Sz (if i<i+1 then _ else _) _;rw[if_pos (Nat.lt_succ_self i)];exact hz i aa)) fun hj=>dj (DH hj).symm aP
 ·subst hi
  refine au.bD hT mO hm 60 [2] Mj ah fun s' hs'=>⟨.inr rfl,[2],_,[.own 0 3 0 i],_,0,_,hs',ah,⟨⟨rfl,dB (by simp[aW,look]) rfl rfl⟩,trivial⟩,rfl,fZ rfl fun j hj=>?_⟩
  rw[if_pos hj];exact gh rfl
theorem Ns:aY P Fc 157:=by
 refine tU fun K args r hk hs=>?_
 split at hs
 ·rename_i v
  split at hs
  ·rename_i n k q hv
   simp only[ay]at hs
   subst hs
   exact abK (fun hn=>Be hk (by cases v<;>first|rfl|simp[kL,qi]at hv) ⟨(kL ag).ok hv (fD.1 hn).1,trivial⟩) (fun hn=>have:=(fD (a:=q) (b:=[n<2^40,cB n k]).1 hn).2;⟨this.1,this.2⟩) K
  ·simp at hs
 ·simp at hs
theorem Gp:bI P pN:=fu (aI Ns (aI Iy gD))
theorem cB.up {n:Nat} {k:Nat->Rat} {i z:Nat} (h:cB n k) (hi:i<n):bA (.rat (k i) z) (.rat (k i) ag):=dF rfl (h i hi)
def qj (n:Nat) (p:Nat->Rat):Prop:=(∀k i,k+i<n->Sz (eW p k i) ag)/\cB n (fy n p)
theorem Xq {m:Nat} {p:Nat->Rat} (hm1:m<=40) (hz:qj (m+1) p) (K:Nat):aO P 115 K [aV p (m+1) ag] [] (aJ (aV (fy (m+1) p) (m+1) ag) []):=by
 refine gB (r:=aJ (aV (fy (m+1) p) (m+1) ag) []) hT Fj rfl aX rfl (fun _ cx h0=>?_) K []
 have hk:=j9 h0
 have hW:=dw
 have hd:∀k i,k+i<=m->Sz (eW p k i) ag:=fun k i h=>hz.1 k i aa
 refine au.ov hT Gp hm (x:=uK) [1,1,1,0,1] (i:=0) (y:=uL) (z:=part uK [1,1,1,1]) ah ah ah Fj.dst [1,1,0] (j:=1) (x1:=wq) (zb:=part uL [1,1,1]) ah ah ah [1,1,1,0,1] (i2:=2) (y2:=part wq [1,1,1,0,1,0,0]) ah ah rfl hk
  (f1:=[]) (f2:=[20]) (f3:=[200027]) (f4:=[40]) (f5:=[]) 60 pR vv 2 2 (fun k:Nat=>yX m p k) (fun k=>jE m (jq m p k) (fy (m+1) p) k) (fun k=>k<=m+1) (fun k=>k=m+1) (fun k=>m+1-k) (fun k=>k<m+1) (fun _=>False) (fun _=>False)
  (fun k (i:Nat)=>CP m p k i) (fun k i=>jE m (gL m p k i) (fy (m+1) p) (k+1)) (fun k i=>i<=m-k) (fun k i=>i=m-k) (fun k i=>m-k-i)
  ⟨_,Q4,?_⟩ (fun k hk=>⟨_,abf,?_⟩) (fun k hk hG=>⟨_,OQ,?_⟩) (fun k hk hG i hi=>⟨_,Xf,?_⟩) (fun k hk hG i hi=>⟨_,Nm,?_⟩) (fun k hk=>?_) (fun _ _ h=>h.elim) (fun _ _ h=>h.elim)
 ·simp only[af.all,az]
  have e1:(if((m+1:Nat):Int)-1<0 then 0 else((m+1:Nat):Int)-1)=(m:Nat):=by rw[if_neg aa];omega
  rw[e1]
  refine⟨⟨dg aP,aa,fun i hi=>hd 0 i aa⟩,aa,aa,0,aa,[(0,8192),(1,24576)],rfl,rfl,rfl,bg rfl rfl rfl (fun i hi=>absurd hi (Nat.not_lt_zero i)) (bg rfl rfl rfl (fun i hi=>bH rfl ?_) trivial)⟩
  show AV.rat (p i) ag=AV.rat (jq m p 0 i) ag
  unfold jq;rw[Nat.zero_min];rfl
 ·simp only[af.all,az,bz,bB]
  exact⟨fun h=>⟨aa,[(0,0),(1,1)],rfl,rfl,rfl,bg rfl rfl rfl (fun i hi=>bH rfl rfl) (bg rfl rfl rfl (fun i hi=>bH rfl rfl) trivial)⟩,fun h=>⟨rfl,k,aa,[(0,0),(1,1)],rfl,rfl,rfl,bg rfl rfl rfl (fun i hi=>bH rfl rfl) (bg rfl rfl rfl (fun i hi=>bH rfl rfl) trivial)⟩⟩
 ·simp only[af.all,az,bw,beq_eq_false_iff_ne]
  have e0:(0:Int).toNat=0:=rfl
  refine⟨aa,aa,aa,aa,0,aa,[(0,0),(1,69634)],rfl,?_,rfl,bg rfl rfl rfl (fun i hi=>?_) (bg rfl rfl rfl (fun i hi=>bH rfl ?_) trivial)⟩
  ·rw[show((m+1-k:Nat):Int)-1=(m-k:Nat) by omega];rfl
  ·refine .inr ⟨?_,?_⟩
   ·split
    ·rfl
    ·rw[show i-k+0=0 by omega];rfl
   ·split
    ·exact .refl _
    ·rw[show i-k+0=0 by omega,show i=k by omega]
     exact dF (by rw[Ah aa];rfl) (hz.2 k hG)
  ·show AV.rat (jq m p k i) ag=AV.rat (gL m p k 0 i) ag
   unfold gL;rw[if_neg (Nat.not_lt_zero i)]
 ·simp only[af.all,az,bz,bB,bw,Nat.add_zero]
  have e1:((i:Int)+1).toNat=i+1:=aa
  rw[e1]
  refine⟨fun h=>⟨aa,aa,i+1,aa,by dsimp only;omega,[(0,0),(1,1)],rfl,rfl,rfl,bg rfl rfl rfl (fun j hj=>bH rfl rfl) (bg rfl rfl rfl (fun j hj=>?_) trivial)⟩,fun h=>⟨rfl,i,aa,[(0,0),(1,1)],rfl,rfl,rfl,bg rfl rfl rfl (fun j hj=>bH rfl rfl) (bg rfl rfl rfl (fun j hj=>bH rfl rfl) trivial)⟩⟩
  have h3:=fun j=>E2 (m:=m) (k:=k) (i:=i) (j:=j) (p:=p) aa
  exact kM (x:=gL m p k i) (y:=gL m p k (i+1)) (dF ((if_pos rfl).symm.trans (h3 i)) (by unfold gL;rw[if_pos (Nat.lt_succ_self i)];exact hd _ _ aa)) fun hj=>dj ((if_neg hj).symm.trans (h3 j)) aP
 ·subst hi
  simp only[af.all,az]
  refine⟨aa,aa,k+1,aa,by dsimp only;omega,[(0,0),(1,1)],rfl,?_,rfl,bg rfl rfl rfl (fun j hj=>bH rfl rfl) (bg rfl rfl rfl (fun j hj=>bH rfl ?_) trivial)⟩
  ·rw[show(((m+1-k:Nat):Int)-1).toNat-(0:Int).toNat=m+1-(k+1) by omega];rfl
  ·show AV.rat (gL m p k (m-k) j) ag=AV.rat (jq m p (k+1) j) ag
   rw[EY]
 ·subst hk
  exact au.kG ((aE.fin hT Gp hm 60 N3 ah (gk fun _ _=>.refl _)).mono fun _ _ h=>.inl h)
def yc:Spec:=dU (kC (kL ag) kN) (fun a=>aV (fy a.1.1 a.1.2) a.1.1 ag) fun a=>[1<=a.1.1,a.1.1<=41,qj a.1.1 a.1.2]
theorem Ua:aY P yc 115:=dD fun⟨⟨n,p⟩,_⟩ K hn=>by
 obtain⟨h1,h2,h3⟩:=hn
 simp only at h1 h2 h3
 obtain⟨m,rfl⟩:∃m,n=m+1:=⟨n-1,aa⟩
 exact Xq aa h3 K
end Go.Am.B
namespace Go.Am
def fI (e:Nat) (d:Nat->Rat) (k:Nat) (r:Nat->Rat) (i:Nat):Rat:=if k<=i/\i<k+e+1 then r i-r (k+e)/d e*d (i-k)else r i
def bP (e:Nat) (d a:Nat->Rat) (R:Nat):Nat->Nat->Rat
 |0=>a
 |j+1=>fI e d (R-1-j) (bP e d a R j)
def cS (e:Nat) (d a:Nat->Rat) (R k:Nat):Rat:=bP e d a R (R-1-k) (k+e)/d e
theorem G8 {e k:Nat} {d r:Nat->Rat} (hd:d e≠0):fI e d k r (k+e)=0:=by
 unfold fI
 rw[if_pos (by omega),show k+e-k=e by omega,Rat.div_mul_cancel hd,Rat.sub_self]
theorem aac {e k:Nat} {d r:Nat->Rat} (h:r (k+e)=0):fI e d k r=r:=by
 funext i
 unfold fI
 split
 ·rw[h,Rat.div_def,Rat.zero_mul,Rat.zero_mul];grind
 ·rfl
section
variable {n e R:Nat} {d a:Nat->Rat}
def eH (n R L:Nat):Nat:=min (n-L) R
theorem BW (hR:R=n-e) {L:Nat} (hL:L<=n) (hz:∀i,L<=i->i<n->bP e d a R (eH n R L) i=0):∀m,m<=L->(∀i,L-m<=i->i<n->bP e d a R (eH n R L) i=0)->bP e d a R (eH n R (L-m))=bP e d a R (eH n R L)
 |0,_,_=>rfl
 |m+1,hm,h=>by
  have ih:=BW hR hL hz m (by omega) (fun i h1 h2=>h i (by omega) h2)
  rw[<-ih]
  by_cases h1:n-(L-m)<R
  ·rw[show eH n R (L-(m+1))=n-(L-m)+1 by unfold eH;omega,show eH n R (L-m)=n-(L-m) by unfold eH;omega]
   show fI e d (R-1-(n-(L-m))) (bP e d a R (n-(L-m)))=_
   refine aac ?_
   rw[show n-(L-m)=eH n R (L-m) by unfold eH;omega,ih]
   exact h _ (by unfold eH;omega) (by unfold eH;omega)
  ·rw[show eH n R (L-(m+1))=eH n R (L-m) by unfold eH;omega]
structure jx (n e R:Nat) (d a:Nat->Rat) (L:Nat) (x q:Nat->Rat):Prop where
 le:L<=n
 uo:∀i,i<L->x i=bP e d a R (eH n R L) i
 zero:∀i,L<=i->i<n->bP e d a R (eH n R L) i=0
 top:L=0\/bP e d a R (eH n R L) (L-1)≠0
 quo:∀k,k<R->q k=if k+e<L then 0 else cS e d a R k
theorem jx.start (hR:R=n-e) (ha:n=0\/a (n-1)≠0):jx n e R d a n a fun _=>0 where
 le:=Nat.le_refl _
 uo i hi:=by rw[show eH n R n=0 by unfold eH;omega];rfl
 zero i h1 h2:=by omega
 top:=by rw[show eH n R n=0 by unfold eH;omega];exact ha
 quo k hk:=by rw[if_pos (by omega)]
def ej (e:Nat) (d x:Nat->Rat) (k:Nat) (f:Rat) (i j:Nat):Rat:=if k<=j/\j<k+i then x j-f*d (j-k)else x j
variable {L:Nat} {x q:Nat->Rat}
theorem jx.quot (hR:R=n-e) (h:jx n e R d a L x q) (hL:e<L):x (L-1)/d e=cS e d a R (L-1-e):=by
 have:=h.le
 unfold cS
 rw[h.uo _ (by omega),show eH n R L=R-1-(L-1-e) by unfold eH;omega,show L-1-e+e=L-1 by omega]
theorem jx.Mc (hR:R=n-e) (h:jx n e R d a L x q) (hL:e<L) {i j:Nat} (hi:i<=e) (hj:j<L-1) (hij:j<L-1-e+i):ej e d x (L-1-e) (x (L-1)/d e) i j=bP e d a R (n-L+1) j:=by
 have hl:=h.le
 have e1:eH n R L=n-L:=by unfold eH;omega
 show _=fI e d (R-1-(n-L)) (bP e d a R (n-L)) j
 rw[show R-1-(n-L)=L-1-e by omega]
 unfold ej fI
 rw[show L-1-e+e=L-1 by omega,<-e1,<-h.uo j (by omega),<-h.uo (L-1) (by omega)]
 by_cases hk:L-1-e<=j
 ·rw[if_pos ⟨hk,hij⟩,if_pos (by omega)]
 ·rw[if_neg (by omega),if_neg (by omega)]
theorem jx.next (hR:R=n-e) (hd:d e≠0) (h:jx n e R d a L x q) (hL:e<L):
  jx n e R d a (bu (ej e d x (L-1-e) (x (L-1)/d e) e) (L-1)) (ej e d x (L-1-e) (x (L-1)/d e) e) fun j=>if j=L-1-e then x (L-1)/d e else q j:=by
 have hl:=h.le
 have hu:∀j,j<L-1->ej e d x (L-1-e) (x (L-1)/d e) e j=bP e d a R (n-L+1) j:=fun j hj=>h.Mc hR hL (Nat.le_refl _) hj (by omega)
 have e1:eH n R L=n-L:=by unfold eH;omega
 have e2:eH n R (L-1)=n-L+1:=by unfold eH;omega
 obtain⟨M,hM⟩:∃M,M=bu (ej e d x (L-1-e) (x (L-1)/d e) e) (L-1):=⟨_,rfl⟩
 have hM2:M=bu (bP e d a R (n-L+1)) (L-1):=by rw[hM];exact Aa hu
 have hMl:M<=L-1:=by rw[hM2];exact fk
 have hz1:∀i,L-1<=i->i<n->bP e d a R (n-L+1) i=0:=fun i h1 h2=>by
  show fI e d (R-1-(n-L)) (bP e d a R (n-L)) i=0
  rw[show R-1-(n-L)=L-1-e by omega]
  by_cases h3:i=L-1
  ·have:=G8 (k:=L-1-e) (r:=bP e d a R (n-L)) hd
   rwa [show L-1-e+e=i by omega]at this
  ·unfold fI
   rw[if_neg (by omega),<-e1]
   exact h.zero i (by omega) h2
 have hz:∀i,M<=i->i<n->bP e d a R (n-L+1) i=0:=fun i h1 h2=>by
  rcases Nat.lt_or_ge i (L-1)with h3|h3
  ·exact CM (by rw[<-hM2];exact h1) h3
  ·exact hz1 i h3 h2
 have hs:bP e d a R (eH n R M)=bP e d a R (n-L+1):=by
  have:=BW (d:=d) (a:=a) hR (L:=L-1) (by omega) (by rw[e2];exact hz1) (L-1-M) (by omega) (by rw[e2,show L-1-(L-1-M)=M by omega];exact hz)
  rwa [show L-1-(L-1-M)=M by omega,e2]at this
 rw[<-hM]
 refine⟨by omega,fun i hi=>by rw[hs];exact hu i (by omega),fun i h1 h2=>by rw[hs];exact hz i h1 h2,?_,fun k hk=>?_⟩
 ·rw[hs]
  rcases Nat.eq_zero_or_pos M with h0|h0
  ·exact .inl h0
  ·right
   rw[hM2]at h0 ⊢
   exact Ak h0
 ·show(if k=L-1-e then x (L-1)/d e else q k)=_
  by_cases h1:k=L-1-e
  ·rw[if_pos h1,if_neg (by omega),h.quot hR hL,h1]
  ·rw[if_neg h1,h.quo k hk]
   by_cases h2:k+e<M
   ·rw[if_pos h2,if_pos (by omega)]
   ·rw[if_neg h2]
    by_cases h3:k+e<L
    ·rw[if_pos h3]
     -- a round that did nothing
     have hk2:k+e<L-1:=by omega
     unfold cS
     have e3:=BW (d:=d) (a:=a) hR (L:=L-1) (by omega) (by rw[e2];exact hz1) (L-1-(k+e+1)) (by omega) (by rw[e2,show L-1-(L-1-(k+e+1))=k+e+1 by omega];exact fun i h1 h2=>hz i (by omega) h2)
     rw[show L-1-(L-1-(k+e+1))=k+e+1 by omega,e2]at e3
     rw[show R-1-k=eH n R (k+e+1) by unfold eH;omega,e3,hz (k+e) (by omega) (by omega),Rat.div_def,Rat.zero_mul]
    ·rw[if_neg h3]
theorem jx.fin (hR:R=n-e) (h:jx n e R d a L x q) (hL:L<=e):L=bu (bP e d a R R) n/\(∀i,i<L->x i=bP e d a R R i)/\∀k,k<R->q k=cS e d a R k:=by
 have hl:=h.le
 have e1:eH n R L=R:=by unfold eH;omega
 have hz:=h.zero
 have ht:=h.top
 have ha:=h.uo
 rw[e1]at hz ht ha
 refine⟨?_,ha,fun k hk=>by rw[h.quo k hk,if_neg (by omega)]⟩
 have:=Br (k:=bP e d a R R) (n:=L) (m:=n-L) fun i h1 h2=>hz i h1 (by omega)
 rw[show L+(n-L)=n by omega,nC ht]at this
 exact this.symm
end
end Go.Am
namespace Go.Am
abbrev PP:=Nat×(Nat->Rat)
def cQ (a d:PP):PP:=(bu (bP (d.1-1) d.2 a.2 (a.1-(d.1-1)) (a.1-(d.1-1))) a.1,bP (d.1-1) d.2 a.2 (a.1-(d.1-1)) (a.1-(d.1-1)))
def gA (a d:PP):PP:=(bu (cS (d.1-1) d.2 a.2 (a.1-(d.1-1))) (a.1-(d.1-1)),cS (d.1-1) d.2 a.2 (a.1-(d.1-1)))
def cE (n:Nat) (c:Nat->Rat) (i:Nat):Rat:=c i/c (n-1)
def dM (a:PP):PP:=(a.1,cE a.1 a.2)
def cM (c:Nat->Rat) (i:Nat):Rat:=((i+1:Nat):Int)*c (i+1)
def bQ (a:PP):PP:=(bu (cM a.2) (a.1-1),cM a.2)
def Trim (a:PP):Prop:=a.1=0\/a.2 (a.1-1)≠0
theorem lQ {k:Nat->Rat} {n:Nat}:Trim (bu k n,k):=by
 rcases Nat.eq_zero_or_pos (bu k n)with h|h
 ·exact .inl h
 ·exact .inr (Ak h)
theorem qV {a d:PP}:Trim (cQ a d):=lQ
theorem DZ {a d:PP}:Trim (gA a d):=lQ
theorem fH {a:PP}:Trim (bQ a):=lQ
theorem qe {a:PP} (h:Trim a):Trim (dM a):=by
 rcases h with h|h
 ·exact .inl h
 ·right
  show cE a.1 a.2 (a.1-1)≠0
  unfold cE
  rw[Rat.div_def,Rat.mul_inv_cancel _ h];decide
theorem JL {n e R:Nat} {d a:Nat->Rat} (hR:R=n-e) (hd:d e≠0):∀j,j<=R->∀i,n-j<=i->i<n->bP e d a R j i=0
 |0,_,i,h1,h2=>by omega
 |j+1,hj,i,h1,h2=>by
  show fI e d (R-1-j) (bP e d a R j) i=0
  by_cases h:i=R-1-j+e
  ·rw[h];exact G8 hd
  ·unfold fI
   rw[if_neg (by omega)]
   exact JL hR hd j (by omega) i (by omega) h2
theorem nv {a d:PP} (hd:0<d.1) (ht:Trim d):(cQ a d).1<d.1:=by
 show bu _ _<_
 have h0:d.2 (d.1-1)≠0:=by rcases ht with h|h;omega;exact h
 have:=fun i=>JL (n:=a.1) (a:=a.2) (rfl) h0 _ (Nat.le_refl (a.1-(d.1-1))) i
 rcases Nat.lt_or_ge a.1 d.1 with h|h
 ·exact Nat.lt_of_le_of_lt fk h
 ·have e1:=Br (k:=bP (d.1-1) d.2 a.2 (a.1-(d.1-1)) (a.1-(d.1-1))) (n:=d.1-1) (m:=a.1-(d.1-1)) fun i h1 h2=>this i (by omega) (by omega)
  rw[show d.1-1+(a.1-(d.1-1))=a.1 by omega]at e1
  rw[e1]
  have:=fk (k:=bP (d.1-1) d.2 a.2 (a.1-(d.1-1)) (a.1-(d.1-1))) (n:=d.1-1)
  omega
def e9 (s:PP×PP):PP×PP:=if s.2.1=0 then s else(s.2,dM (cQ s.1 s.2))
def bK (s:PP×PP):Nat->PP×PP
 |0=>s
 |j+1=>e9 (bK s j)
theorem l8 {s:PP×PP} (h1:Trim s.1) (h2:Trim s.2):∀j,Trim (bK s j).1/\Trim (bK s j).2
 |0=>⟨h1,h2⟩
 |j+1=>by
  have:=l8 h1 h2 j
  show Trim (e9 _).1/\Trim (e9 _).2
  unfold e9
  split
  ·exact this
  ·exact⟨this.2,qe qV⟩
theorem wD {s:PP×PP} (h1:Trim s.1) (h2:Trim s.2):∀j,(bK s j).2.1<=s.2.1-j
 |0=>Nat.le_refl _
 |j+1=>by
  have:=wD h1 h2 j
  have ht:=l8 h1 h2 j
  show(e9 _).2.1<=_
  unfold e9
  split
  ·rename_i h;rw[h];exact Nat.zero_le _
  ·rename_i h
   have:=nv (a:=(bK s j).1) (d:=(bK s j).2) (by omega) ht.2
   show(cQ _ _).1<=_
   omega
theorem BF {s:PP×PP} {j:Nat} (h:(bK s j).2.1=0):∀m,bK s (j+m)=bK s j
 |0=>rfl
 |m+1=>by
  show e9 (bK s (j+m))=_
  rw[BF h m]
  unfold e9
  rw[if_pos h]
theorem KW {s:PP×PP} (h:0<s.1.1):∀j,0<(bK s j).1.1
 |0=>h
 |j+1=>by
  have:=KW h j
  show 0<(e9 _).1.1
  unfold e9
  split
  ·exact this
  ·dsimp only;omega
theorem tu {s:PP×PP} {B:Nat} (ha:s.1.1<=B) (hb:s.2.1<=B) (h1:Trim s.1) (h2:Trim s.2):∀j,(bK s j).1.1<=B
 |0=>ha
 |j+1=>by
  have:=tu ha hb h1 h2 j
  have h3:=wD h1 h2 j
  show(e9 _).1.1<=_
  unfold e9
  split
  ·exact this
  ·dsimp only;omega
def cm (a b:PP):PP:=dM (bK (a,b) b.1).1
theorem Ql {a b:PP} (h1:Trim a) (h2:Trim b) {j:Nat} (hj:j<=b.1) (h:(bK (a,b) j).2.1=0):dM (bK (a,b) j).1=cm a b:=by
 have:=BF h (b.1-j)
 rw[show j+(b.1-j)=b.1 by omega]at this
 unfold cm
 rw[this]
theorem nj {a b:PP} (h1:Trim a) (h2:Trim b):Trim (cm a b):=qe (l8 (s:=(a,b)) h1 h2 _).1
theorem yC {a b:PP} (h:0<a.1):0<(cm a b).1:=KW (s:=(a,b)) h _
def cw (a:PP):PP:=if a.1=0 then(0,a.2)else dM (gA a (cm a (bQ a)))
def qy (s:PP×PP):PP×PP:=(s.2,((cQ s.1 s.2).1,fun i=>((-1:Int):Rat)*(cQ s.1 s.2).2 i))
def bF (s:PP×PP):Nat->PP×PP
 |0=>s
 |j+1=>qy (bF s j)
theorem Tc {a:PP} {r:Rat} (h:Trim a) (hr:r≠0):Trim (a.1,fun i=>r*a.2 i):=by
 rcases h with h|h
 ·exact .inl h
 ·right
  show r*a.2 (a.1-1)≠0
  intro h0
  rcases Rat.mul_eq_zero.1 h0 with h1|h1
  ·exact hr h1
  ·exact h h1
theorem qc {s:PP×PP} (h1:Trim s.1) (h2:Trim s.2):∀j,Trim (bF s j).1/\Trim (bF s j).2
 |0=>⟨h1,h2⟩
 |j+1=>⟨(qc h1 h2 j).2,Tc (a:=cQ (bF s j).1 (bF s j).2) qV (by decide)⟩
def stM (s:PP×PP):Nat->Nat->Nat
 |0,j=>j
 |f+1,j=>if(bF s j).2.1=0 then j else stM s f (j+1)
def eM (s:PP×PP):Nat:=stM s s.2.1 0
theorem KQ {s:PP×PP} (h1:Trim s.1) (h2:Trim s.2):∀f j,(bF s j).2.1<=f->j<=stM s f j/\stM s f j<=j+f/\(bF s (stM s f j)).2.1=0/\∀i,j<=i->i<stM s f j->(bF s i).2.1≠0
 |0,j,h=>⟨Nat.le_refl _,by show j<=_;omega,by show(bF s j).2.1=0;omega,fun i h1 h2=>by have:i<j:=h2;omega⟩
 |f+1,j,h=>by
  unfold stM
  split
  ·rename_i h0
   exact⟨Nat.le_refl _,by omega,h0,fun i h1 h2=>by omega⟩
  ·rename_i h0
   have hr:=nv (a:=(bF s j).1) (d:=(bF s j).2) (by omega) (qc h1 h2 j).2
   have hr:(bF s (j+1)).2.1<(bF s j).2.1:=hr
   obtain⟨g1,g2,g3,g4⟩:=KQ h1 h2 f (j+1) (by omega)
   refine⟨by omega,by omega,g3,fun i k1 k2=>?_⟩
   rcases Nat.eq_or_lt_of_le k1 with h|h
   ·subst h;exact h0
   ·exact g4 i h k2
theorem sM {s:PP×PP} (h1:Trim s.1) (h2:Trim s.2):eM s<=s.2.1/\(bF s (eM s)).2.1=0/\∀i,i<eM s->(bF s i).2.1≠0:=by
 obtain⟨_,g2,g3,g4⟩:=KQ h1 h2 s.2.1 0 (Nat.le_refl _)
 exact⟨by unfold eM;omega,g3,fun i hi=>g4 i (Nat.zero_le _) hi⟩
theorem Cp {s:PP×PP} {B:Nat} (ha:s.1.1<=B) (hb:s.2.1<=B) (h1:Trim s.1) (h2:Trim s.2):∀j,j<=eM s->(bF s j).1.1<=B/\(bF s j).2.1<=B
 |0,_=>⟨ha,hb⟩
 |j+1,hj=>by
  have ih:=Cp ha hb h1 h2 j (by omega)
  have h0:=(sM h1 h2).2.2 j (by omega)
  have hr:(bF s (j+1)).2.1<(bF s j).2.1:=nv (a:=(bF s j).1) (d:=(bF s j).2) (by omega) (qc h1 h2 j).2
  exact⟨ih.2,by omega⟩
def gu (a:PP):PP×PP:=(cw a,bQ (cw a))
theorem sn {a:PP}:Trim (cw a):=by
 unfold cw
 split
 ·exact .inl rfl
 ·exact qe DZ
def eL (n:Nat) (k:Nat->Rat) (t:Rat):Nat->Rat
 |0=>0
 |m+1=>eL n k t m*t+k (n-1-m)
def eA (a:PP) (t:Rat):Rat:=eL a.1 a.2 t a.1
def bW (s:Nat->Int):Nat->Int×Nat
 |0=>(0,0)
 |i+1=>(if s i=0 then(bW s i).1 else s i,if s i*(bW s i).1<0 then(bW s i).2+1 else(bW s i).2)
end Go.Am
namespace Go.Am.B
open Go Go.Am.N AV af aq IntKind Proofs.Tryz
def s7:Nat:=68719477736
abbrev lg:Code:=aG f114
abbrev lY:List Nat:=[0]
def qO:Spec:=dU (kC (kL ag) kN) (fun a=>aV a.1.2 (bu a.1.2 a.1.1) ag) fun a=>[a.1.1<2^40]
def G0:Spec:=dU (kC kR (kC kR kN)) (fun a=>.rat (a.1.1/a.2.1.1) (a.1.2+a.2.1.2)) fun a=>[a.1.2<2^42,a.2.1.2<2^42]
def HH:bp:=zG::(142,g8 kR kR xp oD)::gn
def p9:bp:=zG::(158,A4)::(171,G0)::gn
abbrev ve:Code:=aG f137
abbrev tK:Code:=part ve [1,1,1,1,0,1,0,0]
abbrev yF:Code:=part tK [1,1,0,0]
abbrev CX (m:Nat):AV:=aV (fun i=>((bn m i:Int):Rat)) (m+1) 64
abbrev qo:List Nat:=[0,4,5,25,26]
abbrev yq (m:Nat) (c:Nat->Rat) (i:Nat):List AV:=[aV c (m+1) ag,CX m,.own 0 3 0 (m+1),.int .i64 (m+1:Nat),.int .i64 i]
abbrev tL:List Nat:=[0,4,5,25,26,6,30,31,32]
abbrev DQ (m:Nat) (c:Nat->Rat) (i k:Nat):List AV:=[aV c (m+1) ag,CX m,.own 0 3 0 (m+1),.int .i64 (m+1:Nat),.int .i64 i,.int .i64 i,CX i,.int .i64 (i+1:Nat),.int .i64 k]
abbrev v8:Code:=aG f121
abbrev wo:List Nat:=[3,5,11,12,13]
abbrev Dj (n:Nat) (c:Nat->Rat) (i:Nat):List AV:=[.ptr 1 0 3 0 [],.own 0 3 0 n,aV c n ag,.int .i64 n,.int .i64 i]
abbrev wP:Code:=aG f73
abbrev mq:List Nat:=[0,3,4]
abbrev s9 (n:Nat) (c:Nat->Rat) (i:Nat):List AV:=[aV c n ag,.own 0 3 0 i,.int .i64 (i+1:Nat)]
def yB:bp:=zG::(114,qO)::gn
theorem BC:aZ 114 f114:=bf func114
theorem adf:aZ 171 f171:=bf func171
theorem I3:aZ 137 f137:=bf func137
theorem XA:aZ 121 f121:=bf func121
theorem XU:aZ 73 f73:=bf func73
theorem Tw {n:Nat} {k:Nat->Rat}:aF T GZ [] 60 lY (before lg [1,0]) ⟨aQ 0 [aV k n ag],[],0⟩=
  some (leaf normal ([ak 3 n fun i=>rat (k i) ag],[])):=ah
theorem ZD {n:Nat} {k:Nat->Rat}:aF T GZ [6,15] 60 lY [part lg [1,0,0,0]] ⟨aC lY [aV k n ag],[],0⟩=
  let c6:Int:=(↑n:Int);let c4:Int:=(2:Int)^63;let c3:af (List AV×aD):=leaf (exit 0) ([ak 3 n fun i=>rat (k i) ag],[]);let c5:Bool:=decide (c6>0);let c2:Int:=c6-1;let c1:af (List AV×aD):=aj [-c4<=c2/\c2<c4,(0:Int)<=0/\(0:Int)<=c2/\c2<=c2/\c2<=c6] (leaf normal ([ak 3 (c2.toNat-Int.toNat (0:Int)) fun i=>rat (k (i+Int.toNat (0:Int))) ag],[]));some (fork c5 (aj [c5=true,-c4<=c2/\c2<c4,(0:Int)<=c2/\c2.toNat<n,ag<2^42] (fork (bif true then dm (k c2.toNat)==0 else false) c1 c3)) (aj [c5=false] (fork false c1 c3))):=ah
theorem Xt {n:Nat} {k:Nat->Rat}:cG T GZ [] 60 f114 [part lg [1,1]] ⟨aC lY [aV k n ag],[],0⟩=
  some (leaf ret [ak 3 n fun i=>rat (k i) ag]):=ah
theorem So {q r:Rat} {n m:Nat}:bT T HH [] 60 f171 (aG f171) ⟨aQ 0 [.rat q n,.rat r m],[],0⟩=
  let c1:Prop:=0<1;some (aj [c1,c1,n<2^42,m<2^42,c1] (aj [c1,c1] (aj [c1] (leaf ret [rat (q/r) (n+m)])))):=ah
theorem Qv {m:Nat} {c:Nat->Rat}:aF T p9 [200016,11] 60 qo (before ve [1,1,1,1,0,1]) ⟨aQ 0 [aV c (m+1) ag],[],0⟩=
  let c1:Int:=(↑(m+1):Int);let c2:Int:=c1-1;some (aj [(bif c1==0 then true else decide (c1>41))=false] (aj [-(2:Int)^63<=c2/\c2<2^63,(0:Int)<=c2,c2<=40] (aj [(0:Int)<=c1/\c1<=c1/\c1<=2^47/\c1*(↑(56:Nat):Int)<=2^47] (leaf normal ([ak 3 (m+1) fun i=>rat (c i) ag,ak 3 (c2.toNat+1) fun i=>rat (↑(↑(bn c2.toNat i):Int):Rat) 64,own 69632 3 0 c1.toNat,int i64 (↑c1.toNat:Int),int i64 0],[(69632,ax.mk true true 3 c1.toNat fun x=>rat 0 1)]))))):=ah
theorem Z9 {m i:Nat} {c x:Nat->Rat}:aF T p9 [27] 60 qo (before tK [1,1,0]) ⟨aC qo (yq m c i),[(0,bS (m+1) x ag)],1⟩=
  let c2:Nat:=m+1;let c1:List AV×aD:=([ak 3 c2 fun i=>rat (c i) ag,ak 3 c2 fun i=>rat (↑(↑(bn m i):Int):Rat) 64,own 0 3 0 c2,int i64 (↑c2:Int),int i64 (↑i:Int)],[(0,ax.mk true true 3 c2 fun i=>rat (x i) ag)]);some (fork (decide ((↑i:Int)<(↑c2:Int))) (leaf normal c1) (leaf (exit 0) c1)):=ah
theorem ZF {m i:Nat} {c x:Nat->Rat}:aF T p9 [] 60 tL (before yF [1,1]) ⟨aC qo (yq m c i),[(0,bS (m+1) x ag)],1⟩=
  let c2:Nat:=m+1;let c1:Int:=(↑i:Int);some (aj [(0:Int)<=c1,c1<=40] (leaf normal ([ak 3 c2 fun i=>rat (c i) ag,ak 3 c2 fun i=>rat (↑(↑(bn m i):Int):Rat) 64,own 0 3 0 c2,int i64 (↑c2:Int),int i64 c1,int i64 c1,ak 3 (c1.toNat+1) fun i=>rat (↑(↑(bn c1.toNat i):Int):Rat) 64,int i64 (↑(c1.toNat+1):Int),int i64 0],[(0,ax.mk true true 3 c2 fun i=>rat (x i) ag)]))):=ah
theorem O9 {m i k:Nat} {c x:Nat->Rat}:aF T p9 [33] 60 tL [part yF [1,1,0,0]] ⟨aC tL (DQ m c i k),[(0,bS (m+1) x ag)],1⟩=
  let c10:Nat:=64+64;let c8:Int:=(↑i:Int);let c7:Int:=(↑(i+1):Int);let c5:AV:=ak 3 (i+1) fun i_1=>rat (↑(↑(bn i i_1):Int):Rat) 64;let c4:Nat:=2^42;let c3:Int:=(↑k:Int);let c1:Nat:=m+1;let c15:AV:=int i64 c8;let c14:Int:=c3+1;let c13:Prop:=(0:Int)<=c8/\c8.toNat<c1;let c12:Prop:=(0:Int)<=c3/\c3.toNat<c1;let c11:AV:=own 0 3 0 c1;let c9:AV:=ak 3 c1 fun i=>rat (c i) ag;let c6:AV:=ak 3 c1 fun i=>rat (↑(↑(bn m i):Int):Rat) 64;let c2:Nat:=c8.toNat+0;some (fork (decide (c3<c7)) (aj [(0:Int)<=c3/\c3.toNat<i+1,(0:Nat)<1] (aj [c13,c2<c1,(0:Nat)<1,c12,(64:Nat)<c4,(64:Nat)<c4,c12,c10<c4,ag<c4,ag<c4,c10+ag<c4,c13,c2<c1] (aj [-(2:Int)^63<=c14/\c14<2^63] (leaf normal ([c9,c6,c11,int i64 (↑c1:Int),c15,c15,c5,int i64 c7,int i64 c14],[(0,ax.mk true true 3 c1 fun j=>rat (bif j==c2 then x c2+(↑(↑(bn i c3.toNat):Int):Rat)/(↑(↑(bn m c3.toNat):Int):Rat)*c c3.toNat else x j) (bif j==c2 then ag+(c10+ag)+1 else ag))]))))) (leaf (exit 2) ([c9,c6,c11,int i64 (↑c1:Int),c15,c15,c5,int i64 c7,int i64 c3],[(0,ax.mk true true 3 c1 fun i=>rat (x i) ag)]))):=ah
theorem abP {m i k:Nat} {c x:Nat->Rat}:aF T p9 [] 60 qo [part tK [1,1,1]] ⟨aC tL (DQ m c i k),[(0,bS (m+1) x ag)],1⟩=
  let c2:Int:=(↑i:Int)+1;let c1:Nat:=m+1;some (aj [-(2:Int)^63<=c2/\c2<2^63] (leaf normal ([ak 3 c1 fun i=>rat (c i) ag,ak 3 c1 fun i=>rat (↑(↑(bn m i):Int):Rat) 64,own 0 3 0 c1,int i64 (↑c1:Int),int i64 c2],[(0,ax.mk true true 3 c1 fun i=>rat (x i) ag)]))):=ah
theorem Yk {m i:Nat} {c x:Nat->Rat}:cG T p9 [] 60 f137 [part ve [1,1,1,1,1]] ⟨aC qo (yq m c i),[(0,bS (m+1) x ag)],1⟩=
  some (leaf ret [ak 3 (m+1) fun i=>rat (x (i+0)) ag,int i64 0]):=ah
theorem aas {n s:Nat} {c:Nat->Rat} {r:Rat}:aF T GZ [] 60 wo (before v8 [1,1,0,1]) ⟨aQ 0 [aV c n ag,.rat r s],[],0⟩=
  let c1:Int:=(↑n:Int);some (aj [(0:Int)<=c1/\c1<=c1/\c1<=2^47/\c1*(↑(56:Nat):Int)<=2^47] (leaf normal ([ptr 0 0 (dL (rat r s)).size 0 [],own 16384 3 0 c1.toNat,ak 3 n fun i=>rat (c i) ag,int i64 c1,int i64 0],[(16384,ax.mk true true 3 c1.toNat fun x=>rat 0 1),(0,ax.mk false true (dL (rat r s)).size 1 fun x=>rat r s)]))):=ah
theorem aat {n s i:Nat} {c x:Nat->Rat} {r:Rat}:aF T GZ [14] 60 wo [part v8 [1,1,0,1,0,0]] ⟨aC wo (Dj n c i),[(0,bS n x ag),(1,⟨false,true,3,1,fun _=>.rat r s⟩)],2⟩=
  let c10:Int:=(↑n:Int);let c7:AV:=own 0 3 0 n;let c5:Prop:=0<1;let c4:AV:=ptr 1 0 3 0 [];let c3:AV:=ak 3 n fun i=>rat (c i) ag;let c2:Nat×ax:=((1:Nat),fM fun x=>rat r s);let c1:Int:=(↑i:Int);let c9:Int:=c1+1;let c8:Prop:=(0:Int)<=c1/\c1.toNat<n;let c6:Nat:=c1.toNat+0;some (fork (decide (c1<c10)) (aj [c8,c5] (aj [c5,c5,s<2^42,ag<2^42,c8,c6<n] (aj [-(2:Int)^63<=c9/\c9<2^63] (leaf normal ([c4,c7,c3,int i64 c10,int i64 c9],[(0,ax.mk true true 3 n fun j=>rat (bif j==c6 then r*c c1.toNat else x j) (bif j==c6 then s+ag else ag)),c2]))))) (leaf (exit 0) ([c4,c7,c3,int i64 c10,int i64 c1],[(0,ax.mk true true 3 n fun i=>rat (x i) ag),c2]))):=ah
theorem ace {n s i:Nat} {c x:Nat->Rat} {r:Rat}:cG T GZ [] 60 f121 [part v8 [1,1,1]] ⟨aC wo (Dj n c i),[(0,bS n x ag),(1,⟨false,true,3,1,fun _=>.rat r s⟩)],2⟩=
  some (leaf ret [ak 3 n fun i=>rat (x (i+0)) ag]):=ah
theorem OB {n:Nat} {c:Nat->Rat}:aF T yB [] 60 mq (before wP [1,1,0,1]) ⟨aQ 0 [aV c n ag],[],0⟩=
  some (leaf normal ([ak 3 n fun i=>rat (c i) ag,nil,int i64 1],[])):=ah
theorem acO {n i:Nat} {c x:Nat->Rat}:aF T yB [8] 60 mq [part wP [1,1,0,1,0,0]] ⟨aC mq (s9 n c i),[(0,bS i x ag)],1⟩=
  let c5:Nat:=i+1;let c3:AV:=ak 3 n fun i=>rat (c i) ag;let c2:Int:=(2:Int)^63;let c1:Int:=(↑c5:Int);let c6:Int:=c1+1;let c4:Nat:=Max.max 1 (bJ c1.natAbs);some (fork (decide (c1<(↑n:Int))) (aj [-c2<=c1,c1<c2,(0:Int)<=c1/\c1.toNat<n,c4<2^42,ag<2^42,(1:Nat)*3<=2^24,c5*((56:Nat)+1)*2<=2^47] (aj [-c2<=c6/\c6<c2] (leaf normal ([c3,own 53249 3 0 c5,int i64 c6],[(53249,ax.mk true true 3 c5 fun i_1=>if i_1<i then rat (x i_1) ag else nth [rat ((↑c1:Rat)*c c1.toNat) (c4+ag)] (rat 0 1) (i_1-i+0))])))) (leaf (exit 0) ([c3,own 0 3 0 i,int i64 c1],[(0,ax.mk true true 3 i fun i=>rat (x i) ag)]))):=ah
theorem abD {n i:Nat} {c x:Nat->Rat}:cG T yB [] 60 f73 [part wP [1,1,1]] ⟨aC mq (s9 n c i),[(0,bS i x ag)],1⟩=
  some (aj [cV (fun i=>rat (x (i+0)) ag) i ag,i<2^40] (leaf ret [ak 3 (bu (fun i=>aT (rat (x (i+0)) ag)) i) fun i=>rat (aT (rat (x (i+0)) ag)) ag])):=ah
theorem nc {q:Rat}:(dm q==0)=decide (q=0):=by
 unfold dm
 by_cases h:q=0
 ·simp[h]
 ·simp only[h,decide_false]
  split
  ·rfl
  ·split
   ·rfl
   ·grind
theorem X6 {n:Nat} {k:Nat->Rat} (hn:n<2^40) (K:Nat):aO P 114 K [aV k n ag] [] (aJ (aV k (bu k n) ag) []):=by
 have hW:=dw
 refine iZ (r:=aJ (aV k (bu k n) ag) []) hT mO hm BC rfl aX rfl [1,0] (i:=0) (y:=part lg [1,0,0,0]) (z:=part lg [1,1]) ah ah ah (f1:=[]) (f2:=[6,15]) (f3:=[]) 60 lY 0
  (fun j:Nat=>[aV k j ag]) (fun _=>[]) (fun j=>j<=n/\bu k j=bu k n) (fun j=>j=bu k n) (fun j=>j) (fun _=>⟨⟨_,Tw,?_⟩,fun j hj=>⟨_,ZD,?_⟩,fun j hj=>⟨_,Xt,?_⟩⟩) K []
 ·simp only[af.all,az]
  exact⟨n,⟨aP,rfl⟩,dr.vals rfl⟩
 ·obtain⟨h1,h2⟩:=hj
  simp only[af.all,az,cond_true,nc,bz,bB]
  refine⟨fun h=>⟨⟨aa,aa,aa,aa⟩,fun h3=>⟨aa,j-1,⟨aa,?_⟩,by dsimp only;omega,?_⟩,fun h3=>⟨rfl,j,?_,dr.vals rfl⟩⟩,fun h=>⟨aa,fun h3=>absurd h3 (by decide),fun _=>⟨rfl,j,?_,dr.vals rfl⟩⟩⟩
  ·rw[<-h2]
   obtain⟨m,rfl⟩:∃m,j=m+1:=⟨j-1,aa⟩
   rw[show(((m+1:Nat):Int)-1).toNat=m by omega]at h3
   show bu k m=_
   rw[bu,if_pos h3]
  ·rw[show((j:Int)-1).toNat-(0:Int).toNat=j-1 by omega]
   exact dr.vals rfl
  ·rw[<-h2]
   obtain⟨m,rfl⟩:∃m,j=m+1:=⟨j-1,aa⟩
   rw[show(((m+1:Nat):Int)-1).toNat=m by omega]at h3
   exact(nC (.inr h3)).symm
  ·rw[<-h2,show j=0 by omega];rfl
 ·rw[hj];exact .refl _
theorem Eh:aY P qO 114:=dD fun⟨⟨n,k⟩,_⟩ K hn=>X6 hn K
theorem U4:bI P HH:=fu (aI (iG fun _ _ K hn=>DC hn.1 hn.2 K) gD)
theorem Xr:aY P G0 171:=dD fun⟨⟨q,n⟩,⟨r,m⟩,_⟩ K hn=>by
 obtain⟨h1,h2⟩:=hn
 refine cj hT U4 hm adf rfl aX rfl 60 So (fun _=>?_) K []
 simp only[af.all,az]
 exact⟨⟨aa,aa,h1,h2,aa⟩,⟨aa,aa⟩,aa,.refl _⟩
theorem Fh:bI P p9:=fu (aI Iy (aI Xr gD))
def iy (n:Nat) (c:Nat->Rat):Prop:=∀i k,i<n->k<=i+1->Sz (jm n c i k) ag
def jS (n:Nat) (c:Nat->Rat) (i k j:Nat):Rat:=if j<i then eR n c j else if j=i then jm n c i k else 0
theorem Sr {m:Nat} {c:Nat->Rat} (hm1:m<=40) (hz:iy (m+1) c) (K:Nat):aO P 137 K [aV c (m+1) ag] [] (aJ (.tuple [aV (eR (m+1) c) (m+1) ag,.int .i64 0]) []):=by
 refine gB (r:=aJ (.tuple [aV (eR (m+1) c) (m+1) ag,.int .i64 0]) []) hT I3 rfl aX rfl (fun _ cx h0=>?_) K []
 have hk:=j9 h0
 have hW:=dw
 refine au.ov hT Fh hm (x:=ve) [1,1,1,1,0,1] (i:=0) (y:=tK) (z:=part ve [1,1,1,1,1]) ah ah ah I3.dst [1,1,0] (j:=1) (x1:=yF) (zb:=part tK [1,1,1]) ah ah ah [1,1] (i2:=2) (y2:=part yF [1,1,0,0]) ah ah rfl hk
  (f1:=[200016,11]) (f2:=[27]) (f3:=[]) (f4:=[33]) (f5:=[]) 60 qo tL 1 1 (fun i:Nat=>yq m c i) (fun i=>[(0,bS (m+1) (jS (m+1) c i 0) ag)]) (fun i=>i<=m+1) (fun i=>i=m+1) (fun i=>m+1-i) (fun i=>i<m+1) (fun _=>False) (fun _=>False)
  (fun i (k:Nat)=>DQ m c i k) (fun i k=>[(0,bS (m+1) (jS (m+1) c i k) ag)]) (fun i k=>k<=i+1) (fun i k=>k=i+1) (fun i k=>i+1-k)
  ⟨_,Qv,?_⟩ (fun i hi=>⟨_,Z9,?_⟩) (fun i hi hG=>⟨_,ZF,?_⟩) (fun i hi hG k hk=>⟨_,O9,?_⟩) (fun i hi hG k hk=>⟨_,abP,?_⟩) (fun i hi=>?_) (fun _ _ h=>h.elim) (fun _ _ h=>h.elim)
 ·simp only[af.all,az,bw]
  have e1:(((m+1:Nat):Int)-1).toNat=m:=aa
  have e2:(((m+1:Nat):Int)==0)=false:=by rw[beq_eq_false_iff_ne];omega
  rw[e1,e2]
  simp only[cond_false,bB]
  refine⟨aa,⟨aa,aa,aa⟩,aa,0,aa,[(0,69632)],rfl,rfl,rfl,bg rfl rfl rfl (fun j hj=>.inr ⟨rfl,dj ?_ aa⟩) trivial⟩
  unfold jS;rw[if_neg (Nat.not_lt_zero j)];split<;>rfl
 ·simp only[af.all,az,bz,bB]
  exact⟨fun h=>⟨aa,[(0,0)],rfl,rfl,rfl,bg rfl rfl rfl (fun i hi=>bH rfl rfl) trivial⟩,fun h=>⟨rfl,i,aa,[(0,0)],rfl,rfl,rfl,bg rfl rfl rfl (fun i hi=>bH rfl rfl) trivial⟩⟩
 ·simp only[af.all,az,bw]
  exact⟨aa,0,aa,[(0,0)],rfl,rfl,rfl,bg rfl rfl rfl (fun i hi=>bH rfl rfl) trivial⟩
 ·simp only[af.all,az,bz,bB,bw,Nat.add_zero]
  refine⟨fun h=>⟨aa,aa,aa,k+1,aa,by dsimp only;omega,[(0,0)],rfl,rfl,rfl,bg rfl rfl rfl (fun j hj=>?_) trivial⟩,fun h=>⟨rfl,k,aa,[(0,0)],rfl,rfl,rfl,bg rfl rfl rfl (fun j hj=>bH rfl rfl) trivial⟩⟩
  have e1:∀q,jS (m+1) c i q i=jm (m+1) c i q:=fun q=>by unfold jS;rw[if_neg (Nat.lt_irrefl i),if_pos rfl]
  exact kM (x:=jS (m+1) c i k) (y:=jS (m+1) c i (k+1)) (dF (by rw[e1,e1];rfl) (by rw[e1];exact hz i (k+1) hG aa)) fun hj=>dj (by unfold jS;rw[if_neg hj,if_neg hj]) aP
 ·subst hk
  simp only[af.all,az]
  refine⟨aa,i+1,aa,by dsimp only;omega,[(0,0)],rfl,rfl,rfl,bg rfl rfl rfl (fun j hj=>bH rfl ?_) trivial⟩
  show AV.rat (jS (m+1) c i (i+1) j) ag=AV.rat (jS (m+1) c (i+1) 0 j) ag
  unfold jS
  by_cases h1:j<i
  ·rw[if_pos h1,if_pos aa]
  ·by_cases h2:j=i
   ·subst h2;rw[if_neg h1,if_pos rfl,if_pos aa];rfl
   ·rw[if_neg h1,if_neg h2,if_neg aa];split<;>rfl
 ·subst hi
  refine au.kG ((aE.fin hT Fh hm 60 Yk ah ?_).mono fun _ _ h=>.inl h)
  refine⟨gk fun i hi=>dj ?_ aP,.refl _,trivial⟩
  show jS (m+1) c (m+1) 0 i=_
  unfold jS;rw[if_pos hi]
def Ma:Spec:=dU (kC (kL ag) kN) (fun a=>.tuple [aV (eR a.1.1 a.1.2) a.1.1 ag,.int .i64 0]) fun a=>[1<=a.1.1,a.1.1<=41,iy a.1.1 a.1.2]
theorem WT:aY P Ma 137:=dD fun⟨⟨n,p⟩,_⟩ K hn=>by
 obtain⟨h1,h2,h3⟩:=hn
 simp only at h1 h2 h3
 obtain⟨m,rfl⟩:∃m,n=m+1:=⟨n-1,aa⟩
 exact Sr aa h3 K
theorem A9:s7=ag+1000:=rfl
theorem acy {n:Nat} {c:Nat->Rat} {r:Rat} (hn:n<2^40) (hz:cB n fun i=>r*c i) (K:Nat):aO P 121 K [aV c n ag,.rat r s7] [] (aJ (aV (fun i=>r*c i) n ag) []):=by
 have hW:=dw
 have hX:=A9
 refine iZ (r:=aJ (aV (fun i=>r*c i) n ag) []) hT mO hm XA rfl aX rfl [1,1,0,1] (i:=0) (y:=part v8 [1,1,0,1,0,0]) (z:=part v8 [1,1,1]) ah ah ah (f1:=[]) (f2:=[14]) (f3:=[]) 60 wo 2
  (fun i:Nat=>Dj n c i) (fun i=>[(0,bS n (fun j=>if j<i then r*c j else 0) ag),(1,⟨false,true,3,1,fun _=>.rat r s7⟩)]) (fun i=>i<=n) (fun i=>i=n) (fun i=>n-i) (fun _=>⟨⟨_,aas,?_⟩,fun i hi=>⟨_,aat,?_⟩,fun i hi=>⟨_,ace,?_⟩⟩) K []
 ·simp only[af.all,az,bw]
  exact⟨aa,0,Nat.zero_le _,[(0,16384),(1,0)],rfl,rfl,rfl,bg rfl rfl rfl (fun i hi=>.inr ⟨rfl,dj (if_neg (Nat.not_lt_zero i)).symm aa⟩) (cZ trivial)⟩
 ·simp only[af.all,az,bz,bB,bw,Nat.add_zero]
  refine⟨fun h2=>⟨aa,aa,aa,i+1,aa,by dsimp only;omega,[(0,0),(1,1)],rfl,rfl,rfl,bg rfl rfl rfl (fun j hj=>?_) (cZ trivial)⟩,fun h2=>⟨rfl,i,aa,[(0,0),(1,1)],rfl,rfl,rfl,bg rfl rfl rfl (fun j hj=>bH rfl rfl) (cZ trivial)⟩⟩
  exact kM (x:=fun j=>if j<i then r*c j else 0) (y:=fun j=>if j<i+1 then r*c j else 0) (dF (if_pos (Nat.lt_succ_self i)).symm (by show Sz (if i<i+1 then _ else _) _;rw[if_pos (Nat.lt_succ_self i)];exact hz i aa)) fun hj=>dj (DH hj).symm aP
 ·subst hi
  simp only[af.all,az]
  exact gk fun j hj=>by rw[Nat.add_zero,if_pos hj];exact .refl _
def Ce:Spec:=dU (kC (kL ag) (kC (fq s7) kN)) (fun a=>aV (fun i=>a.2.1*a.1.2 i) a.1.1 ag) fun a=>[a.1.1<2^40,cB a.1.1 fun i=>a.2.1*a.1.2 i]
theorem Fz:aY P Ce 121:=dD fun⟨⟨n,c⟩,r,_⟩ K hn=>acy hn.1 hn.2 K
theorem Oj:bI P yB:=fu (aI Eh gD)
theorem ac0 {n:Nat} {c:Nat->Rat} (hn:n<2^40) (hz:cB (n-1) (cM c)) (K:Nat):aO P 73 K [aV c n ag] [] (aJ (aV (cM c) (bu (cM c) (n-1)) ag) []):=by
 have hW:=dw
 refine iZ (r:=aJ (aV (cM c) (bu (cM c) (n-1)) ag) []) hT Oj hm XU rfl aX rfl [1,1,0,1] (i:=0) (y:=part wP [1,1,0,1,0,0]) (z:=part wP [1,1,1]) ah ah ah (f1:=[]) (f2:=[8]) (f3:=[]) 60 mq 1
  (fun i:Nat=>s9 n c i) (fun i=>[(0,bS i (cM c) ag)]) (fun i=>i<=n-1) (fun i=>i=n-1) (fun i=>n-1-i) (fun _=>⟨⟨_,OB,?_⟩,fun i hi=>⟨_,acO,?_⟩,fun i hi=>⟨_,abD,?_⟩⟩) K []
 ·simp only[af.all,az]
  exact⟨0,aa,[],rfl,rfl,rfl,kP rfl aa aa trivial⟩
 ·have hb:(max 1 (bJ ((i+1:Nat):Int).natAbs))<=64:=by
   rw[Int.natAbs_natCast]
   have:=jh (x:=i+1) (k:=64)|>.2 aa
   omega
  simp only[af.all,az,bz,bB,bw]
  refine⟨fun h2=>⟨aa,aa,i+1,aa,by dsimp only;omega,[(0,53249)],rfl,?_,rfl,bg rfl rfl rfl (fun j hj=>?_) trivial⟩,fun h2=>⟨rfl,i,aa,[(0,0)],rfl,rfl,rfl,bg rfl rfl rfl (fun j hj=>bH rfl rfl) trivial⟩⟩
  ·rw[show((i+1:Nat):Int)+1=((i+1+1:Nat):Int) by omega];rfl
  ·refine .inr ⟨?_,?_⟩
   ·split
    ·rfl
    ·rw[show j-i+0=0 by omega];rfl
   ·split
    ·exact .refl _
    ·rw[show j-i+0=0 by omega,show j=i by omega]
     exact dF rfl (hz i aa)
 ·subst hi
  simp only[af.all,az]
  exact⟨⟨dg aP,aa⟩,.refl _⟩
def pX:Spec:=dU (kC (kL ag) kN) (fun a=>aV (cM a.1.2) (bu (cM a.1.2) (a.1.1-1)) ag) fun a=>[a.1.1<2^40,cB (a.1.1-1) (cM a.1.2)]
theorem AB:aY P pX 73:=dD fun⟨⟨n,c⟩,_⟩ K hn=>ac0 hn.1 hn.2 K
def pP (f:Nat->AV) (n s:Nat):Prop:=∀i,i<n->keys (f i)=[]/\bA (f i) (.rat (aT (f i)) s)
def tN:Spec:=fun _ args pre=>match args,pre with
 |[.own k 3 0 n],[(k',⟨true,true,3,m,f⟩)]=>match k'==k with
  |true=>some ⟨.own k 3 0 (bu (fun i=>aT (f i)) n),[(k,bS m (fun i=>aT (f i)) ag)],[n<=m,n<2^40,pP f m ag]⟩
  |false=>none
 |_,_=>none
abbrev sO:FuncId:=141
abbrev xo:Func:=f141
def Km:Spec:=qh fun K l=>match l with
 |[v]=>match(kL ag).read v with
  |some ((0,k),q)=>some (aJ (aV k 0 ag) q)
  |some ((n+1,k),q)=>some ⟨.own K 3 0 (n+1),[(K,bS (n+1) k ag)],q++[n+1<2^30]⟩
  |none=>none
 |_=>none
def I6:bp:=zG::(142,g8 kR kR xp oD)::(121,Ce)::gn
def rZ (n:Nat):Nat:=if n=0 then 1 else n
def xb (n:Nat) (c:Nat->Rat) (i:Nat):Rat:=if n=0 then 0 else eR n c i
def K3:bp:=zG::(137,Ma)::gn
def Im:bp:=zG::(115,yc)::(114,qO)::gn
theorem FJ:aZ sO xo:=bf func141
theorem acv:aZ 135 f135:=bf func135
theorem abL:aZ 81 f81:=bf func81
theorem Uc:aZ 57 f57:=bf func57
theorem Nf {n m:Nat} {x:Nat->Rat}:aF T GZ [] 60 lY (before lg [1,0]) ⟨aQ 0 [.own 0 3 0 n],[(0,bS m x ag)],1⟩=
  some (leaf normal ([own 0 3 0 n],[(0,ax.mk true true 3 m fun i=>rat (x i) ag)])):=ah
theorem Yx {n m:Nat} {x:Nat->Rat}:aF T GZ [6,15] 60 lY [part lg [1,0,0,0]] ⟨aC lY [.own 0 3 0 n],[(0,bS m x ag)],1⟩=
  let c7:Int:=(↑n:Int);let c4:Int:=(2:Int)^63;let c3:Nat×ax:=(0,ax.mk true true 3 m fun i=>rat (x i) ag);let c6:af (List AV×aD):=leaf (exit 0) ([own 0 3 0 n],[c3]);let c5:Bool:=decide (c7>0);let c2:Int:=c7-1;let c1:af (List AV×aD):=aj [-c4<=c2/\c2<c4,(0:Int)<=0/\(0:Int)<=c2/\c2<=c2/\c2<=c7] (leaf normal ([own 0 3 0 (c2.toNat-Int.toNat (0:Int))],[c3]));some (fork c5 (aj [c5=true,-c4<=c2/\c2<c4,(0:Int)<=c2/\c2.toNat<n,c2.toNat+0<m,ag<2^42] (fork (bif true then dm (x (c2.toNat+0))==0 else false) c1 c6)) (aj [c5=false] (fork false c1 c6))):=ah
theorem PA {n m:Nat} {x:Nat->Rat}:aF T GZ [] 60 [2] [part lg [1,1]] ⟨aC lY [.own 0 3 0 n],[(0,bS m x ag)],1⟩=
  some (leaf ret ([own 0 3 0 n],[(0,ax.mk true true 3 m fun i=>rat (x i) ag)])):=ah
theorem TV {n:Nat} {k:Nat->Rat}:aF T [nG] [] 60 [2] [aG xo] ⟨aQ 0 [.dQ false 3 n (fun i=>.rat (k i) ag)],[],0⟩=
  some (aj [(0:Nat)*3<=2^24,((0:Nat)+n)*((56:Nat)+1)*2<=2^47] (leaf ret ([own 20480 3 0 ((0:Nat)+n)],[(20480,ax.mk true true 3 ((0:Nat)+n) fun i=>rat (k (i-0)) ag)]))):=ah
theorem Rv {b:Bool} {k:Nat->Rat}:bT T [zG] [4] 60 xo (aG xo) ⟨aQ 0 [.dQ b 3 0 (fun i=>.rat (k i) ag)],[],0⟩=
  some (fork b (leaf ret [nil]) (aj [(0:Nat)*3<=2^24,((0:Nat)+0)*((56:Nat)+1)*2<=2^47] (leaf ret [ak 3 0 fun i=>rat (k (i+0-0)) ag]))):=ah
theorem U1 {n:Nat} {c:Nat->Rat}:bT T I6 [7] 60 f135 (aG f135) ⟨aQ 0 [aV c n ag],[],0⟩=
  let c3:Nat:=Max.max 1 (bJ (Int.natAbs (1:Int)));let c2:Int:=(2:Int)^63;let c1:Int:=(↑n:Int)-1;let c4:Rat:=(↑(1:Int):Rat)/c c1.toNat;some (fork ((↑n:Int)==0) (leaf ret [nil]) (aj [-c2<=1,(1:Int)<c2,-c2<=c1/\c1<c2,(0:Int)<=c1/\c1.toNat<n,c3<2^42,ag<2^42,(0:Nat)<1] (aj [(0:Nat)<1,cV (fun i=>rat (c i) ag) n ag,c3+ag<=s7,n<2^40,cB n fun i=>c4*aT (rat (c i) ag)] (leaf ret [ak 3 n fun i=>rat (c4*aT (rat (c i) ag)) ag])))):=ah
theorem MX {n:Nat} {c:Nat->Rat}:bT T K3 [7] 60 f81 (aG f81) ⟨aQ 0 [aV c n ag],[],0⟩=
  some (fork ((↑n:Int)==0) (aj [(1:Nat)*3<=2^24] (leaf ret [ak 3 1 fun i=>nth [agg [AV.bool (decide ((0:Rat)<0)),mag (↑(nat_lit 0):Int).natAbs,mag (if 1=1 then 0 else 1)]] (rat 0 1) (i+0)])) (aj [cV (fun i=>rat (c i) ag) n ag,(1:Nat)<=n,n<=41,iy n fun i=>aT (rat (c i) ag)] (leaf ret [ak 3 n fun i=>rat (eR n (fun i=>aT (rat (c i) ag)) i) ag]))):=ah
theorem Mt {n:Nat} {c:Nat->Rat}:bT T Im [] 60 f57 (aG f57) ⟨aQ 0 [aV c n ag],[],0⟩=
  some (aj [cV (fun i=>rat (c i) ag) n ag,(1:Nat)<=n,n<=41,qj n fun i=>aT (rat (c i) ag),cV (fun i=>rat (fy n (fun i=>aT (rat (c i) ag)) i) ag) n ag,n<2^40] (leaf ret [ak 3 (bu (fun i=>aT (rat (fy n (fun i=>aT (rat (c i) ag)) i) ag)) n) fun i=>rat (aT (rat (fy n (fun i=>aT (rat (c i) ag)) i) ag)) ag])):=ah
theorem TL {kk n m:Nat} {x:Nat->Rat} (hn:n<2^40) (hnm:n<=m) (c:Ctx) (hk:Kept [0] c):au P c f114.ntmps lg ⟨aQ 0 [.own 0 3 0 n],[(0,bS m x ag)],1⟩ (Bc f114 kk [.own kk 3 0 (bu x n)] (bS m x ag)):=by
 have hW:=dw
 have re:∀j,dr [0] ([.own 0 3 0 j],[((0:Nat),bS m x ag)]) [.own 0 3 0 j] [(0,bS m x ag)] 1:=fun j=>⟨[(0,0)],rfl,rfl,rfl,k8 trivial⟩
 refine au.nP hT mO hm [1,0] (i:=0) (y:=part lg [1,0,0,0]) (z:=part lg [1,1]) ah ah ah BC.dst hk (f1:=[]) (f2:=[6,15]) 60 lY 1
  (fun j:Nat=>[.own 0 3 0 j]) (fun _=>[(0,bS m x ag)]) (fun j=>j<=n/\bu x j=bu x n) (fun j=>j=bu x n) (fun j=>j) (fun _=>False) ⟨_,Nf,?_⟩ (fun j hj=>⟨_,Yx,?_⟩) (fun j hj=>?_) (fun _ _ h=>h.elim)
 ·simp only[af.all,az]
  exact⟨n,⟨aP,rfl⟩,re n⟩
 ·obtain⟨h1,h2⟩:=hj
  simp only[af.all,az,cond_true,nc,bz,bB,Nat.add_zero]
  refine⟨fun h=>⟨⟨aa,aa,aa,aa,aa⟩,fun h3=>⟨aa,j-1,⟨aa,?_⟩,by dsimp only;omega,?_⟩,fun h3=>⟨rfl,j,?_,re j⟩⟩,fun h=>⟨aa,fun h3=>absurd h3 (by decide),fun _=>⟨rfl,j,?_,re j⟩⟩⟩
  ·rw[<-h2]
   obtain⟨m,rfl⟩:∃m,j=m+1:=⟨j-1,aa⟩
   rw[show(((m+1:Nat):Int)-1).toNat=m by omega]at h3
   show bu x m=_
   rw[bu,if_pos h3]
  ·rw[show((j:Int)-1).toNat-(0:Int).toNat=j-1 by omega]
   exact re (j-1)
  ·rw[<-h2]
   obtain⟨m,rfl⟩:∃m,j=m+1:=⟨j-1,aa⟩
   rw[show(((m+1:Nat):Int)-1).toNat=m by omega]at h3
   exact(nC (.inr h3)).symm
  ·rw[<-h2,show j=0 by omega];rfl
 ·subst hj
  exact au.bD hT mO hm 60 [2] PA ah fun s' hs'=>⟨.inr rfl,[2],_,[.own 0 3 0 (bu x n)],_,_,hs',ah,⟨⟨rfl,dB (by simp[aW,look]) rfl rfl⟩,trivial⟩,rfl,fZ rfl fun i hi=>gh rfl⟩
theorem O5:aY P tN 114:=by
 intro K args pre r h
 unfold tN at h
 split at h
 ·rename_i k n k' m f
  split at h
  ·rename_i hc
   have hc:=eq_of_beq hc
   subst hc
   simp only[ay]at h
   subst h
   intro need
   have h0:=need
   obtain⟨n1,n2,n3⟩:=need
   exact Eu hT BC (rest:=[]) (ws:=[.own k' 3 0 _]) (o2:=⟨true,true,3,m,f⟩) (o:=bS m (fun i=>aT (f i)) ag) rfl rfl aX (fun ρ=>fZ rfl fun i hi=>gT (n3 i hi).1 (n3 i hi).2) (fun _ c hk=>TL n2 n1 c hk) K h0
  ·simp at h
 ·simp at h
theorem Xk {args:List AV} {n:Nat} {k:Nat->Rat} {l:List Prop} (ha:az l->fU (aW []) args [.dQ false 3 n (fun i=>.rat (k i) ag)]) (hn:az l->n<2^30) (K:Nat):aO P sO K args [] ⟨l9 [.own K 3 0 n],[(K,bS n k ag)],l⟩:=by
 refine AO hT FJ ha aX fun need c hk=>?_
 have h2:=hn need
 refine au.bD hT (jr bY) hm 60 [2] TV ah ?_
 simp only[af.all,az]
 exact⟨⟨aa,aa⟩,fun s' hs'=>⟨.inr trivial,[2],_,[.own 20480 3 0 (0+n)],_,20480,_,hs',ah,⟨⟨rfl,dB (by simp[aW,look]) rfl aa⟩,trivial⟩,rfl,fZ aa fun i hi=>gh rfl⟩⟩
theorem NB {n:Nat} {k:Nat->Rat} {l:List Prop} (hn:az l->1<=n/\n<2^30) (K:Nat):aO P sO K [aV k n ag] [] ⟨l9 [.own K 3 0 n],[(K,bS n k ag)],l⟩:=by
 refine DE fun b hb=>?_
 intro need
 have h1:=hn need
 cases b
 ·exact Xk (args:=[.dQ false 3 n (fun i=>.rat (k i) ag)]) (fun _=>⟨aN,trivial⟩) (fun h=>(hn h).2) K need
 ·have:=hb rfl
  omega
theorem RH {k:Nat->Rat} (K:Nat):aO P sO K [aV k 0 ag] [] (aJ (aV k 0 ag) []):=by
 refine DE fun b hb=>?_
 refine cj hT (fu bY) hm FJ rfl aX rfl 60 Rv (fun _=>?_) K []
 simp only[af.all,az]
 exact⟨fun _=>kS aa,fun _=>⟨⟨aa,aa⟩,gk fun i hi=>absurd hi (Nat.not_lt_zero i)⟩⟩
theorem aag:aY P Km sO:=by
 refine tU fun K args r hk hs=>?_
 split at hs
 ·rename_i v
  split at hs
  ·rename_i k q hv
   simp only[ay]at hs
   subst hs
   intro need
   exact gz (RH K) hk ⟨(kL ag).ok hv need,trivial⟩ [] trivial
  ·rename_i n k q hv
   simp only[ay]at hs
   subst hs
   intro need
   obtain⟨hn1,hn2⟩:=fD.1 need
   exact gz (NB (l:=q++[n+1<2^30]) (fun h=>⟨Nat.succ_pos n,(fD (a:=q) (b:=[n+1<2^30]).1 h).2⟩) K) hk ⟨(kL ag).ok hv hn1,trivial⟩ [] need
  ·simp at hs
 ·simp at hs
theorem ZQ:bI P I6:=fu (aI (iG fun _ _ K hn=>DC hn.1 hn.2 K) (aI Fz gD))
theorem Gg {n:Nat} {c:Nat->Rat} (i:Nat):((1:Int):Rat)/c (n-1)*c i=cE n c i:=by
 unfold cE;rw[Rat.div_def,Rat.div_def,Rat.mul_comm];congr 1;exact Rat.one_mul _
theorem XG {n:Nat} {c:Nat->Rat} (hn:n<2^40) (hz:cB n (cE n c)) (K:Nat):aO P 135 K [aV c n ag] [] (aJ (aV (cE n c) n ag) []):=by
 have hW:=dw
 have hX:=A9
 refine cj hT ZQ hm acv rfl aX rfl 60 U1 (fun _=>?_) K []
 simp only[af.all,az,beq_iff_eq,beq_eq_false_iff_ne]
 refine⟨fun h=>?_,fun h=>?_⟩
 ·rw[show n=0 by omega];exact kS aa
 ·rw[show((n:Int)-1).toNat=n-1 by omega]
  have hb:bJ (Int.natAbs 1)=1:=by decide
  refine⟨⟨aa,aa,aa,aa,by rw[hb];decide,aa,aa⟩,⟨aa,dg aP,?_,hn,fun i hi=>by show Sz (_*c i) _;rw[Gg];exact hz i hi⟩,gk fun i hi=>dj (Gg i) aP⟩
  rw[hb,Nat.max_self];omega
def Ek:Spec:=dU (kC (kL ag) kN) (fun a=>aV (cE a.1.1 a.1.2) a.1.1 ag) fun a=>[a.1.1<2^40,cB a.1.1 (cE a.1.1 a.1.2)]
theorem Ge:aY P Ek 135:=dD fun⟨⟨n,c⟩,_⟩ K hn=>XG hn.1 hn.2 K
theorem Ra:bI P K3:=fu (aI WT gD)
theorem OP {n:Nat} {c:Nat->Rat} (hn:n<=41) (hz:iy n c) (K:Nat):aO P 81 K [aV c n ag] [] (aJ (aV (xb n c) (rZ n) ag) []):=by
 refine cj hT Ra hm abL rfl aX rfl 60 MX (fun _=>?_) K []
 simp only[af.all,az,beq_iff_eq,beq_eq_false_iff_ne]
 refine⟨fun h=>⟨aa,?_⟩,fun h=>⟨⟨dg aP,aa,hn,hz⟩,?_⟩⟩
 ·obtain rfl:n=0:=aa
  refine gk (n:=1) fun i hi=>?_
  obtain rfl:i=0:=aa
  exact mb
 ·have e1:rZ n=n:=if_neg aa
  rw[e1]
  exact gk fun i hi=>dj (if_neg (show¬n=0 by omega)).symm aP
theorem U0:bI P Im:=fu (aI Ua (aI Eh gD))
theorem ZE {n:Nat} {c:Nat->Rat} (h1:1<=n) (h2:n<=41) (h3:qj n c) (K:Nat):aO P 57 K [aV c n ag] [] (aJ (aV (fy n c) (bu (fy n c) n) ag) []):=by
 refine cj hT U0 hm Uc rfl aX rfl 60 Mt (fun _=>?_) K []
 simp only[af.all,az]
 exact⟨⟨dg aP,h1,h2,h3,dg aP,aa⟩,.refl _⟩
def rj:Spec:=fun K args pre=>match tN K args pre with
 |some r=>some r
 |none=>qO K args pre
def oN:bp:=zG::(sO,Km)::(114,rj)::(142,g8 kR kR xp oD)::gn
abbrev rW:Code:=aG f88
abbrev AJ:Code:=part rW [1,1,1,1,0,0,0]
abbrev tX:Code:=part AJ [1,0]
abbrev qn:List Nat:=[1,4,5,6]
abbrev uE (e:Nat) (d:Nat->Rat) (R L:Nat):List AV:=[aV d (e+1) ag,.own 1 3 0 R,.own 0 3 0 L,.int .i64 e]
abbrev vk (n R:Nat) (x q:Nat->Rat):aD:=[(0,bS n x ag),(1,bS R q ag)]
abbrev uV:List Nat:=[1,4,5,6,7,8,55,56,57]
abbrev Bl (e:Nat) (d:Nat->Rat) (R L k i:Nat):List AV:=[aV d (e+1) ag,.own 1 3 0 R,.own 0 3 0 L,.int .i64 e,.int .i64 k,.ptr 2 0 3 0 [],aV d e ag,.int .i64 e,.int .i64 i]
abbrev De (n R:Nat) (x q:Nat->Rat) (f:Rat):aD:=[(2,⟨false,true,3,1,fun _=>.rat f ag⟩),(0,bS n x ag),(1,bS R q ag)]
theorem Al:aZ 88 f88:=bf func88
theorem Pc {e:Nat} {a d:Nat->Rat}:bT T oN [200020,200029] 60 f88 (aG f88) ⟨aQ 0 [aV a 0 ag,aV d (e+1) ag],[],0⟩=
  let c3:AV:=rat 0 1;let c2:Int:=(↑(0:Nat):Int);let c1:Int:=(↑(e+1):Int)-1;some (aj [cV (fun i=>rat (a i) ag) 0 ag] (aj [-(2:Int)^63<=c1/\c1<2^63] (aj [decide (c2>c1)=false] (aj [decide (c2>c1)=false] (aj [cV (fun x=>c3) 0 ag,(0:Nat)<2^40] (leaf ret [ak 3 0 fun i=>rat (aT c3) ag,ak 3 0 fun i=>rat (aT (rat (a i) ag)) ag])))))):=ah
theorem Sw {n e:Nat} {a d:Nat->Rat}:aF T oN [20] 60 qn (before rW [1,1,1,1,0]) ⟨aQ 0 [aV a (n+1) ag,aV d (e+1) ag],[],0⟩=
  let c6:Int:=(2:Int)^63;let c5:AV:=ak 3 (e+1) fun i=>rat (d i) ag;let c3:Int:=(↑(e+1):Int)-1;let c2:Nat:=n+1;let c7:List AV:=[own 12288 3 0 c2,int i64 c3];let c4:Nat×ax:=(12288,ax.mk true true 3 c2 fun i=>rat (aT (rat (a i) ag)) ag);let c1:Int:=(↑c2:Int)-c3;some (aj [cV (fun i=>rat (a i) ag) (n+1) ag,c2<2^30] (aj [-c6<=c3/\c3<c6] (fork (decide ((↑c2:Int)>c3)) (aj [-c6<=c1/\c1<c6,(0:Int)<=c1/\c1<=c1/\c1<=2^47/\c1*(↑(56:Nat):Int)<=2^47] (leaf normal (c5::own 69632 3 0 c1.toNat::c7,[c4,(69632,ax.mk true true 3 c1.toNat fun x=>rat 0 1)]))) (leaf normal (c5::nil::c7,[c4]))))):=ah
theorem VK {n e R L:Nat} {d x q:Nat->Rat}:aF T oN [29] 60 qn (before AJ [1]) ⟨aC qn (uE e d R L),vk n R x q,2⟩=
  let c1:List AV×aD:=([ak 3 (e+1) fun i=>rat (d i) ag,own 1 3 0 R,own 0 3 0 L,int i64 (↑e:Int)],[(0,ax.mk true true 3 n fun i=>rat (x i) ag),(1,ax.mk true true 3 R fun i=>rat (q i) ag)]);some (fork (decide ((↑L:Int)>(↑e:Int))) (leaf normal c1) (leaf (exit 0) c1)):=ah
theorem R5 {n e R L:Nat} {d x q:Nat->Rat}:aF T oN [] 60 uV (before tX [1,1,1,0,1]) ⟨aC qn (uE e d R L),vk n R x q,2⟩=
  let c7:Prop:=ag<2^42;let c6:Nat:=Int.toNat (0:Int);let c3:Int:=(2:Int)^63;let c2:Int:=(↑e:Int);let c1:Int:=(↑L:Int)-1;let c5:Nat:=c1.toNat+0;let c4:Nat:=(c1-c2).toNat+0;some (aj [-c3<=c1/\c1<c3,-c3<=c1-c2/\c1-c2<c3] (aj [-c3<=c1/\c1<c3,(0:Int)<=c1/\c1.toNat<L,c5<n,(0:Int)<=c2/\c2.toNat<e+1,c7,c7,(0:Nat)<1] (aj [(0:Nat)<1,(0:Int)<=c1-c2/\(c1-c2).toNat<R,c4<R] (aj [(0:Int)<=0/\(0:Int)<=c2/\c2<=c2/\c2<=(↑(e+1):Int)] (leaf normal ([ak 3 (e+1) fun i=>rat (d i) ag,own 1 3 0 R,own 0 3 0 L,int i64 c2,int i64 (c1-c2),ptr 81922 0 3 0 [],ak 3 (c2.toNat-c6) fun i=>rat (d (i+c6)) ag,int i64 (↑(c2.toNat-c6):Int),int i64 0],[((81922:Nat),fM fun j=>if(j==0)=true then dL (rA (x c5/d c2.toNat) (ag+ag))else rat 0 1),(0,ax.mk true true 3 n fun i=>rat (x i) ag),(1,ax.mk true true 3 R fun j=>rat (bif j==c4 then x c5/d c2.toNat else q j) (bif j==c4 then ag+ag else ag))])))))):=ah
theorem Mp {n e R L k i:Nat} {d x q:Nat->Rat} {f:Rat}:aF T oN [58] 60 uV [part tX [1,1,1,0,1,0,0]] ⟨aC uV (Bl e d R L k i),De n R x q f,3⟩=
  let c14:AV:=own 0 3 0 L;let c13:AV:=own 1 3 0 R;let c12:Prop:=0<1;let c11:AV:=ptr 2 0 3 0 [];let c10:AV:=int i64 (↑e:Int);let c9:AV:=ak 3 e fun i=>rat (d i) ag;let c8:Nat:=2^42;let c7:Int:=(↑i:Int);let c6:AV:=ak 3 (e+1) fun i=>rat (d i) ag;let c4:Nat×ax:=(1,ax.mk true true 3 R fun i=>rat (q i) ag);let c3:Nat×ax:=((2:Nat),fM fun x=>rat f ag);let c2:Int:=(2:Int)^63;let c16:Int:=c7+1;let c1:Int:=(↑k:Int)+c7;let c15:Prop:=(0:Int)<=c1/\c1.toNat<L;let c5:Nat:=c1.toNat+0;some (fork (decide (c7<(↑e:Int))) (aj [(0:Int)<=c7/\c7.toNat<e,c12] (aj [-c2<=c1/\c1<c2,-c2<=c1/\c1<c2,c15,c5<n,c12,c12,ag<c8,ag<c8,ag<c8,ag+ag<c8,c15,c5<n] (aj [-c2<=c16/\c16<c2] (leaf normal ([c6,c13,c14,c10,int i64 (↑k:Int),c11,c9,c10,int i64 c16],[c3,(0,ax.mk true true 3 n fun j=>rat (bif j==c5 then x c5-f*d c7.toNat else x j) (bif j==c5 then ag+(ag+ag)+1 else ag)),c4]))))) (leaf (exit 2) ([c6,c13,c14,c10,int i64 (↑k:Int),c11,c9,c10,int i64 c7],[c3,(0,ax.mk true true 3 n fun i=>rat (x i) ag),c4]))):=ah
theorem Xw {n e R L k i:Nat} {d x q:Nat->Rat} {f:Rat}:aF T oN [] 60 qn (behind tX [1,1,1,0,1]) ⟨aC uV (Bl e d R L k i),De n R x q f,3⟩=
  let c1:Int:=(↑L:Int)-1;let c2:Nat:=c1.toNat-Int.toNat (0:Int);some (aj [-(2:Int)^63<=c1/\c1<2^63,(0:Int)<=0/\(0:Int)<=c1/\c1<=c1/\c1<=(↑L:Int),c2<=n,c2<2^40,pP (fun i=>rat (x i) ag) n ag] (leaf normal ([ak 3 (e+1) fun i=>rat (d i) ag,own 1 3 0 R,own 0 3 0 (bu (fun i=>aT (rat (x i) ag)) c2),int i64 (↑e:Int)],[(0,ax.mk true true 3 n fun i=>rat (aT (rat (x i) ag)) ag),(1,ax.mk true true 3 R fun i=>rat (q i) ag)]))):=ah
theorem RM {n e R L:Nat} {d x q:Nat->Rat}:cG T oN [] 60 f88 [part rW [1,1,1,1,1]] ⟨aC qn (uE e d R L),vk n R x q,2⟩=
  some (aj [R<=R,R<2^40,pP (fun i=>rat (q i) ag) R ag] (leaf ret [ak 3 (bu (fun i=>aT (rat (q i) ag)) R) fun i=>rat (aT (rat (q (i+0)) ag)) ag,ak 3 L fun i=>rat (x (i+0)) ag])):=ah
theorem UB:aY P rj 114:=by
 intro K args pre r h
 unfold rj at h
 split at h
 ·rename_i h1
  exact O5 K args pre r (h1.trans h)
 ·exact Eh K args pre r h
theorem DM:bI P oN:=fu (aI aag (aI UB (aI (iG fun _ _ K hn=>DC hn.1 hn.2 K) gD)))
def kX (n e:Nat) (d a:Nat->Rat):Prop:=(∀j,j<=n-e->cB n (bP e d a (n-e) j))/\cB (n-e) (cS e d a (n-e))
abbrev qY (n e:Nat) (d a:Nat->Rat):AV:=.tuple [aV (cS e d a (n-e)) (bu (cS e d a (n-e)) (n-e)) ag,aV (bP e d a (n-e) (n-e)) (bu (bP e d a (n-e) (n-e)) n) ag]
theorem HE {e:Nat} {a d:Nat->Rat} (he:e<2^30) (K:Nat):aO P 88 K [aV a 0 ag,aV d (e+1) ag] [] (aJ (qY 0 e d a) []):=by
 refine cj hT DM hm Al rfl aX rfl 60 Pc (fun _=>?_) K []
 simp only[af.all,az,bB]
 have e0:bu (cS e d a (0-e)) (0-e)=0:=by rw[Nat.zero_sub];rfl
 refine⟨fun i hi=>absurd hi (Nat.not_lt_zero i),aa,aa,aa,⟨fun i hi=>absurd hi (Nat.not_lt_zero i),aa⟩,?_⟩
 show bA _ _/\bA _ _/\True
 rw[e0]
 exact⟨gk fun i hi=>absurd hi (Nat.not_lt_zero i),gk fun i hi=>absurd hi (Nat.not_lt_zero i),trivial⟩
theorem KE {n e:Nat} {a d:Nat->Rat} (hn:n+1<2^30) (he:e<2^30) (ha:a n≠0) (hd:d e≠0) (hz:kX (n+1) e d a) (K:Nat):aO P 88 K [aV a (n+1) ag,aV d (e+1) ag] [] (aJ (qY (n+1) e d a) []):=by
 refine gB (r:=aJ (qY (n+1) e d a) []) hT Al rfl aX rfl (fun _ cx h0=>?_) K []
 have hk:=j9 h0
 have hW:=dw
 obtain⟨N,hN⟩:∃N,N=n+1:=⟨_,rfl⟩
 obtain⟨R,hR⟩:∃R,R=N-e:=⟨_,rfl⟩
 have hRr:R=n+1-e:=aa
 unfold kX at hz
 rw[<-hN,<-hR]at hz
 obtain⟨hzR,hzQ⟩:=hz
 refine au.Xi hT DM hm (x:=rW) [1,1,1,1,0] (i:=0) (y:=AJ) ah ah Al.dst [1] (j:=1) (x1:=tX) ah ah ah [1,1,1,0,1] (i2:=2) (y2:=part tX [1,1,1,0,1,0,0]) ah ah rfl ah hk
  (f1:=[20]) (f2:=[29]) (f3:=[]) (f4:=[58]) (f5:=[]) 60 qn uV 2 3 (fun a:Nat×(Nat->Rat)×(Nat->Rat)=>uE e d R a.1) (fun a=>vk N R a.2.1 a.2.2) (fun b=>jx N e R d a b.1 b.2.1 b.2.2/\cB N b.2.1) (fun b=>jx N e R d a b.1 b.2.1 b.2.2/\b.1<=e) (fun b=>b.1) (fun b=>e<b.1) (fun _=>False) (fun _=>False)
  (fun b (i:Nat)=>Bl e d R b.1 (b.1-1-e) i) (fun b i=>De N R (ej e d b.2.1 (b.1-1-e) (b.2.1 (b.1-1)/d e) i) (fun j=>if j=b.1-1-e then b.2.1 (b.1-1)/d e else b.2.2 j) (b.2.1 (b.1-1)/d e)) (fun b i=>i<=e/\cB N (ej e d b.2.1 (b.1-1-e) (b.2.1 (b.1-1)/d e) i)) (fun b i=>i=e/\cB N (ej e d b.2.1 (b.1-1-e) (b.2.1 (b.1-1)/d e) e)) (fun _ i=>e-i)
  ⟨_,Sw,?_⟩ (fun b ⟨hb,hx⟩=>⟨_,VK,?_⟩) (fun b ⟨hb,hx⟩ hG=>⟨_,R5,?_⟩) (fun b ⟨hb,hx⟩ hG i ⟨hi,hxi⟩=>⟨_,Mp,?_⟩) (fun b ⟨hb,hx⟩ hG i ⟨hi,hxi⟩=>⟨_,Xw,?_⟩) (fun b s' ⟨hb,hle⟩ hs'=>?_) (fun _ _ h=>h.elim) (fun _ _ h=>h.elim)
 ·simp only[af.all,az,bz,bB]
  have hs0:jx N e R d a N a fun _=>0:=jx.start hR (.inr (by rw[hN];exact ha))
  have hsz:cB N a:=hzR 0 (Nat.zero_le _)
  refine⟨⟨dg aP,hn⟩,aa,fun h=>⟨aa,(N,a,fun _=>0),⟨hs0,hsz⟩,[(0,12288),(1,69632)],rfl,?_,rfl,bg rfl rfl hN.symm (fun j hj=>bH rfl rfl) (bg rfl rfl aa (fun j hj=>.inr ⟨rfl,dj rfl aa⟩) trivial)⟩,fun h=>?_⟩
  ·rw[show((n+1:Nat):Int)-(((e+1:Nat):Int)-1)=(R:Nat) by omega,show((e+1:Nat):Int)-1=(e:Nat) by omega,bw,<-hN];rfl
  ·have h0:R=0:=aa
   clear hzR hzQ
   subst h0
   refine⟨(N,a,fun _=>0),⟨hs0,hsz⟩,[(0,12288)],rfl,?_,rfl,bg rfl rfl hN.symm (fun j hj=>bH rfl rfl) (kP rfl aa aa trivial)⟩
   rw[show((e+1:Nat):Int)-1=(e:Nat) by omega,<-hN];rfl
 ·obtain⟨L,x,q⟩:=b
  simp only[af.all,az,bz,bB]
  have re:dr [] ([ak 3 (e+1) fun i=>rat (d i) ag,own 1 3 0 R,own 0 3 0 L,int i64 (↑e:Int)],[(0,ax.mk true true 3 N fun i=>rat (x i) ag),(1,ax.mk true true 3 R fun i=>rat (q i) ag)]) (uE e d R L) (vk N R x q) 2:=⟨[(0,0),(1,1)],rfl,rfl,rfl,bg rfl rfl rfl (fun j hj=>bH rfl rfl) (bg rfl rfl rfl (fun j hj=>bH rfl rfl) trivial)⟩
  exact⟨fun h=>⟨aa,re⟩,fun h=>⟨rfl,(L,x,q),⟨hb,by dsimp only;omega⟩,re⟩⟩
 ·obtain⟨L,x,q⟩:=b
  have hl:=hb.le
  have hG:e<L:=hG
  dsimp only at hl hb
  have hq:=hb.quot hR hG
  have hf:Sz (x (L-1)/d e) ag:=by rw[hq];exact hzQ _ aa
  simp only[af.all,az,Nat.add_zero]
  rw[show((L:Int)-1).toNat=L-1 by omega,show((L:Int)-1-(e:Int)).toNat=L-1-e by omega,bw]
  have hu0:ej e d x (L-1-e) (x (L-1)/d e) 0=x:=by funext j;unfold ej;rw[if_neg aa]
  refine⟨aa,aa,aa,aa,0,⟨Nat.zero_le _,by rw[hu0];exact hx⟩,[(0,0),(1,1),(2,81922)],rfl,?_,rfl,?_⟩
  ·rw[show(L:Int)-1-(e:Int)=(L-1-e:Nat) by omega];rfl
  ·refine jt rfl rfl (.inr ⟨rfl,dF rfl hf⟩) (bg rfl rfl rfl (fun j hj=>.inr ⟨rfl,dj (by rw[hu0]) aP⟩) (bg rfl rfl rfl (fun j hj=>?_) trivial))
   exact kM (x:=q) (y:=fun j=>if j=L-1-e then x (L-1)/d e else q j) (dF (if_pos rfl).symm (by show Sz (if _ then _ else _) _;rw[if_pos rfl];exact hf)) fun hj=>dj (if_neg hj).symm aP
 ·obtain⟨L,x,q⟩:=b
  have hl:=hb.le
  have hG:e<L:=hG
  dsimp only at hl hb hi hxi
  simp only[af.all,az,bz,bB,Nat.add_zero]
  rw[show((L-1-e:Nat):Int)+(i:Int)=(L-1-e+i:Nat) by omega,bw,bw]
  generalize hf:x (L-1)/d e=f at*
  have h1:∀j,j≠L-1-e+i->ej e d x (L-1-e) f i j=ej e d x (L-1-e) f (i+1) j:=fun j hj=>by
   unfold ej
   by_cases h2:L-1-e<=j/\j<L-1-e+i
   ·rw[if_pos h2,if_pos aa]
   ·rw[if_neg h2,if_neg aa]
  have h2:ej e d x (L-1-e) f i (L-1-e+i)-f*d i=ej e d x (L-1-e) f (i+1) (L-1-e+i):=by
   unfold ej
   rw[if_neg aa,if_pos aa,show L-1-e+i-(L-1-e)=i by omega]
  refine⟨fun h=>?_,fun h=>⟨rfl,i,⟨aa,by rw[show i=e by omega]at hxi;exact hxi⟩,[(0,0),(1,1),(2,2)],rfl,rfl,rfl,cZ (bg rfl rfl rfl (fun j hj=>bH rfl rfl) (bg rfl rfl rfl (fun j hj=>bH rfl rfl) trivial))⟩⟩
  have hs:Sz (ej e d x (L-1-e) f (i+1) (L-1-e+i)) ag:=by
   subst hf
   rw[hb.Mc hR hG (i:=i+1) aa aa aa]
   exact hzR _ aa _ aa
  refine⟨aa,aa,aa,i+1,⟨aa,fun j hj=>?_⟩,by dsimp only;omega,[(0,0),(1,1),(2,2)],rfl,rfl,rfl,cZ (bg rfl rfl rfl (fun j hj=>?_) (bg rfl rfl rfl (fun j hj=>bH rfl rfl) trivial))⟩
  ·by_cases h3:j=L-1-e+i
   ·rw[h3];exact hs
   ·rw[<-h1 j h3];exact hxi j hj
  ·exact kM (x:=ej e d x (L-1-e) f i) (y:=ej e d x (L-1-e) f (i+1)) (dF h2 hs) fun hj=>dj (h1 j hj) aP
 ·obtain⟨L,x,q⟩:=b
  have hl:=hb.le
  have hG:e<L:=hG
  dsimp only at hl hb hi hxi
  subst hi
  simp only[af.all,az]
  rw[show((L:Int)-1).toNat-(0:Int).toNat=L-1 by omega]
  exact⟨⟨aa,aa,aa,aa,fun j hj=>⟨rfl,.refl _⟩⟩,(_,_,_),⟨hb.next hR hd hG,hxi⟩,Nat.lt_of_le_of_lt fk (show L-1<L by omega),[(0,0),(1,1)],rfl,rfl,rfl,bg rfl rfl rfl (fun j hj=>bH rfl rfl) (bg rfl rfl rfl (fun j hj=>bH rfl rfl) trivial)⟩
 ·obtain⟨L,x,q⟩:=b
  dsimp only at hb hle
  obtain⟨f1,f2,f3⟩:=hb.fin hR hle
  have hl:=hb.le
  rw[show behind rW [1,1,1,1,0]=[part rW [1,1,1,1,1]]from by kernel_rfl]
  refine aE.weak rfl hs' (aE.mono (fun _ _ h=>.inl h) (aE.fin hT DM hm 60 RM ah ?_))
  simp only[af.all,az,Nat.add_zero]
  refine⟨⟨aP,aa,fun j hj=>⟨rfl,.refl _⟩⟩,?_⟩
  show bA _ _/\bA _ _/\True
  rw[<-hN,<-hR,<-f1,<-Aa (k:=q) f3]
  exact⟨gk fun i hi=>dj (f3 i (Nat.lt_of_lt_of_le hi fk)) aP,gk fun i hi=>dj (f2 i hi) aP,trivial⟩
def xl:Spec:=dU (kC (kL ag) (kC (kL ag) kN)) (fun a=>qY a.1.1 (a.2.1.1-1) a.2.1.2 a.1.2) fun a=>[a.1.1<2^30,1<=a.2.1.1,a.2.1.1<2^30,a.1.1=0\/a.1.2 (a.1.1-1)≠0,a.2.1.2 (a.2.1.1-1)≠0,kX a.1.1 (a.2.1.1-1) a.2.1.2 a.1.2]
theorem Ca:aY P xl 88:=dD fun⟨⟨n,a⟩,⟨m,d⟩,_⟩ K hn=>by
 obtain⟨h1,h2,h3,h4,h5,h6⟩:=hn
 simp only at h1 h2 h3 h4 h5 h6
 obtain⟨e,rfl⟩:∃e,m=e+1:=⟨m-1,aa⟩
 cases n with
 |zero=>exact HE aa K
 |succ n=>exact KE h1 aa (by simpa using h4) h5 h6 K
end Go.Am.B
