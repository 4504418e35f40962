/- bz by the shape of the arguments: numbers, points, planes, maps. -/
import Derived.Test.YtolopdkjjlfgjaaGreatB33
import Init
import Derived.Test.YtolopdkjjlfgjaaGreatZ2
set_option linter.unusedVariables false
noncomputable section
namespace Go.Am.B
open Go Go.Am.N AV Proofs.Tryz IntKind
@[ext] structure V3 where
 x:Rat
 y:Rat
 z:Rat
abbrev rA (q:Rat) (n:Nat):AV:=.rat q n
abbrev vA (v:V3) (n:Nat):AV:=.agg [.rat v.x n,.rat v.y n,.rat v.z n]
theorem dM {q r:Rat} {n k:Nat} (h:q=r) (hk:n<=k):bg (.rat q n) (.rat r k):=h▸oN hk
structure Kind (α:Type) where
 read:AV->Option (α×List Prop)
 make:α->AV
 ok:∀{v:AV} {a:α} {q:List Prop},read v=some (a,q)->az q->bg v (make a)
def oQ:AV->Option (Rat×Nat)
 |.rat q n=>some (q,n)
 |.agg [.bool false,.mag 0,.mag 0]=>some (0,1)
 |_=>none
theorem yU {v:AV} {a:Rat×Nat} (h:oQ v=some a):bg v (rA a.1 a.2):=by
 unfold oQ at h
 split at h
 ·simp only[ay]at h;subst h;exact .refl _
 ·simp only[ay]at h;subst h;exact pF
 ·simp at h
def FH (v:AV):Option ((Rat×Nat)×List Prop):=match oQ v with
 |some a=>some (a,[])
 |none=>none
theorem ZZ {v:AV} {a:Rat×Nat} {q:List Prop} (h:FH v=some (a,q)) (_:az q):bg v (rA a.1 a.2):=by
 unfold FH at h
 split at h
 ·rename_i h1
  simp only[ay,Prod.mk.injEq]at h
  obtain⟨rfl,rfl⟩:=h
  exact yU h1
 ·simp at h
def kR:Kind (Rat×Nat):=⟨FH,fun a=>rA a.1 a.2,ZZ⟩
section specs
variable {α β γ δ:Type} {f:FuncId}
def Ec (k:Kind α) (g:α->AV) (need:α->List Prop):Spec:=cw fun l=>match l with
 |[x]=>match k.read x with
  |some (a,p)=>some (aM (g a) (p++need a))
  |none=>none
 |_=>none
theorem MK {k:Kind α} {g:α->AV} {need:α->List Prop} (h:∀a K,az (need a)->aS P f K [k.make a] [] (aM (g a) [])):bf P (Ec k g need) f:=by
 refine dc fun K args r hk hs _=>?_
 split at hs
 ·split at hs
  ·rename_i h1
   simp only[ay]at hs
   subst hs
   intro hn
   obtain⟨n1,hn⟩:=gB.1 hn
   exact gT (h _ K hn) hk ⟨k.ok h1 n1,trivial⟩ [] trivial
  ·simp at hs
 ·simp at hs
def jo (k:Kind α) (k2:Kind β) (g:α->β->AV) (need:α->β->List Prop):Spec:=cw fun l=>match l with
 |[x,y]=>match k.read x,k2.read y with
  |some (a,p),some (b,q)=>some (aM (g a b) (p++(q++need a b)))
  |_,_=>none
 |_=>none
theorem jB {k:Kind α} {k2:Kind β} {g:α->β->AV} {need:α->β->List Prop} (h:∀a b K,az (need a b)->aS P f K [k.make a,k2.make b] [] (aM (g a b) [])):bf P (jo k k2 g need) f:=by
 refine dc fun K args r hk hs _=>?_
 split at hs
 ·split at hs
  ·rename_i h1 h2
   simp only[ay]at hs
   subst hs
   intro hn
   obtain⟨n1,hn⟩:=gB.1 hn
   obtain⟨n2,hn⟩:=gB.1 hn
   exact gT (h _ _ K hn) hk ⟨k.ok h1 n1,k2.ok h2 n2,trivial⟩ [] trivial
  ·simp at hs
 ·simp at hs
end specs
def qk (a b:Rat×Nat):List Prop:=[a.2<2^42,b.2<2^42]
def oF (a b:Rat×Nat):List Prop:=[a.2<2^41,b.2<2^41]
def w7 (a b:Rat×Nat):AV:=rA (a.1+b.1) (a.2+b.2+1)
def LB (a b:Rat×Nat):AV:=rA (a.1-b.1) (a.2+b.2+1)
def Fg (a b:Rat×Nat):AV:=rA (a.1*b.1) (a.2+b.2)
def Da (a b:Rat×Nat):AV:=.tuple [rA (a.1/b.1) (a.2+b.2),.int .i64 (if b.1=0 then 3 else 0)]
def LD (a b:Rat×Nat):AV:=.int .i64 (js a.1 b.1)
def J7 (a b:Rat×Nat):AV:=.bool (decide (a.1=b.1))
def JX (a:Rat×Nat):AV:=.int .i64 (bN a.1)
abbrev Dn:FuncId×Spec:=(71,KW)
def iC:bz:=[(128,jo kR kR w7 qk),(143,jo kR kR LB qk),(129,jo kR kR Fg qk),(110,jo kR kR J7 qk),(58,jo kR kR LD qk),(65,Ec kR JX fun a=>[a.2<2^42]),Dn]
def iK:bz:=[(92,jo kR kR w7 oF),(53,jo kR kR LB oF),(90,jo kR kR Fg oF),(26,jo kR kR J7 oF),(27,jo kR kR LD oF),(24,Ec kR JX fun a=>[a.2<2^41]),(23,Ek)]
theorem adK:bf P Dn.2 Dn.1:=UR
theorem iF:bU P iC:=aL (jB fun _ _ K hn=>YB hn.1 hn.2 K) (aL (jB fun _ _ K hn=>aa7 hn.1 hn.2 K) (aL (jB fun _ _ K hn=>Mn hn.1 hn.2 K)
 (aL (jB fun _ _ K hn=>Ue (Nat.lt_trans hn.1 aa) (Nat.lt_trans hn.2 aa) K []) (aL (jB fun _ _ K hn=>M9 hn.1 hn.2 K []) (aL (MK fun _ K hn=>Lg (Nat.lt_trans hn aa) K []) (aL adK cG))))))
theorem iP:bU P iK:=aL (jB fun _ _ K hn=>Pg hn.1 hn.2 K) (aL (jB fun _ _ K hn=>ahA hn.1 hn.2 K) (aL (jB fun _ _ K hn=>Xv hn.1 hn.2 K)
 (aL (jB fun _ _ K hn=>aho (Nat.lt_trans hn.1 aa) (Nat.lt_trans hn.2 aa) K []) (aL (jB fun _ _ K hn=>SN hn.1 hn.2 K) (aL (MK fun _ K _=>NI K []) (aL Jj cG))))))
end Go.Am.B
namespace Go.Am.B
structure Kn (n p:Nat) (k:Nat->Rat):Prop where
 p1:1<=p
 len:2*p+2<=n
 sorted:∀i,i+1<n->k i<=k (i+1)
 first:∀i,i<=p->k i=k 0
 last:∀i,n<=i+p+1->i<n->k i=k (n-1)
 mult:∀i,1<=i->i+p+1<n->k i<k (i+p)
theorem DU {n:Nat} {k:Nat->Rat} (h:∀i,i+1<n->k i<=k (i+1)) {i:Nat}:∀{j:Nat},i<=j->j<n->k i<=k j
 |0,hij,_=>by
    have:i=0:=by omega
    subst this;exact Rat.le_refl
 |j+1,hij,hj=>by
  by_cases he:i=j+1
  ·subst he;exact Rat.le_refl
  ·exact Rat.le_trans (DU h (j:=j) (by omega) (by omega)) (h j hj)
theorem Kn.mono {n p:Nat} {k:Nat->Rat} (h:Kn n p k) {i j:Nat} (hij:i<=j) (hj:j<n):k i<=k j:=DU h.sorted hij hj
def fr (a b t:Rat):Rat:=(t-a)/(b-a)
def vB (k:Nat->Rat) (i:Nat) (t:Rat):Nat->Nat->Rat
 |0,j=>if j=0 then 1 else 0
 |d+1,j=>(if j=0 then 0 else fr (k (i-d+(j-1))) (k (i-d+(j-1)+(d+1))) t*vB k i t d (j-1))+
   (if j<=d then(1-fr (k (i-d+j)) (k (i-d+j+(d+1))) t)*vB k i t d j else 0)
structure At (n:Nat) (k:Nat->Rat) (i:Nat):Prop where
 lt:i+1<n
 sorted:∀i,i+1<n->k i<=k (i+1)
 wide:k i<k (i+1)
def ahT (k:Nat->Rat) (b p r:Nat) (t:Rat) (x:Nat->Rat) (j:Nat):Rat:=
 if r<j then x (j-1)+fr (k (b+j)) (k (b+j+(p-r))) t*(x j-x (j-1))else x j
def bl (k:Nat->Rat) (b p:Nat):Nat->(Nat->Rat)->List Rat->Nat->Rat
 |_,x,[]=>x
 |r,x,t::l=>bl k b p (r+1) (ahT k b p r t x) l
variable {k:Nat->Rat} {b p:Nat}
variable {n:Nat}
end Go.Am.B
namespace Go.Am.B
open AV
def aQ:AV->Rat
 |.rat q _=>q
 |_=>0
def cZ (f:Nat->AV) (n s:Nat):Prop:=∀i,i<n->bg (f i) (.rat (aQ (f i)) s)
abbrev bp (k:Nat->Rat) (n s:Nat):AV:=.ak 3 n (fun i=>.rat (k i) s)
theorem dU {k:Nat->Rat} {n s s':Nat} (h:s<=s'):cZ (fun i=>.rat (k i) s) n s':=fun _ _=>oN h
theorem ZL {f:Nat->AV} {n s:Nat} (h:cZ f n s):bg (.ak 3 n f) (bp (fun i=>aQ (f i)) n s):=ir h
def rW:AV->Option (Nat×(Nat->AV))
 |.ak 3 n f=>some (n,f)
 |.nil=>some (0,fun _=>.rat 0 1)
 |_=>none
theorem aa0 {v:AV} {n s:Nat} {f:Nat->AV} (h:rW v=some (n,f)) (ha:cZ f n s):bg v (bp (fun i=>aQ (f i)) n s):=by
 unfold rW at h
 split at h
 ·simp only[ay,Prod.mk.injEq]at h
  obtain⟨rfl,rfl⟩:=h
  exact ZL ha
 ·simp only[ay,Prod.mk.injEq]at h
  obtain⟨rfl,rfl⟩:=h
  exact lS aa
 ·simp at h
end Go.Am.B
namespace Go.Am
def bn:Nat->Nat->Nat
 |_,0=>1
 |0,_+1=>0
 |n+1,k+1=>bn n k+bn n (k+1)
theorem rF (n:Nat):bn n 0=1:=by cases n<;>rfl
theorem oS (n k:Nat):bn (n+1) (k+1)=bn n k+bn n (k+1):=rfl
theorem nS:∀{n k:Nat},n<k->bn n k=0
 |0,_+1,_=>rfl
 |n+1,k+1,h=>by rw[oS,nS (by omega),nS (by omega)]
theorem IL:∀n:Nat,bn n n=1
 |0=>rfl
 |n+1=>by rw[oS,IL n,nS (by omega)]
theorem rL:∀n k:Nat,bn n k<=2^n
 |0,0=>by decide
 |0,_+1=>by rw[nS (by omega)];exact Nat.zero_le _
 |n+1,0=>by rw[rF];exact Nat.one_le_two_pow
 |n+1,k+1=>by
  have h1:=rL n k
  have h2:=rL n (k+1)
  rw[oS,Nat.pow_succ];omega
theorem AX:∀{n k:Nat},k<=n->0<bn n k
 |n,0,_=>by rw[rF];exact Nat.one_pos
 |n+1,k+1,h=>by
  have:=AX (n:=n) (k:=k) (by omega)
  rw[oS];omega
theorem BZ {n k:Nat} (h:n<=40):bn n k<=2^40:=Nat.le_trans (rL n k) (Nat.pow_le_pow_right (by decide) h)
theorem Cx:∀n k:Nat,(k+1)*bn n (k+1)=(n-k)*bn n k
 |0,0=>rfl
 |0,k+1=>by rw[nS (by omega),Nat.zero_sub];simp
 |n+1,0=>by
  have:=Cx n 0
  simp only[rF,Nat.zero_add,Nat.one_mul,Nat.sub_zero,Nat.mul_one]at this ⊢
  rw[oS,rF,this];omega
 |n+1,k+1=>by
  have h1:=Cx n k
  have h2:=Cx n (k+1)
  rw[oS n (k+1),oS n k,show n+1-(k+1)=n-k by omega]
  by_cases h:k+1<=n
  ·obtain⟨m,rfl⟩:∃m,n=k+1+m:=⟨n-(k+1),by omega⟩
   rw[show k+1+m-(k+1)=m by omega]at h2
   rw[show k+1+m-k=m+1 by omega]at h1 ⊢
   generalize bn (k+1+m) (k+1+1)=A at*
   generalize bn (k+1+m) (k+1)=B at*
   generalize bn (k+1+m) k=C at*
   have e1:(k+1+1)*(B+A)=(k+1)*B+B+(k+1+1)*A:=by rw[Nat.mul_add,Nat.add_mul (k+1) 1 B,Nat.one_mul]
   have e2:(m+1)*(C+B)=(m+1)*C+(m*B+B):=by rw[Nat.mul_add,Nat.add_mul m 1 B,Nat.one_mul]
   rw[e1,e2,h2,h1];omega
  ·rw[nS (n:=n) (k:=k+1+1) (by omega)]
   by_cases h3:k=n
   ·subst h3
    rw[nS (by omega),Nat.sub_self];simp
   ·rw[nS (n:=n) (k:=k+1) (by omega),nS (n:=n) (k:=k) (by omega)];simp
end Go.Am
namespace Go.Am.B
open Go Go.Am.N AV af aq IntKind Proofs.Tryz
abbrev qJ (n:Nat) (g:Nat->Int):ax:=⟨true,true,1,n,fun i=>.int .i64 (g i)⟩
abbrev cy (m:Nat) (k:Nat->Rat) (s:Nat):ax:=⟨true,true,3,m,fun i=>.rat (k i) s⟩
def GZ:bz:=zG::iC
abbrev Cm:Code:=aI f158
abbrev xd:Code:=part Cm [1,1,0,1,0,0]
abbrev CT:Code:=part xd [1,1,0,0]
abbrev tu:Code:=part Cm [1,1,1]
abbrev sA:List Nat:=[0,3,9,10]
abbrev Cu (n r:Nat):List AV:=[.int .i64 n,.own 0 1 0 (r+1),.int .i64 n,.int .i64 r]
abbrev wQ:List Nat:=[0,3,9,10,4]
abbrev EA (n r j:Nat):List AV:=[.int .i64 n,.own 0 1 0 (r+1+1),.int .i64 n,.int .i64 r,.int .i64 j]
abbrev xB:List Nat:=[37,5,38,39]
abbrev Hg (n i:Nat):List AV:=[.own 0 1 0 (n+1),.own 1 3 0 (n+1),.int .i64 (n+1:Nat),.int .i64 i]
abbrev GO (n:Nat) (g:Nat->Int) (x:Nat->Rat):aE:=[(1,cy (n+1) x 64),(0,qJ (n+1) g)]
theorem J1:br 158 f158:=bu func158
theorem Qn {n:Nat}:aH T GZ [] 60 sA (before Cm [1,1,0,1]) ⟨aU 0 [.int .i64 n],[],0⟩=
  some (aj [(1:Nat)*1<=2^24] (leaf normal ([int i64 (↑n:Int),own 4096 1 0 1,int i64 (↑n:Int),int i64 0],[(4096,ax.mk true true 1 1 fun i=>nth [int i64 1] (int i64 0) i)]))):=ah
theorem aeR {n r:Nat} {g:Nat->Int}:aH T GZ [11] 60 sA (before xd [1,1,0]) ⟨aB sA (Cu n r),[(0,qJ (r+1) g)],1⟩=
  let c2:Int:=(↑n:Int);let c1:List AV×aE:=([int i64 c2,own 0 1 0 (r+1),int i64 c2,int i64 (↑r:Int)],[(0,ax.mk true true 1 (r+1) fun i=>int i64 (g i))]);some (fork (decide ((↑r:Int)<c2)) (leaf normal c1) (leaf (exit 0) c1)):=ah
theorem agp {n r:Nat} {g:Nat->Int}:aH T GZ [] 60 wQ (before CT [1,1]) ⟨aB sA (Cu n r),[(0,qJ (r+1) g)],1⟩=
  let c3:Nat:=r+1;let c1:Nat:=c3+1;let c2:Int:=(↑c1:Int)-2;some (aj [(1:Nat)*1<=2^24,c1*((8:Nat)+1)*2<=2^47] (aj [-(2:Int)^63<=c2/\c2<2^63] (leaf normal ([int i64 (↑n:Int),own 8193 1 0 c1,int i64 (↑n:Int),int i64 (↑r:Int),int i64 c2],[(8193,ax.mk true true 1 c1 fun i=>if i<c3 then int i64 (g i)else nth [int i64 1] (int i64 0) (i-c3+0))])))):=ah
theorem QJ {n r j:Nat} {g:Nat->Int}:aH T GZ [19] 60 wQ [part CT [1,1,0,0]] ⟨aB wQ (EA n r j),[(0,qJ (r+1+1) g)],1⟩=
  let c7:AV:=int i64 (↑n:Int);let c5:Int:=(↑j:Int);let c4:Int:=(2:Int)^63;let c1:Nat:=r+1+1;let c9:Prop:=(0:Int)<=c5/\c5.toNat<c1;let c8:AV:=own 0 1 0 c1;let c3:Nat:=c5.toNat+0;let c2:Int:=c5-1;let c6:Int:=g c3+g (c2.toNat+0);some (fork (decide (c5>0)) (aj [c9,c3<c1,-c4<=c2/\c2<c4,(0:Int)<=c2/\c2.toNat<c1,c2.toNat+0<c1,-c4<=c6/\c6<c4,c9,c3<c1] (aj [-c4<=c2/\c2<c4] (leaf normal ([c7,c8,c7,int i64 (↑r:Int),int i64 c2],[(0,ax.mk true true 1 c1 fun j=>int i64 (bif j==c3 then c6 else g j))])))) (leaf (exit 2) ([c7,c8,c7,int i64 (↑r:Int),int i64 c5],[(0,ax.mk true true 1 c1 fun i=>int i64 (g i))]))):=ah
theorem Vu {n r j:Nat} {g:Nat->Int}:aH T GZ [] 60 sA [part xd [1,1,1]] ⟨aB wQ (EA n r j),[(0,qJ (r+1+1) g)],1⟩=
  let c2:Nat:=r+1+1;let c1:Int:=(↑r:Int)+1;some (aj [-(2:Int)^63<=c1/\c1<2^63] (leaf normal ([int i64 (↑n:Int),own 0 1 0 c2,int i64 (↑n:Int),int i64 c1],[(0,ax.mk true true 1 c2 fun i=>int i64 (g i))]))):=ah
theorem TL {n r:Nat} {g:Nat->Int}:aH T GZ [] 60 xB (before tu [1,0,1]) ⟨aB sA (Cu n r),[(0,qJ (r+1) g)],1⟩=
  let c1:Int:=(↑(r+1):Int);some (aj [(0:Int)<=c1/\c1<=c1/\c1<=2^47/\c1*(↑(56:Nat):Int)<=2^47] (leaf normal ([own 0 1 0 (r+1),own 8193 3 0 c1.toNat,int i64 c1,int i64 0],[(8193,ax.mk true true 3 c1.toNat fun x=>rat 0 1),(0,ax.mk true true 1 (r+1) fun i=>int i64 (g i))]))):=ah
theorem Tt {n i:Nat} {g:Nat->Int} {x:Nat->Rat}:aH T GZ [40] 60 xB [part tu [1,0,1,0,0]] ⟨aB xB (Hg n i),GO n g x,2⟩=
  let c4:Int:=(2:Int)^63;let c3:Int:=(↑i:Int);let c2:Nat:=n+1;let c10:Int:=c3+1;let c9:Int:=(↑c2:Int);let c7:AV:=own 0 1 0 c2;let c6:AV:=own 1 3 0 c2;let c5:Nat×ax:=(0,ax.mk true true 1 c2 fun i=>int i64 (g i));let c1:Nat:=c3.toNat+0;let c8:List Prop:=[(0:Int)<=c3/\c3.toNat<c2,c1<c2];some (fork (decide (c3<c9)) (aj c8 (aj ((-c4<=g c1)::(g c1<c4)::c8) (aj [-c4<=c10/\c10<c4] (leaf normal ([c7,c6,int i64 c9,int i64 c10],[(1,ax.mk true true 3 c2 fun j=>rat (bif j==c1 then(↑(g c1):Rat)else x j) (bif j==c1 then Max.max 1 (bX (g c1).natAbs)else 64)),c5]))))) (leaf (exit 4) ([c7,c6,int i64 c9,int i64 c3],[(1,ax.mk true true 3 c2 fun i=>rat (x i) 64),c5]))):=ah
theorem Yx {n i:Nat} {g:Nat->Int} {x:Nat->Rat}:cR T GZ [] 60 f158 [part tu [1,1]] ⟨aB xB (Hg n i),GO n g x,2⟩=
  some (leaf ret [ak 3 (n+1) fun i=>rat (x (i+0)) 64]):=ah
theorem oY:bU P GZ:=gH iF
def oX (r j i:Nat):Int:=if i<=j then(if i=r+1 then 1 else(bn r i:Int))else bn (r+1) i
theorem Ov {r j i:Nat} (hr:r<40) (hi:i<=r):-2^41<=oX r j i/\oX r j i<=2^40:=by
 have h1:=BZ (n:=r) (k:=i) aa
 have h2:=BZ (n:=r+1) (k:=i) aa
 unfold oX;rw[if_neg (c:=i=r+1) aa];split<;>omega
theorem Uz {n:Nat} (hn:n<=40) (K:Nat):aS P 158 K [.int .i64 n] [] (aM (bp (fun i=>((bn n i:Int):Rat)) (n+1) 64) []):=by
 refine iE (r:=aM (bp (fun i=>((bn n i:Int):Rat)) (n+1) 64) []) hT J1 rfl aZ rfl (fun _ cx h0=>?_) K []
 have hk:=mR h0
 refine au.qp hT oY hm (x:=Cm) [1,1,0,1] (i:=0) (y:=xd) (z:=tu) ah ah ah J1.dst [1,1,0] (j:=1) (x1:=CT) (zb:=part xd [1,1,1]) ah ah ah [1,1] (i2:=2) (y2:=part CT [1,1,0,0]) ah ah rfl hk
  (f1:=[]) (f2:=[11]) (f3:=[]) (f4:=[19]) (f5:=[]) 60 sA wQ 1 1 (fun r:Nat=>Cu n r) (fun r=>[(0,qJ (r+1) fun i=>bn r i)]) (fun r=>r<=n) (fun r=>r=n) (fun r=>n-r) (fun r=>r<n) (fun _=>False) (fun _=>False)
  (fun r (j:Nat)=>EA n r j) (fun r j=>[(0,qJ (r+1+1) (oX r j))]) (fun r j=>j<=r) (fun _ j=>j=0) (fun _ j=>j)
  ⟨_,Qn,?_⟩ (fun r hr=>⟨_,aeR,?_⟩) (fun r hr hG=>⟨_,agp,?_⟩) (fun r hr hG j hj=>⟨_,QJ,?_⟩) (fun r hr hG j hj=>⟨_,Vu,?_⟩) (fun r hr=>?_) (fun _ _ h=>h.elim) (fun _ _ h=>h.elim)
 ·simp only[af.all,az]
  refine⟨aa,0,aa,[(0,4096)],rfl,rfl,rfl,bk rfl rfl rfl (fun i hi=>by obtain rfl:i=0:=aa;exact bK rfl rfl) trivial⟩
 ·simp only[af.all,az,bD,bI]
  exact⟨fun h=>⟨aa,[(0,0)],rfl,rfl,rfl,bk rfl rfl rfl (fun i hi=>bK rfl rfl) trivial⟩,fun h=>⟨rfl,r,aa,[(0,0)],rfl,rfl,rfl,bk rfl rfl rfl (fun i hi=>bK rfl rfl) trivial⟩⟩
 ·simp only[af.all,az]
  refine⟨aa,aa,r,aa,[(0,8193)],rfl,?_,rfl,bk rfl rfl rfl (fun i hi=>bK ?_ ?_) trivial⟩
  ·rw[show((r+1+1:Nat):Int)-2=(r:Nat) by omega];rfl
  ·split
   ·rfl
   ·rw[show i-(r+1)+0=0 by omega];rfl
  ·unfold oX
   by_cases h:i<r+1
   ·rw[if_pos h,if_pos aa,if_neg aa]
   ·rw[if_neg h,if_neg aa,show i-(r+1)+0=0 by omega,show i=r+1 by omega,IL];rfl
 ·simp only[af.all,az,bD,bI,bG,Nat.add_zero]
  refine⟨fun h=>?_,fun h=>⟨rfl,j,aa,[(0,0)],rfl,rfl,rfl,bk rfl rfl rfl (fun i hi=>bK rfl rfl) trivial⟩⟩
  obtain⟨m,rfl⟩:∃m,j=m+1:=⟨j-1,aa⟩
  have e1:(((m+1:Nat):Int)-1).toNat=m:=aa
  have h1:=Ov (r:=r) (j:=m+1) (i:=m+1) aa hj
  have h2:=Ov (r:=r) (j:=m+1) (i:=m) aa aa
  rw[e1]
  refine⟨aa,aa,m,aa,by dsimp only;omega,[(0,0)],rfl,?_,rfl,bk rfl rfl rfl (fun i hi=>bK rfl ?_) trivial⟩
  ·rw[show((m+1:Nat):Int)-1=(m:Nat) by omega];rfl
  ·by_cases h:i=m+1
   ·subst h
    simp only[beq_self_eq_true,cond_true]
    unfold oX
    rw[if_pos aa,if_neg aa,if_pos aa,if_neg aa,if_neg aa,oS,Int.natCast_add,Int.add_comm]
   ·have hb:(i==m+1)=false:=by simpa using h
    rw[hb,cond_false]
    unfold oX
    by_cases h2:i<=m
    ·rw[if_pos h2,if_pos aa]
    ·rw[if_neg h2,if_neg aa]
 ·subst hj
  simp only[af.all,az]
  refine⟨aa,r+1,aa,by dsimp only;omega,[(0,0)],rfl,rfl,rfl,bk rfl rfl rfl (fun i hi=>bK rfl ?_) trivial⟩
  show AV.int i64 (oX r 0 i)=AV.int i64 (bn (r+1) i)
  unfold oX
  by_cases h:i<=0
  ·rw[if_pos h,if_neg aa,show i=0 by omega,rF,rF]
  ·rw[if_neg h]
 ·subst hr
  refine au.rz hT oY hm (x:=tu) [1,0,1] (i:=4) (y:=part tu [1,0,1,0,0]) (z:=part tu [1,1]) ah ah ah ah hk (f1:=[]) (f2:=[40]) 60 xB 2 (fun i:Nat=>Hg r i) (fun i=>GO r (fun i=>bn r i) fun j=>if j<i then((bn r j:Int):Rat)else 0)
   (fun i=>i<=r+1) (fun i=>i=r+1) (fun i=>r+1-i) (fun _=>False) ⟨_,TL,?_⟩ (fun i hi=>⟨_,Tt,?_⟩) (fun i hi=>?_) (fun _ _ h=>h.elim)
  ·simp only[af.all,az,bG]
   exact⟨aa,0,aa,[(0,0),(1,8193)],rfl,rfl,rfl,bk rfl rfl rfl (fun i hi=>.inr ⟨rfl,dM (if_neg (Nat.not_lt_zero i)).symm (by decide)⟩) (bk rfl rfl rfl (fun i hi=>bK rfl rfl) trivial)⟩
  ·have h1:=BZ (n:=r) (k:=i) hn
   simp only[af.all,az,bD,bI,bG,Nat.add_zero]
   refine⟨fun h=>⟨aa,aa,aa,i+1,aa,by dsimp only;omega,[(0,0),(1,1)],rfl,rfl,rfl,bk rfl rfl rfl (fun j hj=>.inr ⟨rfl,?_⟩) (bk rfl rfl rfl (fun i hi=>bK rfl rfl) trivial)⟩,fun h=>⟨rfl,i,aa,[(0,0),(1,1)],rfl,rfl,rfl,bk rfl rfl rfl (fun j hj=>bK rfl rfl) (bk rfl rfl rfl (fun i hi=>bK rfl rfl) trivial)⟩⟩
   by_cases h2:j=i
   ·subst h2
    simp only[beq_self_eq_true,cond_true]
    exact dY (if_pos (Nat.lt_succ_self j)).symm (by rw[if_pos (Nat.lt_succ_self j)];exact ze (y:=0) aa aa)
   ·have hb:(j==i)=false:=by simpa using h2
    rw[hb,cond_false,cond_false]
    refine dM ?_ aT
    show(if j<i then _ else _)=if j<i+1 then _ else _
    by_cases h3:j<i
    ·rw[if_pos h3,if_pos aa]
    ·rw[if_neg h3,if_neg aa]
  ·subst hi
   refine au.mQ ((aF.fin hT oY hm 60 Yx ah (ir fun i hi=>dM ?_ aT)).mono fun _ _ h=>.inl h)
   rw[Nat.add_zero,if_pos hi]
def FK:Spec:=cw fun l=>match l with
 |[.int .i64 n]=>some (aM (bp (fun i=>((bn n.toNat i:Int):Rat)) (n.toNat+1) 64) [0<=n,n<=40])
 |_=>none
theorem MU:bf P FK 158:=by
 refine dc fun K args r hk hs _=>?_
 split at hs
 ·rename_i n
  simp only[ay]at hs
  subst hs
  intro hn
  have h1:0<=n:=hn.1
  have h2:n<=40:=hn.2
  have:=Uz (n:=n.toNat) aa K
  rw[Int.toNat_of_nonneg h1]at this
  exact this trivial
 ·simp at hs
open Go Go.Am.N AV Proofs.Tryz IntKind
theorem afj:br 51 f51:=bu func51
def Xr:bz:=[(45,E9),(46,B5)]
theorem RB {d:Int}:cB T Xr [] 60 f51 (aI f51) ⟨aU 0 [.int .i64 d],[],0⟩=
  some (af.aj [(17:Int)≠(0:Int),(0:Int)<12,(12:Int)<2^62] (af.aj [(0:Int)<i64.wrap (i64.wrap ((1:Int)+i64.wrap (d.tdiv (17:Int))%(12:Int))+1),i64.wrap (i64.wrap ((1:Int)+i64.wrap (d.tdiv (17:Int))%(12:Int))+1)<2^62,-(2:Int)^63<=d%i64.wrap (i64.wrap ((1:Int)+i64.wrap (d.tdiv (17:Int))%(12:Int))+1),d%i64.wrap (i64.wrap ((1:Int)+i64.wrap (d.tdiv (17:Int))%(12:Int))+1)<2^63,-(2:Int)^63<=i64.wrap ((1:Int)+i64.wrap (d.tdiv (17:Int))%(12:Int)),i64.wrap ((1:Int)+i64.wrap (d.tdiv (17:Int))%(12:Int))<2^63,(0:Nat)<1] (af.aj [(0:Nat)<1] (af.leaf aq.ret [rat ((↑(d%i64.wrap (i64.wrap ((1:Int)+i64.wrap (d.tdiv (17:Int))%(12:Int))+1)):Rat)/(↑(i64.wrap ((1:Int)+i64.wrap (d.tdiv (17:Int))%(12:Int))):Rat)) 64])))):=ah
def jg (d:Int):Int:=1+i64.wrap (d.tdiv 17)%12
def lY (d:Int):Rat:=((d%(jg d+1):Int):Rat)/((jg d:Int):Rat)
def Ig:Spec:=cw fun l=>match l with
 |[.int .i64 d]=>some (aM (.rat (lY d) 64) [])
 |_=>none
theorem adN:bf P Ig 51:=by
 refine dc fun K args r hk hs _=>?_
 split at hs
 ·rename_i d
  simp only[ay]at hs
  subst hs
  refine cF hT (aL IQ (aL HH cG)) hm afj rfl aZ rfl 60 RB (fun _=>?_) K []
  unfold lY jg
  generalize i64.wrap (d.tdiv 17)=w at*
  have w1:=Int.emod_nonneg w (show(12:Int)≠0 by omega)
  have w2:=Int.emod_lt_of_pos w (show(0:Int)<12 by omega)
  generalize w%12=x at*
  have e1:i64.wrap (1+x)=1+x:=wrap_i64 aa aa
  have e2:i64.wrap (1+x+1)=1+x+1:=wrap_i64 aa aa
  rw[e1,e2]
  have v1:=Int.emod_nonneg d (show 1+x+1≠0 by omega)
  have v2:=Int.emod_lt_of_pos d (show 0<1+x+1 by omega)
  generalize d%(1+x+1)=y at*
  simp only[af.all,az]
  exact⟨⟨aa,aa,aa⟩,⟨aa,aa,aa,aa,aa,aa,aa⟩,aa,.refl _⟩
 ·simp at hs
structure Kd (α:Type) where
 read:AV->Option α
 make:α->AV
 ok:∀{v:AV} {a:α},read v=some a->bg v (make a)
def Hv:AV->Option (V3×Nat)
 |.agg [x,y,z]=>match oQ x,oQ y,oQ z with
  |some (x,a),some (y,b),some (z,c)=>some (⟨x,y,z⟩,max a (max b c))
  |_,_,_=>none
 |_=>none
theorem W5 {v:AV} {a:V3×Nat} (h:Hv v=some a):bg v (vA a.1 a.2):=by
 unfold Hv at h
 split at h
 ·split at h
  ·rename_i h1 h2 h3
   simp only[ay]at h
   subst h
   exact p8 ⟨(yU h1).trans (dM rfl (by simp only;omega)),(yU h2).trans (dM rfl (by simp only;omega)),(yU h3).trans (dM rfl (by simp only;omega)),trivial⟩
  ·simp at h
 ·simp at h
def dV:Kd (V3×Nat):=⟨Hv,fun a=>vA a.1 a.2,W5⟩
section specs
variable {α β γ δ:Type} {f:FuncId}
end specs
def b1 {α:Type} (e:Nat) (a:α×Nat):Bool:=Nat.blt a.2 (2^e)
def b2 {α β:Type} (e:Nat) (a:α×Nat) (b:β×Nat):Bool:=Nat.blt a.2 (2^e)&&Nat.blt b.2 (2^e)
def b3 {α β γ:Type} (e:Nat) (a:α×Nat) (b:β×Nat) (c:γ×Nat):Bool:=Nat.blt a.2 (2^e)&&(Nat.blt b.2 (2^e)&&Nat.blt c.2 (2^e))
end Go.Am.B
namespace Go.Am.B
open Go Go.Am.N AV Proofs.Tryz IntKind
theorem afm:br 148 f148:=bu func148
theorem acC:br 93 f93:=bu func93
theorem VY {q r:Rat} {n m:Nat}:cB T r8 [9] 60 f148 (aI f148) ⟨aU 0 [.rat q n,.rat r m],[],0⟩=
  some (af.aj [(0:Nat)<1] (af.fork ((↑(nl r.num.natAbs):Int)==0) (af.aj [(0:Nat)<1] (af.aj [(0:Nat)<1] (af.leaf aq.ret [agg [AV.bool false,mag 0,mag 0],int .i64 (3:Int)]))) (af.aj [(0:Nat)<1,(0:Nat)<1,(0:Nat)<1,(0:Nat)<1,nl q.num.natAbs<2^39,nl r.den<2^39,(0:Nat)<1,(0:Nat)<1,nl q.den<2^39,nl r.num.natAbs<2^39,nl (q.num.natAbs*r.den)<2^38,nl (q.den*r.num.natAbs)<2^38,q.den*r.num.natAbs≠0,(0:Nat)<1] (af.aj [(0:Nat)<1] (af.leaf aq.ret [rat (sQ (decide (q<0)!=decide (r<0)) (q.num.natAbs*r.den) (q.den*r.num.natAbs)) (dS (sQ (decide (q<0)!=decide (r<0)) (q.num.natAbs*r.den) (q.den*r.num.natAbs))),int .i64 (0:Int)]))))):=ah
theorem acH {q r:Rat} {n m:Nat} (hn:n<2^41) (hm':m<2^41) (K:Nat):aS P 148 K [.rat q n,.rat r m] [] (aM (.tuple [.rat (q/r) (n+m),.int .i64 (if r=0 then 3 else 0)]) []):=by
 refine lQ fun⟨hq,hr,_⟩=>?_
 have hq:Sz q n:=hq
 have hr:Sz r m:=hr
 have d1:=q.den_nz
 have d2:=r.den_nz
 have a1:nl q.num.natAbs<2^38:=gF hq.1 aa
 have a2:nl q.den<2^38:=gF hq.2 aa
 have b1:nl r.num.natAbs<2^38:=gF hr.1 aa
 have b2:nl r.den<2^38:=gF hr.2 aa
 have m1:nl (q.num.natAbs*r.den)<2^38:=gF (qc hq.1 hr.2) aa
 have m3:nl (q.den*r.num.natAbs)<2^38:=gF (qc hq.2 hr.1) aa
 refine cF hT vG hm afm rfl aZ rfl 60 VY (fun _=>?_) K []
 have key:((nl r.num.natAbs:Int)==0)=decide (r=0):=by
  by_cases h:r=0
  ·subst h;rfl
  ·have h1:r.num.natAbs≠0:=fun e=>h (pV.1 e)
   have:=iB.2 h1
   simp only[h,decide_false,beq_eq_false_iff_ne];omega
 rw[key]
 simp only[af.all,az,bD,bI]
 refine⟨aa,fun h0=>?_,fun h0=>?_⟩
 ·refine⟨aa,aa,?_,cq (by rw[if_pos h0]),trivial⟩
  have e:q/r=0:=by rw[h0,Rat.div_def,Rat.inv_zero,Rat.mul_zero]
  obtain⟨k,hk⟩:∃k,n+m=k+1:=⟨n+m-1,by have:=hq.pos;omega⟩
  rw[e,hk]
  first|exact pF|exact oN aa
 ·have hr0:r.num.natAbs≠0:=fun h=>h0 (pV.1 h)
  have hv:=HQ q r h0
  (repeat' with_reducible refine And.intro ?_ ?_)
  all_goals first|omega|exact m1|exact m3|exact Nat.mul_ne_zero d1 hr0|skip
  exact⟨dY hv (hq.div hr),cq (by rw[if_neg h0]),trivial⟩
def Lt:bz:=[(148,jo kR kR Da oF)]
theorem acG:bU P Lt:=aL (jB fun _ _ K hn=>acH hn.1 hn.2 K) cG
theorem UE {q r:Rat} {n m:Nat}:cB T Lt [] 60 f93 (aI f93) ⟨aU 0 [.rat q n,.rat r m],[],0⟩=
  some (af.aj [(0:Nat)<1,(0:Nat)<1,n<2^41,m<2^41,(0:Nat)<1] (af.aj [(0:Nat)<1,(0:Nat)<1] (af.aj [(0:Nat)<1] (af.leaf aq.ret [rat (q/r) (n+m)])))):=ah
theorem BU {q r:Rat} {n m:Nat} (hn:n<2^41) (hm':m<2^41) (K:Nat):aS P 93 K [.rat q n,.rat r m] [] (aM (.rat (q/r) (n+m)) []):=by
 refine cF hT acG hm acC rfl aZ rfl 60 UE (fun _=>?_) K []
 simp only[af.all,az]
 (repeat' with_reducible refine And.intro ?_ ?_)
 all_goals first|omega|exact bg.refl _
def x7 (a b:Rat×Nat):AV:=rA (a.1/b.1) (a.2+b.2)
structure KG (p j:Nat) (k:Nat->Rat) (t:Rat):Prop where
 p1:1<=p
 first:∀i,i<=p->k i=k 0
 top:k (p+j)=t
 sorted:∀i,i<p+j->k i<=k (i+1)
 mult:∀i,1<=i->i<=j->k i<k (i+p)
 half:∀i,i<=p+j->∃z:Int,k i=(z:Rat)/2/\-4<=z/\z<=2+6*(j:Int)
def zP (k:Nat->Rat) (m:Nat) (t:Rat):Nat->Rat:=fun i=>if i=m then t else k i
theorem Bn {k:Nat->Rat} {m:Nat} {t:Rat}:zP k m t m=t:=if_pos rfl
theorem p5 {k:Nat->Rat} {m i:Nat} {t:Rat} (h:i≠m):zP k m t i=k i:=if_neg h
theorem KG.start {p:Nat} (hp:1<=p) {z:Int} (h1:-2<=z) (h2:z<=1):KG p 0 (fun _=>(z:Rat)) (z:Rat) where
 p1:=hp
 first:=fun _ _=>rfl
 top:=rfl
 sorted:=fun _ _=>Rat.le_refl
 mult:=fun i h1 h2=>by omega
 half:=fun i _=>⟨2*z,by
  have:((2*z:Int):Rat)=2*(z:Rat):=by simp
  rw[this];grind,by omega,by omega⟩
theorem KG.le_top {p j:Nat} {k:Nat->Rat} {t:Rat} (h:KG p j k t) {i:Nat} (hi:i<=p+j):k i<=t:=by
 rw[<-h.top]
 exact DU (n:=p+j+1) (fun i hi=>h.sorted i (by omega)) hi (by omega)
theorem KG.next {p j:Nat} {k:Nat->Rat} {t t':Rat} (h:KG p j k t) (hc:(t<t'/\∃z:Int,t'=t+(z:Rat)/2/\z<=6)\/(t'=t/\1<=j/\t≠k (j+1))):KG p (j+1) (zP k (p+1+j) t') t':=by
 have hle:t<=t':=by
  rcases hc with⟨h1,_⟩|⟨h1,_⟩
  ·grind
  ·rw[h1];exact Rat.le_refl
 have hp:=h.p1
 refine⟨hp,fun i hi=>?_,?_,fun i hi=>?_,fun i h1 h2=>?_,fun i hi=>?_⟩
 ·rw[p5 (by omega),p5 (by omega)];exact h.first i hi
 ·rw[show p+(j+1)=p+1+j by omega,Bn]
 ·by_cases he:i+1=p+1+j
  ·rw[he,Bn,p5 (by omega),show i=p+j by omega,h.top];exact hle
  ·rw[p5 (by omega),p5 he];exact h.sorted i (by omega)
 ·by_cases he:i=j+1
  ·subst he
   rw[show j+1+p=p+1+j by omega,Bn,p5 (by omega)]
   have:=h.le_top (i:=j+1) (by omega)
   rcases hc with⟨h3,_⟩|⟨h3,h4,h5⟩
   ·grind
   ·rw[h3];grind
  ·rw[p5 (by omega),p5 (by omega)];exact h.mult i h1 (by omega)
 ·by_cases he:i=p+1+j
  ·subst he
   rw[Bn]
   obtain⟨z,e1,e2,e3⟩:=h.half (p+j) (by omega)
   rw[h.top]at e1
   rcases hc with⟨h3,y,e4,e5⟩|⟨h3,_⟩
   ·refine⟨z+y,?_,?_,by omega⟩
    ·rw[e4,e1]
     have:((z+y:Int):Rat)=(z:Rat)+(y:Rat):=by simp
     rw[this];grind
    ·have hy:0<y:=by
      rcases Int.lt_or_le 0 y with h6|h6
      ·exact h6
      ·exfalso
       have:((y:Int):Rat)<=0:=Rat.intCast_nonpos.2 h6
       grind
     omega
   ·exact⟨z,by rw[h3,e1],e2,by omega⟩
  ·rw[p5 he]
   obtain⟨z,e1,e2,e3⟩:=h.half i (by omega)
   exact⟨z,e1,e2,by omega⟩
def Eg (p j:Nat) (k:Nat->Rat) (t:Rat):Nat->Rat:=fun i=>if i<p+1+j then k i else t+1
theorem KG.done {p j:Nat} {k:Nat->Rat} {t:Rat} (h:KG p j k t):Kn (2*p+2+j) p (Eg p j k t):=by
 have hp:=h.p1
 have lo:∀{i},i<p+1+j->Eg p j k t i=k i:=fun hi=>if_pos hi
 have hi':∀{i},p+1+j<=i->Eg p j k t i=t+1:=fun hi=>if_neg (by omega)
 refine⟨hp,by omega,fun i hi=>?_,fun i hi=>?_,fun i h1 h2=>?_,fun i h1 h2=>?_⟩
 ·by_cases h1:i+1<p+1+j
  ·rw[lo h1,lo (by omega)];exact h.sorted i (by omega)
  ·rw[hi' (i:=i+1) (by omega)]
   by_cases h2:i<p+1+j
   ·rw[lo h2]
    have:=h.le_top (i:=i) (by omega)
    grind
   ·rw[hi' (by omega)];exact Rat.le_refl
 ·rw[lo (i:=i) (by omega),lo (i:=0) (by omega)];exact h.first i hi
 ·rw[hi' (i:=i) (by omega),hi' (i:=2*p+2+j-1) (by omega)]
 ·by_cases h3:i+p<p+1+j
  ·rw[lo (by omega),lo h3];exact h.mult i h1 (by omega)
  ·rw[hi' (i:=i+p) (by omega),lo (i:=i) (by omega)]
   have:=h.le_top (i:=i) (by omega)
   grind
def kL (s:Nat):Kind (Nat×(Nat->Rat)):=⟨fun v=>match rW v with
 |some (n,f)=>some ((n,fun i=>aQ (f i)),[cZ f n s])
 |none=>none,fun a=>bp a.2 a.1 s,fun {v a q} h hq=>by
  split at h
  ·rename_i h1
   simp only[ay,Prod.mk.injEq]at h
   obtain⟨rfl,rfl⟩:=h
   exact aa0 h1 hq
  ·simp at h⟩
def eZ (s:Nat):Kind Rat:=⟨fun v=>match oQ v with
 |some (q,n)=>some (q,[n<=s])
 |none=>none,fun a=>.rat a s,fun {v a q} h hq=>by
  split at h
  ·rename_i h1
   simp only[ay,Prod.mk.injEq]at h
   obtain⟨rfl,rfl⟩:=h
   exact(yU h1).trans (oN hq)
  ·simp at h⟩
structure zN (α:Type) where
 read:List AV->Option (α×List Prop)
 make:α->List AV
 ok:∀{l:List AV} {a:α} {q:List Prop},read l=some (a,q)->az q->g7 l (make a)
def kN:zN Unit:=⟨fun l=>match l with
 |[]=>some ((),[])
 |_=>none,fun _=>[],fun {l a q} h _=>by
  split at h
  ·trivial
  ·simp at h⟩
def kC {α β:Type} (k:Kind α) (kl:zN β):zN (α×β):=⟨fun l=>match l with
 |v::l=>match k.read v,kl.read l with
  |some (a,p),some (b,q)=>some ((a,b),p++q)
  |_,_=>none
 |[]=>none,fun a=>k.make a.1::kl.make a.2,fun {l a q} h hq=>by
  split at h
  ·split at h
   ·rename_i h1 h2
    simp only[ay,Prod.mk.injEq]at h
    obtain⟨rfl,rfl⟩:=h
    obtain⟨q1,q2⟩:=gB.1 hq
    exact⟨k.ok h1 q1,kl.ok h2 q2⟩
   ·simp at h
  ·simp at h⟩
def en {α:Type} (k:zN α) (g:α->AV) (need:α->List Prop):Spec:=cw fun l=>match k.read l with
 |some (a,p)=>some (aM (g a) (p++need a))
 |none=>none
theorem dO {α:Type} {f:FuncId} {k:zN α} {g:α->AV} {need:α->List Prop} (h:∀a K,az (need a)->aS P f K (k.make a) [] (aM (g a) [])):bf P (en k g need) f:=by
 refine dc fun K args r hk hs _=>?_
 split at hs
 ·rename_i h1
  simp only[ay]at hs
  subst hs
  intro hn
  obtain⟨n1,hn⟩:=gB.1 hn
  exact gT (h _ K hn) hk (k.ok h1 n1) [] trivial
 ·simp at hs
end Go.Am.B
namespace Go.Am
def fU (p:Nat->Rat):Nat->Nat->Rat
 |0,i=>p i
 |k+1,i=>fU p k (i+1)-fU p k i
def gk (n:Nat) (p:Nat->Rat) (k:Nat):Rat:=((bn (n-1) k:Int):Rat)*fU p k 0
def kA (n:Nat) (c:Nat->Rat) (i:Nat):Nat->Rat
 |0=>0
 |k+1=>kA n c i k+((bn i k:Int):Rat)/((bn (n-1) k:Int):Rat)*c k
def fY (n:Nat) (c:Nat->Rat) (i:Nat):Rat:=kA n c i (i+1)
def ku (m:Nat) (p:Nat->Rat) (k j:Nat):Rat:=fU p (min k (m-j)) j
def iV (m:Nat) (p:Nat->Rat) (k i j:Nat):Rat:=if j<i then fU p (k+1) j else ku m p k j
theorem Bb {m k j:Nat} {p:Nat->Rat} (h:k+j<=m):ku m p k j=fU p k j:=by unfold ku;rw[show min k (m-j)=k by omega]
theorem LC {m k j:Nat} {p:Nat->Rat}:iV m p k (m-k) j=ku m p (k+1) j:=by
 unfold iV ku
 split
 ·rw[show min (k+1) (m-j)=k+1 by omega]
 ·rw[show min (k+1) (m-j)=min k (m-j) by omega]
theorem Kv {m k i j:Nat} {p:Nat->Rat} (h:i+k<m):(if j=i then iV m p k i (i+1)-iV m p k i i else iV m p k i j)=iV m p k (i+1) j:=by
 unfold iV
 by_cases h1:j=i
 ·subst h1
  rw[if_pos rfl,if_neg (by omega),if_neg (by omega),if_pos (by omega),Bb (by omega),Bb (by omega)];rfl
 ·rw[if_neg h1]
  by_cases h2:j<i
  ·rw[if_pos h2,if_pos (by omega)]
  ·rw[if_neg h2,if_neg (by omega)]
def bH (k:Nat->Rat):Nat->Nat
 |0=>0
 |n+1=>if k n=0 then bH k n else n+1
theorem fE {k:Nat->Rat}:∀{n:Nat},bH k n<=n
 |0=>Nat.le_refl _
 |n+1=>by unfold bH;split;exact Nat.le_succ_of_le fE;exact Nat.le_refl _
theorem Gu {k:Nat->Rat}:∀{n:Nat},0<bH k n->k (bH k n-1)≠0
 |0,h=>by simp[bH]at h
 |n+1,h=>by
  unfold bH at h ⊢
  split
  ·rename_i h1;rw[if_pos h1]at h;exact Gu h
  ·rename_i h1;simpa using h1
theorem Fs {k:Nat->Rat}:∀{n i:Nat},bH k n<=i->i<n->k i=0
 |0,_,_,h=>absurd h (Nat.not_lt_zero _)
 |n+1,i,h,hi=>by
  unfold bH at h
  split at h
  ·rename_i h1
   rcases Nat.lt_or_ge i n with h2|h2
   ·exact Fs h h2
   ·rw[show i=n by omega];exact h1
  ·omega
theorem qb {k:Nat->Rat} {n:Nat} (h:n=0\/k (n-1)≠0):bH k n=n:=by
 cases n with
 |zero=>rfl
 |succ n=>unfold bH;rw[if_neg (by simpa using h)]
theorem BB {k l:Nat->Rat}:∀{n:Nat},(∀i,i<n->k i=l i)->bH k n=bH l n
 |0,_=>rfl
 |n+1,h=>by unfold bH;rw[h n (by omega),BB fun i hi=>h i (by omega)]
theorem Dx {k:Nat->Rat} {n:Nat}:∀{m:Nat},(∀i,n<=i->i<n+m->k i=0)->bH k (n+m)=bH k n
 |0,_=>rfl
 |m+1,h=>by
  show bH k (n+m+1)=_
  unfold bH
  rw[if_pos (h (n+m) (by omega) (by omega)),Dx fun i h1 h2=>h i h1 (by omega)]
  cases n<;>rfl
end Go.Am
namespace Go.Am.B
open Go Go.Am.N AV af aq IntKind Proofs.Tryz
def ag:Nat:=68719476736
def cN (n:Nat) (k:Nat->Rat):Prop:=∀i,i<n->Sz (k i) ag
abbrev z7:Code:=aI f157
abbrev xQ:List Nat:=[3,9,10,11]
abbrev EM (n:Nat) (k:Nat->Rat) (s i:Nat):List AV:=[.own 0 3 0 n,bp k n s,.int .i64 n,.int .i64 i]
def K2:Spec:=rJ fun K l=>match l with
 |[v]=>match(kL ag).read v with
  |some ((n,k),q)=>some ⟨.own K 3 0 n,[(K,cy n k ag)],q++[n<2^40,cN n k]⟩
  |none=>none
 |_=>none
def sk:bz:=zG::(157,K2)::(158,FK)::iC
abbrev xY:Code:=aI f115
abbrev yJ:Code:=part xY [1,1,1,0,1,0,0]
abbrev xq:Code:=part yJ [1,1,0,0]
abbrev sO:List Nat:=[0,3,4,17,18,19]
abbrev A1 (m:Nat) (p:Nat->Rat) (k:Nat):List AV:=[bp p (m+1) ag,.own 0 3 0 (m+1-k),.own 1 3 0 k,bp (fun i=>((bn m i:Int):Rat)) (m+1) 64,.int .i64 (m+1:Nat),.int .i64 k]
abbrev lH (m:Nat) (d x:Nat->Rat) (k:Nat):aE:=[(1,cy k x ag),(0,cy (m+1) d ag)]
abbrev xl:List Nat:=[0,3,4,17,18,19,38,39]
abbrev Fb (m:Nat) (p:Nat->Rat) (k i:Nat):List AV:=[bp p (m+1) ag,.own 0 3 0 (m+1-k),.own 1 3 0 (k+1),bp (fun i=>((bn m i:Int):Rat)) (m+1) 64,.int .i64 (m+1:Nat),.int .i64 k,.int .i64 (m-k:Nat),.int .i64 i]
theorem Ms:br 115 f115:=bu func115
theorem ag1 {m:Nat} {p:Nat->Rat}:aH T sk [] 60 sO (before xY [1,1,1,0,1]) ⟨aU 0 [bp p (m+1) ag],[],0⟩=
  let c3:Nat:=m+1;let c4:Int:=(↑c3:Int);let c1:Int:=c4-1;let c2:Int:=if c1<0 then(0:Int)else c1;some (aj [cZ (fun i=>rat (p i) ag) c3 ag,c3<2^40,cN c3 fun i=>aQ (rat (p i) ag)] (aj [(0:Int)<=0/\(0:Int)<=c4/\c4<=2^47/\c4*(↑(56:Nat):Int)<=2^47] (aj [-(2:Int)^63<=c1/\c1<2^63,(0:Int)<=c2,c2<=40] (leaf normal ([ak 3 c3 fun i=>rat (p i) ag,own 8192 3 0 c3,own 24576 3 0 0,ak 3 (c2.toNat+1) fun i=>rat (↑(↑(bn c2.toNat i):Int):Rat) 64,int i64 (↑(c2.toNat+1):Int),int i64 0],[(24576,ax.mk true true 3 0 fun x=>rat 0 1),(8192,ax.mk true true 3 c3 fun i=>rat (aQ (rat (p i) ag)) ag)]))))):=ah
theorem Ys {m k:Nat} {p d x:Nat->Rat}:aH T sk [20] 60 sO (before yJ [1,1,0]) ⟨aB sO (A1 m p k),lH m d x k,2⟩=
  let c2:Nat:=m+1;let c1:List AV×aE:=([ak 3 c2 fun i=>rat (p i) ag,own 0 3 0 (c2-k),own 1 3 0 k,ak 3 c2 fun i=>rat (↑(↑(bn m i):Int):Rat) 64,int i64 (↑c2:Int),int i64 (↑k:Int)],[(1,ax.mk true true 3 k fun i=>rat (x i) ag),(0,ax.mk true true 3 c2 fun i=>rat (d i) ag)]);some (fork (decide ((↑k:Int)<(↑c2:Int))) (leaf normal c1) (leaf (exit 0) c1)):=ah
theorem WN {m k:Nat} {p d x:Nat->Rat}:aH T sk [200027] 60 xl (before xq [1,1,1,0,1]) ⟨aB sO (A1 m p k),lH m d x k,2⟩=
  let c4:Int:=(↑k:Int);let c3:Nat:=Int.toNat (0:Int);let c1:Nat:=m+1;let c2:Int:=(↑(c1-k):Int)-1;some (aj [(0:Int)<=c4/\c4.toNat<c1,(0:Nat)<1] (aj [(c4==(↑c1:Int))=false] (aj [(0:Nat)<1,(0:Int)<=0/\c3<c1-k,c3+0<c1,(64:Nat)<2^42,ag<2^42,(1:Nat)*3<=2^24,(k+1)*((56:Nat)+1)*2<=2^47] (aj [-(2:Int)^63<=c2/\c2<2^63] (leaf normal ([ak 3 c1 fun i=>rat (p i) ag,own 0 3 0 (c1-k),own 69634 3 0 (k+1),ak 3 c1 fun i=>rat (↑(↑(bn m i):Int):Rat) 64,int i64 (↑c1:Int),int i64 c4,int i64 c2,int i64 0],[(69634,ax.mk true true 3 (k+1) fun i=>if i<k then rat (x i) ag else nth [rat ((↑(↑(bn m c4.toNat):Int):Rat)*d (c3+0)) ((64:Nat)+ag)] (rat 0 1) (i-k+0)),(0,ax.mk true true 3 c1 fun i=>rat (d i) ag)])))))):=ah
theorem R7 {m k i:Nat} {p d x:Nat->Rat}:aH T sk [40] 60 xl [part xq [1,1,1,0,1,0,0]] ⟨aB xl (Fb m p k i),lH m d x (k+1),2⟩=
  let c13:Prop:=ag<2^42;let c11:Int:=(↑(m-k):Int);let c9:AV:=own 1 3 0 (k+1);let c7:Int:=(↑i:Int);let c6:Int:=(2:Int)^63;let c4:Nat×ax:=(1,ax.mk true true 3 (k+1) fun i=>rat (x i) ag);let c2:Nat:=m+1;let c12:Prop:=(0:Int)<=c7/\c7.toNat<c2-k;let c10:AV:=own 0 3 0 (c2-k);let c8:AV:=ak 3 c2 fun i=>rat (p i) ag;let c5:AV:=ak 3 c2 fun i=>rat (↑(↑(bn m i):Int):Rat) 64;let c3:Nat:=c7.toNat+0;let c1:Int:=c7+1;some (fork (decide (c7<c11)) (aj [-c6<=c1/\c1<c6,(0:Int)<=c1/\c1.toNat<c2-k,c1.toNat+0<c2,c12,c3<c2,c13,c13,c12,c3<c2] (aj [-c6<=c1/\c1<c6] (leaf normal ([c8,c10,c9,c5,int i64 (↑c2:Int),int i64 (↑k:Int),int i64 c11,int i64 c1],[c4,(0,ax.mk true true 3 c2 fun j=>rat (bif j==c3 then d (c1.toNat+0)-d c3 else d j) (bif j==c3 then ag+ag+1 else ag))])))) (leaf (exit 2) ([c8,c10,c9,c5,int i64 (↑c2:Int),int i64 (↑k:Int),int i64 c11,int i64 c7],[c4,(0,ax.mk true true 3 c2 fun i=>rat (d i) ag)]))):=ah
theorem afN {m k i:Nat} {p d x:Nat->Rat}:aH T sk [] 60 sO (behind xq [1,1,1,0,1]++[part yJ [1,1,1]]) ⟨aB xl (Fb m p k i),lH m d x (k+1),2⟩=
  let c4:Int:=(↑k:Int)+1;let c3:Nat:=m+1;let c2:Int:=(2:Int)^63;let c1:Int:=(↑(c3-k):Int)-1;some (aj [-c2<=c1/\c1<c2,(0:Int)<=0/\(0:Int)<=c1/\c1<=c1/\c1<=(↑(c3-k):Int)] (aj [-c2<=c4/\c4<c2] (leaf normal ([ak 3 c3 fun i=>rat (p i) ag,own 0 3 0 (c1.toNat-Int.toNat (0:Int)),own 1 3 0 (k+1),ak 3 c3 fun i=>rat (↑(↑(bn m i):Int):Rat) 64,int i64 (↑c3:Int),int i64 c4],[(1,ax.mk true true 3 (k+1) fun i=>rat (x i) ag),(0,ax.mk true true 3 c3 fun i=>rat (d i) ag)])))):=ah
theorem af3 {m k:Nat} {p d x:Nat->Rat}:cR T sk [] 60 f115 [part xY [1,1,1,1]] ⟨aB sO (A1 m p k),lH m d x k,2⟩=
  some (leaf ret [ak 3 k fun i=>rat (x (i+0)) ag]):=ah
theorem Ot:br 157 f157:=bu func157
theorem aej {n s:Nat} {k:Nat->Rat}:aH T GZ [] 60 xQ (before z7 [1,1,0,1]) ⟨aU 0 [bp k n s],[],0⟩=
  let c1:Int:=(↑n:Int);some (aj [(0:Int)<=c1/\c1<=c1/\c1<=2^47/\c1*(↑(56:Nat):Int)<=2^47] (leaf normal ([own 12288 3 0 c1.toNat,ak 3 n fun i=>rat (k i) s,int i64 c1,int i64 0],[(12288,ax.mk true true 3 c1.toNat fun x=>rat 0 1)]))):=ah
theorem agF {n s i:Nat} {k x:Nat->Rat}:aH T GZ [12] 60 xQ [part z7 [1,1,0,1,0,0]] ⟨aB xQ (EM n k s i),[(0,cy n x ag)],1⟩=
  let c7:Int:=(↑n:Int);let c4:AV:=own 0 3 0 n;let c3:AV:=ak 3 n fun i=>rat (k i) s;let c1:Int:=(↑i:Int);let c6:Int:=c1+1;let c5:Prop:=(0:Int)<=c1/\c1.toNat<n;let c2:Nat:=c1.toNat+0;some (fork (decide (c1<c7)) (aj [c5,(0:Nat)<1] (aj [(0:Nat)<1,s<2^42,(1:Nat)<2^42,c5,c2<n] (aj [-(2:Int)^63<=c6/\c6<2^63] (leaf normal ([c4,c3,int i64 c7,int i64 c6],[(0,ax.mk true true 3 n fun j=>rat (bif j==c2 then k c1.toNat+0 else x j) (bif j==c2 then s+1+1 else ag))]))))) (leaf (exit 0) ([c4,c3,int i64 c7,int i64 c1],[(0,ax.mk true true 3 n fun i=>rat (x i) ag)]))):=ah
theorem SL {n s i:Nat} {k x:Nat->Rat}:aH T GZ [] 60 [2] [part z7 [1,1,1]] ⟨aB xQ (EM n k s i),[(0,cy n x ag)],1⟩=
  some (leaf ret ([own 0 3 0 n],[(0,ax.mk true true 3 n fun i=>rat (x i) ag)])):=ah
theorem cY:ag=2^36:=rfl
theorem mC {rl:List (Nat×Nat)} {i j zt z w:Nat} {t:Rat} {x y:Nat->Rat} (h1:bg (.rat t zt) (.rat (y i) w)) (h2:j≠i->bg (.rat (x j) z) (.rat (y j) w)):ng rl (.rat (bif j==i then t else x j) (bif j==i then zt else z)) (.rat (y j) w):=by
 refine .inr ⟨rfl,?_⟩
 by_cases h:j=i
 ·subst h;rw[beq_self_eq_true];exact h1
 ·rw[show(j==i)=false by simpa using h];exact h2 h
theorem Dk {α:Type} {i j:Nat} {a b:α} (h:j≠i):(if j<i+1 then a else b)=if j<i then a else b:=by
 by_cases h1:j<i
 ·rw[if_pos h1,if_pos aa]
 ·rw[if_neg h1,if_neg aa]
theorem Zp {args:List AV} {n:Nat} {k:Nat->Rat} {l:List Prop} (ha:az l->gQ (aX []) args [bp k n ag]) (hn:az l->n<2^40/\cN n k) (K:Nat):aS P 157 K args [] ⟨nO [.own K 3 0 n],[(K,cy n k ag)],l⟩:=by
 refine CG hT Ot ha aZ fun need c hk=>?_
 obtain⟨hn,hz⟩:=hn need
 have hW:=cY
 refine au.rz hT oY hm [1,1,0,1] (i:=0) (y:=part z7 [1,1,0,1,0,0]) (z:=part z7 [1,1,1]) ah ah ah Ot.dst hk (f1:=[]) (f2:=[12]) 60 xQ 1 (fun i:Nat=>EM n k ag i) (fun i=>[(0,cy n (fun j=>if j<i then k j else 0) ag)])
  (fun i=>i<=n) (fun i=>i=n) (fun i=>n-i) (fun _=>False) ⟨_,aej,?_⟩ (fun i hi=>⟨_,agF,?_⟩) (fun i hi=>?_) (fun _ _ h=>h.elim)
 ·simp only[af.all,az,bG]
  exact⟨aa,0,Nat.zero_le _,[(0,12288)],rfl,rfl,rfl,bk rfl rfl rfl (fun i hi=>.inr ⟨rfl,dM (if_neg (Nat.not_lt_zero i)).symm aa⟩) trivial⟩
 ·simp only[af.all,az,bD,bI,bG,Nat.add_zero]
  refine⟨fun h2=>⟨aa,aa,aa,i+1,aa,by dsimp only;omega,[(0,0)],rfl,rfl,rfl,bk rfl rfl rfl (fun j hj=>?_) trivial⟩,fun h2=>⟨rfl,i,aa,[(0,0)],rfl,rfl,rfl,bk rfl rfl rfl (fun j hj=>bK rfl rfl) trivial⟩⟩
  exact mC (x:=fun j=>if j<i then k j else 0) (y:=fun j=>if j<i+1 then k j else 0) (dY ((Rat.add_zero _).trans (if_pos (Nat.lt_succ_self i)).symm) (by show Sz (if i<i+1 then _ else _) _;rw[if_pos (Nat.lt_succ_self i)];exact hz i aa)) fun hj=>dM (Dk hj).symm aT
 ·subst hi
  refine au.bL hT oY hm 60 [2] SL ah fun s' hs'=>⟨.inr rfl,[2],_,[.own 0 3 0 i],_,0,_,hs',ah,⟨⟨rfl,ec (by simp[aX,look]) rfl rfl⟩,trivial⟩,rfl,ia rfl fun j hj=>?_⟩
  rw[if_pos hj];exact fh rfl
theorem Yk:bf P K2 157:=by
 refine wv fun K args r hk hs=>?_
 split at hs
 ·rename_i v
  split at hs
  ·rename_i n k q hv
   simp only[ay]at hs
   subst hs
   exact Zp (fun hn=>C6 hk (by cases v<;>first|rfl|simp[kL,rW]at hv) ⟨(kL ag).ok hv (gB.1 hn).1,trivial⟩) (fun hn=>have:=(gB (a:=q) (b:=[n<2^40,cN n k]).1 hn).2;⟨this.1,this.2⟩) K
  ·simp at hs
 ·simp at hs
theorem PM:bU P sk:=gH (aL Yk (aL MU iF))
theorem cN.up {n:Nat} {k:Nat->Rat} {i z:Nat} (h:cN n k) (hi:i<n):bg (.rat (k i) z) (.rat (k i) ag):=dY rfl (h i hi)
def sW (n:Nat) (p:Nat->Rat):Prop:=(∀k i,k+i<n->Sz (fU p k i) ag)/\cN n (gk n p)
theorem ahJ {m:Nat} {p:Nat->Rat} (hm1:m<=40) (hz:sW (m+1) p) (K:Nat):aS P 115 K [bp p (m+1) ag] [] (aM (bp (gk (m+1) p) (m+1) ag) []):=by
 refine iE (r:=aM (bp (gk (m+1) p) (m+1) ag) []) hT Ms rfl aZ rfl (fun _ cx h0=>?_) K []
 have hk:=mR h0
 have hW:=cY
 have hd:∀k i,k+i<=m->Sz (fU p k i) ag:=fun k i h=>hz.1 k i aa
 refine au.qp hT PM hm (x:=xY) [1,1,1,0,1] (i:=0) (y:=yJ) (z:=part xY [1,1,1,1]) ah ah ah Ms.dst [1,1,0] (j:=1) (x1:=xq) (zb:=part yJ [1,1,1]) ah ah ah [1,1,1,0,1] (i2:=2) (y2:=part xq [1,1,1,0,1,0,0]) ah ah rfl hk
  (f1:=[]) (f2:=[20]) (f3:=[200027]) (f4:=[40]) (f5:=[]) 60 sO xl 2 2 (fun k:Nat=>A1 m p k) (fun k=>lH m (ku m p k) (gk (m+1) p) k) (fun k=>k<=m+1) (fun k=>k=m+1) (fun k=>m+1-k) (fun k=>k<m+1) (fun _=>False) (fun _=>False)
  (fun k (i:Nat)=>Fb m p k i) (fun k i=>lH m (iV m p k i) (gk (m+1) p) (k+1)) (fun k i=>i<=m-k) (fun k i=>i=m-k) (fun k i=>m-k-i)
  ⟨_,ag1,?_⟩ (fun k hk=>⟨_,Ys,?_⟩) (fun k hk hG=>⟨_,WN,?_⟩) (fun k hk hG i hi=>⟨_,R7,?_⟩) (fun k hk hG i hi=>⟨_,afN,?_⟩) (fun k hk=>?_) (fun _ _ h=>h.elim) (fun _ _ h=>h.elim)
 ·simp only[af.all,az]
  have e1:(if((m+1:Nat):Int)-1<0 then 0 else((m+1:Nat):Int)-1)=(m:Nat):=by rw[if_neg aa];omega
  rw[e1]
  refine⟨⟨dU aT,aa,fun i hi=>hd 0 i aa⟩,aa,aa,0,aa,[(0,8192),(1,24576)],rfl,rfl,rfl,bk rfl rfl rfl (fun i hi=>absurd hi (Nat.not_lt_zero i)) (bk rfl rfl rfl (fun i hi=>bK rfl ?_) trivial)⟩
  show AV.rat (p i) ag=AV.rat (ku m p 0 i) ag
  unfold ku;rw[Nat.zero_min];rfl
 ·simp only[af.all,az,bD,bI]
  exact⟨fun h=>⟨aa,[(0,0),(1,1)],rfl,rfl,rfl,bk rfl rfl rfl (fun i hi=>bK rfl rfl) (bk rfl rfl rfl (fun i hi=>bK rfl rfl) trivial)⟩,fun h=>⟨rfl,k,aa,[(0,0),(1,1)],rfl,rfl,rfl,bk rfl rfl rfl (fun i hi=>bK rfl rfl) (bk rfl rfl rfl (fun i hi=>bK rfl rfl) trivial)⟩⟩
 ·simp only[af.all,az,bG,beq_eq_false_iff_ne]
  have e0:(0:Int).toNat=0:=rfl
  refine⟨aa,aa,aa,aa,0,aa,[(0,0),(1,69634)],rfl,?_,rfl,bk rfl rfl rfl (fun i hi=>?_) (bk rfl rfl rfl (fun i hi=>bK rfl ?_) trivial)⟩
  ·rw[show((m+1-k:Nat):Int)-1=(m-k:Nat) by omega];rfl
  ·refine .inr ⟨?_,?_⟩
   ·split
    ·rfl
    ·rw[show i-k+0=0 by omega];rfl
   ·split
    ·exact .refl _
    ·rw[show i-k+0=0 by omega,show i=k by omega]
     exact dY (by rw[Bb aa];rfl) (hz.2 k hG)
  ·show AV.rat (ku m p k i) ag=AV.rat (iV m p k 0 i) ag
   unfold iV;rw[if_neg (Nat.not_lt_zero i)]
 ·simp only[af.all,az,bD,bI,bG,Nat.add_zero]
  have e1:((i:Int)+1).toNat=i+1:=aa
  rw[e1]
  refine⟨fun h=>⟨aa,aa,i+1,aa,by dsimp only;omega,[(0,0),(1,1)],rfl,rfl,rfl,bk rfl rfl rfl (fun j hj=>bK rfl rfl) (bk rfl rfl rfl (fun j hj=>?_) trivial)⟩,fun h=>⟨rfl,i,aa,[(0,0),(1,1)],rfl,rfl,rfl,bk rfl rfl rfl (fun j hj=>bK rfl rfl) (bk rfl rfl rfl (fun j hj=>bK rfl rfl) trivial)⟩⟩
  have h3:=fun j=>Kv (m:=m) (k:=k) (i:=i) (j:=j) (p:=p) aa
  exact mC (x:=iV m p k i) (y:=iV m p k (i+1)) (dY ((if_pos rfl).symm.trans (h3 i)) (by unfold iV;rw[if_pos (Nat.lt_succ_self i)];exact hd _ _ aa)) fun hj=>dM ((if_neg hj).symm.trans (h3 j)) aT
 ·subst hi
  simp only[af.all,az]
  refine⟨aa,aa,k+1,aa,by dsimp only;omega,[(0,0),(1,1)],rfl,?_,rfl,bk rfl rfl rfl (fun j hj=>bK rfl rfl) (bk rfl rfl rfl (fun j hj=>bK rfl ?_) trivial)⟩
  ·rw[show(((m+1-k:Nat):Int)-1).toNat-(0:Int).toNat=m+1-(k+1) by omega];rfl
  ·show AV.rat (iV m p k (m-k) j) ag=AV.rat (ku m p (k+1) j) ag
   rw[LC]
 ·subst hk
  exact au.mQ ((aF.fin hT PM hm 60 af3 ah (ir fun _ _=>.refl _)).mono fun _ _ h=>.inl h)
def AH:Spec:=en (kC (kL ag) kN) (fun a=>bp (gk a.1.1 a.1.2) a.1.1 ag) fun a=>[1<=a.1.1,a.1.1<=41,sW a.1.1 a.1.2]
theorem Ry:bf P AH 115:=dO fun⟨⟨n,p⟩,_⟩ K hn=>by
 obtain⟨h1,h2,h3⟩:=hn
 simp only at h1 h2 h3
 obtain⟨m,rfl⟩:∃m,n=m+1:=⟨n-1,aa⟩
 exact ahJ aa h3 K
end Go.Am.B
namespace Go.Am
def gz (e:Nat) (d:Nat->Rat) (k:Nat) (r:Nat->Rat) (i:Nat):Rat:=if k<=i/\i<k+e+1 then r i-r (k+e)/d e*d (i-k)else r i
def ck (e:Nat) (d a:Nat->Rat) (R:Nat):Nat->Nat->Rat
 |0=>a
 |j+1=>gz e d (R-1-j) (ck e d a R j)
def dG (e:Nat) (d a:Nat->Rat) (R k:Nat):Rat:=ck e d a R (R-1-k) (k+e)/d e
theorem M8 {e k:Nat} {d r:Nat->Rat} (hd:d e≠0):gz e d k r (k+e)=0:=by
 unfold gz
 rw[if_pos (by omega),show k+e-k=e by omega,Rat.div_mul_cancel hd,Rat.sub_self]
theorem Qf {e k:Nat} {d r:Nat->Rat} (h:r (k+e)=0):gz e d k r=r:=by
 funext i
 unfold gz
 split
 ·rw[h,Rat.div_def,Rat.zero_mul,Rat.zero_mul];grind
 ·rfl
section
variable {n e R:Nat} {d a:Nat->Rat}
def fG (n R L:Nat):Nat:=min (n-L) R
theorem EE (hR:R=n-e) {L:Nat} (hL:L<=n) (hz:∀i,L<=i->i<n->ck e d a R (fG n R L) i=0):∀m,m<=L->(∀i,L-m<=i->i<n->ck e d a R (fG n R L) i=0)->ck e d a R (fG n R (L-m))=ck e d a R (fG n R L)
 |0,_,_=>rfl
 |m+1,hm,h=>by
  have ih:=EE hR hL hz m (by omega) (fun i h1 h2=>h i (by omega) h2)
  rw[<-ih]
  by_cases h1:n-(L-m)<R
  ·rw[show fG n R (L-(m+1))=n-(L-m)+1 by unfold fG;omega,show fG n R (L-m)=n-(L-m) by unfold fG;omega]
   show gz e d (R-1-(n-(L-m))) (ck e d a R (n-(L-m)))=_
   refine Qf ?_
   rw[show n-(L-m)=fG n R (L-m) by unfold fG;omega,ih]
   exact h _ (by unfold fG;omega) (by unfold fG;omega)
  ·rw[show fG n R (L-(m+1))=fG n R (L-m) by unfold fG;omega]
structure kF (n e R:Nat) (d a:Nat->Rat) (L:Nat) (x q:Nat->Rat):Prop where
 le:L<=n
 xI:∀i,i<L->x i=ck e d a R (fG n R L) i
 zero:∀i,L<=i->i<n->ck e d a R (fG n R L) i=0
 top:L=0\/ck e d a R (fG n R L) (L-1)≠0
 quo:∀k,k<R->q k=if k+e<L then 0 else dG e d a R k
theorem kF.start (hR:R=n-e) (ha:n=0\/a (n-1)≠0):kF n e R d a n a fun _=>0 where
 le:=Nat.le_refl _
 xI i hi:=by rw[show fG n R n=0 by unfold fG;omega];rfl
 zero i h1 h2:=by omega
 top:=by rw[show fG n R n=0 by unfold fG;omega];exact ha
 quo k hk:=by rw[if_pos (by omega)]
def fq (e:Nat) (d x:Nat->Rat) (k:Nat) (f:Rat) (i j:Nat):Rat:=if k<=j/\j<k+i then x j-f*d (j-k)else x j
variable {L:Nat} {x q:Nat->Rat}
theorem kF.quot (hR:R=n-e) (h:kF n e R d a L x q) (hL:e<L):x (L-1)/d e=dG e d a R (L-1-e):=by
 have:=h.le
 unfold dG
 rw[h.xI _ (by omega),show fG n R L=R-1-(L-1-e) by unfold fG;omega,show L-1-e+e=L-1 by omega]
theorem kF.KJ (hR:R=n-e) (h:kF n e R d a L x q) (hL:e<L) {i j:Nat} (hi:i<=e) (hj:j<L-1) (hij:j<L-1-e+i):fq e d x (L-1-e) (x (L-1)/d e) i j=ck e d a R (n-L+1) j:=by
 have hl:=h.le
 have e1:fG n R L=n-L:=by unfold fG;omega
 show _=gz e d (R-1-(n-L)) (ck e d a R (n-L)) j
 rw[show R-1-(n-L)=L-1-e by omega]
 unfold fq gz
 rw[show L-1-e+e=L-1 by omega,<-e1,<-h.xI j (by omega),<-h.xI (L-1) (by omega)]
 by_cases hk:L-1-e<=j
 ·rw[if_pos ⟨hk,hij⟩,if_pos (by omega)]
 ·rw[if_neg (by omega),if_neg (by omega)]
theorem kF.next (hR:R=n-e) (hd:d e≠0) (h:kF n e R d a L x q) (hL:e<L):
  kF n e R d a (bH (fq e d x (L-1-e) (x (L-1)/d e) e) (L-1)) (fq e d x (L-1-e) (x (L-1)/d e) e) fun j=>if j=L-1-e then x (L-1)/d e else q j:=by
 have hl:=h.le
 have hu:∀j,j<L-1->fq e d x (L-1-e) (x (L-1)/d e) e j=ck e d a R (n-L+1) j:=fun j hj=>h.KJ hR hL (Nat.le_refl _) hj (by omega)
 have e1:fG n R L=n-L:=by unfold fG;omega
 have e2:fG n R (L-1)=n-L+1:=by unfold fG;omega
 obtain⟨M,hM⟩:∃M,M=bH (fq e d x (L-1-e) (x (L-1)/d e) e) (L-1):=⟨_,rfl⟩
 have hM2:M=bH (ck e d a R (n-L+1)) (L-1):=by rw[hM];exact BB hu
 have hMl:M<=L-1:=by rw[hM2];exact fE
 have hz1:∀i,L-1<=i->i<n->ck e d a R (n-L+1) i=0:=fun i h1 h2=>by
  show gz e d (R-1-(n-L)) (ck e d a R (n-L)) i=0
  rw[show R-1-(n-L)=L-1-e by omega]
  by_cases h3:i=L-1
  ·have:=M8 (k:=L-1-e) (r:=ck e d a R (n-L)) hd
   rwa [show L-1-e+e=i by omega]at this
  ·unfold gz
   rw[if_neg (by omega),<-e1]
   exact h.zero i (by omega) h2
 have hz:∀i,M<=i->i<n->ck e d a R (n-L+1) i=0:=fun i h1 h2=>by
  rcases Nat.lt_or_ge i (L-1)with h3|h3
  ·exact Fs (by rw[<-hM2];exact h1) h3
  ·exact hz1 i h3 h2
 have hs:ck e d a R (fG n R M)=ck e d a R (n-L+1):=by
  have:=EE (d:=d) (a:=a) hR (L:=L-1) (by omega) (by rw[e2];exact hz1) (L-1-M) (by omega) (by rw[e2,show L-1-(L-1-M)=M by omega];exact hz)
  rwa [show L-1-(L-1-M)=M by omega,e2]at this
 rw[<-hM]
 refine⟨by omega,fun i hi=>by rw[hs];exact hu i (by omega),fun i h1 h2=>by rw[hs];exact hz i h1 h2,?_,fun k hk=>?_⟩
 ·rw[hs]
  rcases Nat.eq_zero_or_pos M with h0|h0
  ·exact .inl h0
  ·right
   rw[hM2]at h0 ⊢
   exact Gu h0
 ·show(if k=L-1-e then x (L-1)/d e else q k)=_
  by_cases h1:k=L-1-e
  ·rw[if_pos h1,if_neg (by omega),h.quot hR hL,h1]
  ·rw[if_neg h1,h.quo k hk]
   by_cases h2:k+e<M
   ·rw[if_pos h2,if_pos (by omega)]
   ·rw[if_neg h2]
    by_cases h3:k+e<L
    ·rw[if_pos h3]
     -- a round that did nothing
     have hk2:k+e<L-1:=by omega
     unfold dG
     have e3:=EE (d:=d) (a:=a) hR (L:=L-1) (by omega) (by rw[e2];exact hz1) (L-1-(k+e+1)) (by omega) (by rw[e2,show L-1-(L-1-(k+e+1))=k+e+1 by omega];exact fun i h1 h2=>hz i (by omega) h2)
     rw[show L-1-(L-1-(k+e+1))=k+e+1 by omega,e2]at e3
     rw[show R-1-k=fG n R (k+e+1) by unfold fG;omega,e3,hz (k+e) (by omega) (by omega),Rat.div_def,Rat.zero_mul]
    ·rw[if_neg h3]
theorem kF.fin (hR:R=n-e) (h:kF n e R d a L x q) (hL:L<=e):L=bH (ck e d a R R) n/\(∀i,i<L->x i=ck e d a R R i)/\∀k,k<R->q k=dG e d a R k:=by
 have hl:=h.le
 have e1:fG n R L=R:=by unfold fG;omega
 have hz:=h.zero
 have ht:=h.top
 have ha:=h.xI
 rw[e1]at hz ht ha
 refine⟨?_,ha,fun k hk=>by rw[h.quo k hk,if_neg (by omega)]⟩
 have:=Dx (k:=ck e d a R R) (n:=L) (m:=n-L) fun i h1 h2=>hz i h1 (by omega)
 rw[show L+(n-L)=n by omega,qb ht]at this
 exact this.symm
end
end Go.Am
namespace Go.Am
abbrev PP:=Nat×(Nat->Rat)
def dj (a d:PP):PP:=(bH (ck (d.1-1) d.2 a.2 (a.1-(d.1-1)) (a.1-(d.1-1))) a.1,ck (d.1-1) d.2 a.2 (a.1-(d.1-1)) (a.1-(d.1-1)))
def fA (a d:PP):PP:=(bH (dG (d.1-1) d.2 a.2 (a.1-(d.1-1))) (a.1-(d.1-1)),dG (d.1-1) d.2 a.2 (a.1-(d.1-1)))
def cM (n:Nat) (c:Nat->Rat) (i:Nat):Rat:=c i/c (n-1)
def dy (a:PP):PP:=(a.1,cM a.1 a.2)
def cO (c:Nat->Rat) (i:Nat):Rat:=((i+1:Nat):Int)*c (i+1)
def aW (a:PP):PP:=(bH (cO a.2) (a.1-1),cO a.2)
def Trim (a:PP):Prop:=a.1=0\/a.2 (a.1-1)≠0
theorem mu {k:Nat->Rat} {n:Nat}:Trim (bH k n,k):=by
 rcases Nat.eq_zero_or_pos (bH k n)with h|h
 ·exact .inl h
 ·exact .inr (Gu h)
theorem rD {a d:PP}:Trim (dj a d):=mu
theorem yM {a d:PP}:Trim (fA a d):=mu
theorem dI {a:PP}:Trim (aW a):=mu
theorem ov {a:PP} (h:Trim a):Trim (dy a):=by
 rcases h with h|h
 ·exact .inl h
 ·right
  show cM a.1 a.2 (a.1-1)≠0
  unfold cM
  rw[Rat.div_def,Rat.mul_inv_cancel _ h];decide
theorem Na {n e R:Nat} {d a:Nat->Rat} (hR:R=n-e) (hd:d e≠0):∀j,j<=R->∀i,n-j<=i->i<n->ck e d a R j i=0
 |0,_,i,h1,h2=>by omega
 |j+1,hj,i,h1,h2=>by
  show gz e d (R-1-j) (ck e d a R j) i=0
  by_cases h:i=R-1-j+e
  ·rw[h];exact M8 hd
  ·unfold gz
   rw[if_neg (by omega)]
   exact Na hR hd j (by omega) i (by omega) h2
theorem nY {a d:PP} (hd:0<d.1) (ht:Trim d):(dj a d).1<d.1:=by
 show bH _ _<_
 have h0:d.2 (d.1-1)≠0:=by rcases ht with h|h;omega;exact h
 have:=fun i=>Na (n:=a.1) (a:=a.2) (rfl) h0 _ (Nat.le_refl (a.1-(d.1-1))) i
 rcases Nat.lt_or_ge a.1 d.1 with h|h
 ·exact Nat.lt_of_le_of_lt fE h
 ·have e1:=Dx (k:=ck (d.1-1) d.2 a.2 (a.1-(d.1-1)) (a.1-(d.1-1))) (n:=d.1-1) (m:=a.1-(d.1-1)) fun i h1 h2=>this i (by omega) (by omega)
  rw[show d.1-1+(a.1-(d.1-1))=a.1 by omega]at e1
  rw[e1]
  have:=fE (k:=ck (d.1-1) d.2 a.2 (a.1-(d.1-1)) (a.1-(d.1-1))) (n:=d.1-1)
  omega
def fL (s:PP×PP):PP×PP:=if s.2.1=0 then s else(s.2,dy (dj s.1 s.2))
def bQ (s:PP×PP):Nat->PP×PP
 |0=>s
 |j+1=>fL (bQ s j)
theorem lW {s:PP×PP} (h1:Trim s.1) (h2:Trim s.2):∀j,Trim (bQ s j).1/\Trim (bQ s j).2
 |0=>⟨h1,h2⟩
 |j+1=>by
  have:=lW h1 h2 j
  show Trim (fL _).1/\Trim (fL _).2
  unfold fL
  split
  ·exact this
  ·exact⟨this.2,ov rD⟩
theorem y9 {s:PP×PP} (h1:Trim s.1) (h2:Trim s.2):∀j,(bQ s j).2.1<=s.2.1-j
 |0=>Nat.le_refl _
 |j+1=>by
  have:=y9 h1 h2 j
  have ht:=lW h1 h2 j
  show(fL _).2.1<=_
  unfold fL
  split
  ·rename_i h;rw[h];exact Nat.zero_le _
  ·rename_i h
   have:=nY (a:=(bQ s j).1) (d:=(bQ s j).2) (by omega) ht.2
   show(dj _ _).1<=_
   omega
theorem EU {s:PP×PP} {j:Nat} (h:(bQ s j).2.1=0):∀m,bQ s (j+m)=bQ s j
 |0=>rfl
 |m+1=>by
  show fL (bQ s (j+m))=_
  rw[EU h m]
  unfold fL
  rw[if_pos h]
theorem zB {s:PP×PP} (h:0<s.1.1):∀j,0<(bQ s j).1.1
 |0=>h
 |j+1=>by
  have:=zB h j
  show 0<(fL _).1.1
  unfold fL
  split
  ·exact this
  ·dsimp only;omega
theorem v5 {s:PP×PP} {B:Nat} (ha:s.1.1<=B) (hb:s.2.1<=B) (h1:Trim s.1) (h2:Trim s.2):∀j,(bQ s j).1.1<=B
 |0=>ha
 |j+1=>by
  have:=v5 ha hb h1 h2 j
  have h3:=y9 h1 h2 j
  show(fL _).1.1<=_
  unfold fL
  split
  ·exact this
  ·dsimp only;omega
def bR (a b:PP):PP:=dy (bQ (a,b) b.1).1
theorem S0 {a b:PP} (h1:Trim a) (h2:Trim b) {j:Nat} (hj:j<=b.1) (h:(bQ (a,b) j).2.1=0):dy (bQ (a,b) j).1=bR a b:=by
 have:=EU h (b.1-j)
 rw[show j+(b.1-j)=b.1 by omega]at this
 unfold bR
 rw[this]
theorem j8 {a b:PP} (h1:Trim a) (h2:Trim b):Trim (bR a b):=ov (lW (s:=(a,b)) h1 h2 _).1
theorem mM {a b:PP} (h:0<a.1):0<(bR a b).1:=zB (s:=(a,b)) h _
def bh (a:PP):PP:=if a.1=0 then(0,a.2)else dy (fA a (bR a (aW a)))
def tv (s:PP×PP):PP×PP:=(s.2,((dj s.1 s.2).1,fun i=>((-1:Int):Rat)*(dj s.1 s.2).2 i))
def bJ (s:PP×PP):Nat->PP×PP
 |0=>s
 |j+1=>tv (bJ s j)
theorem xw {a:PP} {r:Rat} (h:Trim a) (hr:r≠0):Trim (a.1,fun i=>r*a.2 i):=by
 rcases h with h|h
 ·exact .inl h
 ·right
  show r*a.2 (a.1-1)≠0
  intro h0
  rcases Rat.mul_eq_zero.1 h0 with h1|h1
  ·exact hr h1
  ·exact h h1
theorem ot {s:PP×PP} (h1:Trim s.1) (h2:Trim s.2):∀j,Trim (bJ s j).1/\Trim (bJ s j).2
 |0=>⟨h1,h2⟩
 |j+1=>⟨(ot h1 h2 j).2,xw (a:=dj (bJ s j).1 (bJ s j).2) rD (by decide)⟩
def stM (s:PP×PP):Nat->Nat->Nat
 |0,j=>j
 |f+1,j=>if(bJ s j).2.1=0 then j else stM s f (j+1)
def eV (s:PP×PP):Nat:=stM s s.2.1 0
theorem JH {s:PP×PP} (h1:Trim s.1) (h2:Trim s.2):∀f j,(bJ s j).2.1<=f->j<=stM s f j/\stM s f j<=j+f/\(bJ s (stM s f j)).2.1=0/\∀i,j<=i->i<stM s f j->(bJ s i).2.1≠0
 |0,j,h=>⟨Nat.le_refl _,by show j<=_;omega,by show(bJ s j).2.1=0;omega,fun i h1 h2=>by have:i<j:=h2;omega⟩
 |f+1,j,h=>by
  unfold stM
  split
  ·rename_i h0
   exact⟨Nat.le_refl _,by omega,h0,fun i h1 h2=>by omega⟩
  ·rename_i h0
   have hr:=nY (a:=(bJ s j).1) (d:=(bJ s j).2) (by omega) (ot h1 h2 j).2
   have hr:(bJ s (j+1)).2.1<(bJ s j).2.1:=hr
   obtain⟨g1,g2,g3,g4⟩:=JH h1 h2 f (j+1) (by omega)
   refine⟨by omega,by omega,g3,fun i k1 k2=>?_⟩
   rcases Nat.eq_or_lt_of_le k1 with h|h
   ·subst h;exact h0
   ·exact g4 i h k2
theorem mY {s:PP×PP} (h1:Trim s.1) (h2:Trim s.2):eV s<=s.2.1/\(bJ s (eV s)).2.1=0/\∀i,i<eV s->(bJ s i).2.1≠0:=by
 obtain⟨_,g2,g3,g4⟩:=JH h1 h2 s.2.1 0 (Nat.le_refl _)
 exact⟨by unfold eV;omega,g3,fun i hi=>g4 i (Nat.zero_le _) hi⟩
theorem GB {s:PP×PP} {B:Nat} (ha:s.1.1<=B) (hb:s.2.1<=B) (h1:Trim s.1) (h2:Trim s.2):∀j,j<=eV s->(bJ s j).1.1<=B/\(bJ s j).2.1<=B
 |0,_=>⟨ha,hb⟩
 |j+1,hj=>by
  have ih:=GB ha hb h1 h2 j (by omega)
  have h0:=(mY h1 h2).2.2 j (by omega)
  have hr:(bJ s (j+1)).2.1<(bJ s j).2.1:=nY (a:=(bJ s j).1) (d:=(bJ s j).2) (by omega) (ot h1 h2 j).2
  exact⟨ih.2,by omega⟩
def dQ (a:PP):PP×PP:=(bh a,aW (bh a))
theorem kn {a:PP}:Trim (bh a):=by
 unfold bh
 split
 ·exact .inl rfl
 ·exact ov yM
def fH (n:Nat) (k:Nat->Rat) (t:Rat):Nat->Rat
 |0=>0
 |m+1=>fH n k t m*t+k (n-1-m)
def cE (a:PP) (t:Rat):Rat:=fH a.1 a.2 t a.1
def bW (s:Nat->Int):Nat->Int×Nat
 |0=>(0,0)
 |i+1=>(if s i=0 then(bW s i).1 else s i,if s i*(bW s i).1<0 then(bW s i).2+1 else(bW s i).2)
end Go.Am
namespace Go.Am.B
open Go Go.Am.N AV af aq IntKind Proofs.Tryz
def ek:Nat:=68719477736
abbrev ni:Code:=aI f114
abbrev nI:List Nat:=[0]
def uo:Spec:=en (kC (kL ag) kN) (fun a=>bp a.1.2 (bH a.1.2 a.1.1) ag) fun a=>[a.1.1<2^40]
def NA:Spec:=en (kC kR (kC kR kN)) (fun a=>.rat (a.1.1/a.2.1.1) (a.1.2+a.2.1.2)) fun a=>[a.1.2<2^42,a.2.1.2<2^42]
def KA:bz:=zG::(142,jo kR kR Da qk)::iC
def sU:bz:=zG::(158,FK)::(171,NA)::iC
abbrev yK:Code:=aI f137
abbrev zR:Code:=part yK [1,1,1,1,0,1,0,0]
abbrev Cf:Code:=part zR [1,1,0,0]
abbrev G3 (m:Nat):AV:=bp (fun i=>((bn m i:Int):Rat)) (m+1) 64
abbrev sX:List Nat:=[0,4,5,25,26]
abbrev Ch (m:Nat) (c:Nat->Rat) (i:Nat):List AV:=[bp c (m+1) ag,G3 m,.own 0 3 0 (m+1),.int .i64 (m+1:Nat),.int .i64 i]
abbrev yA:List Nat:=[0,4,5,25,26,6,30,31,32]
abbrev Dq (m:Nat) (c:Nat->Rat) (i k:Nat):List AV:=[bp c (m+1) ag,G3 m,.own 0 3 0 (m+1),.int .i64 (m+1:Nat),.int .i64 i,.int .i64 i,G3 i,.int .i64 (i+1:Nat),.int .i64 k]
abbrev wI:Code:=aI f121
abbrev Af:List Nat:=[3,5,11,12,13]
abbrev Ez (n:Nat) (c:Nat->Rat) (i:Nat):List AV:=[.ptr 1 0 3 0 [],.own 0 3 0 n,bp c n ag,.int .i64 n,.int .i64 i]
abbrev ym:Code:=aI f73
abbrev oq:List Nat:=[0,3,4]
abbrev vh (n:Nat) (c:Nat->Rat) (i:Nat):List AV:=[bp c n ag,.own 0 3 0 i,.int .i64 (i+1:Nat)]
def BC:bz:=zG::(114,uo)::iC
theorem Gx:br 114 f114:=bu func114
theorem aba:br 171 f171:=bu func171
theorem IV:br 137 f137:=bu func137
theorem aaU:br 121 f121:=bu func121
theorem afH:br 73 f73:=bu func73
theorem VQ {n:Nat} {k:Nat->Rat}:aH T GZ [] 60 nI (before ni [1,0]) ⟨aU 0 [bp k n ag],[],0⟩=
  some (leaf normal ([ak 3 n fun i=>rat (k i) ag],[])):=ah
theorem Ve {n:Nat} {k:Nat->Rat}:aH T GZ [6,15] 60 nI [part ni [1,0,0,0]] ⟨aB nI [bp k n ag],[],0⟩=
  let c6:Int:=(↑n:Int);let c4:Int:=(2:Int)^63;let c3:af (List AV×aE):=leaf (exit 0) ([ak 3 n fun i=>rat (k i) ag],[]);let c5:Bool:=decide (c6>0);let c2:Int:=c6-1;let c1:af (List AV×aE):=aj [-c4<=c2/\c2<c4,(0:Int)<=0/\(0:Int)<=c2/\c2<=c2/\c2<=c6] (leaf normal ([ak 3 (c2.toNat-Int.toNat (0:Int)) fun i=>rat (k (i+Int.toNat (0:Int))) ag],[]));some (fork c5 (aj [c5=true,-c4<=c2/\c2<c4,(0:Int)<=c2/\c2.toNat<n,ag<2^42] (fork (bif true then bN (k c2.toNat)==0 else false) c1 c3)) (aj [c5=false] (fork false c1 c3))):=ah
theorem agM {n:Nat} {k:Nat->Rat}:cR T GZ [] 60 f114 [part ni [1,1]] ⟨aB nI [bp k n ag],[],0⟩=
  some (leaf ret [ak 3 n fun i=>rat (k i) ag]):=ah
theorem acN {q r:Rat} {n m:Nat}:cB T KA [] 60 f171 (aI f171) ⟨aU 0 [.rat q n,.rat r m],[],0⟩=
  let c1:Prop:=0<1;some (aj [c1,c1,n<2^42,m<2^42,c1] (aj [c1,c1] (aj [c1] (leaf ret [rat (q/r) (n+m)])))):=ah
theorem Qv {m:Nat} {c:Nat->Rat}:aH T sU [200016,11] 60 sX (before yK [1,1,1,1,0,1]) ⟨aU 0 [bp c (m+1) ag],[],0⟩=
  let c1:Int:=(↑(m+1):Int);let c2:Int:=c1-1;some (aj [(bif c1==0 then true else decide (c1>41))=false] (aj [-(2:Int)^63<=c2/\c2<2^63,(0:Int)<=c2,c2<=40] (aj [(0:Int)<=c1/\c1<=c1/\c1<=2^47/\c1*(↑(56:Nat):Int)<=2^47] (leaf normal ([ak 3 (m+1) fun i=>rat (c i) ag,ak 3 (c2.toNat+1) fun i=>rat (↑(↑(bn c2.toNat i):Int):Rat) 64,own 69632 3 0 c1.toNat,int i64 (↑c1.toNat:Int),int i64 0],[(69632,ax.mk true true 3 c1.toNat fun x=>rat 0 1)]))))):=ah
theorem adX {m i:Nat} {c x:Nat->Rat}:aH T sU [27] 60 sX (before zR [1,1,0]) ⟨aB sX (Ch m c i),[(0,cy (m+1) x ag)],1⟩=
  let c2:Nat:=m+1;let c1:List AV×aE:=([ak 3 c2 fun i=>rat (c i) ag,ak 3 c2 fun i=>rat (↑(↑(bn m i):Int):Rat) 64,own 0 3 0 c2,int i64 (↑c2:Int),int i64 (↑i:Int)],[(0,ax.mk true true 3 c2 fun i=>rat (x i) ag)]);some (fork (decide ((↑i:Int)<(↑c2:Int))) (leaf normal c1) (leaf (exit 0) c1)):=ah
theorem To {m i:Nat} {c x:Nat->Rat}:aH T sU [] 60 yA (before Cf [1,1]) ⟨aB sX (Ch m c i),[(0,cy (m+1) x ag)],1⟩=
  let c2:Nat:=m+1;let c1:Int:=(↑i:Int);some (aj [(0:Int)<=c1,c1<=40] (leaf normal ([ak 3 c2 fun i=>rat (c i) ag,ak 3 c2 fun i=>rat (↑(↑(bn m i):Int):Rat) 64,own 0 3 0 c2,int i64 (↑c2:Int),int i64 c1,int i64 c1,ak 3 (c1.toNat+1) fun i=>rat (↑(↑(bn c1.toNat i):Int):Rat) 64,int i64 (↑(c1.toNat+1):Int),int i64 0],[(0,ax.mk true true 3 c2 fun i=>rat (x i) ag)]))):=ah
theorem R4 {m i k:Nat} {c x:Nat->Rat}:aH T sU [33] 60 yA [part Cf [1,1,0,0]] ⟨aB yA (Dq m c i k),[(0,cy (m+1) x ag)],1⟩=
  let c10:Nat:=64+64;let c8:Int:=(↑i:Int);let c7:Int:=(↑(i+1):Int);let c5:AV:=ak 3 (i+1) fun i_1=>rat (↑(↑(bn i i_1):Int):Rat) 64;let c4:Nat:=2^42;let c3:Int:=(↑k:Int);let c1:Nat:=m+1;let c15:AV:=int i64 c8;let c14:Int:=c3+1;let c13:Prop:=(0:Int)<=c8/\c8.toNat<c1;let c12:Prop:=(0:Int)<=c3/\c3.toNat<c1;let c11:AV:=own 0 3 0 c1;let c9:AV:=ak 3 c1 fun i=>rat (c i) ag;let c6:AV:=ak 3 c1 fun i=>rat (↑(↑(bn m i):Int):Rat) 64;let c2:Nat:=c8.toNat+0;some (fork (decide (c3<c7)) (aj [(0:Int)<=c3/\c3.toNat<i+1,(0:Nat)<1] (aj [c13,c2<c1,(0:Nat)<1,c12,(64:Nat)<c4,(64:Nat)<c4,c12,c10<c4,ag<c4,ag<c4,c10+ag<c4,c13,c2<c1] (aj [-(2:Int)^63<=c14/\c14<2^63] (leaf normal ([c9,c6,c11,int i64 (↑c1:Int),c15,c15,c5,int i64 c7,int i64 c14],[(0,ax.mk true true 3 c1 fun j=>rat (bif j==c2 then x c2+(↑(↑(bn i c3.toNat):Int):Rat)/(↑(↑(bn m c3.toNat):Int):Rat)*c c3.toNat else x j) (bif j==c2 then ag+(c10+ag)+1 else ag))]))))) (leaf (exit 2) ([c9,c6,c11,int i64 (↑c1:Int),c15,c15,c5,int i64 c7,int i64 c3],[(0,ax.mk true true 3 c1 fun i=>rat (x i) ag)]))):=ah
theorem acq {m i k:Nat} {c x:Nat->Rat}:aH T sU [] 60 sX [part zR [1,1,1]] ⟨aB yA (Dq m c i k),[(0,cy (m+1) x ag)],1⟩=
  let c2:Int:=(↑i:Int)+1;let c1:Nat:=m+1;some (aj [-(2:Int)^63<=c2/\c2<2^63] (leaf normal ([ak 3 c1 fun i=>rat (c i) ag,ak 3 c1 fun i=>rat (↑(↑(bn m i):Int):Rat) 64,own 0 3 0 c1,int i64 (↑c1:Int),int i64 c2],[(0,ax.mk true true 3 c1 fun i=>rat (x i) ag)]))):=ah
theorem aeQ {m i:Nat} {c x:Nat->Rat}:cR T sU [] 60 f137 [part yK [1,1,1,1,1]] ⟨aB sX (Ch m c i),[(0,cy (m+1) x ag)],1⟩=
  some (leaf ret [ak 3 (m+1) fun i=>rat (x (i+0)) ag,int i64 0]):=ah
theorem Up {n s:Nat} {c:Nat->Rat} {r:Rat}:aH T GZ [] 60 Af (before wI [1,1,0,1]) ⟨aU 0 [bp c n ag,.rat r s],[],0⟩=
  let c1:Int:=(↑n:Int);some (aj [(0:Int)<=c1/\c1<=c1/\c1<=2^47/\c1*(↑(56:Nat):Int)<=2^47] (leaf normal ([ptr 0 0 (eC (rat r s)).size 0 [],own 16384 3 0 c1.toNat,ak 3 n fun i=>rat (c i) ag,int i64 c1,int i64 0],[(16384,ax.mk true true 3 c1.toNat fun x=>rat 0 1),(0,ax.mk false true (eC (rat r s)).size 1 fun x=>rat r s)]))):=ah
theorem agq {n s i:Nat} {c x:Nat->Rat} {r:Rat}:aH T GZ [14] 60 Af [part wI [1,1,0,1,0,0]] ⟨aB Af (Ez n c i),[(0,cy n x ag),(1,⟨false,true,3,1,fun _=>.rat r s⟩)],2⟩=
  let c10:Int:=(↑n:Int);let c7:AV:=own 0 3 0 n;let c5:Prop:=0<1;let c4:AV:=ptr 1 0 3 0 [];let c3:AV:=ak 3 n fun i=>rat (c i) ag;let c2:Nat×ax:=((1:Nat),gP fun x=>rat r s);let c1:Int:=(↑i:Int);let c9:Int:=c1+1;let c8:Prop:=(0:Int)<=c1/\c1.toNat<n;let c6:Nat:=c1.toNat+0;some (fork (decide (c1<c10)) (aj [c8,c5] (aj [c5,c5,s<2^42,ag<2^42,c8,c6<n] (aj [-(2:Int)^63<=c9/\c9<2^63] (leaf normal ([c4,c7,c3,int i64 c10,int i64 c9],[(0,ax.mk true true 3 n fun j=>rat (bif j==c6 then r*c c1.toNat else x j) (bif j==c6 then s+ag else ag)),c2]))))) (leaf (exit 0) ([c4,c7,c3,int i64 c10,int i64 c1],[(0,ax.mk true true 3 n fun i=>rat (x i) ag),c2]))):=ah
theorem T6 {n s i:Nat} {c x:Nat->Rat} {r:Rat}:cR T GZ [] 60 f121 [part wI [1,1,1]] ⟨aB Af (Ez n c i),[(0,cy n x ag),(1,⟨false,true,3,1,fun _=>.rat r s⟩)],2⟩=
  some (leaf ret [ak 3 n fun i=>rat (x (i+0)) ag]):=ah
theorem abS {n:Nat} {c:Nat->Rat}:aH T BC [] 60 oq (before ym [1,1,0,1]) ⟨aU 0 [bp c n ag],[],0⟩=
  some (leaf normal ([ak 3 n fun i=>rat (c i) ag,nil,int i64 1],[])):=ah
theorem SE {n i:Nat} {c x:Nat->Rat}:aH T BC [8] 60 oq [part ym [1,1,0,1,0,0]] ⟨aB oq (vh n c i),[(0,cy i x ag)],1⟩=
  let c5:Nat:=i+1;let c3:AV:=ak 3 n fun i=>rat (c i) ag;let c2:Int:=(2:Int)^63;let c1:Int:=(↑c5:Int);let c6:Int:=c1+1;let c4:Nat:=Max.max 1 (bX c1.natAbs);some (fork (decide (c1<(↑n:Int))) (aj [-c2<=c1,c1<c2,(0:Int)<=c1/\c1.toNat<n,c4<2^42,ag<2^42,(1:Nat)*3<=2^24,c5*((56:Nat)+1)*2<=2^47] (aj [-c2<=c6/\c6<c2] (leaf normal ([c3,own 53249 3 0 c5,int i64 c6],[(53249,ax.mk true true 3 c5 fun i_1=>if i_1<i then rat (x i_1) ag else nth [rat ((↑c1:Rat)*c c1.toNat) (c4+ag)] (rat 0 1) (i_1-i+0))])))) (leaf (exit 0) ([c3,own 0 3 0 i,int i64 c1],[(0,ax.mk true true 3 i fun i=>rat (x i) ag)]))):=ah
theorem YT {n i:Nat} {c x:Nat->Rat}:cR T BC [] 60 f73 [part ym [1,1,1]] ⟨aB oq (vh n c i),[(0,cy i x ag)],1⟩=
  some (aj [cZ (fun i=>rat (x (i+0)) ag) i ag,i<2^40] (leaf ret [ak 3 (bH (fun i=>aQ (rat (x (i+0)) ag)) i) fun i=>rat (aQ (rat (x (i+0)) ag)) ag])):=ah
theorem pR {q:Rat}:(bN q==0)=decide (q=0):=by
 unfold bN
 by_cases h:q=0
 ·simp[h]
 ·simp only[h,decide_false]
  split
  ·rfl
  ·split
   ·rfl
   ·grind
theorem V9 {n:Nat} {k:Nat->Rat} (hn:n<2^40) (K:Nat):aS P 114 K [bp k n ag] [] (aM (bp k (bH k n) ag) []):=by
 have hW:=cY
 refine iW (r:=aM (bp k (bH k n) ag) []) hT oY hm Gx rfl aZ rfl [1,0] (i:=0) (y:=part ni [1,0,0,0]) (z:=part ni [1,1]) ah ah ah (f1:=[]) (f2:=[6,15]) (f3:=[]) 60 nI 0
  (fun j:Nat=>[bp k j ag]) (fun _=>[]) (fun j=>j<=n/\bH k j=bH k n) (fun j=>j=bH k n) (fun j=>j) (fun _=>⟨⟨_,VQ,?_⟩,fun j hj=>⟨_,Ve,?_⟩,fun j hj=>⟨_,agM,?_⟩⟩) K []
 ·simp only[af.all,az]
  exact⟨n,⟨aT,rfl⟩,dP.vals rfl⟩
 ·obtain⟨h1,h2⟩:=hj
  simp only[af.all,az,cond_true,pR,bD,bI]
  refine⟨fun h=>⟨⟨aa,aa,aa,aa⟩,fun h3=>⟨aa,j-1,⟨aa,?_⟩,by dsimp only;omega,?_⟩,fun h3=>⟨rfl,j,?_,dP.vals rfl⟩⟩,fun h=>⟨aa,fun h3=>absurd h3 (by decide),fun _=>⟨rfl,j,?_,dP.vals rfl⟩⟩⟩
  ·rw[<-h2]
   obtain⟨m,rfl⟩:∃m,j=m+1:=⟨j-1,aa⟩
   rw[show(((m+1:Nat):Int)-1).toNat=m by omega]at h3
   show bH k m=_
   rw[bH,if_pos h3]
  ·rw[show((j:Int)-1).toNat-(0:Int).toNat=j-1 by omega]
   exact dP.vals rfl
  ·rw[<-h2]
   obtain⟨m,rfl⟩:∃m,j=m+1:=⟨j-1,aa⟩
   rw[show(((m+1:Nat):Int)-1).toNat=m by omega]at h3
   exact(qb (.inr h3)).symm
  ·rw[<-h2,show j=0 by omega];rfl
 ·rw[hj];exact .refl _
theorem G6:bf P uo 114:=dO fun⟨⟨n,k⟩,_⟩ K hn=>V9 hn K
theorem ab9:bU P KA:=gH (aL (jB fun _ _ K hn=>Ep hn.1 hn.2 K) iF)
theorem aep:bf P NA 171:=dO fun⟨⟨q,n⟩,⟨r,m⟩,_⟩ K hn=>by
 obtain⟨h1,h2⟩:=hn
 refine cF hT ab9 hm aba rfl aZ rfl 60 acN (fun _=>?_) K []
 simp only[af.all,az]
 exact⟨⟨aa,aa,h1,h2,aa⟩,⟨aa,aa⟩,aa,.refl _⟩
theorem Pz:bU P sU:=gH (aL MU (aL aep iF))
def jU (n:Nat) (c:Nat->Rat):Prop:=∀i k,i<n->k<=i+1->Sz (kA n c i k) ag
def lZ (n:Nat) (c:Nat->Rat) (i k j:Nat):Rat:=if j<i then fY n c j else if j=i then kA n c i k else 0
theorem acJ {m:Nat} {c:Nat->Rat} (hm1:m<=40) (hz:jU (m+1) c) (K:Nat):aS P 137 K [bp c (m+1) ag] [] (aM (.tuple [bp (fY (m+1) c) (m+1) ag,.int .i64 0]) []):=by
 refine iE (r:=aM (.tuple [bp (fY (m+1) c) (m+1) ag,.int .i64 0]) []) hT IV rfl aZ rfl (fun _ cx h0=>?_) K []
 have hk:=mR h0
 have hW:=cY
 refine au.qp hT Pz hm (x:=yK) [1,1,1,1,0,1] (i:=0) (y:=zR) (z:=part yK [1,1,1,1,1]) ah ah ah IV.dst [1,1,0] (j:=1) (x1:=Cf) (zb:=part zR [1,1,1]) ah ah ah [1,1] (i2:=2) (y2:=part Cf [1,1,0,0]) ah ah rfl hk
  (f1:=[200016,11]) (f2:=[27]) (f3:=[]) (f4:=[33]) (f5:=[]) 60 sX yA 1 1 (fun i:Nat=>Ch m c i) (fun i=>[(0,cy (m+1) (lZ (m+1) c i 0) ag)]) (fun i=>i<=m+1) (fun i=>i=m+1) (fun i=>m+1-i) (fun i=>i<m+1) (fun _=>False) (fun _=>False)
  (fun i (k:Nat)=>Dq m c i k) (fun i k=>[(0,cy (m+1) (lZ (m+1) c i k) ag)]) (fun i k=>k<=i+1) (fun i k=>k=i+1) (fun i k=>i+1-k)
  ⟨_,Qv,?_⟩ (fun i hi=>⟨_,adX,?_⟩) (fun i hi hG=>⟨_,To,?_⟩) (fun i hi hG k hk=>⟨_,R4,?_⟩) (fun i hi hG k hk=>⟨_,acq,?_⟩) (fun i hi=>?_) (fun _ _ h=>h.elim) (fun _ _ h=>h.elim)
 ·simp only[af.all,az,bG]
  have e1:(((m+1:Nat):Int)-1).toNat=m:=aa
  have e2:(((m+1:Nat):Int)==0)=false:=by rw[beq_eq_false_iff_ne];omega
  rw[e1,e2]
  simp only[cond_false,bI]
  refine⟨aa,⟨aa,aa,aa⟩,aa,0,aa,[(0,69632)],rfl,rfl,rfl,bk rfl rfl rfl (fun j hj=>.inr ⟨rfl,dM ?_ aa⟩) trivial⟩
  unfold lZ;rw[if_neg (Nat.not_lt_zero j)];split<;>rfl
 ·simp only[af.all,az,bD,bI]
  exact⟨fun h=>⟨aa,[(0,0)],rfl,rfl,rfl,bk rfl rfl rfl (fun i hi=>bK rfl rfl) trivial⟩,fun h=>⟨rfl,i,aa,[(0,0)],rfl,rfl,rfl,bk rfl rfl rfl (fun i hi=>bK rfl rfl) trivial⟩⟩
 ·simp only[af.all,az,bG]
  exact⟨aa,0,aa,[(0,0)],rfl,rfl,rfl,bk rfl rfl rfl (fun i hi=>bK rfl rfl) trivial⟩
 ·simp only[af.all,az,bD,bI,bG,Nat.add_zero]
  refine⟨fun h=>⟨aa,aa,aa,k+1,aa,by dsimp only;omega,[(0,0)],rfl,rfl,rfl,bk rfl rfl rfl (fun j hj=>?_) trivial⟩,fun h=>⟨rfl,k,aa,[(0,0)],rfl,rfl,rfl,bk rfl rfl rfl (fun j hj=>bK rfl rfl) trivial⟩⟩
  have e1:∀q,lZ (m+1) c i q i=kA (m+1) c i q:=fun q=>by unfold lZ;rw[if_neg (Nat.lt_irrefl i),if_pos rfl]
  exact mC (x:=lZ (m+1) c i k) (y:=lZ (m+1) c i (k+1)) (dY (by rw[e1,e1];rfl) (by rw[e1];exact hz i (k+1) hG aa)) fun hj=>dM (by unfold lZ;rw[if_neg hj,if_neg hj]) aT
 ·subst hk
  simp only[af.all,az]
  refine⟨aa,i+1,aa,by dsimp only;omega,[(0,0)],rfl,rfl,rfl,bk rfl rfl rfl (fun j hj=>bK rfl ?_) trivial⟩
  show AV.rat (lZ (m+1) c i (i+1) j) ag=AV.rat (lZ (m+1) c (i+1) 0 j) ag
  unfold lZ
  by_cases h1:j<i
  ·rw[if_pos h1,if_pos aa]
  ·by_cases h2:j=i
   ·subst h2;rw[if_neg h1,if_pos rfl,if_pos aa];rfl
   ·rw[if_neg h1,if_neg h2,if_neg aa];split<;>rfl
 ·subst hi
  refine au.mQ ((aF.fin hT Pz hm 60 aeQ ah ?_).mono fun _ _ h=>.inl h)
  refine⟨ir fun i hi=>dM ?_ aT,.refl _,trivial⟩
  show lZ (m+1) c (m+1) 0 i=_
  unfold lZ;rw[if_pos hi]
def OL:Spec:=en (kC (kL ag) kN) (fun a=>.tuple [bp (fY a.1.1 a.1.2) a.1.1 ag,.int .i64 0]) fun a=>[1<=a.1.1,a.1.1<=41,jU a.1.1 a.1.2]
theorem af7:bf P OL 137:=dO fun⟨⟨n,p⟩,_⟩ K hn=>by
 obtain⟨h1,h2,h3⟩:=hn
 simp only at h1 h2 h3
 obtain⟨m,rfl⟩:∃m,n=m+1:=⟨n-1,aa⟩
 exact acJ aa h3 K
theorem uX:ek=ag+1000:=rfl
theorem TE {n:Nat} {c:Nat->Rat} {r:Rat} (hn:n<2^40) (hz:cN n fun i=>r*c i) (K:Nat):aS P 121 K [bp c n ag,.rat r ek] [] (aM (bp (fun i=>r*c i) n ag) []):=by
 have hW:=cY
 have hX:=uX
 refine iW (r:=aM (bp (fun i=>r*c i) n ag) []) hT oY hm aaU rfl aZ rfl [1,1,0,1] (i:=0) (y:=part wI [1,1,0,1,0,0]) (z:=part wI [1,1,1]) ah ah ah (f1:=[]) (f2:=[14]) (f3:=[]) 60 Af 2
  (fun i:Nat=>Ez n c i) (fun i=>[(0,cy n (fun j=>if j<i then r*c j else 0) ag),(1,⟨false,true,3,1,fun _=>.rat r ek⟩)]) (fun i=>i<=n) (fun i=>i=n) (fun i=>n-i) (fun _=>⟨⟨_,Up,?_⟩,fun i hi=>⟨_,agq,?_⟩,fun i hi=>⟨_,T6,?_⟩⟩) K []
 ·simp only[af.all,az,bG]
  exact⟨aa,0,Nat.zero_le _,[(0,16384),(1,0)],rfl,rfl,rfl,bk rfl rfl rfl (fun i hi=>.inr ⟨rfl,dM (if_neg (Nat.not_lt_zero i)).symm aa⟩) (dx trivial)⟩
 ·simp only[af.all,az,bD,bI,bG,Nat.add_zero]
  refine⟨fun h2=>⟨aa,aa,aa,i+1,aa,by dsimp only;omega,[(0,0),(1,1)],rfl,rfl,rfl,bk rfl rfl rfl (fun j hj=>?_) (dx trivial)⟩,fun h2=>⟨rfl,i,aa,[(0,0),(1,1)],rfl,rfl,rfl,bk rfl rfl rfl (fun j hj=>bK rfl rfl) (dx trivial)⟩⟩
  exact mC (x:=fun j=>if j<i then r*c j else 0) (y:=fun j=>if j<i+1 then r*c j else 0) (dY (if_pos (Nat.lt_succ_self i)).symm (by show Sz (if i<i+1 then _ else _) _;rw[if_pos (Nat.lt_succ_self i)];exact hz i aa)) fun hj=>dM (Dk hj).symm aT
 ·subst hi
  simp only[af.all,az]
  exact ir fun j hj=>by rw[Nat.add_zero,if_pos hj];exact .refl _
def F6:Spec:=en (kC (kL ag) (kC (eZ ek) kN)) (fun a=>bp (fun i=>a.2.1*a.1.2 i) a.1.1 ag) fun a=>[a.1.1<2^40,cN a.1.1 fun i=>a.2.1*a.1.2 i]
theorem P2:bf P F6 121:=dO fun⟨⟨n,c⟩,r,_⟩ K hn=>TE hn.1 hn.2 K
theorem Qi:bU P BC:=gH (aL G6 iF)
theorem Xb {n:Nat} {c:Nat->Rat} (hn:n<2^40) (hz:cN (n-1) (cO c)) (K:Nat):aS P 73 K [bp c n ag] [] (aM (bp (cO c) (bH (cO c) (n-1)) ag) []):=by
 have hW:=cY
 refine iW (r:=aM (bp (cO c) (bH (cO c) (n-1)) ag) []) hT Qi hm afH rfl aZ rfl [1,1,0,1] (i:=0) (y:=part ym [1,1,0,1,0,0]) (z:=part ym [1,1,1]) ah ah ah (f1:=[]) (f2:=[8]) (f3:=[]) 60 oq 1
  (fun i:Nat=>vh n c i) (fun i=>[(0,cy i (cO c) ag)]) (fun i=>i<=n-1) (fun i=>i=n-1) (fun i=>n-1-i) (fun _=>⟨⟨_,abS,?_⟩,fun i hi=>⟨_,SE,?_⟩,fun i hi=>⟨_,YT,?_⟩⟩) K []
 ·simp only[af.all,az]
  exact⟨0,aa,[],rfl,rfl,rfl,lF rfl aa aa trivial⟩
 ·have hb:(max 1 (bX ((i+1:Nat):Int).natAbs))<=64:=by
   rw[Int.natAbs_natCast]
   have:=j6 (x:=i+1) (k:=64)|>.2 aa
   omega
  simp only[af.all,az,bD,bI,bG]
  refine⟨fun h2=>⟨aa,aa,i+1,aa,by dsimp only;omega,[(0,53249)],rfl,?_,rfl,bk rfl rfl rfl (fun j hj=>?_) trivial⟩,fun h2=>⟨rfl,i,aa,[(0,0)],rfl,rfl,rfl,bk rfl rfl rfl (fun j hj=>bK rfl rfl) trivial⟩⟩
  ·rw[show((i+1:Nat):Int)+1=((i+1+1:Nat):Int) by omega];rfl
  ·refine .inr ⟨?_,?_⟩
   ·split
    ·rfl
    ·rw[show j-i+0=0 by omega];rfl
   ·split
    ·exact .refl _
    ·rw[show j-i+0=0 by omega,show j=i by omega]
     exact dY rfl (hz i aa)
 ·subst hi
  simp only[af.all,az]
  exact⟨⟨dU aT,aa⟩,.refl _⟩
def qq:Spec:=en (kC (kL ag) kN) (fun a=>bp (cO a.1.2) (bH (cO a.1.2) (a.1.1-1)) ag) fun a=>[a.1.1<2^40,cN (a.1.1-1) (cO a.1.2)]
theorem Dz:bf P qq 73:=dO fun⟨⟨n,c⟩,_⟩ K hn=>Xb hn.1 hn.2 K
def ua (f:Nat->AV) (n s:Nat):Prop:=∀i,i<n->keys (f i)=[]/\bg (f i) (.rat (aQ (f i)) s)
def xC:Spec:=fun _ args pre=>match args,pre with
 |[.own k 3 0 n],[(k',⟨true,true,3,m,f⟩)]=>match k'==k with
  |true=>some ⟨.own k 3 0 (bH (fun i=>aQ (f i)) n),[(k,cy m (fun i=>aQ (f i)) ag)],[n<=m,n<2^40,ua f m ag]⟩
  |false=>none
 |_,_=>none
abbrev vk:FuncId:=141
abbrev Ca:Func:=f141
def IJ:Spec:=rJ fun K l=>match l with
 |[v]=>match(kL ag).read v with
  |some ((0,k),q)=>some (aM (bp k 0 ag) q)
  |some ((n+1,k),q)=>some ⟨.own K 3 0 (n+1),[(K,cy (n+1) k ag)],q++[n+1<2^30]⟩
  |none=>none
 |_=>none
def Nq:bz:=zG::(142,jo kR kR Da qk)::(121,F6)::iC
def FD (n:Nat):Nat:=if n=0 then 1 else n
def JZ (n:Nat) (c:Nat->Rat) (i:Nat):Rat:=if n=0 then 0 else fY n c i
def NH:bz:=zG::(137,OL)::iC
def Oq:bz:=zG::(115,AH)::(114,uo)::iC
theorem Ns:br vk Ca:=bu func141
theorem Z6:br 135 f135:=bu func135
theorem TQ:br 81 f81:=bu func81
theorem Xw:br 57 f57:=bu func57
theorem abn {n m:Nat} {x:Nat->Rat}:aH T GZ [] 60 nI (before ni [1,0]) ⟨aU 0 [.own 0 3 0 n],[(0,cy m x ag)],1⟩=
  some (leaf normal ([own 0 3 0 n],[(0,ax.mk true true 3 m fun i=>rat (x i) ag)])):=ah
theorem Ws {n m:Nat} {x:Nat->Rat}:aH T GZ [6,15] 60 nI [part ni [1,0,0,0]] ⟨aB nI [.own 0 3 0 n],[(0,cy m x ag)],1⟩=
  let c7:Int:=(↑n:Int);let c4:Int:=(2:Int)^63;let c3:Nat×ax:=(0,ax.mk true true 3 m fun i=>rat (x i) ag);let c6:af (List AV×aE):=leaf (exit 0) ([own 0 3 0 n],[c3]);let c5:Bool:=decide (c7>0);let c2:Int:=c7-1;let c1:af (List AV×aE):=aj [-c4<=c2/\c2<c4,(0:Int)<=0/\(0:Int)<=c2/\c2<=c2/\c2<=c7] (leaf normal ([own 0 3 0 (c2.toNat-Int.toNat (0:Int))],[c3]));some (fork c5 (aj [c5=true,-c4<=c2/\c2<c4,(0:Int)<=c2/\c2.toNat<n,c2.toNat+0<m,ag<2^42] (fork (bif true then bN (x (c2.toNat+0))==0 else false) c1 c6)) (aj [c5=false] (fork false c1 c6))):=ah
theorem Tv {n m:Nat} {x:Nat->Rat}:aH T GZ [] 60 [2] [part ni [1,1]] ⟨aB nI [.own 0 3 0 n],[(0,cy m x ag)],1⟩=
  some (leaf ret ([own 0 3 0 n],[(0,ax.mk true true 3 m fun i=>rat (x i) ag)])):=ah
theorem adF {n:Nat} {k:Nat->Rat}:aH T [nG] [] 60 [2] [aI Ca] ⟨aU 0 [.eJ false 3 n (fun i=>.rat (k i) ag)],[],0⟩=
  some (aj [(0:Nat)*3<=2^24,((0:Nat)+n)*((56:Nat)+1)*2<=2^47] (leaf ret ([own 20480 3 0 ((0:Nat)+n)],[(20480,ax.mk true true 3 ((0:Nat)+n) fun i=>rat (k (i-0)) ag)]))):=ah
theorem XU {b:Bool} {k:Nat->Rat}:cB T [zG] [4] 60 Ca (aI Ca) ⟨aU 0 [.eJ b 3 0 (fun i=>.rat (k i) ag)],[],0⟩=
  some (fork b (leaf ret [nil]) (aj [(0:Nat)*3<=2^24,((0:Nat)+0)*((56:Nat)+1)*2<=2^47] (leaf ret [ak 3 0 fun i=>rat (k (i+0-0)) ag]))):=ah
theorem Qq {n:Nat} {c:Nat->Rat}:cB T Nq [7] 60 f135 (aI f135) ⟨aU 0 [bp c n ag],[],0⟩=
  let c3:Nat:=Max.max 1 (bX (Int.natAbs (1:Int)));let c2:Int:=(2:Int)^63;let c1:Int:=(↑n:Int)-1;let c4:Rat:=(↑(1:Int):Rat)/c c1.toNat;some (fork ((↑n:Int)==0) (leaf ret [nil]) (aj [-c2<=1,(1:Int)<c2,-c2<=c1/\c1<c2,(0:Int)<=c1/\c1.toNat<n,c3<2^42,ag<2^42,(0:Nat)<1] (aj [(0:Nat)<1,cZ (fun i=>rat (c i) ag) n ag,c3+ag<=ek,n<2^40,cN n fun i=>c4*aQ (rat (c i) ag)] (leaf ret [ak 3 n fun i=>rat (c4*aQ (rat (c i) ag)) ag])))):=ah
theorem ZT {n:Nat} {c:Nat->Rat}:cB T NH [7] 60 f81 (aI f81) ⟨aU 0 [bp c n ag],[],0⟩=
  some (fork ((↑n:Int)==0) (aj [(1:Nat)*3<=2^24] (leaf ret [ak 3 1 fun i=>nth [agg [AV.bool (decide ((0:Rat)<0)),mag (↑(nat_lit 0):Int).natAbs,mag (if 1=1 then 0 else 1)]] (rat 0 1) (i+0)])) (aj [cZ (fun i=>rat (c i) ag) n ag,(1:Nat)<=n,n<=41,jU n fun i=>aQ (rat (c i) ag)] (leaf ret [ak 3 n fun i=>rat (fY n (fun i=>aQ (rat (c i) ag)) i) ag]))):=ah
theorem agX {n:Nat} {c:Nat->Rat}:cB T Oq [] 60 f57 (aI f57) ⟨aU 0 [bp c n ag],[],0⟩=
  some (aj [cZ (fun i=>rat (c i) ag) n ag,(1:Nat)<=n,n<=41,sW n fun i=>aQ (rat (c i) ag),cZ (fun i=>rat (gk n (fun i=>aQ (rat (c i) ag)) i) ag) n ag,n<2^40] (leaf ret [ak 3 (bH (fun i=>aQ (rat (gk n (fun i=>aQ (rat (c i) ag)) i) ag)) n) fun i=>rat (aQ (rat (gk n (fun i=>aQ (rat (c i) ag)) i) ag)) ag])):=ah
theorem Wc {kk n m:Nat} {x:Nat->Rat} (hn:n<2^40) (hnm:n<=m) (c:Ctx) (hk:Kept [0] c):au P c f114.ntmps ni ⟨aU 0 [.own 0 3 0 n],[(0,cy m x ag)],1⟩ (Hq f114 kk [.own kk 3 0 (bH x n)] (cy m x ag)):=by
 have hW:=cY
 have re:∀j,dP [0] ([.own 0 3 0 j],[((0:Nat),cy m x ag)]) [.own 0 3 0 j] [(0,cy m x ag)] 1:=fun j=>⟨[(0,0)],rfl,rfl,rfl,nD trivial⟩
 refine au.rz hT oY hm [1,0] (i:=0) (y:=part ni [1,0,0,0]) (z:=part ni [1,1]) ah ah ah Gx.dst hk (f1:=[]) (f2:=[6,15]) 60 nI 1
  (fun j:Nat=>[.own 0 3 0 j]) (fun _=>[(0,cy m x ag)]) (fun j=>j<=n/\bH x j=bH x n) (fun j=>j=bH x n) (fun j=>j) (fun _=>False) ⟨_,abn,?_⟩ (fun j hj=>⟨_,Ws,?_⟩) (fun j hj=>?_) (fun _ _ h=>h.elim)
 ·simp only[af.all,az]
  exact⟨n,⟨aT,rfl⟩,re n⟩
 ·obtain⟨h1,h2⟩:=hj
  simp only[af.all,az,cond_true,pR,bD,bI,Nat.add_zero]
  refine⟨fun h=>⟨⟨aa,aa,aa,aa,aa⟩,fun h3=>⟨aa,j-1,⟨aa,?_⟩,by dsimp only;omega,?_⟩,fun h3=>⟨rfl,j,?_,re j⟩⟩,fun h=>⟨aa,fun h3=>absurd h3 (by decide),fun _=>⟨rfl,j,?_,re j⟩⟩⟩
  ·rw[<-h2]
   obtain⟨m,rfl⟩:∃m,j=m+1:=⟨j-1,aa⟩
   rw[show(((m+1:Nat):Int)-1).toNat=m by omega]at h3
   show bH x m=_
   rw[bH,if_pos h3]
  ·rw[show((j:Int)-1).toNat-(0:Int).toNat=j-1 by omega]
   exact re (j-1)
  ·rw[<-h2]
   obtain⟨m,rfl⟩:∃m,j=m+1:=⟨j-1,aa⟩
   rw[show(((m+1:Nat):Int)-1).toNat=m by omega]at h3
   exact(qb (.inr h3)).symm
  ·rw[<-h2,show j=0 by omega];rfl
 ·subst hj
  exact au.bL hT oY hm 60 [2] Tv ah fun s' hs'=>⟨.inr rfl,[2],_,[.own 0 3 0 (bH x n)],_,_,hs',ah,⟨⟨rfl,ec (by simp[aX,look]) rfl rfl⟩,trivial⟩,rfl,ia rfl fun i hi=>fh rfl⟩
theorem ada:bf P xC 114:=by
 intro K args pre r h
 unfold xC at h
 split at h
 ·rename_i k n k' m f
  split at h
  ·rename_i hc
   have hc:=eq_of_beq hc
   subst hc
   simp only[ay]at h
   subst h
   intro need
   have h0:=need
   obtain⟨n1,n2,n3⟩:=need
   exact I5 hT Gx (rest:=[]) (ws:=[.own k' 3 0 _]) (o2:=⟨true,true,3,m,f⟩) (o:=cy m (fun i=>aQ (f i)) ag) rfl rfl aZ (fun ρ=>ia rfl fun i hi=>iS (n3 i hi).1 (n3 i hi).2) (fun _ c hk=>Wc n2 n1 c hk) K h0
  ·simp at h
 ·simp at h
theorem Ty {args:List AV} {n:Nat} {k:Nat->Rat} {l:List Prop} (ha:az l->gQ (aX []) args [.eJ false 3 n (fun i=>.rat (k i) ag)]) (hn:az l->n<2^30) (K:Nat):aS P vk K args [] ⟨nO [.own K 3 0 n],[(K,cy n k ag)],l⟩:=by
 refine CG hT Ns ha aZ fun need c hk=>?_
 have h2:=hn need
 refine au.bL hT (jq cG) hm 60 [2] adF ah ?_
 simp only[af.all,az]
 exact⟨⟨aa,aa⟩,fun s' hs'=>⟨.inr trivial,[2],_,[.own 20480 3 0 (0+n)],_,20480,_,hs',ah,⟨⟨rfl,ec (by simp[aX,look]) rfl aa⟩,trivial⟩,rfl,ia aa fun i hi=>fh rfl⟩⟩
theorem X3 {n:Nat} {k:Nat->Rat} {l:List Prop} (hn:az l->1<=n/\n<2^30) (K:Nat):aS P vk K [bp k n ag] [] ⟨nO [.own K 3 0 n],[(K,cy n k ag)],l⟩:=by
 refine Gm fun b hb=>?_
 intro need
 have h1:=hn need
 cases b
 ·exact Ty (args:=[.eJ false 3 n (fun i=>.rat (k i) ag)]) (fun _=>⟨aP,trivial⟩) (fun h=>(hn h).2) K need
 ·have:=hb rfl
  omega
theorem acF {k:Nat->Rat} (K:Nat):aS P vk K [bp k 0 ag] [] (aM (bp k 0 ag) []):=by
 refine Gm fun b hb=>?_
 refine cF hT (gH cG) hm Ns rfl aZ rfl 60 XU (fun _=>?_) K []
 simp only[af.all,az]
 exact⟨fun _=>lS aa,fun _=>⟨⟨aa,aa⟩,ir fun i hi=>absurd hi (Nat.not_lt_zero i)⟩⟩
theorem ag2:bf P IJ vk:=by
 refine wv fun K args r hk hs=>?_
 split at hs
 ·rename_i v
  split at hs
  ·rename_i k q hv
   simp only[ay]at hs
   subst hs
   intro need
   exact gT (acF K) hk ⟨(kL ag).ok hv need,trivial⟩ [] trivial
  ·rename_i n k q hv
   simp only[ay]at hs
   subst hs
   intro need
   obtain⟨hn1,hn2⟩:=gB.1 need
   exact gT (X3 (l:=q++[n+1<2^30]) (fun h=>⟨Nat.succ_pos n,(gB (a:=q) (b:=[n+1<2^30]).1 h).2⟩) K) hk ⟨(kL ag).ok hv hn1,trivial⟩ [] need
  ·simp at hs
 ·simp at hs
theorem adU:bU P Nq:=gH (aL (jB fun _ _ K hn=>Ep hn.1 hn.2 K) (aL P2 iF))
theorem PN {n:Nat} {c:Nat->Rat} (i:Nat):((1:Int):Rat)/c (n-1)*c i=cM n c i:=by
 unfold cM;rw[Rat.div_def,Rat.div_def,Rat.mul_comm];congr 1;exact Rat.one_mul _
theorem R6 {n:Nat} {c:Nat->Rat} (hn:n<2^40) (hz:cN n (cM n c)) (K:Nat):aS P 135 K [bp c n ag] [] (aM (bp (cM n c) n ag) []):=by
 have hW:=cY
 have hX:=uX
 refine cF hT adU hm Z6 rfl aZ rfl 60 Qq (fun _=>?_) K []
 simp only[af.all,az,beq_iff_eq,beq_eq_false_iff_ne]
 refine⟨fun h=>?_,fun h=>?_⟩
 ·rw[show n=0 by omega];exact lS aa
 ·rw[show((n:Int)-1).toNat=n-1 by omega]
  have hb:bX (Int.natAbs 1)=1:=by decide
  refine⟨⟨aa,aa,aa,aa,by rw[hb];decide,aa,aa⟩,⟨aa,dU aT,?_,hn,fun i hi=>by show Sz (_*c i) _;rw[PN];exact hz i hi⟩,ir fun i hi=>dM (PN i) aT⟩
  rw[hb,Nat.max_self];omega
def E7:Spec:=en (kC (kL ag) kN) (fun a=>bp (cM a.1.1 a.1.2) a.1.1 ag) fun a=>[a.1.1<2^40,cN a.1.1 (cM a.1.1 a.1.2)]
theorem Mm:bf P E7 135:=dO fun⟨⟨n,c⟩,_⟩ K hn=>R6 hn.1 hn.2 K
theorem Rb:bU P NH:=gH (aL af7 iF)
theorem SV {n:Nat} {c:Nat->Rat} (hn:n<=41) (hz:jU n c) (K:Nat):aS P 81 K [bp c n ag] [] (aM (bp (JZ n c) (FD n) ag) []):=by
 refine cF hT Rb hm TQ rfl aZ rfl 60 ZT (fun _=>?_) K []
 simp only[af.all,az,beq_iff_eq,beq_eq_false_iff_ne]
 refine⟨fun h=>⟨aa,?_⟩,fun h=>⟨⟨dU aT,aa,hn,hz⟩,?_⟩⟩
 ·obtain rfl:n=0:=aa
  refine ir (n:=1) fun i hi=>?_
  obtain rfl:i=0:=aa
  exact pF
 ·have e1:FD n=n:=if_neg aa
  rw[e1]
  exact ir fun i hi=>dM (if_neg (show¬n=0 by omega)).symm aT
theorem XO:bU P Oq:=gH (aL Ry (aL G6 iF))
theorem afq {n:Nat} {c:Nat->Rat} (h1:1<=n) (h2:n<=41) (h3:sW n c) (K:Nat):aS P 57 K [bp c n ag] [] (aM (bp (gk n c) (bH (gk n c) n) ag) []):=by
 refine cF hT XO hm Xw rfl aZ rfl 60 agX (fun _=>?_) K []
 simp only[af.all,az]
 exact⟨⟨dU aT,h1,h2,h3,dU aT,aa⟩,.refl _⟩
def uO:Spec:=fun K args pre=>match xC K args pre with
 |some r=>some r
 |none=>uo K args pre
def qM:bz:=zG::(vk,IJ)::(114,uO)::(142,jo kR kR Da qk)::iC
abbrev wE:Code:=aI f88
abbrev G5:Code:=part wE [1,1,1,1,0,0,0]
abbrev yZ:Code:=part G5 [1,0]
abbrev tP:List Nat:=[1,4,5,6]
abbrev zK (e:Nat) (d:Nat->Rat) (R L:Nat):List AV:=[bp d (e+1) ag,.own 1 3 0 R,.own 0 3 0 L,.int .i64 e]
abbrev zL (n R:Nat) (x q:Nat->Rat):aE:=[(0,cy n x ag),(1,cy R q ag)]
abbrev Ae:List Nat:=[1,4,5,6,7,8,55,56,57]
abbrev Ff (e:Nat) (d:Nat->Rat) (R L k i:Nat):List AV:=[bp d (e+1) ag,.own 1 3 0 R,.own 0 3 0 L,.int .i64 e,.int .i64 k,.ptr 2 0 3 0 [],bp d e ag,.int .i64 e,.int .i64 i]
abbrev Fo (n R:Nat) (x q:Nat->Rat) (f:Rat):aE:=[(2,⟨false,true,3,1,fun _=>.rat f ag⟩),(0,cy n x ag),(1,cy R q ag)]
theorem Eb:br 88 f88:=bu func88
theorem ahi {e:Nat} {a d:Nat->Rat}:cB T qM [200020,200029] 60 f88 (aI f88) ⟨aU 0 [bp a 0 ag,bp d (e+1) ag],[],0⟩=
  let c3:AV:=rat 0 1;let c2:Int:=(↑(0:Nat):Int);let c1:Int:=(↑(e+1):Int)-1;some (aj [cZ (fun i=>rat (a i) ag) 0 ag] (aj [-(2:Int)^63<=c1/\c1<2^63] (aj [decide (c2>c1)=false] (aj [decide (c2>c1)=false] (aj [cZ (fun x=>c3) 0 ag,(0:Nat)<2^40] (leaf ret [ak 3 0 fun i=>rat (aQ c3) ag,ak 3 0 fun i=>rat (aQ (rat (a i) ag)) ag])))))):=ah
theorem Y3 {n e:Nat} {a d:Nat->Rat}:aH T qM [20] 60 tP (before wE [1,1,1,1,0]) ⟨aU 0 [bp a (n+1) ag,bp d (e+1) ag],[],0⟩=
  let c6:Int:=(2:Int)^63;let c5:AV:=ak 3 (e+1) fun i=>rat (d i) ag;let c3:Int:=(↑(e+1):Int)-1;let c2:Nat:=n+1;let c7:List AV:=[own 12288 3 0 c2,int i64 c3];let c4:Nat×ax:=(12288,ax.mk true true 3 c2 fun i=>rat (aQ (rat (a i) ag)) ag);let c1:Int:=(↑c2:Int)-c3;some (aj [cZ (fun i=>rat (a i) ag) (n+1) ag,c2<2^30] (aj [-c6<=c3/\c3<c6] (fork (decide ((↑c2:Int)>c3)) (aj [-c6<=c1/\c1<c6,(0:Int)<=c1/\c1<=c1/\c1<=2^47/\c1*(↑(56:Nat):Int)<=2^47] (leaf normal (c5::own 69632 3 0 c1.toNat::c7,[c4,(69632,ax.mk true true 3 c1.toNat fun x=>rat 0 1)]))) (leaf normal (c5::nil::c7,[c4]))))):=ah
theorem Ui {n e R L:Nat} {d x q:Nat->Rat}:aH T qM [29] 60 tP (before G5 [1]) ⟨aB tP (zK e d R L),zL n R x q,2⟩=
  let c1:List AV×aE:=([ak 3 (e+1) fun i=>rat (d i) ag,own 1 3 0 R,own 0 3 0 L,int i64 (↑e:Int)],[(0,ax.mk true true 3 n fun i=>rat (x i) ag),(1,ax.mk true true 3 R fun i=>rat (q i) ag)]);some (fork (decide ((↑L:Int)>(↑e:Int))) (leaf normal c1) (leaf (exit 0) c1)):=ah
theorem Rj {n e R L:Nat} {d x q:Nat->Rat}:aH T qM [] 60 Ae (before yZ [1,1,1,0,1]) ⟨aB tP (zK e d R L),zL n R x q,2⟩=
  let c7:Prop:=ag<2^42;let c6:Nat:=Int.toNat (0:Int);let c3:Int:=(2:Int)^63;let c2:Int:=(↑e:Int);let c1:Int:=(↑L:Int)-1;let c5:Nat:=c1.toNat+0;let c4:Nat:=(c1-c2).toNat+0;some (aj [-c3<=c1/\c1<c3,-c3<=c1-c2/\c1-c2<c3] (aj [-c3<=c1/\c1<c3,(0:Int)<=c1/\c1.toNat<L,c5<n,(0:Int)<=c2/\c2.toNat<e+1,c7,c7,(0:Nat)<1] (aj [(0:Nat)<1,(0:Int)<=c1-c2/\(c1-c2).toNat<R,c4<R] (aj [(0:Int)<=0/\(0:Int)<=c2/\c2<=c2/\c2<=(↑(e+1):Int)] (leaf normal ([ak 3 (e+1) fun i=>rat (d i) ag,own 1 3 0 R,own 0 3 0 L,int i64 c2,int i64 (c1-c2),ptr 81922 0 3 0 [],ak 3 (c2.toNat-c6) fun i=>rat (d (i+c6)) ag,int i64 (↑(c2.toNat-c6):Int),int i64 0],[((81922:Nat),gP fun j=>if(j==0)=true then eC (rA (x c5/d c2.toNat) (ag+ag))else rat 0 1),(0,ax.mk true true 3 n fun i=>rat (x i) ag),(1,ax.mk true true 3 R fun j=>rat (bif j==c4 then x c5/d c2.toNat else q j) (bif j==c4 then ag+ag else ag))])))))):=ah
theorem ZQ {n e R L k i:Nat} {d x q:Nat->Rat} {f:Rat}:aH T qM [58] 60 Ae [part yZ [1,1,1,0,1,0,0]] ⟨aB Ae (Ff e d R L k i),Fo n R x q f,3⟩=
  let c14:AV:=own 0 3 0 L;let c13:AV:=own 1 3 0 R;let c12:Prop:=0<1;let c11:AV:=ptr 2 0 3 0 [];let c10:AV:=int i64 (↑e:Int);let c9:AV:=ak 3 e fun i=>rat (d i) ag;let c8:Nat:=2^42;let c7:Int:=(↑i:Int);let c6:AV:=ak 3 (e+1) fun i=>rat (d i) ag;let c4:Nat×ax:=(1,ax.mk true true 3 R fun i=>rat (q i) ag);let c3:Nat×ax:=((2:Nat),gP fun x=>rat f ag);let c2:Int:=(2:Int)^63;let c16:Int:=c7+1;let c1:Int:=(↑k:Int)+c7;let c15:Prop:=(0:Int)<=c1/\c1.toNat<L;let c5:Nat:=c1.toNat+0;some (fork (decide (c7<(↑e:Int))) (aj [(0:Int)<=c7/\c7.toNat<e,c12] (aj [-c2<=c1/\c1<c2,-c2<=c1/\c1<c2,c15,c5<n,c12,c12,ag<c8,ag<c8,ag<c8,ag+ag<c8,c15,c5<n] (aj [-c2<=c16/\c16<c2] (leaf normal ([c6,c13,c14,c10,int i64 (↑k:Int),c11,c9,c10,int i64 c16],[c3,(0,ax.mk true true 3 n fun j=>rat (bif j==c5 then x c5-f*d c7.toNat else x j) (bif j==c5 then ag+(ag+ag)+1 else ag)),c4]))))) (leaf (exit 2) ([c6,c13,c14,c10,int i64 (↑k:Int),c11,c9,c10,int i64 c7],[c3,(0,ax.mk true true 3 n fun i=>rat (x i) ag),c4]))):=ah
theorem Yf {n e R L k i:Nat} {d x q:Nat->Rat} {f:Rat}:aH T qM [] 60 tP (behind yZ [1,1,1,0,1]) ⟨aB Ae (Ff e d R L k i),Fo n R x q f,3⟩=
  let c1:Int:=(↑L:Int)-1;let c2:Nat:=c1.toNat-Int.toNat (0:Int);some (aj [-(2:Int)^63<=c1/\c1<2^63,(0:Int)<=0/\(0:Int)<=c1/\c1<=c1/\c1<=(↑L:Int),c2<=n,c2<2^40,ua (fun i=>rat (x i) ag) n ag] (leaf normal ([ak 3 (e+1) fun i=>rat (d i) ag,own 1 3 0 R,own 0 3 0 (bH (fun i=>aQ (rat (x i) ag)) c2),int i64 (↑e:Int)],[(0,ax.mk true true 3 n fun i=>rat (aQ (rat (x i) ag)) ag),(1,ax.mk true true 3 R fun i=>rat (q i) ag)]))):=ah
theorem X1 {n e R L:Nat} {d x q:Nat->Rat}:cR T qM [] 60 f88 [part wE [1,1,1,1,1]] ⟨aB tP (zK e d R L),zL n R x q,2⟩=
  some (aj [R<=R,R<2^40,ua (fun i=>rat (q i) ag) R ag] (leaf ret [ak 3 (bH (fun i=>aQ (rat (q i) ag)) R) fun i=>rat (aQ (rat (q (i+0)) ag)) ag,ak 3 L fun i=>rat (x (i+0)) ag])):=ah
theorem afY:bf P uO 114:=by
 intro K args pre r h
 unfold uO at h
 split at h
 ·rename_i h1
  exact ada K args pre r (h1.trans h)
 ·exact G6 K args pre r h
theorem Gb:bU P qM:=gH (aL ag2 (aL afY (aL (jB fun _ _ K hn=>Ep hn.1 hn.2 K) iF)))
def nH (n e:Nat) (d a:Nat->Rat):Prop:=(∀j,j<=n-e->cN n (ck e d a (n-e) j))/\cN (n-e) (dG e d a (n-e))
abbrev uP (n e:Nat) (d a:Nat->Rat):AV:=.tuple [bp (dG e d a (n-e)) (bH (dG e d a (n-e)) (n-e)) ag,bp (ck e d a (n-e) (n-e)) (bH (ck e d a (n-e) (n-e)) n) ag]
theorem Me {e:Nat} {a d:Nat->Rat} (he:e<2^30) (K:Nat):aS P 88 K [bp a 0 ag,bp d (e+1) ag] [] (aM (uP 0 e d a) []):=by
 refine cF hT Gb hm Eb rfl aZ rfl 60 ahi (fun _=>?_) K []
 simp only[af.all,az,bI]
 have e0:bH (dG e d a (0-e)) (0-e)=0:=by rw[Nat.zero_sub];rfl
 refine⟨fun i hi=>absurd hi (Nat.not_lt_zero i),aa,aa,aa,⟨fun i hi=>absurd hi (Nat.not_lt_zero i),aa⟩,?_⟩
 show bg _ _/\bg _ _/\True
 rw[e0]
 exact⟨ir fun i hi=>absurd hi (Nat.not_lt_zero i),ir fun i hi=>absurd hi (Nat.not_lt_zero i),trivial⟩
theorem NC {n e:Nat} {a d:Nat->Rat} (hn:n+1<2^30) (he:e<2^30) (ha:a n≠0) (hd:d e≠0) (hz:nH (n+1) e d a) (K:Nat):aS P 88 K [bp a (n+1) ag,bp d (e+1) ag] [] (aM (uP (n+1) e d a) []):=by
 refine iE (r:=aM (uP (n+1) e d a) []) hT Eb rfl aZ rfl (fun _ cx h0=>?_) K []
 have hk:=mR h0
 have hW:=cY
 obtain⟨N,hN⟩:∃N,N=n+1:=⟨_,rfl⟩
 obtain⟨R,hR⟩:∃R,R=N-e:=⟨_,rfl⟩
 have hRr:R=n+1-e:=aa
 unfold nH at hz
 rw[<-hN,<-hR]at hz
 obtain⟨hzR,hzQ⟩:=hz
 refine au.abC hT Gb hm (x:=wE) [1,1,1,1,0] (i:=0) (y:=G5) ah ah Eb.dst [1] (j:=1) (x1:=yZ) ah ah ah [1,1,1,0,1] (i2:=2) (y2:=part yZ [1,1,1,0,1,0,0]) ah ah rfl ah hk
  (f1:=[20]) (f2:=[29]) (f3:=[]) (f4:=[58]) (f5:=[]) 60 tP Ae 2 3 (fun a:Nat×(Nat->Rat)×(Nat->Rat)=>zK e d R a.1) (fun a=>zL N R a.2.1 a.2.2) (fun b=>kF N e R d a b.1 b.2.1 b.2.2/\cN N b.2.1) (fun b=>kF N e R d a b.1 b.2.1 b.2.2/\b.1<=e) (fun b=>b.1) (fun b=>e<b.1) (fun _=>False) (fun _=>False)
  (fun b (i:Nat)=>Ff e d R b.1 (b.1-1-e) i) (fun b i=>Fo N R (fq e d b.2.1 (b.1-1-e) (b.2.1 (b.1-1)/d e) i) (fun j=>if j=b.1-1-e then b.2.1 (b.1-1)/d e else b.2.2 j) (b.2.1 (b.1-1)/d e)) (fun b i=>i<=e/\cN N (fq e d b.2.1 (b.1-1-e) (b.2.1 (b.1-1)/d e) i)) (fun b i=>i=e/\cN N (fq e d b.2.1 (b.1-1-e) (b.2.1 (b.1-1)/d e) e)) (fun _ i=>e-i)
  ⟨_,Y3,?_⟩ (fun b ⟨hb,hx⟩=>⟨_,Ui,?_⟩) (fun b ⟨hb,hx⟩ hG=>⟨_,Rj,?_⟩) (fun b ⟨hb,hx⟩ hG i ⟨hi,hxi⟩=>⟨_,ZQ,?_⟩) (fun b ⟨hb,hx⟩ hG i ⟨hi,hxi⟩=>⟨_,Yf,?_⟩) (fun b s' ⟨hb,hle⟩ hs'=>?_) (fun _ _ h=>h.elim) (fun _ _ h=>h.elim)
 ·simp only[af.all,az,bD,bI]
  have hs0:kF N e R d a N a fun _=>0:=kF.start hR (.inr (by rw[hN];exact ha))
  have hsz:cN N a:=hzR 0 (Nat.zero_le _)
  refine⟨⟨dU aT,hn⟩,aa,fun h=>⟨aa,(N,a,fun _=>0),⟨hs0,hsz⟩,[(0,12288),(1,69632)],rfl,?_,rfl,bk rfl rfl hN.symm (fun j hj=>bK rfl rfl) (bk rfl rfl aa (fun j hj=>.inr ⟨rfl,dM rfl aa⟩) trivial)⟩,fun h=>?_⟩
  ·rw[show((n+1:Nat):Int)-(((e+1:Nat):Int)-1)=(R:Nat) by omega,show((e+1:Nat):Int)-1=(e:Nat) by omega,bG,<-hN];rfl
  ·have h0:R=0:=aa
   clear hzR hzQ
   subst h0
   refine⟨(N,a,fun _=>0),⟨hs0,hsz⟩,[(0,12288)],rfl,?_,rfl,bk rfl rfl hN.symm (fun j hj=>bK rfl rfl) (lF rfl aa aa trivial)⟩
   rw[show((e+1:Nat):Int)-1=(e:Nat) by omega,<-hN];rfl
 ·obtain⟨L,x,q⟩:=b
  simp only[af.all,az,bD,bI]
  have re:dP [] ([ak 3 (e+1) fun i=>rat (d i) ag,own 1 3 0 R,own 0 3 0 L,int i64 (↑e:Int)],[(0,ax.mk true true 3 N fun i=>rat (x i) ag),(1,ax.mk true true 3 R fun i=>rat (q i) ag)]) (zK e d R L) (zL N R x q) 2:=⟨[(0,0),(1,1)],rfl,rfl,rfl,bk rfl rfl rfl (fun j hj=>bK rfl rfl) (bk rfl rfl rfl (fun j hj=>bK rfl rfl) trivial)⟩
  exact⟨fun h=>⟨aa,re⟩,fun h=>⟨rfl,(L,x,q),⟨hb,by dsimp only;omega⟩,re⟩⟩
 ·obtain⟨L,x,q⟩:=b
  have hl:=hb.le
  have hG:e<L:=hG
  dsimp only at hl hb
  have hq:=hb.quot hR hG
  have hf:Sz (x (L-1)/d e) ag:=by rw[hq];exact hzQ _ aa
  simp only[af.all,az,Nat.add_zero]
  rw[show((L:Int)-1).toNat=L-1 by omega,show((L:Int)-1-(e:Int)).toNat=L-1-e by omega,bG]
  have hu0:fq e d x (L-1-e) (x (L-1)/d e) 0=x:=by funext j;unfold fq;rw[if_neg aa]
  refine⟨aa,aa,aa,aa,0,⟨Nat.zero_le _,by rw[hu0];exact hx⟩,[(0,0),(1,1),(2,81922)],rfl,?_,rfl,?_⟩
  ·rw[show(L:Int)-1-(e:Int)=(L-1-e:Nat) by omega];rfl
  ·refine kj rfl rfl (.inr ⟨rfl,dY rfl hf⟩) (bk rfl rfl rfl (fun j hj=>.inr ⟨rfl,dM (by rw[hu0]) aT⟩) (bk rfl rfl rfl (fun j hj=>?_) trivial))
   exact mC (x:=q) (y:=fun j=>if j=L-1-e then x (L-1)/d e else q j) (dY (if_pos rfl).symm (by show Sz (if _ then _ else _) _;rw[if_pos rfl];exact hf)) fun hj=>dM (if_neg hj).symm aT
 ·obtain⟨L,x,q⟩:=b
  have hl:=hb.le
  have hG:e<L:=hG
  dsimp only at hl hb hi hxi
  simp only[af.all,az,bD,bI,Nat.add_zero]
  rw[show((L-1-e:Nat):Int)+(i:Int)=(L-1-e+i:Nat) by omega,bG,bG]
  generalize hf:x (L-1)/d e=f at*
  have h1:∀j,j≠L-1-e+i->fq e d x (L-1-e) f i j=fq e d x (L-1-e) f (i+1) j:=fun j hj=>by
   unfold fq
   by_cases h2:L-1-e<=j/\j<L-1-e+i
   ·rw[if_pos h2,if_pos aa]
   ·rw[if_neg h2,if_neg aa]
  have h2:fq e d x (L-1-e) f i (L-1-e+i)-f*d i=fq e d x (L-1-e) f (i+1) (L-1-e+i):=by
   unfold fq
   rw[if_neg aa,if_pos aa,show L-1-e+i-(L-1-e)=i by omega]
  refine⟨fun h=>?_,fun h=>⟨rfl,i,⟨aa,by rw[show i=e by omega]at hxi;exact hxi⟩,[(0,0),(1,1),(2,2)],rfl,rfl,rfl,dx (bk rfl rfl rfl (fun j hj=>bK rfl rfl) (bk rfl rfl rfl (fun j hj=>bK rfl rfl) trivial))⟩⟩
  have hs:Sz (fq e d x (L-1-e) f (i+1) (L-1-e+i)) ag:=by
   subst hf
   rw[hb.KJ hR hG (i:=i+1) aa aa aa]
   exact hzR _ aa _ aa
  refine⟨aa,aa,aa,i+1,⟨aa,fun j hj=>?_⟩,by dsimp only;omega,[(0,0),(1,1),(2,2)],rfl,rfl,rfl,dx (bk rfl rfl rfl (fun j hj=>?_) (bk rfl rfl rfl (fun j hj=>bK rfl rfl) trivial))⟩
  ·by_cases h3:j=L-1-e+i
   ·rw[h3];exact hs
   ·rw[<-h1 j h3];exact hxi j hj
  ·exact mC (x:=fq e d x (L-1-e) f i) (y:=fq e d x (L-1-e) f (i+1)) (dY h2 hs) fun hj=>dM (h1 j hj) aT
 ·obtain⟨L,x,q⟩:=b
  have hl:=hb.le
  have hG:e<L:=hG
  dsimp only at hl hb hi hxi
  subst hi
  simp only[af.all,az]
  rw[show((L:Int)-1).toNat-(0:Int).toNat=L-1 by omega]
  exact⟨⟨aa,aa,aa,aa,fun j hj=>⟨rfl,.refl _⟩⟩,(_,_,_),⟨hb.next hR hd hG,hxi⟩,Nat.lt_of_le_of_lt fE (show L-1<L by omega),[(0,0),(1,1)],rfl,rfl,rfl,bk rfl rfl rfl (fun j hj=>bK rfl rfl) (bk rfl rfl rfl (fun j hj=>bK rfl rfl) trivial)⟩
 ·obtain⟨L,x,q⟩:=b
  dsimp only at hb hle
  obtain⟨f1,f2,f3⟩:=hb.fin hR hle
  have hl:=hb.le
  rw[show behind wE [1,1,1,1,0]=[part wE [1,1,1,1,1]]from by kernel_rfl]
  refine aF.weak rfl hs' (aF.mono (fun _ _ h=>.inl h) (aF.fin hT Gb hm 60 X1 ah ?_))
  simp only[af.all,az,Nat.add_zero]
  refine⟨⟨aT,aa,fun j hj=>⟨rfl,.refl _⟩⟩,?_⟩
  show bg _ _/\bg _ _/\True
  rw[<-hN,<-hR,<-f1,<-BB (k:=q) f3]
  exact⟨ir fun i hi=>dM (f3 i (Nat.lt_of_lt_of_le hi fE)) aT,ir fun i hi=>dM (f2 i hi) aT,trivial⟩
def BF:Spec:=en (kC (kL ag) (kC (kL ag) kN)) (fun a=>uP a.1.1 (a.2.1.1-1) a.2.1.2 a.1.2) fun a=>[a.1.1<2^30,1<=a.2.1.1,a.2.1.1<2^30,a.1.1=0\/a.1.2 (a.1.1-1)≠0,a.2.1.2 (a.2.1.1-1)≠0,nH a.1.1 (a.2.1.1-1) a.2.1.2 a.1.2]
theorem DD:bf P BF 88:=dO fun⟨⟨n,a⟩,⟨m,d⟩,_⟩ K hn=>by
 obtain⟨h1,h2,h3,h4,h5,h6⟩:=hn
 simp only at h1 h2 h3 h4 h5 h6
 obtain⟨e,rfl⟩:∃e,m=e+1:=⟨m-1,aa⟩
 cases n with
 |zero=>exact Me aa K
 |succ n=>exact NC h1 aa (by simpa using h4) h5 h6 K
end Go.Am.B
