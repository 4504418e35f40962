/- bk by the shape of the arguments: numbers, points, planes, maps. -/
import Derived.Test.YtolopdkjjlfgjaaGreatB33
import Init
import Derived.Test.YtolopdkjjlfgjaaGreatZ2
set_option linter.unusedVariables false
noncomputable section
namespace Go.Am.B
open Go Go.Am.N AV Proofs.Tryz IntKind
@[ext] structure V3 where
 x:Rat
 y:Rat
 z:Rat
structure Pl where
 n:V3
 d:Rat
abbrev rA (q:Rat) (n:Nat):AV:=.rat q n
abbrev vA (v:V3) (n:Nat):AV:=.agg [.rat v.x n,.rat v.y n,.rat v.z n]
theorem dy {q r:Rat} {n k:Nat} (h:q=r) (hk:n<=k):aW (.rat q n) (.rat r k):=h▸lW hk
structure Kind (α:Type) where
 read:AV->Option (α×List Prop)
 make:α->AV
 ok:∀{v:AV} {a:α} {q:List Prop},read v=some (a,q)->az q->aW v (make a)
def ov:AV->Option (Rat×Nat)
 |.rat q n=>some (q,n)
 |.agg [.bool false,.mag 0,.mag 0]=>some (0,1)
 |_=>none
theorem vg {v:AV} {a:Rat×Nat} (h:ov v=some a):aW v (rA a.1 a.2):=by
 unfold ov at h
 split at h
 ·simp only[ay]at h;subst h;exact .refl _
 ·simp only[ay]at h;subst h;exact pO
 ·simp at h
def Gx (v:AV):Option ((Rat×Nat)×List Prop):=match ov v with
 |some a=>some (a,[])
 |none=>none
theorem agP {v:AV} {a:Rat×Nat} {q:List Prop} (h:Gx v=some (a,q)) (_:az q):aW v (rA a.1 a.2):=by
 unfold Gx at h
 split at h
 ·rename_i h1
  simp only[ay,Prod.mk.injEq]at h
  obtain⟨rfl,rfl⟩:=h
  exact vg h1
 ·simp at h
def kR:Kind (Rat×Nat):=⟨Gx,fun a=>rA a.1 a.2,agP⟩
section specs
variable {α β γ δ:Type} {f:FuncId}
def EC (k:Kind α) (g:α->AV) (need:α->List Prop):Spec:=cu fun l=>match l with
 |[x]=>match k.read x with
  |some (a,p)=>some (aL (g a) (p++need a))
  |none=>none
 |_=>none
theorem Jy {k:Kind α} {g:α->AV} {need:α->List Prop} (h:∀a K,az (need a)->aQ P f K [k.make a] [] (aL (g a) [])):aY P (EC k g need) f:=by
 refine cW fun K args r hk hs _=>?_
 split at hs
 ·split at hs
  ·rename_i h1
   simp only[ay]at hs
   subst hs
   intro hn
   obtain⟨n1,hn⟩:=gJ.1 hn
   exact gW (h _ K hn) hk ⟨k.ok h1 n1,trivial⟩ [] trivial
  ·simp at hs
 ·simp at hs
def ju (k:Kind α) (k2:Kind β) (g:α->β->AV) (need:α->β->List Prop):Spec:=cu fun l=>match l with
 |[x,y]=>match k.read x,k2.read y with
  |some (a,p),some (b,q)=>some (aL (g a b) (p++(q++need a b)))
  |_,_=>none
 |_=>none
theorem jG {k:Kind α} {k2:Kind β} {g:α->β->AV} {need:α->β->List Prop} (h:∀a b K,az (need a b)->aQ P f K [k.make a,k2.make b] [] (aL (g a b) [])):aY P (ju k k2 g need) f:=by
 refine cW fun K args r hk hs _=>?_
 split at hs
 ·split at hs
  ·rename_i h1 h2
   simp only[ay]at hs
   subst hs
   intro hn
   obtain⟨n1,hn⟩:=gJ.1 hn
   obtain⟨n2,hn⟩:=gJ.1 hn
   exact gW (h _ _ K hn) hk ⟨k.ok h1 n1,k2.ok h2 n2,trivial⟩ [] trivial
  ·simp at hs
 ·simp at hs
end specs
def rj (a b:Rat×Nat):List Prop:=[a.2<2^42,b.2<2^42]
def pq (a b:Rat×Nat):List Prop:=[a.2<2^41,b.2<2^41]
def xI (a b:Rat×Nat):AV:=rA (a.1+b.1) (a.2+b.2+1)
def QS (a b:Rat×Nat):AV:=rA (a.1-b.1) (a.2+b.2+1)
def Ie (a b:Rat×Nat):AV:=rA (a.1*b.1) (a.2+b.2)
def A0 (a b:Rat×Nat):AV:=.tuple [rA (a.1/b.1) (a.2+b.2),.int .i64 (if b.1=0 then 3 else 0)]
def ae1 (a b:Rat×Nat):AV:=rA (eJ a.1 b.1) (max a.2 b.2)
def ai0 (a b:Rat×Nat):AV:=rA (eI a.1 b.1) (max a.2 b.2)
def Pp (a b:Rat×Nat):AV:=.int .i64 (fV a.1 b.1)
def Lc (a b:Rat×Nat):AV:=.bool (decide (a.1=b.1))
def PJ (a:Rat×Nat):AV:=.int .i64 (bL a.1)
abbrev Fi:FuncId×Spec:=(71,JT)
def gL:bk:=[(128,ju kR kR xI rj),(143,ju kR kR QS rj),(129,ju kR kR Ie rj),(110,ju kR kR Lc rj),(58,ju kR kR Pp rj),(65,EC kR PJ fun a=>[a.2<2^42]),Fi]
def gN:bk:=[(92,ju kR kR xI pq),(53,ju kR kR QS pq),(90,ju kR kR Ie pq),(26,ju kR kR Lc pq),(27,ju kR kR Pp pq),(24,EC kR PJ fun a=>[a.2<2^41]),(23,Ep)]
theorem VG:aY P Fi.2 Fi.1:=RK
theorem gQ:bR P gL:=aJ (jG fun _ _ K hn=>aiS hn.1 hn.2 K) (aJ (jG fun _ _ K hn=>T8 hn.1 hn.2 K) (aJ (jG fun _ _ K hn=>Jt hn.1 hn.2 K)
 (aJ (jG fun _ _ K hn=>ad5 (Nat.lt_trans hn.1 aa) (Nat.lt_trans hn.2 aa) K []) (aJ (jG fun _ _ K hn=>K5 hn.1 hn.2 K []) (aJ (Jy fun _ K hn=>JP (Nat.lt_trans hn aa) K []) (aJ VG cz))))))
theorem gM:bR P gN:=aJ (jG fun _ _ K hn=>ON hn.1 hn.2 K) (aJ (jG fun _ _ K hn=>abe hn.1 hn.2 K) (aJ (jG fun _ _ K hn=>aet hn.1 hn.2 K)
 (aJ (jG fun _ _ K hn=>aeu (Nat.lt_trans hn.1 aa) (Nat.lt_trans hn.2 aa) K []) (aJ (jG fun _ _ K hn=>ahe hn.1 hn.2 K) (aJ (Jy fun _ K _=>Ql K []) (aJ J0 cz))))))
end Go.Am.B
namespace Go.Am.B
def AG (n:Nat) (f:Nat->Rat):Rat:=match n with
 |0=>0
 |n+1=>AG n f+f n
structure Kn (n p:Nat) (k:Nat->Rat):Prop where
 p1:1<=p
 len:2*p+2<=n
 sorted:∀i,i+1<n->k i<=k (i+1)
 first:∀i,i<=p->k i=k 0
 last:∀i,n<=i+p+1->i<n->k i=k (n-1)
 mult:∀i,1<=i->i+p+1<n->k i<k (i+p)
theorem Ff {n:Nat} {k:Nat->Rat} (h:∀i,i+1<n->k i<=k (i+1)) {i:Nat}:∀{j:Nat},i<=j->j<n->k i<=k j
 |0,hij,_=>by
    have:i=0:=by omega
    subst this;exact Rat.le_refl
 |j+1,hij,hj=>by
  by_cases he:i=j+1
  ·subst he;exact Rat.le_refl
  ·exact Rat.le_trans (Ff h (j:=j) (by omega) (by omega)) (h j hj)
theorem Kn.mono {n p:Nat} {k:Nat->Rat} (h:Kn n p k) {i j:Nat} (hij:i<=j) (hj:j<n):k i<=k j:=Ff h.sorted hij hj
def fr (a b t:Rat):Rat:=(t-a)/(b-a)
def vB (k:Nat->Rat) (i:Nat) (t:Rat):Nat->Nat->Rat
 |0,j=>if j=0 then 1 else 0
 |d+1,j=>(if j=0 then 0 else fr (k (i-d+(j-1))) (k (i-d+(j-1)+(d+1))) t*vB k i t d (j-1))+
   (if j<=d then(1-fr (k (i-d+j)) (k (i-d+j+(d+1))) t)*vB k i t d j else 0)
structure At (n:Nat) (k:Nat->Rat) (i:Nat):Prop where
 lt:i+1<n
 sorted:∀i,i+1<n->k i<=k (i+1)
 wide:k i<k (i+1)
def ai8 (k:Nat->Rat) (b p r:Nat) (t:Rat) (x:Nat->Rat) (j:Nat):Rat:=
 if r<j then x (j-1)+fr (k (b+j)) (k (b+j+(p-r))) t*(x j-x (j-1))else x j
def bl (k:Nat->Rat) (b p:Nat):Nat->(Nat->Rat)->List Rat->Nat->Rat
 |_,x,[]=>x
 |r,x,t::l=>bl k b p (r+1) (ai8 k b p r t x) l
variable {k:Nat->Rat} {b p:Nat}
variable {n:Nat}
end Go.Am.B
namespace Go.Am.B
def Qs (g:Nat->Bool):Nat->Nat
 |0=>0
 |m+1=>if g m then m else Qs g m
def OG (n:Nat) (k:Nat->Rat) (t:Rat):Nat:=Qs (fun i=>decide (k i<k (i+1))&&decide (k i<=t)) (n-1)
open AV
def aM:AV->Rat
 |.rat q _=>q
 |_=>0
def cP (f:Nat->AV) (n s:Nat):Prop:=∀i,i<n->aW (f i) (.rat (aM (f i)) s)
abbrev bz (k:Nat->Rat) (n s:Nat):AV:=.ak 3 n (fun i=>.rat (k i) s)
theorem ek {k:Nat->Rat} {n s s':Nat} (h:s<=s'):cP (fun i=>.rat (k i) s) n s':=fun _ _=>lW h
theorem SL {f:Nat->AV} {n s:Nat} (h:cP f n s):aW (.ak 3 n f) (bz (fun i=>aM (f i)) n s):=iH h
def sN:AV->Option (Nat×(Nat->AV))
 |.ak 3 n f=>some (n,f)
 |.nil=>some (0,fun _=>.rat 0 1)
 |_=>none
theorem RO {v:AV} {n s:Nat} {f:Nat->AV} (h:sN v=some (n,f)) (ha:cP f n s):aW v (bz (fun i=>aM (f i)) n s):=by
 unfold sN at h
 split at h
 ·simp only[ay,Prod.mk.injEq]at h
  obtain⟨rfl,rfl⟩:=h
  exact SL ha
 ·simp only[ay,Prod.mk.injEq]at h
  obtain⟨rfl,rfl⟩:=h
  exact lZ aa
 ·simp at h
end Go.Am.B
namespace Go.Am
def bn:Nat->Nat->Nat
 |_,0=>1
 |0,_+1=>0
 |n+1,k+1=>bn n k+bn n (k+1)
theorem qx (n:Nat):bn n 0=1:=by cases n<;>rfl
theorem qh (n k:Nat):bn (n+1) (k+1)=bn n k+bn n (k+1):=rfl
theorem og:∀{n k:Nat},n<k->bn n k=0
 |0,_+1,_=>rfl
 |n+1,k+1,h=>by rw[qh,og (by omega),og (by omega)]
theorem Md:∀n:Nat,bn n n=1
 |0=>rfl
 |n+1=>by rw[qh,Md n,og (by omega)]
theorem tv:∀n k:Nat,bn n k<=2^n
 |0,0=>by decide
 |0,_+1=>by rw[og (by omega)];exact Nat.zero_le _
 |n+1,0=>by rw[qx];exact Nat.one_le_two_pow
 |n+1,k+1=>by
  have h1:=tv n k
  have h2:=tv n (k+1)
  rw[qh,Nat.pow_succ];omega
theorem DF:∀{n k:Nat},k<=n->0<bn n k
 |n,0,_=>by rw[qx];exact Nat.one_pos
 |n+1,k+1,h=>by
  have:=DF (n:=n) (k:=k) (by omega)
  rw[qh];omega
theorem DO {n k:Nat} (h:n<=40):bn n k<=2^40:=Nat.le_trans (tv n k) (Nat.pow_le_pow_right (by decide) h)
theorem A4:∀n k:Nat,(k+1)*bn n (k+1)=(n-k)*bn n k
 |0,0=>rfl
 |0,k+1=>by rw[og (by omega),Nat.zero_sub];simp
 |n+1,0=>by
  have:=A4 n 0
  simp only[qx,Nat.zero_add,Nat.one_mul,Nat.sub_zero,Nat.mul_one]at this ⊢
  rw[qh,qx,this];omega
 |n+1,k+1=>by
  have h1:=A4 n k
  have h2:=A4 n (k+1)
  rw[qh n (k+1),qh n k,show n+1-(k+1)=n-k by omega]
  by_cases h:k+1<=n
  ·obtain⟨m,rfl⟩:∃m,n=k+1+m:=⟨n-(k+1),by omega⟩
   rw[show k+1+m-(k+1)=m by omega]at h2
   rw[show k+1+m-k=m+1 by omega]at h1 ⊢
   generalize bn (k+1+m) (k+1+1)=A at*
   generalize bn (k+1+m) (k+1)=B at*
   generalize bn (k+1+m) k=C at*
   have e1:(k+1+1)*(B+A)=(k+1)*B+B+(k+1+1)*A:=by rw[Nat.mul_add,Nat.add_mul (k+1) 1 B,Nat.one_mul]
   have e2:(m+1)*(C+B)=(m+1)*C+(m*B+B):=by rw[Nat.mul_add,Nat.add_mul m 1 B,Nat.one_mul]
   rw[e1,e2,h2,h1];omega
  ·rw[og (n:=n) (k:=k+1+1) (by omega)]
   by_cases h3:k=n
   ·subst h3
    rw[og (by omega),Nat.sub_self];simp
   ·rw[og (n:=n) (k:=k+1) (by omega),og (n:=n) (k:=k) (by omega)];simp
end Go.Am
namespace Go.Am.B
open Go Go.Am.N AV ag aq IntKind Proofs.Tryz
abbrev rL (n:Nat) (g:Nat->Int):au:=⟨true,true,1,n,fun i=>.int .i64 (g i)⟩
abbrev cC (m:Nat) (k:Nat->Rat) (s:Nat):au:=⟨true,true,3,m,fun i=>.rat (k i) s⟩
def GZ:bk:=zG::gL
abbrev CO:Code:=aH f158
abbrev zT:Code:=part CO [1,1,0,1,0,0]
abbrev DK:Code:=part zT [1,1,0,0]
abbrev ua:Code:=part CO [1,1,1]
abbrev rY:List Nat:=[0,3,9,10]
abbrev A1 (n r:Nat):List AV:=[.int .i64 n,.own 0 1 0 (r+1),.int .i64 n,.int .i64 r]
abbrev zW:List Nat:=[0,3,9,10,4]
abbrev Fv (n r j:Nat):List AV:=[.int .i64 n,.own 0 1 0 (r+1+1),.int .i64 n,.int .i64 r,.int .i64 j]
abbrev yu:List Nat:=[37,5,38,39]
abbrev Fa (n i:Nat):List AV:=[.own 0 1 0 (n+1),.own 1 3 0 (n+1),.int .i64 (n+1:Nat),.int .i64 i]
abbrev Fc (n:Nat) (g:Nat->Int) (x:Nat->Rat):aE:=[(1,cC (n+1) x 64),(0,rL (n+1) g)]
theorem Lm:bf 158 f158:=bg func158
theorem SY {n:Nat}:aI T GZ [] 60 rY (before CO [1,1,0,1]) ⟨aU 0 [.int .i64 n],[],0⟩=
  some (aj [(1:Nat)*1<=2^24] (leaf normal ([int i64 (↑n:Int),own 4096 1 0 1,int i64 (↑n:Int),int i64 0],[(4096,au.mk true true 1 1 fun i=>nth [int i64 1] (int i64 0) i)]))):=ah
theorem Ws {n r:Nat} {g:Nat->Int}:aI T GZ [11] 60 rY (before zT [1,1,0]) ⟨aC rY (A1 n r),[(0,rL (r+1) g)],1⟩=
  let c2:Int:=(↑n:Int);let c1:List AV×aE:=([int i64 c2,own 0 1 0 (r+1),int i64 c2,int i64 (↑r:Int)],[(0,au.mk true true 1 (r+1) fun i=>int i64 (g i))]);some (fork (decide ((↑r:Int)<c2)) (leaf normal c1) (leaf (exit 0) c1)):=ah
theorem RE {n r:Nat} {g:Nat->Int}:aI T GZ [] 60 zW (before DK [1,1]) ⟨aC rY (A1 n r),[(0,rL (r+1) g)],1⟩=
  let c3:Nat:=r+1;let c1:Nat:=c3+1;let c2:Int:=(↑c1:Int)-2;some (aj [(1:Nat)*1<=2^24,c1*((8:Nat)+1)*2<=2^47] (aj [-(2:Int)^63<=c2/\c2<2^63] (leaf normal ([int i64 (↑n:Int),own 8193 1 0 c1,int i64 (↑n:Int),int i64 (↑r:Int),int i64 c2],[(8193,au.mk true true 1 c1 fun i=>if i<c3 then int i64 (g i)else nth [int i64 1] (int i64 0) (i-c3+0))])))):=ah
theorem acA {n r j:Nat} {g:Nat->Int}:aI T GZ [19] 60 zW [part DK [1,1,0,0]] ⟨aC zW (Fv n r j),[(0,rL (r+1+1) g)],1⟩=
  let c7:AV:=int i64 (↑n:Int);let c5:Int:=(↑j:Int);let c4:Int:=(2:Int)^63;let c1:Nat:=r+1+1;let c9:Prop:=(0:Int)<=c5/\c5.toNat<c1;let c8:AV:=own 0 1 0 c1;let c3:Nat:=c5.toNat+0;let c2:Int:=c5-1;let c6:Int:=g c3+g (c2.toNat+0);some (fork (decide (c5>0)) (aj [c9,c3<c1,-c4<=c2/\c2<c4,(0:Int)<=c2/\c2.toNat<c1,c2.toNat+0<c1,-c4<=c6/\c6<c4,c9,c3<c1] (aj [-c4<=c2/\c2<c4] (leaf normal ([c7,c8,c7,int i64 (↑r:Int),int i64 c2],[(0,au.mk true true 1 c1 fun j=>int i64 (bif j==c3 then c6 else g j))])))) (leaf (exit 2) ([c7,c8,c7,int i64 (↑r:Int),int i64 c5],[(0,au.mk true true 1 c1 fun i=>int i64 (g i))]))):=ah
theorem ajg {n r j:Nat} {g:Nat->Int}:aI T GZ [] 60 rY [part zT [1,1,1]] ⟨aC zW (Fv n r j),[(0,rL (r+1+1) g)],1⟩=
  let c2:Nat:=r+1+1;let c1:Int:=(↑r:Int)+1;some (aj [-(2:Int)^63<=c1/\c1<2^63] (leaf normal ([int i64 (↑n:Int),own 0 1 0 c2,int i64 (↑n:Int),int i64 c1],[(0,au.mk true true 1 c2 fun i=>int i64 (g i))]))):=ah
theorem adP {n r:Nat} {g:Nat->Int}:aI T GZ [] 60 yu (before ua [1,0,1]) ⟨aC rY (A1 n r),[(0,rL (r+1) g)],1⟩=
  let c1:Int:=(↑(r+1):Int);some (aj [(0:Int)<=c1/\c1<=c1/\c1<=2^47/\c1*(↑(56:Nat):Int)<=2^47] (leaf normal ([own 0 1 0 (r+1),own 8193 3 0 c1.toNat,int i64 c1,int i64 0],[(8193,au.mk true true 3 c1.toNat fun x=>rat 0 1),(0,au.mk true true 1 (r+1) fun i=>int i64 (g i))]))):=ah
theorem ah9 {n i:Nat} {g:Nat->Int} {x:Nat->Rat}:aI T GZ [40] 60 yu [part ua [1,0,1,0,0]] ⟨aC yu (Fa n i),Fc n g x,2⟩=
  let c4:Int:=(2:Int)^63;let c3:Int:=(↑i:Int);let c2:Nat:=n+1;let c10:Int:=c3+1;let c9:Int:=(↑c2:Int);let c7:AV:=own 0 1 0 c2;let c6:AV:=own 1 3 0 c2;let c5:Nat×au:=(0,au.mk true true 1 c2 fun i=>int i64 (g i));let c1:Nat:=c3.toNat+0;let c8:List Prop:=[(0:Int)<=c3/\c3.toNat<c2,c1<c2];some (fork (decide (c3<c9)) (aj c8 (aj ((-c4<=g c1)::(g c1<c4)::c8) (aj [-c4<=c10/\c10<c4] (leaf normal ([c7,c6,int i64 c9,int i64 c10],[(1,au.mk true true 3 c2 fun j=>rat (bif j==c1 then(↑(g c1):Rat)else x j) (bif j==c1 then Max.max 1 (bV (g c1).natAbs)else 64)),c5]))))) (leaf (exit 4) ([c7,c6,int i64 c9,int i64 c3],[(1,au.mk true true 3 c2 fun i=>rat (x i) 64),c5]))):=ah
theorem TW {n i:Nat} {g:Nat->Int} {x:Nat->Rat}:cQ T GZ [] 60 f158 [part ua [1,1]] ⟨aC yu (Fa n i),Fc n g x,2⟩=
  some (leaf ret [ak 3 (n+1) fun i=>rat (x (i+0)) 64]):=ah
theorem pE:bR P GZ:=gY gQ
def pX (r j i:Nat):Int:=if i<=j then(if i=r+1 then 1 else(bn r i:Int))else bn (r+1) i
theorem Q9 {r j i:Nat} (hr:r<40) (hi:i<=r):-2^41<=pX r j i/\pX r j i<=2^40:=by
 have h1:=DO (n:=r) (k:=i) aa
 have h2:=DO (n:=r+1) (k:=i) aa
 unfold pX;rw[if_neg (c:=i=r+1) aa];split<;>omega
theorem Tg {n:Nat} (hn:n<=40) (K:Nat):aQ P 158 K [.int .i64 n] [] (aL (bz (fun i=>((bn n i:Int):Rat)) (n+1) 64) []):=by
 refine iw (r:=aL (bz (fun i=>((bn n i:Int):Rat)) (n+1) 64) []) hT Lm rfl aX rfl (fun _ cx h0=>?_) K []
 have hk:=lX h0
 refine ax.qH hT pE hm (x:=CO) [1,1,0,1] (i:=0) (y:=zT) (z:=ua) ah ah ah Lm.dst [1,1,0] (j:=1) (x1:=DK) (zb:=part zT [1,1,1]) ah ah ah [1,1] (i2:=2) (y2:=part DK [1,1,0,0]) ah ah rfl hk
  (f1:=[]) (f2:=[11]) (f3:=[]) (f4:=[19]) (f5:=[]) 60 rY zW 1 1 (fun r:Nat=>A1 n r) (fun r=>[(0,rL (r+1) fun i=>bn r i)]) (fun r=>r<=n) (fun r=>r=n) (fun r=>n-r) (fun r=>r<n) (fun _=>False) (fun _=>False)
  (fun r (j:Nat)=>Fv n r j) (fun r j=>[(0,rL (r+1+1) (pX r j))]) (fun r j=>j<=r) (fun _ j=>j=0) (fun _ j=>j)
  ⟨_,SY,?_⟩ (fun r hr=>⟨_,Ws,?_⟩) (fun r hr hG=>⟨_,RE,?_⟩) (fun r hr hG j hj=>⟨_,acA,?_⟩) (fun r hr hG j hj=>⟨_,ajg,?_⟩) (fun r hr=>?_) (fun _ _ h=>h.elim) (fun _ _ h=>h.elim)
 ·simp only[ag.all,az]
  refine⟨aa,0,aa,[(0,4096)],rfl,rfl,rfl,br rfl rfl rfl (fun i hi=>by obtain rfl:i=0:=aa;exact bN rfl rfl) trivial⟩
 ·simp only[ag.all,az,bB,bD]
  exact⟨fun h=>⟨aa,[(0,0)],rfl,rfl,rfl,br rfl rfl rfl (fun i hi=>bN rfl rfl) trivial⟩,fun h=>⟨rfl,r,aa,[(0,0)],rfl,rfl,rfl,br rfl rfl rfl (fun i hi=>bN rfl rfl) trivial⟩⟩
 ·simp only[ag.all,az]
  refine⟨aa,aa,r,aa,[(0,8193)],rfl,?_,rfl,br rfl rfl rfl (fun i hi=>bN ?_ ?_) trivial⟩
  ·rw[show((r+1+1:Nat):Int)-2=(r:Nat) by omega];rfl
  ·split
   ·rfl
   ·rw[show i-(r+1)+0=0 by omega];rfl
  ·unfold pX
   by_cases h:i<r+1
   ·rw[if_pos h,if_pos aa,if_neg aa]
   ·rw[if_neg h,if_neg aa,show i-(r+1)+0=0 by omega,show i=r+1 by omega,Md];rfl
 ·simp only[ag.all,az,bB,bD,bJ,Nat.add_zero]
  refine⟨fun h=>?_,fun h=>⟨rfl,j,aa,[(0,0)],rfl,rfl,rfl,br rfl rfl rfl (fun i hi=>bN rfl rfl) trivial⟩⟩
  obtain⟨m,rfl⟩:∃m,j=m+1:=⟨j-1,aa⟩
  have e1:(((m+1:Nat):Int)-1).toNat=m:=aa
  have h1:=Q9 (r:=r) (j:=m+1) (i:=m+1) aa hj
  have h2:=Q9 (r:=r) (j:=m+1) (i:=m) aa aa
  rw[e1]
  refine⟨aa,aa,m,aa,by dsimp only;omega,[(0,0)],rfl,?_,rfl,br rfl rfl rfl (fun i hi=>bN rfl ?_) trivial⟩
  ·rw[show((m+1:Nat):Int)-1=(m:Nat) by omega];rfl
  ·by_cases h:i=m+1
   ·subst h
    simp only[beq_self_eq_true,cond_true]
    unfold pX
    rw[if_pos aa,if_neg aa,if_pos aa,if_neg aa,if_neg aa,qh,Int.natCast_add,Int.add_comm]
   ·have hb:(i==m+1)=false:=by simpa using h
    rw[hb,cond_false]
    unfold pX
    by_cases h2:i<=m
    ·rw[if_pos h2,if_pos aa]
    ·rw[if_neg h2,if_neg aa]
 ·subst hj
  simp only[ag.all,az]
  refine⟨aa,r+1,aa,by dsimp only;omega,[(0,0)],rfl,rfl,rfl,br rfl rfl rfl (fun i hi=>bN rfl ?_) trivial⟩
  show AV.int i64 (pX r 0 i)=AV.int i64 (bn (r+1) i)
  unfold pX
  by_cases h:i<=0
  ·rw[if_pos h,if_neg aa,show i=0 by omega,qx,qx]
  ·rw[if_neg h]
 ·subst hr
  refine ax.oD hT pE hm (x:=ua) [1,0,1] (i:=4) (y:=part ua [1,0,1,0,0]) (z:=part ua [1,1]) ah ah ah ah hk (f1:=[]) (f2:=[40]) 60 yu 2 (fun i:Nat=>Fa r i) (fun i=>Fc r (fun i=>bn r i) fun j=>if j<i then((bn r j:Int):Rat)else 0)
   (fun i=>i<=r+1) (fun i=>i=r+1) (fun i=>r+1-i) (fun _=>False) ⟨_,adP,?_⟩ (fun i hi=>⟨_,ah9,?_⟩) (fun i hi=>?_) (fun _ _ h=>h.elim)
  ·simp only[ag.all,az,bJ]
   exact⟨aa,0,aa,[(0,0),(1,8193)],rfl,rfl,rfl,br rfl rfl rfl (fun i hi=>.inr ⟨rfl,dy (if_neg (Nat.not_lt_zero i)).symm (by decide)⟩) (br rfl rfl rfl (fun i hi=>bN rfl rfl) trivial)⟩
  ·have h1:=DO (n:=r) (k:=i) hn
   simp only[ag.all,az,bB,bD,bJ,Nat.add_zero]
   refine⟨fun h=>⟨aa,aa,aa,i+1,aa,by dsimp only;omega,[(0,0),(1,1)],rfl,rfl,rfl,br rfl rfl rfl (fun j hj=>.inr ⟨rfl,?_⟩) (br rfl rfl rfl (fun i hi=>bN rfl rfl) trivial)⟩,fun h=>⟨rfl,i,aa,[(0,0),(1,1)],rfl,rfl,rfl,br rfl rfl rfl (fun j hj=>bN rfl rfl) (br rfl rfl rfl (fun i hi=>bN rfl rfl) trivial)⟩⟩
   by_cases h2:j=i
   ·subst h2
    simp only[beq_self_eq_true,cond_true]
    exact ej (if_pos (Nat.lt_succ_self j)).symm (by rw[if_pos (Nat.lt_succ_self j)];exact AK (y:=0) aa aa)
   ·have hb:(j==i)=false:=by simpa using h2
    rw[hb,cond_false,cond_false]
    refine dy ?_ aT
    show(if j<i then _ else _)=if j<i+1 then _ else _
    by_cases h3:j<i
    ·rw[if_pos h3,if_pos aa]
    ·rw[if_neg h3,if_neg aa]
  ·subst hi
   refine ax.lH ((aG.fin hT pE hm 60 TW ah (iH fun i hi=>dy ?_ aT)).mono fun _ _ h=>.inl h)
   rw[Nat.add_zero,if_pos hi]
def H7:Spec:=cu fun l=>match l with
 |[.int .i64 n]=>some (aL (bz (fun i=>((bn n.toNat i:Int):Rat)) (n.toNat+1) 64) [0<=n,n<=40])
 |_=>none
theorem OQ:aY P H7 158:=by
 refine cW fun K args r hk hs _=>?_
 split at hs
 ·rename_i n
  simp only[ay]at hs
  subst hs
  intro hn
  have h1:0<=n:=hn.1
  have h2:n<=40:=hn.2
  have:=Tg (n:=n.toNat) aa K
  rw[Int.toNat_of_nonneg h1]at this
  exact this trivial
 ·simp at hs
open Go Go.Am.N AV Proofs.Tryz IntKind
theorem Ys:bf 51 f51:=bg func51
def aaZ:bk:=[(45,Cx),(46,zk)]
theorem Ub {d:Int}:b9 T aaZ [] 60 f51 (aH f51) ⟨aU 0 [.int .i64 d],[],0⟩=
  some (ag.aj [(17:Int)≠(0:Int),(0:Int)<12,(12:Int)<2^62] (ag.aj [(0:Int)<i64.wrap (i64.wrap ((1:Int)+i64.wrap (d.tdiv (17:Int))%(12:Int))+1),i64.wrap (i64.wrap ((1:Int)+i64.wrap (d.tdiv (17:Int))%(12:Int))+1)<2^62,-(2:Int)^63<=d%i64.wrap (i64.wrap ((1:Int)+i64.wrap (d.tdiv (17:Int))%(12:Int))+1),d%i64.wrap (i64.wrap ((1:Int)+i64.wrap (d.tdiv (17:Int))%(12:Int))+1)<2^63,-(2:Int)^63<=i64.wrap ((1:Int)+i64.wrap (d.tdiv (17:Int))%(12:Int)),i64.wrap ((1:Int)+i64.wrap (d.tdiv (17:Int))%(12:Int))<2^63,(0:Nat)<1] (ag.aj [(0:Nat)<1] (ag.leaf aq.ret [rat ((↑(d%i64.wrap (i64.wrap ((1:Int)+i64.wrap (d.tdiv (17:Int))%(12:Int))+1)):Rat)/(↑(i64.wrap ((1:Int)+i64.wrap (d.tdiv (17:Int))%(12:Int))):Rat)) 64])))):=ah
def jh (d:Int):Int:=1+i64.wrap (d.tdiv 17)%12
def mu (d:Int):Rat:=((d%(jh d+1):Int):Rat)/((jh d:Int):Rat)
def Qb:Spec:=cu fun l=>match l with
 |[.int .i64 d]=>some (aL (.rat (mu d) 64) [])
 |_=>none
theorem UP:aY P Qb 51:=by
 refine cW fun K args r hk hs _=>?_
 split at hs
 ·rename_i d
  simp only[ay]at hs
  subst hs
  refine ck hT (aJ Iq (aJ A8 cz)) hm Ys rfl aX rfl 60 Ub (fun _=>?_) K []
  unfold mu jh
  generalize i64.wrap (d.tdiv 17)=w at*
  have w1:=Int.emod_nonneg w (show(12:Int)≠0 by omega)
  have w2:=Int.emod_lt_of_pos w (show(0:Int)<12 by omega)
  generalize w%12=x at*
  have e1:i64.wrap (1+x)=1+x:=wrap_i64 aa aa
  have e2:i64.wrap (1+x+1)=1+x+1:=wrap_i64 aa aa
  rw[e1,e2]
  have v1:=Int.emod_nonneg d (show 1+x+1≠0 by omega)
  have v2:=Int.emod_lt_of_pos d (show 0<1+x+1 by omega)
  generalize d%(1+x+1)=y at*
  simp only[ag.all,az]
  exact⟨⟨aa,aa,aa⟩,⟨aa,aa,aa,aa,aa,aa,aa⟩,aa,.refl _⟩
 ·simp at hs
structure Kd (α:Type) where
 read:AV->Option α
 make:α->AV
 ok:∀{v:AV} {a:α},read v=some a->aW v (make a)
def Gv:AV->Option (V3×Nat)
 |.agg [x,y,z]=>match ov x,ov y,ov z with
  |some (x,a),some (y,b),some (z,c)=>some (⟨x,y,z⟩,max a (max b c))
  |_,_,_=>none
 |_=>none
theorem VV {v:AV} {a:V3×Nat} (h:Gv v=some a):aW v (vA a.1 a.2):=by
 unfold Gv at h
 split at h
 ·split at h
  ·rename_i h1 h2 h3
   simp only[ay]at h
   subst h
   exact mh ⟨(vg h1).trans (dy rfl (by simp only;omega)),(vg h2).trans (dy rfl (by simp only;omega)),(vg h3).trans (dy rfl (by simp only;omega)),trivial⟩
  ·simp at h
 ·simp at h
def dR:Kd (Rat×Nat):=⟨ov,fun a=>rA a.1 a.2,vg⟩
def dV:Kd (V3×Nat):=⟨Gv,fun a=>vA a.1 a.2,VV⟩
section specs
variable {α β γ δ:Type} {f:FuncId}
def Gy (k:Kd α) (k2:Kd β) (g:α->β->AV) (B:α->β->Bool):Spec:=cu fun l=>match l with
 |[x,y]=>match k.read x,k2.read y with
  |some a,some b=>match B a b with
   |true=>some (aL (g a b) [])
   |false=>none
  |_,_=>none
 |_=>none
theorem Rk {k:Kd α} {k2:Kd β} {g:α->β->AV} {B:α->β->Bool} (h:∀a b K,B a b=true->aQ P f K [k.make a,k2.make b] [] (aL (g a b) [])):aY P (Gy k k2 g B) f:=by
 refine cW fun K args r hk hs _=>?_
 split at hs
 ·split at hs
  ·rename_i h1 h2
   split at hs
   ·rename_i hB
    simp only[ay]at hs
    subst hs
    exact gW (h _ _ K hB) hk ⟨k.ok h1,k2.ok h2,trivial⟩ []
   ·simp at hs
  ·simp at hs
 ·simp at hs
end specs
def b1 {α:Type} (e:Nat) (a:α×Nat):Bool:=Nat.blt a.2 (2^e)
def b2 {α β:Type} (e:Nat) (a:α×Nat) (b:β×Nat):Bool:=Nat.blt a.2 (2^e)&&Nat.blt b.2 (2^e)
def b3 {α β γ:Type} (e:Nat) (a:α×Nat) (b:β×Nat) (c:γ×Nat):Bool:=Nat.blt a.2 (2^e)&&(Nat.blt b.2 (2^e)&&Nat.blt c.2 (2^e))
theorem ajf {a b:Nat}:Nat.blt a b=true↔a<b:=by rw[Nat.blt_eq]
theorem B6 {α β:Type} {e:Nat} {a:α×Nat} {b:β×Nat} (h:b2 e a b=true):a.2<2^e/\b.2<2^e:=by
 simp only[b2,Bool.and_eq_true,ajf]at h;exact h
end Go.Am.B
namespace Go.Am.B
open Go Go.Am.N AV Proofs.Tryz IntKind
theorem af1:bf 148 f148:=bg func148
theorem TP:bf 93 f93:=bg func93
theorem adL {q r:Rat} {n m:Nat}:b9 T r8 [9] 60 f148 (aH f148) ⟨aU 0 [.rat q n,.rat r m],[],0⟩=
  some (ag.aj [(0:Nat)<1] (ag.fork ((↑(nl r.num.natAbs):Int)==0) (ag.aj [(0:Nat)<1] (ag.aj [(0:Nat)<1] (ag.leaf aq.ret [agg [AV.bool false,mag 0,mag 0],int .i64 (3:Int)]))) (ag.aj [(0:Nat)<1,(0:Nat)<1,(0:Nat)<1,(0:Nat)<1,nl q.num.natAbs<2^39,nl r.den<2^39,(0:Nat)<1,(0:Nat)<1,nl q.den<2^39,nl r.num.natAbs<2^39,nl (q.num.natAbs*r.den)<2^38,nl (q.den*r.num.natAbs)<2^38,q.den*r.num.natAbs≠0,(0:Nat)<1] (ag.aj [(0:Nat)<1] (ag.leaf aq.ret [rat (sQ (decide (q<0)!=decide (r<0)) (q.num.natAbs*r.den) (q.den*r.num.natAbs)) (ef (sQ (decide (q<0)!=decide (r<0)) (q.num.natAbs*r.den) (q.den*r.num.natAbs))),int .i64 (0:Int)]))))):=ah
theorem aeD {q r:Rat} {n m:Nat} (hn:n<2^41) (hm':m<2^41) (K:Nat):aQ P 148 K [.rat q n,.rat r m] [] (aL (.tuple [.rat (q/r) (n+m),.int .i64 (if r=0 then 3 else 0)]) []):=by
 refine kS fun⟨hq,hr,_⟩=>?_
 have hq:Sz q n:=hq
 have hr:Sz r m:=hr
 have d1:=q.den_nz
 have d2:=r.den_nz
 have a1:nl q.num.natAbs<2^38:=gC hq.1 aa
 have a2:nl q.den<2^38:=gC hq.2 aa
 have b1:nl r.num.natAbs<2^38:=gC hr.1 aa
 have b2:nl r.den<2^38:=gC hr.2 aa
 have m1:nl (q.num.natAbs*r.den)<2^38:=gC (p9 hq.1 hr.2) aa
 have m3:nl (q.den*r.num.natAbs)<2^38:=gC (p9 hq.2 hr.1) aa
 refine ck hT v7 hm af1 rfl aX rfl 60 adL (fun _=>?_) K []
 have key:((nl r.num.natAbs:Int)==0)=decide (r=0):=by
  by_cases h:r=0
  ·subst h;rfl
  ·have h1:r.num.natAbs≠0:=fun e=>h (oE.1 e)
   have:=iF.2 h1
   simp only[h,decide_false,beq_eq_false_iff_ne];omega
 rw[key]
 simp only[ag.all,az,bB,bD]
 refine⟨aa,fun h0=>?_,fun h0=>?_⟩
 ·refine⟨aa,aa,?_,cw (by rw[if_pos h0]),trivial⟩
  have e:q/r=0:=by rw[h0,Rat.div_def,Rat.inv_zero,Rat.mul_zero]
  obtain⟨k,hk⟩:∃k,n+m=k+1:=⟨n+m-1,by have:=hq.pos;omega⟩
  rw[e,hk]
  first|exact pO|exact lW aa
 ·have hr0:r.num.natAbs≠0:=fun h=>h0 (oE.1 h)
  have hv:=Em q r h0
  (repeat' with_reducible refine And.intro ?_ ?_)
  all_goals first|omega|exact m1|exact m3|exact Nat.mul_ne_zero d1 hr0|skip
  exact⟨ej hv (hq.div hr),cw (by rw[if_neg h0]),trivial⟩
def Nk:bk:=[(148,ju kR kR A0 pq)]
theorem Ty:bR P Nk:=aJ (jG fun _ _ K hn=>aeD hn.1 hn.2 K) cz
theorem aki {q r:Rat} {n m:Nat}:b9 T Nk [] 60 f93 (aH f93) ⟨aU 0 [.rat q n,.rat r m],[],0⟩=
  some (ag.aj [(0:Nat)<1,(0:Nat)<1,n<2^41,m<2^41,(0:Nat)<1] (ag.aj [(0:Nat)<1,(0:Nat)<1] (ag.aj [(0:Nat)<1] (ag.leaf aq.ret [rat (q/r) (n+m)])))):=ah
theorem CX {q r:Rat} {n m:Nat} (hn:n<2^41) (hm':m<2^41) (K:Nat):aQ P 93 K [.rat q n,.rat r m] [] (aL (.rat (q/r) (n+m)) []):=by
 refine ck hT Ty hm TP rfl aX rfl 60 aki (fun _=>?_) K []
 simp only[ag.all,az]
 (repeat' with_reducible refine And.intro ?_ ?_)
 all_goals first|omega|exact aW.refl _
def zn (a b:Rat×Nat):AV:=rA (a.1/b.1) (a.2+b.2)
structure KG (p j:Nat) (k:Nat->Rat) (t:Rat):Prop where
 p1:1<=p
 first:∀i,i<=p->k i=k 0
 top:k (p+j)=t
 sorted:∀i,i<p+j->k i<=k (i+1)
 mult:∀i,1<=i->i<=j->k i<k (i+p)
 half:∀i,i<=p+j->∃z:Int,k i=(z:Rat)/2/\-4<=z/\z<=2+6*(j:Int)
def yb (k:Nat->Rat) (m:Nat) (t:Rat):Nat->Rat:=fun i=>if i=m then t else k i
theorem Db {k:Nat->Rat} {m:Nat} {t:Rat}:yb k m t m=t:=if_pos rfl
theorem ql {k:Nat->Rat} {m i:Nat} {t:Rat} (h:i≠m):yb k m t i=k i:=if_neg h
theorem KG.start {p:Nat} (hp:1<=p) {z:Int} (h1:-2<=z) (h2:z<=1):KG p 0 (fun _=>(z:Rat)) (z:Rat) where
 p1:=hp
 first:=fun _ _=>rfl
 top:=rfl
 sorted:=fun _ _=>Rat.le_refl
 mult:=fun i h1 h2=>by omega
 half:=fun i _=>⟨2*z,by
  have:((2*z:Int):Rat)=2*(z:Rat):=by simp
  rw[this];grind,by omega,by omega⟩
theorem KG.le_top {p j:Nat} {k:Nat->Rat} {t:Rat} (h:KG p j k t) {i:Nat} (hi:i<=p+j):k i<=t:=by
 rw[<-h.top]
 exact Ff (n:=p+j+1) (fun i hi=>h.sorted i (by omega)) hi (by omega)
theorem KG.next {p j:Nat} {k:Nat->Rat} {t t':Rat} (h:KG p j k t) (hc:(t<t'/\∃z:Int,t'=t+(z:Rat)/2/\z<=6)\/(t'=t/\1<=j/\t≠k (j+1))):KG p (j+1) (yb k (p+1+j) t') t':=by
 have hle:t<=t':=by
  rcases hc with⟨h1,_⟩|⟨h1,_⟩
  ·grind
  ·rw[h1];exact Rat.le_refl
 have hp:=h.p1
 refine⟨hp,fun i hi=>?_,?_,fun i hi=>?_,fun i h1 h2=>?_,fun i hi=>?_⟩
 ·rw[ql (by omega),ql (by omega)];exact h.first i hi
 ·rw[show p+(j+1)=p+1+j by omega,Db]
 ·by_cases he:i+1=p+1+j
  ·rw[he,Db,ql (by omega),show i=p+j by omega,h.top];exact hle
  ·rw[ql (by omega),ql he];exact h.sorted i (by omega)
 ·by_cases he:i=j+1
  ·subst he
   rw[show j+1+p=p+1+j by omega,Db,ql (by omega)]
   have:=h.le_top (i:=j+1) (by omega)
   rcases hc with⟨h3,_⟩|⟨h3,h4,h5⟩
   ·grind
   ·rw[h3];grind
  ·rw[ql (by omega),ql (by omega)];exact h.mult i h1 (by omega)
 ·by_cases he:i=p+1+j
  ·subst he
   rw[Db]
   obtain⟨z,e1,e2,e3⟩:=h.half (p+j) (by omega)
   rw[h.top]at e1
   rcases hc with⟨h3,y,e4,e5⟩|⟨h3,_⟩
   ·refine⟨z+y,?_,?_,by omega⟩
    ·rw[e4,e1]
     have:((z+y:Int):Rat)=(z:Rat)+(y:Rat):=by simp
     rw[this];grind
    ·have hy:0<y:=by
      rcases Int.lt_or_le 0 y with h6|h6
      ·exact h6
      ·exfalso
       have:((y:Int):Rat)<=0:=Rat.intCast_nonpos.2 h6
       grind
     omega
   ·exact⟨z,by rw[h3,e1],e2,by omega⟩
  ·rw[ql he]
   obtain⟨z,e1,e2,e3⟩:=h.half i (by omega)
   exact⟨z,e1,e2,by omega⟩
def FD (p j:Nat) (k:Nat->Rat) (t:Rat):Nat->Rat:=fun i=>if i<p+1+j then k i else t+1
theorem KG.done {p j:Nat} {k:Nat->Rat} {t:Rat} (h:KG p j k t):Kn (2*p+2+j) p (FD p j k t):=by
 have hp:=h.p1
 have lo:∀{i},i<p+1+j->FD p j k t i=k i:=fun hi=>if_pos hi
 have hi':∀{i},p+1+j<=i->FD p j k t i=t+1:=fun hi=>if_neg (by omega)
 refine⟨hp,by omega,fun i hi=>?_,fun i hi=>?_,fun i h1 h2=>?_,fun i h1 h2=>?_⟩
 ·by_cases h1:i+1<p+1+j
  ·rw[lo h1,lo (by omega)];exact h.sorted i (by omega)
  ·rw[hi' (i:=i+1) (by omega)]
   by_cases h2:i<p+1+j
   ·rw[lo h2]
    have:=h.le_top (i:=i) (by omega)
    grind
   ·rw[hi' (by omega)];exact Rat.le_refl
 ·rw[lo (i:=i) (by omega),lo (i:=0) (by omega)];exact h.first i hi
 ·rw[hi' (i:=i) (by omega),hi' (i:=2*p+2+j-1) (by omega)]
 ·by_cases h3:i+p<p+1+j
  ·rw[lo (by omega),lo h3];exact h.mult i h1 (by omega)
  ·rw[hi' (i:=i+p) (by omega),lo (i:=i) (by omega)]
   have:=h.le_top (i:=i) (by omega)
   grind
def kL (s:Nat):Kind (Nat×(Nat->Rat)):=⟨fun v=>match sN v with
 |some (n,f)=>some ((n,fun i=>aM (f i)),[cP f n s])
 |none=>none,fun a=>bz a.2 a.1 s,fun {v a q} h hq=>by
  split at h
  ·rename_i h1
   simp only[ay,Prod.mk.injEq]at h
   obtain⟨rfl,rfl⟩:=h
   exact RO h1 hq
  ·simp at h⟩
def eU (s:Nat):Kind Rat:=⟨fun v=>match ov v with
 |some (q,n)=>some (q,[n<=s])
 |none=>none,fun a=>.rat a s,fun {v a q} h hq=>by
  split at h
  ·rename_i h1
   simp only[ay,Prod.mk.injEq]at h
   obtain⟨rfl,rfl⟩:=h
   exact(vg h1).trans (lW hq)
  ·simp at h⟩
structure yt (α:Type) where
 read:List AV->Option (α×List Prop)
 make:α->List AV
 ok:∀{l:List AV} {a:α} {q:List Prop},read l=some (a,q)->az q->ir l (make a)
def kN:yt Unit:=⟨fun l=>match l with
 |[]=>some ((),[])
 |_=>none,fun _=>[],fun {l a q} h _=>by
  split at h
  ·trivial
  ·simp at h⟩
def kC {α β:Type} (k:Kind α) (kl:yt β):yt (α×β):=⟨fun l=>match l with
 |v::l=>match k.read v,kl.read l with
  |some (a,p),some (b,q)=>some ((a,b),p++q)
  |_,_=>none
 |[]=>none,fun a=>k.make a.1::kl.make a.2,fun {l a q} h hq=>by
  split at h
  ·split at h
   ·rename_i h1 h2
    simp only[ay,Prod.mk.injEq]at h
    obtain⟨rfl,rfl⟩:=h
    obtain⟨q1,q2⟩:=gJ.1 hq
    exact⟨k.ok h1 q1,kl.ok h2 q2⟩
   ·simp at h
  ·simp at h⟩
def dD {α:Type} (k:yt α) (g:α->AV) (need:α->List Prop):Spec:=cu fun l=>match k.read l with
 |some (a,p)=>some (aL (g a) (p++need a))
 |none=>none
theorem cO {α:Type} {f:FuncId} {k:yt α} {g:α->AV} {need:α->List Prop} (h:∀a K,az (need a)->aQ P f K (k.make a) [] (aL (g a) [])):aY P (dD k g need) f:=by
 refine cW fun K args r hk hs _=>?_
 split at hs
 ·rename_i h1
  simp only[ay]at hs
  subst hs
  intro hn
  obtain⟨n1,hn⟩:=gJ.1 hn
  exact gW (h _ K hn) hk (k.ok h1 n1) [] trivial
 ·simp at hs
end Go.Am.B
namespace Go.Am
def fT (p:Nat->Rat):Nat->Nat->Rat
 |0,i=>p i
 |k+1,i=>fT p k (i+1)-fT p k i
def fG (n:Nat) (p:Nat->Rat) (k:Nat):Rat:=((bn (n-1) k:Int):Rat)*fT p k 0
def kJ (n:Nat) (c:Nat->Rat) (i:Nat):Nat->Rat
 |0=>0
 |k+1=>kJ n c i k+((bn i k:Int):Rat)/((bn (n-1) k:Int):Rat)*c k
def ga (n:Nat) (c:Nat->Rat) (i:Nat):Rat:=kJ n c i (i+1)
def kW (m:Nat) (p:Nat->Rat) (k j:Nat):Rat:=fT p (min k (m-j)) j
def iZ (m:Nat) (p:Nat->Rat) (k i j:Nat):Rat:=if j<i then fT p (k+1) j else kW m p k j
theorem CZ {m k j:Nat} {p:Nat->Rat} (h:k+j<=m):kW m p k j=fT p k j:=by unfold kW;rw[show min k (m-j)=k by omega]
theorem Kh {m k j:Nat} {p:Nat->Rat}:iZ m p k (m-k) j=kW m p (k+1) j:=by
 unfold iZ kW
 split
 ·rw[show min (k+1) (m-j)=k+1 by omega]
 ·rw[show min (k+1) (m-j)=min k (m-j) by omega]
theorem Pr {m k i j:Nat} {p:Nat->Rat} (h:i+k<m):(if j=i then iZ m p k i (i+1)-iZ m p k i i else iZ m p k i j)=iZ m p k (i+1) j:=by
 unfold iZ
 by_cases h1:j=i
 ·subst h1
  rw[if_pos rfl,if_neg (by omega),if_neg (by omega),if_pos (by omega),CZ (by omega),CZ (by omega)];rfl
 ·rw[if_neg h1]
  by_cases h2:j<i
  ·rw[if_pos h2,if_pos (by omega)]
  ·rw[if_neg h2,if_neg (by omega)]
def bK (k:Nat->Rat):Nat->Nat
 |0=>0
 |n+1=>if k n=0 then bK k n else n+1
theorem fN {k:Nat->Rat}:∀{n:Nat},bK k n<=n
 |0=>Nat.le_refl _
 |n+1=>by unfold bK;split;exact Nat.le_succ_of_le fN;exact Nat.le_refl _
theorem Ib {k:Nat->Rat}:∀{n:Nat},0<bK k n->k (bK k n-1)≠0
 |0,h=>by simp[bK]at h
 |n+1,h=>by
  unfold bK at h ⊢
  split
  ·rename_i h1;rw[if_pos h1]at h;exact Ib h
  ·rename_i h1;simpa using h1
theorem FM {k:Nat->Rat}:∀{n i:Nat},bK k n<=i->i<n->k i=0
 |0,_,_,h=>absurd h (Nat.not_lt_zero _)
 |n+1,i,h,hi=>by
  unfold bK at h
  split at h
  ·rename_i h1
   rcases Nat.lt_or_ge i n with h2|h2
   ·exact FM h h2
   ·rw[show i=n by omega];exact h1
  ·omega
theorem pS {k:Nat->Rat} {n:Nat} (h:n=0\/k (n-1)≠0):bK k n=n:=by
 cases n with
 |zero=>rfl
 |succ n=>unfold bK;rw[if_neg (by simpa using h)]
theorem DJ {k l:Nat->Rat}:∀{n:Nat},(∀i,i<n->k i=l i)->bK k n=bK l n
 |0,_=>rfl
 |n+1,h=>by unfold bK;rw[h n (by omega),DJ fun i hi=>h i (by omega)]
theorem EJ {k:Nat->Rat} {n:Nat}:∀{m:Nat},(∀i,n<=i->i<n+m->k i=0)->bK k (n+m)=bK k n
 |0,_=>rfl
 |m+1,h=>by
  show bK k (n+m+1)=_
  unfold bK
  rw[if_pos (h (n+m) (by omega) (by omega)),EJ fun i h1 h2=>h i h1 (by omega)]
  cases n<;>rfl
end Go.Am
namespace Go.Am.B
open Go Go.Am.N AV ag aq IntKind Proofs.Tryz
def af:Nat:=68719476736
def cN (n:Nat) (k:Nat->Rat):Prop:=∀i,i<n->Sz (k i) af
abbrev xJ:Code:=aH f157
abbrev xW:List Nat:=[3,9,10,11]
abbrev DU (n:Nat) (k:Nat->Rat) (s i:Nat):List AV:=[.own 0 3 0 n,bz k n s,.int .i64 n,.int .i64 i]
def IZ:Spec:=rK fun K l=>match l with
 |[v]=>match(kL af).read v with
  |some ((n,k),q)=>some ⟨.own K 3 0 n,[(K,cC n k af)],q++[n<2^40,cN n k]⟩
  |none=>none
 |_=>none
def sX:bk:=zG::(157,IZ)::(158,H7)::gL
abbrev yV:Code:=aH f115
abbrev yA:Code:=part yV [1,1,1,0,1,0,0]
abbrev zZ:Code:=part yA [1,1,0,0]
abbrev sH:List Nat:=[0,3,4,17,18,19]
abbrev DC (m:Nat) (p:Nat->Rat) (k:Nat):List AV:=[bz p (m+1) af,.own 0 3 0 (m+1-k),.own 1 3 0 k,bz (fun i=>((bn m i:Int):Rat)) (m+1) 64,.int .i64 (m+1:Nat),.int .i64 k]
abbrev lR (m:Nat) (d x:Nat->Rat) (k:Nat):aE:=[(1,cC k x af),(0,cC (m+1) d af)]
abbrev AH:List Nat:=[0,3,4,17,18,19,38,39]
abbrev EO (m:Nat) (p:Nat->Rat) (k i:Nat):List AV:=[bz p (m+1) af,.own 0 3 0 (m+1-k),.own 1 3 0 (k+1),bz (fun i=>((bn m i:Int):Rat)) (m+1) 64,.int .i64 (m+1:Nat),.int .i64 k,.int .i64 (m-k:Nat),.int .i64 i]
theorem LF:bf 115 f115:=bg func115
theorem XI {m:Nat} {p:Nat->Rat}:aI T sX [] 60 sH (before yV [1,1,1,0,1]) ⟨aU 0 [bz p (m+1) af],[],0⟩=
  let c3:Nat:=m+1;let c4:Int:=(↑c3:Int);let c1:Int:=c4-1;let c2:Int:=if c1<0 then(0:Int)else c1;some (aj [cP (fun i=>rat (p i) af) c3 af,c3<2^40,cN c3 fun i=>aM (rat (p i) af)] (aj [(0:Int)<=0/\(0:Int)<=c4/\c4<=2^47/\c4*(↑(56:Nat):Int)<=2^47] (aj [-(2:Int)^63<=c1/\c1<2^63,(0:Int)<=c2,c2<=40] (leaf normal ([ak 3 c3 fun i=>rat (p i) af,own 8192 3 0 c3,own 24576 3 0 0,ak 3 (c2.toNat+1) fun i=>rat (↑(↑(bn c2.toNat i):Int):Rat) 64,int i64 (↑(c2.toNat+1):Int),int i64 0],[(24576,au.mk true true 3 0 fun x=>rat 0 1),(8192,au.mk true true 3 c3 fun i=>rat (aM (rat (p i) af)) af)]))))):=ah
theorem ab0 {m k:Nat} {p d x:Nat->Rat}:aI T sX [20] 60 sH (before yA [1,1,0]) ⟨aC sH (DC m p k),lR m d x k,2⟩=
  let c2:Nat:=m+1;let c1:List AV×aE:=([ak 3 c2 fun i=>rat (p i) af,own 0 3 0 (c2-k),own 1 3 0 k,ak 3 c2 fun i=>rat (↑(↑(bn m i):Int):Rat) 64,int i64 (↑c2:Int),int i64 (↑k:Int)],[(1,au.mk true true 3 k fun i=>rat (x i) af),(0,au.mk true true 3 c2 fun i=>rat (d i) af)]);some (fork (decide ((↑k:Int)<(↑c2:Int))) (leaf normal c1) (leaf (exit 0) c1)):=ah
theorem Sk {m k:Nat} {p d x:Nat->Rat}:aI T sX [200027] 60 AH (before zZ [1,1,1,0,1]) ⟨aC sH (DC m p k),lR m d x k,2⟩=
  let c4:Int:=(↑k:Int);let c3:Nat:=Int.toNat (0:Int);let c1:Nat:=m+1;let c2:Int:=(↑(c1-k):Int)-1;some (aj [(0:Int)<=c4/\c4.toNat<c1,(0:Nat)<1] (aj [(c4==(↑c1:Int))=false] (aj [(0:Nat)<1,(0:Int)<=0/\c3<c1-k,c3+0<c1,(64:Nat)<2^42,af<2^42,(1:Nat)*3<=2^24,(k+1)*((56:Nat)+1)*2<=2^47] (aj [-(2:Int)^63<=c2/\c2<2^63] (leaf normal ([ak 3 c1 fun i=>rat (p i) af,own 0 3 0 (c1-k),own 69634 3 0 (k+1),ak 3 c1 fun i=>rat (↑(↑(bn m i):Int):Rat) 64,int i64 (↑c1:Int),int i64 c4,int i64 c2,int i64 0],[(69634,au.mk true true 3 (k+1) fun i=>if i<k then rat (x i) af else nth [rat ((↑(↑(bn m c4.toNat):Int):Rat)*d (c3+0)) ((64:Nat)+af)] (rat 0 1) (i-k+0)),(0,au.mk true true 3 c1 fun i=>rat (d i) af)])))))):=ah
theorem agl {m k i:Nat} {p d x:Nat->Rat}:aI T sX [40] 60 AH [part zZ [1,1,1,0,1,0,0]] ⟨aC AH (EO m p k i),lR m d x (k+1),2⟩=
  let c13:Prop:=af<2^42;let c11:Int:=(↑(m-k):Int);let c9:AV:=own 1 3 0 (k+1);let c7:Int:=(↑i:Int);let c6:Int:=(2:Int)^63;let c4:Nat×au:=(1,au.mk true true 3 (k+1) fun i=>rat (x i) af);let c2:Nat:=m+1;let c12:Prop:=(0:Int)<=c7/\c7.toNat<c2-k;let c10:AV:=own 0 3 0 (c2-k);let c8:AV:=ak 3 c2 fun i=>rat (p i) af;let c5:AV:=ak 3 c2 fun i=>rat (↑(↑(bn m i):Int):Rat) 64;let c3:Nat:=c7.toNat+0;let c1:Int:=c7+1;some (fork (decide (c7<c11)) (aj [-c6<=c1/\c1<c6,(0:Int)<=c1/\c1.toNat<c2-k,c1.toNat+0<c2,c12,c3<c2,c13,c13,c12,c3<c2] (aj [-c6<=c1/\c1<c6] (leaf normal ([c8,c10,c9,c5,int i64 (↑c2:Int),int i64 (↑k:Int),int i64 c11,int i64 c1],[c4,(0,au.mk true true 3 c2 fun j=>rat (bif j==c3 then d (c1.toNat+0)-d c3 else d j) (bif j==c3 then af+af+1 else af))])))) (leaf (exit 2) ([c8,c10,c9,c5,int i64 (↑c2:Int),int i64 (↑k:Int),int i64 c11,int i64 c7],[c4,(0,au.mk true true 3 c2 fun i=>rat (d i) af)]))):=ah
theorem ah2 {m k i:Nat} {p d x:Nat->Rat}:aI T sX [] 60 sH (behind zZ [1,1,1,0,1]++[part yA [1,1,1]]) ⟨aC AH (EO m p k i),lR m d x (k+1),2⟩=
  let c4:Int:=(↑k:Int)+1;let c3:Nat:=m+1;let c2:Int:=(2:Int)^63;let c1:Int:=(↑(c3-k):Int)-1;some (aj [-c2<=c1/\c1<c2,(0:Int)<=0/\(0:Int)<=c1/\c1<=c1/\c1<=(↑(c3-k):Int)] (aj [-c2<=c4/\c4<c2] (leaf normal ([ak 3 c3 fun i=>rat (p i) af,own 0 3 0 (c1.toNat-Int.toNat (0:Int)),own 1 3 0 (k+1),ak 3 c3 fun i=>rat (↑(↑(bn m i):Int):Rat) 64,int i64 (↑c3:Int),int i64 c4],[(1,au.mk true true 3 (k+1) fun i=>rat (x i) af),(0,au.mk true true 3 c3 fun i=>rat (d i) af)])))):=ah
theorem Uv {m k:Nat} {p d x:Nat->Rat}:cQ T sX [] 60 f115 [part yV [1,1,1,1]] ⟨aC sH (DC m p k),lR m d x k,2⟩=
  some (leaf ret [ak 3 k fun i=>rat (x (i+0)) af]):=ah
theorem Oj:bf 157 f157:=bg func157
theorem RR {n s:Nat} {k:Nat->Rat}:aI T GZ [] 60 xW (before xJ [1,1,0,1]) ⟨aU 0 [bz k n s],[],0⟩=
  let c1:Int:=(↑n:Int);some (aj [(0:Int)<=c1/\c1<=c1/\c1<=2^47/\c1*(↑(56:Nat):Int)<=2^47] (leaf normal ([own 12288 3 0 c1.toNat,ak 3 n fun i=>rat (k i) s,int i64 c1,int i64 0],[(12288,au.mk true true 3 c1.toNat fun x=>rat 0 1)]))):=ah
theorem ac1 {n s i:Nat} {k x:Nat->Rat}:aI T GZ [12] 60 xW [part xJ [1,1,0,1,0,0]] ⟨aC xW (DU n k s i),[(0,cC n x af)],1⟩=
  let c7:Int:=(↑n:Int);let c4:AV:=own 0 3 0 n;let c3:AV:=ak 3 n fun i=>rat (k i) s;let c1:Int:=(↑i:Int);let c6:Int:=c1+1;let c5:Prop:=(0:Int)<=c1/\c1.toNat<n;let c2:Nat:=c1.toNat+0;some (fork (decide (c1<c7)) (aj [c5,(0:Nat)<1] (aj [(0:Nat)<1,s<2^42,(1:Nat)<2^42,c5,c2<n] (aj [-(2:Int)^63<=c6/\c6<2^63] (leaf normal ([c4,c3,int i64 c7,int i64 c6],[(0,au.mk true true 3 n fun j=>rat (bif j==c2 then k c1.toNat+0 else x j) (bif j==c2 then s+1+1 else af))]))))) (leaf (exit 0) ([c4,c3,int i64 c7,int i64 c1],[(0,au.mk true true 3 n fun i=>rat (x i) af)]))):=ah
theorem ait {n s i:Nat} {k x:Nat->Rat}:aI T GZ [] 60 [2] [part xJ [1,1,1]] ⟨aC xW (DU n k s i),[(0,cC n x af)],1⟩=
  some (leaf ret ([own 0 3 0 n],[(0,au.mk true true 3 n fun i=>rat (x i) af)])):=ah
theorem cF:af=2^36:=rfl
theorem nh {rl:List (Nat×Nat)} {i j zt z w:Nat} {t:Rat} {x y:Nat->Rat} (h1:aW (.rat t zt) (.rat (y i) w)) (h2:j≠i->aW (.rat (x j) z) (.rat (y j) w)):nS rl (.rat (bif j==i then t else x j) (bif j==i then zt else z)) (.rat (y j) w):=by
 refine .inr ⟨rfl,?_⟩
 by_cases h:j=i
 ·subst h;rw[beq_self_eq_true];exact h1
 ·rw[show(j==i)=false by simpa using h];exact h2 h
theorem FV {α:Type} {i j:Nat} {a b:α} (h:j≠i):(if j<i+1 then a else b)=if j<i then a else b:=by
 by_cases h1:j<i
 ·rw[if_pos h1,if_pos aa]
 ·rw[if_neg h1,if_neg aa]
theorem VZ {args:List AV} {n:Nat} {k:Nat->Rat} {l:List Prop} (ha:az l->g9 (bp []) args [bz k n af]) (hn:az l->n<2^40/\cN n k) (K:Nat):aQ P 157 K args [] ⟨nW [.own K 3 0 n],[(K,cC n k af)],l⟩:=by
 refine Du hT Oj ha aX fun need c hk=>?_
 obtain⟨hn,hz⟩:=hn need
 have hW:=cF
 refine ax.oD hT pE hm [1,1,0,1] (i:=0) (y:=part xJ [1,1,0,1,0,0]) (z:=part xJ [1,1,1]) ah ah ah Oj.dst hk (f1:=[]) (f2:=[12]) 60 xW 1 (fun i:Nat=>DU n k af i) (fun i=>[(0,cC n (fun j=>if j<i then k j else 0) af)])
  (fun i=>i<=n) (fun i=>i=n) (fun i=>n-i) (fun _=>False) ⟨_,RR,?_⟩ (fun i hi=>⟨_,ac1,?_⟩) (fun i hi=>?_) (fun _ _ h=>h.elim)
 ·simp only[ag.all,az,bJ]
  exact⟨aa,0,Nat.zero_le _,[(0,12288)],rfl,rfl,rfl,br rfl rfl rfl (fun i hi=>.inr ⟨rfl,dy (if_neg (Nat.not_lt_zero i)).symm aa⟩) trivial⟩
 ·simp only[ag.all,az,bB,bD,bJ,Nat.add_zero]
  refine⟨fun h2=>⟨aa,aa,aa,i+1,aa,by dsimp only;omega,[(0,0)],rfl,rfl,rfl,br rfl rfl rfl (fun j hj=>?_) trivial⟩,fun h2=>⟨rfl,i,aa,[(0,0)],rfl,rfl,rfl,br rfl rfl rfl (fun j hj=>bN rfl rfl) trivial⟩⟩
  exact nh (x:=fun j=>if j<i then k j else 0) (y:=fun j=>if j<i+1 then k j else 0) (ej ((Rat.add_zero _).trans (if_pos (Nat.lt_succ_self i)).symm) (by show Sz (if i<i+1 then _ else _) _;rw[if_pos (Nat.lt_succ_self i)];exact hz i aa)) fun hj=>dy (FV hj).symm aT
 ·subst hi
  refine ax.bO hT pE hm 60 [2] ait ah fun s' hs'=>⟨.inr rfl,[2],_,[.own 0 3 0 i],_,0,_,hs',ah,⟨⟨rfl,eE (by simp[bp,look]) rfl rfl⟩,trivial⟩,rfl,hH rfl fun j hj=>?_⟩
  rw[if_pos hj];exact fD rfl
theorem abq:aY P IZ 157:=by
 refine uX fun K args r hk hs=>?_
 split at hs
 ·rename_i v
  split at hs
  ·rename_i n k q hv
   simp only[ay]at hs
   subst hs
   exact VZ (fun hn=>C3 hk (by cases v<;>first|rfl|simp[kL,sN]at hv) ⟨(kL af).ok hv (gJ.1 hn).1,trivial⟩) (fun hn=>have:=(gJ (a:=q) (b:=[n<2^40,cN n k]).1 hn).2;⟨this.1,this.2⟩) K
  ·simp at hs
 ·simp at hs
theorem Np:bR P sX:=gY (aJ abq (aJ OQ gQ))
theorem cN.up {n:Nat} {k:Nat->Rat} {i z:Nat} (h:cN n k) (hi:i<n):aW (.rat (k i) z) (.rat (k i) af):=ej rfl (h i hi)
def sL (n:Nat) (p:Nat->Rat):Prop:=(∀k i,k+i<n->Sz (fT p k i) af)/\cN n (fG n p)
theorem VT {m:Nat} {p:Nat->Rat} (hm1:m<=40) (hz:sL (m+1) p) (K:Nat):aQ P 115 K [bz p (m+1) af] [] (aL (bz (fG (m+1) p) (m+1) af) []):=by
 refine iw (r:=aL (bz (fG (m+1) p) (m+1) af) []) hT LF rfl aX rfl (fun _ cx h0=>?_) K []
 have hk:=lX h0
 have hW:=cF
 have hd:∀k i,k+i<=m->Sz (fT p k i) af:=fun k i h=>hz.1 k i aa
 refine ax.qH hT Np hm (x:=yV) [1,1,1,0,1] (i:=0) (y:=yA) (z:=part yV [1,1,1,1]) ah ah ah LF.dst [1,1,0] (j:=1) (x1:=zZ) (zb:=part yA [1,1,1]) ah ah ah [1,1,1,0,1] (i2:=2) (y2:=part zZ [1,1,1,0,1,0,0]) ah ah rfl hk
  (f1:=[]) (f2:=[20]) (f3:=[200027]) (f4:=[40]) (f5:=[]) 60 sH AH 2 2 (fun k:Nat=>DC m p k) (fun k=>lR m (kW m p k) (fG (m+1) p) k) (fun k=>k<=m+1) (fun k=>k=m+1) (fun k=>m+1-k) (fun k=>k<m+1) (fun _=>False) (fun _=>False)
  (fun k (i:Nat)=>EO m p k i) (fun k i=>lR m (iZ m p k i) (fG (m+1) p) (k+1)) (fun k i=>i<=m-k) (fun k i=>i=m-k) (fun k i=>m-k-i)
  ⟨_,XI,?_⟩ (fun k hk=>⟨_,ab0,?_⟩) (fun k hk hG=>⟨_,Sk,?_⟩) (fun k hk hG i hi=>⟨_,agl,?_⟩) (fun k hk hG i hi=>⟨_,ah2,?_⟩) (fun k hk=>?_) (fun _ _ h=>h.elim) (fun _ _ h=>h.elim)
 ·simp only[ag.all,az]
  have e1:(if((m+1:Nat):Int)-1<0 then 0 else((m+1:Nat):Int)-1)=(m:Nat):=by rw[if_neg aa];omega
  rw[e1]
  refine⟨⟨ek aT,aa,fun i hi=>hd 0 i aa⟩,aa,aa,0,aa,[(0,8192),(1,24576)],rfl,rfl,rfl,br rfl rfl rfl (fun i hi=>absurd hi (Nat.not_lt_zero i)) (br rfl rfl rfl (fun i hi=>bN rfl ?_) trivial)⟩
  show AV.rat (p i) af=AV.rat (kW m p 0 i) af
  unfold kW;rw[Nat.zero_min];rfl
 ·simp only[ag.all,az,bB,bD]
  exact⟨fun h=>⟨aa,[(0,0),(1,1)],rfl,rfl,rfl,br rfl rfl rfl (fun i hi=>bN rfl rfl) (br rfl rfl rfl (fun i hi=>bN rfl rfl) trivial)⟩,fun h=>⟨rfl,k,aa,[(0,0),(1,1)],rfl,rfl,rfl,br rfl rfl rfl (fun i hi=>bN rfl rfl) (br rfl rfl rfl (fun i hi=>bN rfl rfl) trivial)⟩⟩
 ·simp only[ag.all,az,bJ,beq_eq_false_iff_ne]
  have e0:(0:Int).toNat=0:=rfl
  refine⟨aa,aa,aa,aa,0,aa,[(0,0),(1,69634)],rfl,?_,rfl,br rfl rfl rfl (fun i hi=>?_) (br rfl rfl rfl (fun i hi=>bN rfl ?_) trivial)⟩
  ·rw[show((m+1-k:Nat):Int)-1=(m-k:Nat) by omega];rfl
  ·refine .inr ⟨?_,?_⟩
   ·split
    ·rfl
    ·rw[show i-k+0=0 by omega];rfl
   ·split
    ·exact .refl _
    ·rw[show i-k+0=0 by omega,show i=k by omega]
     exact ej (by rw[CZ aa];rfl) (hz.2 k hG)
  ·show AV.rat (kW m p k i) af=AV.rat (iZ m p k 0 i) af
   unfold iZ;rw[if_neg (Nat.not_lt_zero i)]
 ·simp only[ag.all,az,bB,bD,bJ,Nat.add_zero]
  have e1:((i:Int)+1).toNat=i+1:=aa
  rw[e1]
  refine⟨fun h=>⟨aa,aa,i+1,aa,by dsimp only;omega,[(0,0),(1,1)],rfl,rfl,rfl,br rfl rfl rfl (fun j hj=>bN rfl rfl) (br rfl rfl rfl (fun j hj=>?_) trivial)⟩,fun h=>⟨rfl,i,aa,[(0,0),(1,1)],rfl,rfl,rfl,br rfl rfl rfl (fun j hj=>bN rfl rfl) (br rfl rfl rfl (fun j hj=>bN rfl rfl) trivial)⟩⟩
  have h3:=fun j=>Pr (m:=m) (k:=k) (i:=i) (j:=j) (p:=p) aa
  exact nh (x:=iZ m p k i) (y:=iZ m p k (i+1)) (ej ((if_pos rfl).symm.trans (h3 i)) (by unfold iZ;rw[if_pos (Nat.lt_succ_self i)];exact hd _ _ aa)) fun hj=>dy ((if_neg hj).symm.trans (h3 j)) aT
 ·subst hi
  simp only[ag.all,az]
  refine⟨aa,aa,k+1,aa,by dsimp only;omega,[(0,0),(1,1)],rfl,?_,rfl,br rfl rfl rfl (fun j hj=>bN rfl rfl) (br rfl rfl rfl (fun j hj=>bN rfl ?_) trivial)⟩
  ·rw[show(((m+1-k:Nat):Int)-1).toNat-(0:Int).toNat=m+1-(k+1) by omega];rfl
  ·show AV.rat (iZ m p k (m-k) j) af=AV.rat (kW m p (k+1) j) af
   rw[Kh]
 ·subst hk
  exact ax.lH ((aG.fin hT Np hm 60 Uv ah (iH fun _ _=>.refl _)).mono fun _ _ h=>.inl h)
def A2:Spec:=dD (kC (kL af) kN) (fun a=>bz (fG a.1.1 a.1.2) a.1.1 af) fun a=>[1<=a.1.1,a.1.1<=41,sL a.1.1 a.1.2]
theorem To:aY P A2 115:=cO fun⟨⟨n,p⟩,_⟩ K hn=>by
 obtain⟨h1,h2,h3⟩:=hn
 simp only at h1 h2 h3
 obtain⟨m,rfl⟩:∃m,n=m+1:=⟨n-1,aa⟩
 exact VT aa h3 K
end Go.Am.B
namespace Go.Am
def gF (e:Nat) (d:Nat->Rat) (k:Nat) (r:Nat->Rat) (i:Nat):Rat:=if k<=i/\i<k+e+1 then r i-r (k+e)/d e*d (i-k)else r i
def ct (e:Nat) (d a:Nat->Rat) (R:Nat):Nat->Nat->Rat
 |0=>a
 |j+1=>gF e d (R-1-j) (ct e d a R j)
def dM (e:Nat) (d a:Nat->Rat) (R k:Nat):Rat:=ct e d a R (R-1-k) (k+e)/d e
theorem PA {e k:Nat} {d r:Nat->Rat} (hd:d e≠0):gF e d k r (k+e)=0:=by
 unfold gF
 rw[if_pos (by omega),show k+e-k=e by omega,Rat.div_mul_cancel hd,Rat.sub_self]
theorem afB {e k:Nat} {d r:Nat->Rat} (h:r (k+e)=0):gF e d k r=r:=by
 funext i
 unfold gF
 split
 ·rw[h,Rat.div_def,Rat.zero_mul,Rat.zero_mul];grind
 ·rfl
section
variable {n e R:Nat} {d a:Nat->Rat}
def fK (n R L:Nat):Nat:=min (n-L) R
theorem Ia (hR:R=n-e) {L:Nat} (hL:L<=n) (hz:∀i,L<=i->i<n->ct e d a R (fK n R L) i=0):∀m,m<=L->(∀i,L-m<=i->i<n->ct e d a R (fK n R L) i=0)->ct e d a R (fK n R (L-m))=ct e d a R (fK n R L)
 |0,_,_=>rfl
 |m+1,hm,h=>by
  have ih:=Ia hR hL hz m (by omega) (fun i h1 h2=>h i (by omega) h2)
  rw[<-ih]
  by_cases h1:n-(L-m)<R
  ·rw[show fK n R (L-(m+1))=n-(L-m)+1 by unfold fK;omega,show fK n R (L-m)=n-(L-m) by unfold fK;omega]
   show gF e d (R-1-(n-(L-m))) (ct e d a R (n-(L-m)))=_
   refine afB ?_
   rw[show n-(L-m)=fK n R (L-m) by unfold fK;omega,ih]
   exact h _ (by unfold fK;omega) (by unfold fK;omega)
  ·rw[show fK n R (L-(m+1))=fK n R (L-m) by unfold fK;omega]
structure kP (n e R:Nat) (d a:Nat->Rat) (L:Nat) (x q:Nat->Rat):Prop where
 le:L<=n
 zM:∀i,i<L->x i=ct e d a R (fK n R L) i
 zero:∀i,L<=i->i<n->ct e d a R (fK n R L) i=0
 top:L=0\/ct e d a R (fK n R L) (L-1)≠0
 quo:∀k,k<R->q k=if k+e<L then 0 else dM e d a R k
theorem kP.start (hR:R=n-e) (ha:n=0\/a (n-1)≠0):kP n e R d a n a fun _=>0 where
 le:=Nat.le_refl _
 zM i hi:=by rw[show fK n R n=0 by unfold fK;omega];rfl
 zero i h1 h2:=by omega
 top:=by rw[show fK n R n=0 by unfold fK;omega];exact ha
 quo k hk:=by rw[if_pos (by omega)]
def fB (e:Nat) (d x:Nat->Rat) (k:Nat) (f:Rat) (i j:Nat):Rat:=if k<=j/\j<k+i then x j-f*d (j-k)else x j
variable {L:Nat} {x q:Nat->Rat}
theorem kP.quot (hR:R=n-e) (h:kP n e R d a L x q) (hL:e<L):x (L-1)/d e=dM e d a R (L-1-e):=by
 have:=h.le
 unfold dM
 rw[h.zM _ (by omega),show fK n R L=R-1-(L-1-e) by unfold fK;omega,show L-1-e+e=L-1 by omega]
theorem kP.Ov (hR:R=n-e) (h:kP n e R d a L x q) (hL:e<L) {i j:Nat} (hi:i<=e) (hj:j<L-1) (hij:j<L-1-e+i):fB e d x (L-1-e) (x (L-1)/d e) i j=ct e d a R (n-L+1) j:=by
 have hl:=h.le
 have e1:fK n R L=n-L:=by unfold fK;omega
 show _=gF e d (R-1-(n-L)) (ct e d a R (n-L)) j
 rw[show R-1-(n-L)=L-1-e by omega]
 unfold fB gF
 rw[show L-1-e+e=L-1 by omega,<-e1,<-h.zM j (by omega),<-h.zM (L-1) (by omega)]
 by_cases hk:L-1-e<=j
 ·rw[if_pos ⟨hk,hij⟩,if_pos (by omega)]
 ·rw[if_neg (by omega),if_neg (by omega)]
theorem kP.next (hR:R=n-e) (hd:d e≠0) (h:kP n e R d a L x q) (hL:e<L):
  kP n e R d a (bK (fB e d x (L-1-e) (x (L-1)/d e) e) (L-1)) (fB e d x (L-1-e) (x (L-1)/d e) e) fun j=>if j=L-1-e then x (L-1)/d e else q j:=by
 have hl:=h.le
 have hu:∀j,j<L-1->fB e d x (L-1-e) (x (L-1)/d e) e j=ct e d a R (n-L+1) j:=fun j hj=>h.Ov hR hL (Nat.le_refl _) hj (by omega)
 have e1:fK n R L=n-L:=by unfold fK;omega
 have e2:fK n R (L-1)=n-L+1:=by unfold fK;omega
 obtain⟨M,hM⟩:∃M,M=bK (fB e d x (L-1-e) (x (L-1)/d e) e) (L-1):=⟨_,rfl⟩
 have hM2:M=bK (ct e d a R (n-L+1)) (L-1):=by rw[hM];exact DJ hu
 have hMl:M<=L-1:=by rw[hM2];exact fN
 have hz1:∀i,L-1<=i->i<n->ct e d a R (n-L+1) i=0:=fun i h1 h2=>by
  show gF e d (R-1-(n-L)) (ct e d a R (n-L)) i=0
  rw[show R-1-(n-L)=L-1-e by omega]
  by_cases h3:i=L-1
  ·have:=PA (k:=L-1-e) (r:=ct e d a R (n-L)) hd
   rwa [show L-1-e+e=i by omega]at this
  ·unfold gF
   rw[if_neg (by omega),<-e1]
   exact h.zero i (by omega) h2
 have hz:∀i,M<=i->i<n->ct e d a R (n-L+1) i=0:=fun i h1 h2=>by
  rcases Nat.lt_or_ge i (L-1)with h3|h3
  ·exact FM (by rw[<-hM2];exact h1) h3
  ·exact hz1 i h3 h2
 have hs:ct e d a R (fK n R M)=ct e d a R (n-L+1):=by
  have:=Ia (d:=d) (a:=a) hR (L:=L-1) (by omega) (by rw[e2];exact hz1) (L-1-M) (by omega) (by rw[e2,show L-1-(L-1-M)=M by omega];exact hz)
  rwa [show L-1-(L-1-M)=M by omega,e2]at this
 rw[<-hM]
 refine⟨by omega,fun i hi=>by rw[hs];exact hu i (by omega),fun i h1 h2=>by rw[hs];exact hz i h1 h2,?_,fun k hk=>?_⟩
 ·rw[hs]
  rcases Nat.eq_zero_or_pos M with h0|h0
  ·exact .inl h0
  ·right
   rw[hM2]at h0 ⊢
   exact Ib h0
 ·show(if k=L-1-e then x (L-1)/d e else q k)=_
  by_cases h1:k=L-1-e
  ·rw[if_pos h1,if_neg (by omega),h.quot hR hL,h1]
  ·rw[if_neg h1,h.quo k hk]
   by_cases h2:k+e<M
   ·rw[if_pos h2,if_pos (by omega)]
   ·rw[if_neg h2]
    by_cases h3:k+e<L
    ·rw[if_pos h3]
     -- a round that did nothing
     have hk2:k+e<L-1:=by omega
     unfold dM
     have e3:=Ia (d:=d) (a:=a) hR (L:=L-1) (by omega) (by rw[e2];exact hz1) (L-1-(k+e+1)) (by omega) (by rw[e2,show L-1-(L-1-(k+e+1))=k+e+1 by omega];exact fun i h1 h2=>hz i (by omega) h2)
     rw[show L-1-(L-1-(k+e+1))=k+e+1 by omega,e2]at e3
     rw[show R-1-k=fK n R (k+e+1) by unfold fK;omega,e3,hz (k+e) (by omega) (by omega),Rat.div_def,Rat.zero_mul]
    ·rw[if_neg h3]
theorem kP.fin (hR:R=n-e) (h:kP n e R d a L x q) (hL:L<=e):L=bK (ct e d a R R) n/\(∀i,i<L->x i=ct e d a R R i)/\∀k,k<R->q k=dM e d a R k:=by
 have hl:=h.le
 have e1:fK n R L=R:=by unfold fK;omega
 have hz:=h.zero
 have ht:=h.top
 have ha:=h.zM
 rw[e1]at hz ht ha
 refine⟨?_,ha,fun k hk=>by rw[h.quo k hk,if_neg (by omega)]⟩
 have:=EJ (k:=ct e d a R R) (n:=L) (m:=n-L) fun i h1 h2=>hz i h1 (by omega)
 rw[show L+(n-L)=n by omega,pS ht]at this
 exact this.symm
end
end Go.Am
namespace Go.Am
abbrev PP:=Nat×(Nat->Rat)
def dx (a d:PP):PP:=(bK (ct (d.1-1) d.2 a.2 (a.1-(d.1-1)) (a.1-(d.1-1))) a.1,ct (d.1-1) d.2 a.2 (a.1-(d.1-1)) (a.1-(d.1-1)))
def fF (a d:PP):PP:=(bK (dM (d.1-1) d.2 a.2 (a.1-(d.1-1))) (a.1-(d.1-1)),dM (d.1-1) d.2 a.2 (a.1-(d.1-1)))
def cL (n:Nat) (c:Nat->Rat) (i:Nat):Rat:=c i/c (n-1)
def dI (a:PP):PP:=(a.1,cL a.1 a.2)
def cR (c:Nat->Rat) (i:Nat):Rat:=((i+1:Nat):Int)*c (i+1)
def bC (a:PP):PP:=(bK (cR a.2) (a.1-1),cR a.2)
def Trim (a:PP):Prop:=a.1=0\/a.2 (a.1-1)≠0
theorem mU {k:Nat->Rat} {n:Nat}:Trim (bK k n,k):=by
 rcases Nat.eq_zero_or_pos (bK k n)with h|h
 ·exact .inl h
 ·exact .inr (Ib h)
theorem qq {a d:PP}:Trim (dx a d):=mU
theorem yl {a d:PP}:Trim (fF a d):=mU
theorem dZ {a:PP}:Trim (bC a):=mU
theorem oU {a:PP} (h:Trim a):Trim (dI a):=by
 rcases h with h|h
 ·exact .inl h
 ·right
  show cL a.1 a.2 (a.1-1)≠0
  unfold cL
  rw[Rat.div_def,Rat.mul_inv_cancel _ h];decide
theorem NZ {n e R:Nat} {d a:Nat->Rat} (hR:R=n-e) (hd:d e≠0):∀j,j<=R->∀i,n-j<=i->i<n->ct e d a R j i=0
 |0,_,i,h1,h2=>by omega
 |j+1,hj,i,h1,h2=>by
  show gF e d (R-1-j) (ct e d a R j) i=0
  by_cases h:i=R-1-j+e
  ·rw[h];exact PA hd
  ·unfold gF
   rw[if_neg (by omega)]
   exact NZ hR hd j (by omega) i (by omega) h2
theorem oM {a d:PP} (hd:0<d.1) (ht:Trim d):(dx a d).1<d.1:=by
 show bK _ _<_
 have h0:d.2 (d.1-1)≠0:=by rcases ht with h|h;omega;exact h
 have:=fun i=>NZ (n:=a.1) (a:=a.2) (rfl) h0 _ (Nat.le_refl (a.1-(d.1-1))) i
 rcases Nat.lt_or_ge a.1 d.1 with h|h
 ·exact Nat.lt_of_le_of_lt fN h
 ·have e1:=EJ (k:=ct (d.1-1) d.2 a.2 (a.1-(d.1-1)) (a.1-(d.1-1))) (n:=d.1-1) (m:=a.1-(d.1-1)) fun i h1 h2=>this i (by omega) (by omega)
  rw[show d.1-1+(a.1-(d.1-1))=a.1 by omega]at e1
  rw[e1]
  have:=fN (k:=ct (d.1-1) d.2 a.2 (a.1-(d.1-1)) (a.1-(d.1-1))) (n:=d.1-1)
  omega
def fL (s:PP×PP):PP×PP:=if s.2.1=0 then s else(s.2,dI (dx s.1 s.2))
def bT (s:PP×PP):Nat->PP×PP
 |0=>s
 |j+1=>fL (bT s j)
theorem mI {s:PP×PP} (h1:Trim s.1) (h2:Trim s.2):∀j,Trim (bT s j).1/\Trim (bT s j).2
 |0=>⟨h1,h2⟩
 |j+1=>by
  have:=mI h1 h2 j
  show Trim (fL _).1/\Trim (fL _).2
  unfold fL
  split
  ·exact this
  ·exact⟨this.2,oU qq⟩
theorem ze {s:PP×PP} (h1:Trim s.1) (h2:Trim s.2):∀j,(bT s j).2.1<=s.2.1-j
 |0=>Nat.le_refl _
 |j+1=>by
  have:=ze h1 h2 j
  have ht:=mI h1 h2 j
  show(fL _).2.1<=_
  unfold fL
  split
  ·rename_i h;rw[h];exact Nat.zero_le _
  ·rename_i h
   have:=oM (a:=(bT s j).1) (d:=(bT s j).2) (by omega) ht.2
   show(dx _ _).1<=_
   omega
theorem Gn {s:PP×PP} {j:Nat} (h:(bT s j).2.1=0):∀m,bT s (j+m)=bT s j
 |0=>rfl
 |m+1=>by
  show fL (bT s (j+m))=_
  rw[Gn h m]
  unfold fL
  rw[if_pos h]
theorem xB {s:PP×PP} (h:0<s.1.1):∀j,0<(bT s j).1.1
 |0=>h
 |j+1=>by
  have:=xB h j
  show 0<(fL _).1.1
  unfold fL
  split
  ·exact this
  ·dsimp only;omega
theorem wB {s:PP×PP} {B:Nat} (ha:s.1.1<=B) (hb:s.2.1<=B) (h1:Trim s.1) (h2:Trim s.2):∀j,(bT s j).1.1<=B
 |0=>ha
 |j+1=>by
  have:=wB ha hb h1 h2 j
  have h3:=ze h1 h2 j
  show(fL _).1.1<=_
  unfold fL
  split
  ·exact this
  ·dsimp only;omega
def bW (a b:PP):PP:=dI (bT (a,b) b.1).1
theorem aey {a b:PP} (h1:Trim a) (h2:Trim b) {j:Nat} (hj:j<=b.1) (h:(bT (a,b) j).2.1=0):dI (bT (a,b) j).1=bW a b:=by
 have:=Gn h (b.1-j)
 rw[show j+(b.1-j)=b.1 by omega]at this
 unfold bW
 rw[this]
theorem kH {a b:PP} (h1:Trim a) (h2:Trim b):Trim (bW a b):=oU (mI (s:=(a,b)) h1 h2 _).1
theorem nF {a b:PP} (h:0<a.1):0<(bW a b).1:=xB (s:=(a,b)) h _
def bQ (a:PP):PP:=if a.1=0 then(0,a.2)else dI (fF a (bW a (bC a)))
def tX (s:PP×PP):PP×PP:=(s.2,((dx s.1 s.2).1,fun i=>((-1:Int):Rat)*(dx s.1 s.2).2 i))
def bM (s:PP×PP):Nat->PP×PP
 |0=>s
 |j+1=>tX (bM s j)
theorem yH {a:PP} {r:Rat} (h:Trim a) (hr:r≠0):Trim (a.1,fun i=>r*a.2 i):=by
 rcases h with h|h
 ·exact .inl h
 ·right
  show r*a.2 (a.1-1)≠0
  intro h0
  rcases Rat.mul_eq_zero.1 h0 with h1|h1
  ·exact hr h1
  ·exact h h1
theorem oO {s:PP×PP} (h1:Trim s.1) (h2:Trim s.2):∀j,Trim (bM s j).1/\Trim (bM s j).2
 |0=>⟨h1,h2⟩
 |j+1=>⟨(oO h1 h2 j).2,yH (a:=dx (bM s j).1 (bM s j).2) qq (by decide)⟩
def stM (s:PP×PP):Nat->Nat->Nat
 |0,j=>j
 |f+1,j=>if(bM s j).2.1=0 then j else stM s f (j+1)
def fo (s:PP×PP):Nat:=stM s s.2.1 0
theorem KA {s:PP×PP} (h1:Trim s.1) (h2:Trim s.2):∀f j,(bM s j).2.1<=f->j<=stM s f j/\stM s f j<=j+f/\(bM s (stM s f j)).2.1=0/\∀i,j<=i->i<stM s f j->(bM s i).2.1≠0
 |0,j,h=>⟨Nat.le_refl _,by show j<=_;omega,by show(bM s j).2.1=0;omega,fun i h1 h2=>by have:i<j:=h2;omega⟩
 |f+1,j,h=>by
  unfold stM
  split
  ·rename_i h0
   exact⟨Nat.le_refl _,by omega,h0,fun i h1 h2=>by omega⟩
  ·rename_i h0
   have hr:=oM (a:=(bM s j).1) (d:=(bM s j).2) (by omega) (oO h1 h2 j).2
   have hr:(bM s (j+1)).2.1<(bM s j).2.1:=hr
   obtain⟨g1,g2,g3,g4⟩:=KA h1 h2 f (j+1) (by omega)
   refine⟨by omega,by omega,g3,fun i k1 k2=>?_⟩
   rcases Nat.eq_or_lt_of_le k1 with h|h
   ·subst h;exact h0
   ·exact g4 i h k2
theorem oS {s:PP×PP} (h1:Trim s.1) (h2:Trim s.2):fo s<=s.2.1/\(bM s (fo s)).2.1=0/\∀i,i<fo s->(bM s i).2.1≠0:=by
 obtain⟨_,g2,g3,g4⟩:=KA h1 h2 s.2.1 0 (Nat.le_refl _)
 exact⟨by unfold fo;omega,g3,fun i hi=>g4 i (Nat.zero_le _) hi⟩
theorem Il {s:PP×PP} {B:Nat} (ha:s.1.1<=B) (hb:s.2.1<=B) (h1:Trim s.1) (h2:Trim s.2):∀j,j<=fo s->(bM s j).1.1<=B/\(bM s j).2.1<=B
 |0,_=>⟨ha,hb⟩
 |j+1,hj=>by
  have ih:=Il ha hb h1 h2 j (by omega)
  have h0:=(oS h1 h2).2.2 j (by omega)
  have hr:(bM s (j+1)).2.1<(bM s j).2.1:=oM (a:=(bM s j).1) (d:=(bM s j).2) (by omega) (oO h1 h2 j).2
  exact⟨ih.2,by omega⟩
def en (a:PP):PP×PP:=(bQ a,bC (bQ a))
theorem mM {a:PP}:Trim (bQ a):=by
 unfold bQ
 split
 ·exact .inl rfl
 ·exact oU yl
def fP (n:Nat) (k:Nat->Rat) (t:Rat):Nat->Rat
 |0=>0
 |m+1=>fP n k t m*t+k (n-1-m)
def cr (a:PP) (t:Rat):Rat:=fP a.1 a.2 t a.1
def bX (s:Nat->Int):Nat->Int×Nat
 |0=>(0,0)
 |i+1=>(if s i=0 then(bX s i).1 else s i,if s i*(bX s i).1<0 then(bX s i).2+1 else(bX s i).2)
end Go.Am
namespace Go.Am.B
open Go Go.Am.N AV ag aq IntKind Proofs.Tryz
def eu:Nat:=68719477736
abbrev nU:Code:=aH f114
abbrev oL:List Nat:=[0]
def wv:Spec:=dD (kC (kL af) kN) (fun a=>bz a.1.2 (bK a.1.2 a.1.1) af) fun a=>[a.1.1<2^40]
def KQ:Spec:=dD (kC kR (kC kR kN)) (fun a=>.rat (a.1.1/a.2.1.1) (a.1.2+a.2.1.2)) fun a=>[a.1.2<2^42,a.2.1.2<2^42]
def LN:bk:=zG::(142,ju kR kR A0 rj)::gL
def sn:bk:=zG::(158,H7)::(171,KQ)::gL
abbrev Aw:Code:=aH f137
abbrev zQ:Code:=part Aw [1,1,1,1,0,1,0,0]
abbrev Dl:Code:=part zQ [1,1,0,0]
abbrev Fz (m:Nat):AV:=bz (fun i=>((bn m i:Int):Rat)) (m+1) 64
abbrev sI:List Nat:=[0,4,5,25,26]
abbrev BE (m:Nat) (c:Nat->Rat) (i:Nat):List AV:=[bz c (m+1) af,Fz m,.own 0 3 0 (m+1),.int .i64 (m+1:Nat),.int .i64 i]
abbrev zo:List Nat:=[0,4,5,25,26,6,30,31,32]
abbrev Ik (m:Nat) (c:Nat->Rat) (i k:Nat):List AV:=[bz c (m+1) af,Fz m,.own 0 3 0 (m+1),.int .i64 (m+1:Nat),.int .i64 i,.int .i64 i,Fz i,.int .i64 (i+1:Nat),.int .i64 k]
abbrev AA:Code:=aH f121
abbrev Ah:List Nat:=[3,5,11,12,13]
abbrev Gm (n:Nat) (c:Nat->Rat) (i:Nat):List AV:=[.ptr 1 0 3 0 [],.own 0 3 0 n,bz c n af,.int .i64 n,.int .i64 i]
abbrev yX:Code:=aH f73
abbrev oo:List Nat:=[0,3,4]
abbrev uG (n:Nat) (c:Nat->Rat) (i:Nat):List AV:=[bz c n af,.own 0 3 0 i,.int .i64 (i+1:Nat)]
def BX:bk:=zG::(114,wv)::gL
theorem EA:bf 114 f114:=bg func114
theorem Vk:bf 171 f171:=bg func171
theorem Qn:bf 137 f137:=bg func137
theorem aix:bf 121 f121:=bg func121
theorem TK:bf 73 f73:=bg func73
theorem St {n:Nat} {k:Nat->Rat}:aI T GZ [] 60 oL (before nU [1,0]) ⟨aU 0 [bz k n af],[],0⟩=
  some (leaf normal ([ak 3 n fun i=>rat (k i) af],[])):=ah
theorem VF {n:Nat} {k:Nat->Rat}:aI T GZ [6,15] 60 oL [part nU [1,0,0,0]] ⟨aC oL [bz k n af],[],0⟩=
  let c6:Int:=(↑n:Int);let c4:Int:=(2:Int)^63;let c3:ag (List AV×aE):=leaf (exit 0) ([ak 3 n fun i=>rat (k i) af],[]);let c5:Bool:=decide (c6>0);let c2:Int:=c6-1;let c1:ag (List AV×aE):=aj [-c4<=c2/\c2<c4,(0:Int)<=0/\(0:Int)<=c2/\c2<=c2/\c2<=c6] (leaf normal ([ak 3 (c2.toNat-Int.toNat (0:Int)) fun i=>rat (k (i+Int.toNat (0:Int))) af],[]));some (fork c5 (aj [c5=true,-c4<=c2/\c2<c4,(0:Int)<=c2/\c2.toNat<n,af<2^42] (fork (bif true then bL (k c2.toNat)==0 else false) c1 c3)) (aj [c5=false] (fork false c1 c3))):=ah
theorem adE {n:Nat} {k:Nat->Rat}:cQ T GZ [] 60 f114 [part nU [1,1]] ⟨aC oL [bz k n af],[],0⟩=
  some (leaf ret [ak 3 n fun i=>rat (k i) af]):=ah
theorem aeX {q r:Rat} {n m:Nat}:b9 T LN [] 60 f171 (aH f171) ⟨aU 0 [.rat q n,.rat r m],[],0⟩=
  let c1:Prop:=0<1;some (aj [c1,c1,n<2^42,m<2^42,c1] (aj [c1,c1] (aj [c1] (leaf ret [rat (q/r) (n+m)])))):=ah
theorem T4 {m:Nat} {c:Nat->Rat}:aI T sn [200016,11] 60 sI (before Aw [1,1,1,1,0,1]) ⟨aU 0 [bz c (m+1) af],[],0⟩=
  let c1:Int:=(↑(m+1):Int);let c2:Int:=c1-1;some (aj [(bif c1==0 then true else decide (c1>41))=false] (aj [-(2:Int)^63<=c2/\c2<2^63,(0:Int)<=c2,c2<=40] (aj [(0:Int)<=c1/\c1<=c1/\c1<=2^47/\c1*(↑(56:Nat):Int)<=2^47] (leaf normal ([ak 3 (m+1) fun i=>rat (c i) af,ak 3 (c2.toNat+1) fun i=>rat (↑(↑(bn c2.toNat i):Int):Rat) 64,own 69632 3 0 c1.toNat,int i64 (↑c1.toNat:Int),int i64 0],[(69632,au.mk true true 3 c1.toNat fun x=>rat 0 1)]))))):=ah
theorem Vq {m i:Nat} {c x:Nat->Rat}:aI T sn [27] 60 sI (before zQ [1,1,0]) ⟨aC sI (BE m c i),[(0,cC (m+1) x af)],1⟩=
  let c2:Nat:=m+1;let c1:List AV×aE:=([ak 3 c2 fun i=>rat (c i) af,ak 3 c2 fun i=>rat (↑(↑(bn m i):Int):Rat) 64,own 0 3 0 c2,int i64 (↑c2:Int),int i64 (↑i:Int)],[(0,au.mk true true 3 c2 fun i=>rat (x i) af)]);some (fork (decide ((↑i:Int)<(↑c2:Int))) (leaf normal c1) (leaf (exit 0) c1)):=ah
theorem WV {m i:Nat} {c x:Nat->Rat}:aI T sn [] 60 zo (before Dl [1,1]) ⟨aC sI (BE m c i),[(0,cC (m+1) x af)],1⟩=
  let c2:Nat:=m+1;let c1:Int:=(↑i:Int);some (aj [(0:Int)<=c1,c1<=40] (leaf normal ([ak 3 c2 fun i=>rat (c i) af,ak 3 c2 fun i=>rat (↑(↑(bn m i):Int):Rat) 64,own 0 3 0 c2,int i64 (↑c2:Int),int i64 c1,int i64 c1,ak 3 (c1.toNat+1) fun i=>rat (↑(↑(bn c1.toNat i):Int):Rat) 64,int i64 (↑(c1.toNat+1):Int),int i64 0],[(0,au.mk true true 3 c2 fun i=>rat (x i) af)]))):=ah
theorem WK {m i k:Nat} {c x:Nat->Rat}:aI T sn [33] 60 zo [part Dl [1,1,0,0]] ⟨aC zo (Ik m c i k),[(0,cC (m+1) x af)],1⟩=
  let c10:Nat:=64+64;let c8:Int:=(↑i:Int);let c7:Int:=(↑(i+1):Int);let c5:AV:=ak 3 (i+1) fun i_1=>rat (↑(↑(bn i i_1):Int):Rat) 64;let c4:Nat:=2^42;let c3:Int:=(↑k:Int);let c1:Nat:=m+1;let c15:AV:=int i64 c8;let c14:Int:=c3+1;let c13:Prop:=(0:Int)<=c8/\c8.toNat<c1;let c12:Prop:=(0:Int)<=c3/\c3.toNat<c1;let c11:AV:=own 0 3 0 c1;let c9:AV:=ak 3 c1 fun i=>rat (c i) af;let c6:AV:=ak 3 c1 fun i=>rat (↑(↑(bn m i):Int):Rat) 64;let c2:Nat:=c8.toNat+0;some (fork (decide (c3<c7)) (aj [(0:Int)<=c3/\c3.toNat<i+1,(0:Nat)<1] (aj [c13,c2<c1,(0:Nat)<1,c12,(64:Nat)<c4,(64:Nat)<c4,c12,c10<c4,af<c4,af<c4,c10+af<c4,c13,c2<c1] (aj [-(2:Int)^63<=c14/\c14<2^63] (leaf normal ([c9,c6,c11,int i64 (↑c1:Int),c15,c15,c5,int i64 c7,int i64 c14],[(0,au.mk true true 3 c1 fun j=>rat (bif j==c2 then x c2+(↑(↑(bn i c3.toNat):Int):Rat)/(↑(↑(bn m c3.toNat):Int):Rat)*c c3.toNat else x j) (bif j==c2 then af+(c10+af)+1 else af))]))))) (leaf (exit 2) ([c9,c6,c11,int i64 (↑c1:Int),c15,c15,c5,int i64 c7,int i64 c3],[(0,au.mk true true 3 c1 fun i=>rat (x i) af)]))):=ah
theorem aab {m i k:Nat} {c x:Nat->Rat}:aI T sn [] 60 sI [part zQ [1,1,1]] ⟨aC zo (Ik m c i k),[(0,cC (m+1) x af)],1⟩=
  let c2:Int:=(↑i:Int)+1;let c1:Nat:=m+1;some (aj [-(2:Int)^63<=c2/\c2<2^63] (leaf normal ([ak 3 c1 fun i=>rat (c i) af,ak 3 c1 fun i=>rat (↑(↑(bn m i):Int):Rat) 64,own 0 3 0 c1,int i64 (↑c1:Int),int i64 c2],[(0,au.mk true true 3 c1 fun i=>rat (x i) af)]))):=ah
theorem aiL {m i:Nat} {c x:Nat->Rat}:cQ T sn [] 60 f137 [part Aw [1,1,1,1,1]] ⟨aC sI (BE m c i),[(0,cC (m+1) x af)],1⟩=
  some (leaf ret [ak 3 (m+1) fun i=>rat (x (i+0)) af,int i64 0]):=ah
theorem ag9 {n s:Nat} {c:Nat->Rat} {r:Rat}:aI T GZ [] 60 Ah (before AA [1,1,0,1]) ⟨aU 0 [bz c n af,.rat r s],[],0⟩=
  let c1:Int:=(↑n:Int);some (aj [(0:Int)<=c1/\c1<=c1/\c1<=2^47/\c1*(↑(56:Nat):Int)<=2^47] (leaf normal ([ptr 0 0 (de (rat r s)).size 0 [],own 16384 3 0 c1.toNat,ak 3 n fun i=>rat (c i) af,int i64 c1,int i64 0],[(16384,au.mk true true 3 c1.toNat fun x=>rat 0 1),(0,au.mk false true (de (rat r s)).size 1 fun x=>rat r s)]))):=ah
theorem Z1 {n s i:Nat} {c x:Nat->Rat} {r:Rat}:aI T GZ [14] 60 Ah [part AA [1,1,0,1,0,0]] ⟨aC Ah (Gm n c i),[(0,cC n x af),(1,⟨false,true,3,1,fun _=>.rat r s⟩)],2⟩=
  let c10:Int:=(↑n:Int);let c7:AV:=own 0 3 0 n;let c5:Prop:=0<1;let c4:AV:=ptr 1 0 3 0 [];let c3:AV:=ak 3 n fun i=>rat (c i) af;let c2:Nat×au:=((1:Nat),gA fun x=>rat r s);let c1:Int:=(↑i:Int);let c9:Int:=c1+1;let c8:Prop:=(0:Int)<=c1/\c1.toNat<n;let c6:Nat:=c1.toNat+0;some (fork (decide (c1<c10)) (aj [c8,c5] (aj [c5,c5,s<2^42,af<2^42,c8,c6<n] (aj [-(2:Int)^63<=c9/\c9<2^63] (leaf normal ([c4,c7,c3,int i64 c10,int i64 c9],[(0,au.mk true true 3 n fun j=>rat (bif j==c6 then r*c c1.toNat else x j) (bif j==c6 then s+af else af)),c2]))))) (leaf (exit 0) ([c4,c7,c3,int i64 c10,int i64 c1],[(0,au.mk true true 3 n fun i=>rat (x i) af),c2]))):=ah
theorem Wf {n s i:Nat} {c x:Nat->Rat} {r:Rat}:cQ T GZ [] 60 f121 [part AA [1,1,1]] ⟨aC Ah (Gm n c i),[(0,cC n x af),(1,⟨false,true,3,1,fun _=>.rat r s⟩)],2⟩=
  some (leaf ret [ak 3 n fun i=>rat (x (i+0)) af]):=ah
theorem Vz {n:Nat} {c:Nat->Rat}:aI T BX [] 60 oo (before yX [1,1,0,1]) ⟨aU 0 [bz c n af],[],0⟩=
  some (leaf normal ([ak 3 n fun i=>rat (c i) af,nil,int i64 1],[])):=ah
theorem Vy {n i:Nat} {c x:Nat->Rat}:aI T BX [8] 60 oo [part yX [1,1,0,1,0,0]] ⟨aC oo (uG n c i),[(0,cC i x af)],1⟩=
  let c5:Nat:=i+1;let c3:AV:=ak 3 n fun i=>rat (c i) af;let c2:Int:=(2:Int)^63;let c1:Int:=(↑c5:Int);let c6:Int:=c1+1;let c4:Nat:=Max.max 1 (bV c1.natAbs);some (fork (decide (c1<(↑n:Int))) (aj [-c2<=c1,c1<c2,(0:Int)<=c1/\c1.toNat<n,c4<2^42,af<2^42,(1:Nat)*3<=2^24,c5*((56:Nat)+1)*2<=2^47] (aj [-c2<=c6/\c6<c2] (leaf normal ([c3,own 53249 3 0 c5,int i64 c6],[(53249,au.mk true true 3 c5 fun i_1=>if i_1<i then rat (x i_1) af else nth [rat ((↑c1:Rat)*c c1.toNat) (c4+af)] (rat 0 1) (i_1-i+0))])))) (leaf (exit 0) ([c3,own 0 3 0 i,int i64 c1],[(0,au.mk true true 3 i fun i=>rat (x i) af)]))):=ah
theorem TH {n i:Nat} {c x:Nat->Rat}:cQ T BX [] 60 f73 [part yX [1,1,1]] ⟨aC oo (uG n c i),[(0,cC i x af)],1⟩=
  some (aj [cP (fun i=>rat (x (i+0)) af) i af,i<2^40] (leaf ret [ak 3 (bK (fun i=>aM (rat (x (i+0)) af)) i) fun i=>rat (aM (rat (x (i+0)) af)) af])):=ah
theorem od {q:Rat}:(bL q==0)=decide (q=0):=by
 unfold bL
 by_cases h:q=0
 ·simp[h]
 ·simp only[h,decide_false]
  split
  ·rfl
  ·split
   ·rfl
   ·grind
theorem aa3 {n:Nat} {k:Nat->Rat} (hn:n<2^40) (K:Nat):aQ P 114 K [bz k n af] [] (aL (bz k (bK k n) af) []):=by
 have hW:=cF
 refine jc (r:=aL (bz k (bK k n) af) []) hT pE hm EA rfl aX rfl [1,0] (i:=0) (y:=part nU [1,0,0,0]) (z:=part nU [1,1]) ah ah ah (f1:=[]) (f2:=[6,15]) (f3:=[]) 60 oL 0
  (fun j:Nat=>[bz k j af]) (fun _=>[]) (fun j=>j<=n/\bK k j=bK k n) (fun j=>j=bK k n) (fun j=>j) (fun _=>⟨⟨_,St,?_⟩,fun j hj=>⟨_,VF,?_⟩,fun j hj=>⟨_,adE,?_⟩⟩) K []
 ·simp only[ag.all,az]
  exact⟨n,⟨aT,rfl⟩,dS.vals rfl⟩
 ·obtain⟨h1,h2⟩:=hj
  simp only[ag.all,az,cond_true,od,bB,bD]
  refine⟨fun h=>⟨⟨aa,aa,aa,aa⟩,fun h3=>⟨aa,j-1,⟨aa,?_⟩,by dsimp only;omega,?_⟩,fun h3=>⟨rfl,j,?_,dS.vals rfl⟩⟩,fun h=>⟨aa,fun h3=>absurd h3 (by decide),fun _=>⟨rfl,j,?_,dS.vals rfl⟩⟩⟩
  ·rw[<-h2]
   obtain⟨m,rfl⟩:∃m,j=m+1:=⟨j-1,aa⟩
   rw[show(((m+1:Nat):Int)-1).toNat=m by omega]at h3
   show bK k m=_
   rw[bK,if_pos h3]
  ·rw[show((j:Int)-1).toNat-(0:Int).toNat=j-1 by omega]
   exact dS.vals rfl
  ·rw[<-h2]
   obtain⟨m,rfl⟩:∃m,j=m+1:=⟨j-1,aa⟩
   rw[show(((m+1:Nat):Int)-1).toNat=m by omega]at h3
   exact(pS (.inr h3)).symm
  ·rw[<-h2,show j=0 by omega];rfl
 ·rw[hj];exact .refl _
theorem Et:aY P wv 114:=cO fun⟨⟨n,k⟩,_⟩ K hn=>aa3 hn K
theorem ajn:bR P LN:=gY (aJ (jG fun _ _ K hn=>FX hn.1 hn.2 K) gQ)
theorem YM:aY P KQ 171:=cO fun⟨⟨q,n⟩,⟨r,m⟩,_⟩ K hn=>by
 obtain⟨h1,h2⟩:=hn
 refine ck hT ajn hm Vk rfl aX rfl 60 aeX (fun _=>?_) K []
 simp only[ag.all,az]
 exact⟨⟨aa,aa,h1,h2,aa⟩,⟨aa,aa⟩,aa,.refl _⟩
theorem Ko:bR P sn:=gY (aJ OQ (aJ YM gQ))
def jR (n:Nat) (c:Nat->Rat):Prop:=∀i k,i<n->k<=i+1->Sz (kJ n c i k) af
def mc (n:Nat) (c:Nat->Rat) (i k j:Nat):Rat:=if j<i then ga n c j else if j=i then kJ n c i k else 0
theorem adp {m:Nat} {c:Nat->Rat} (hm1:m<=40) (hz:jR (m+1) c) (K:Nat):aQ P 137 K [bz c (m+1) af] [] (aL (.tuple [bz (ga (m+1) c) (m+1) af,.int .i64 0]) []):=by
 refine iw (r:=aL (.tuple [bz (ga (m+1) c) (m+1) af,.int .i64 0]) []) hT Qn rfl aX rfl (fun _ cx h0=>?_) K []
 have hk:=lX h0
 have hW:=cF
 refine ax.qH hT Ko hm (x:=Aw) [1,1,1,1,0,1] (i:=0) (y:=zQ) (z:=part Aw [1,1,1,1,1]) ah ah ah Qn.dst [1,1,0] (j:=1) (x1:=Dl) (zb:=part zQ [1,1,1]) ah ah ah [1,1] (i2:=2) (y2:=part Dl [1,1,0,0]) ah ah rfl hk
  (f1:=[200016,11]) (f2:=[27]) (f3:=[]) (f4:=[33]) (f5:=[]) 60 sI zo 1 1 (fun i:Nat=>BE m c i) (fun i=>[(0,cC (m+1) (mc (m+1) c i 0) af)]) (fun i=>i<=m+1) (fun i=>i=m+1) (fun i=>m+1-i) (fun i=>i<m+1) (fun _=>False) (fun _=>False)
  (fun i (k:Nat)=>Ik m c i k) (fun i k=>[(0,cC (m+1) (mc (m+1) c i k) af)]) (fun i k=>k<=i+1) (fun i k=>k=i+1) (fun i k=>i+1-k)
  ⟨_,T4,?_⟩ (fun i hi=>⟨_,Vq,?_⟩) (fun i hi hG=>⟨_,WV,?_⟩) (fun i hi hG k hk=>⟨_,WK,?_⟩) (fun i hi hG k hk=>⟨_,aab,?_⟩) (fun i hi=>?_) (fun _ _ h=>h.elim) (fun _ _ h=>h.elim)
 ·simp only[ag.all,az,bJ]
  have e1:(((m+1:Nat):Int)-1).toNat=m:=aa
  have e2:(((m+1:Nat):Int)==0)=false:=by rw[beq_eq_false_iff_ne];omega
  rw[e1,e2]
  simp only[cond_false,bD]
  refine⟨aa,⟨aa,aa,aa⟩,aa,0,aa,[(0,69632)],rfl,rfl,rfl,br rfl rfl rfl (fun j hj=>.inr ⟨rfl,dy ?_ aa⟩) trivial⟩
  unfold mc;rw[if_neg (Nat.not_lt_zero j)];split<;>rfl
 ·simp only[ag.all,az,bB,bD]
  exact⟨fun h=>⟨aa,[(0,0)],rfl,rfl,rfl,br rfl rfl rfl (fun i hi=>bN rfl rfl) trivial⟩,fun h=>⟨rfl,i,aa,[(0,0)],rfl,rfl,rfl,br rfl rfl rfl (fun i hi=>bN rfl rfl) trivial⟩⟩
 ·simp only[ag.all,az,bJ]
  exact⟨aa,0,aa,[(0,0)],rfl,rfl,rfl,br rfl rfl rfl (fun i hi=>bN rfl rfl) trivial⟩
 ·simp only[ag.all,az,bB,bD,bJ,Nat.add_zero]
  refine⟨fun h=>⟨aa,aa,aa,k+1,aa,by dsimp only;omega,[(0,0)],rfl,rfl,rfl,br rfl rfl rfl (fun j hj=>?_) trivial⟩,fun h=>⟨rfl,k,aa,[(0,0)],rfl,rfl,rfl,br rfl rfl rfl (fun j hj=>bN rfl rfl) trivial⟩⟩
  have e1:∀q,mc (m+1) c i q i=kJ (m+1) c i q:=fun q=>by unfold mc;rw[if_neg (Nat.lt_irrefl i),if_pos rfl]
  exact nh (x:=mc (m+1) c i k) (y:=mc (m+1) c i (k+1)) (ej (by rw[e1,e1];rfl) (by rw[e1];exact hz i (k+1) hG aa)) fun hj=>dy (by unfold mc;rw[if_neg hj,if_neg hj]) aT
 ·subst hk
  simp only[ag.all,az]
  refine⟨aa,i+1,aa,by dsimp only;omega,[(0,0)],rfl,rfl,rfl,br rfl rfl rfl (fun j hj=>bN rfl ?_) trivial⟩
  show AV.rat (mc (m+1) c i (i+1) j) af=AV.rat (mc (m+1) c (i+1) 0 j) af
  unfold mc
  by_cases h1:j<i
  ·rw[if_pos h1,if_pos aa]
  ·by_cases h2:j=i
   ·subst h2;rw[if_neg h1,if_pos rfl,if_pos aa];rfl
   ·rw[if_neg h1,if_neg h2,if_neg aa];split<;>rfl
 ·subst hi
  refine ax.lH ((aG.fin hT Ko hm 60 aiL ah ?_).mono fun _ _ h=>.inl h)
  refine⟨iH fun i hi=>dy ?_ aT,.refl _,trivial⟩
  show mc (m+1) c (m+1) 0 i=_
  unfold mc;rw[if_pos hi]
def MN:Spec:=dD (kC (kL af) kN) (fun a=>.tuple [bz (ga a.1.1 a.1.2) a.1.1 af,.int .i64 0]) fun a=>[1<=a.1.1,a.1.1<=41,jR a.1.1 a.1.2]
theorem Wg:aY P MN 137:=cO fun⟨⟨n,p⟩,_⟩ K hn=>by
 obtain⟨h1,h2,h3⟩:=hn
 simp only at h1 h2 h3
 obtain⟨m,rfl⟩:∃m,n=m+1:=⟨n-1,aa⟩
 exact adp aa h3 K
theorem uQ:eu=af+1000:=rfl
theorem acL {n:Nat} {c:Nat->Rat} {r:Rat} (hn:n<2^40) (hz:cN n fun i=>r*c i) (K:Nat):aQ P 121 K [bz c n af,.rat r eu] [] (aL (bz (fun i=>r*c i) n af) []):=by
 have hW:=cF
 have hX:=uQ
 refine jc (r:=aL (bz (fun i=>r*c i) n af) []) hT pE hm aix rfl aX rfl [1,1,0,1] (i:=0) (y:=part AA [1,1,0,1,0,0]) (z:=part AA [1,1,1]) ah ah ah (f1:=[]) (f2:=[14]) (f3:=[]) 60 Ah 2
  (fun i:Nat=>Gm n c i) (fun i=>[(0,cC n (fun j=>if j<i then r*c j else 0) af),(1,⟨false,true,3,1,fun _=>.rat r eu⟩)]) (fun i=>i<=n) (fun i=>i=n) (fun i=>n-i) (fun _=>⟨⟨_,ag9,?_⟩,fun i hi=>⟨_,Z1,?_⟩,fun i hi=>⟨_,Wf,?_⟩⟩) K []
 ·simp only[ag.all,az,bJ]
  exact⟨aa,0,Nat.zero_le _,[(0,16384),(1,0)],rfl,rfl,rfl,br rfl rfl rfl (fun i hi=>.inr ⟨rfl,dy (if_neg (Nat.not_lt_zero i)).symm aa⟩) (cG trivial)⟩
 ·simp only[ag.all,az,bB,bD,bJ,Nat.add_zero]
  refine⟨fun h2=>⟨aa,aa,aa,i+1,aa,by dsimp only;omega,[(0,0),(1,1)],rfl,rfl,rfl,br rfl rfl rfl (fun j hj=>?_) (cG trivial)⟩,fun h2=>⟨rfl,i,aa,[(0,0),(1,1)],rfl,rfl,rfl,br rfl rfl rfl (fun j hj=>bN rfl rfl) (cG trivial)⟩⟩
  exact nh (x:=fun j=>if j<i then r*c j else 0) (y:=fun j=>if j<i+1 then r*c j else 0) (ej (if_pos (Nat.lt_succ_self i)).symm (by show Sz (if i<i+1 then _ else _) _;rw[if_pos (Nat.lt_succ_self i)];exact hz i aa)) fun hj=>dy (FV hj).symm aT
 ·subst hi
  simp only[ag.all,az]
  exact iH fun j hj=>by rw[Nat.add_zero,if_pos hj];exact .refl _
def DV:Spec:=dD (kC (kL af) (kC (eU eu) kN)) (fun a=>bz (fun i=>a.2.1*a.1.2 i) a.1.1 af) fun a=>[a.1.1<2^40,cN a.1.1 fun i=>a.2.1*a.1.2 i]
theorem L5:aY P DV 121:=cO fun⟨⟨n,c⟩,r,_⟩ K hn=>acL hn.1 hn.2 K
theorem Yr:bR P BX:=gY (aJ Et gQ)
theorem RQ {n:Nat} {c:Nat->Rat} (hn:n<2^40) (hz:cN (n-1) (cR c)) (K:Nat):aQ P 73 K [bz c n af] [] (aL (bz (cR c) (bK (cR c) (n-1)) af) []):=by
 have hW:=cF
 refine jc (r:=aL (bz (cR c) (bK (cR c) (n-1)) af) []) hT Yr hm TK rfl aX rfl [1,1,0,1] (i:=0) (y:=part yX [1,1,0,1,0,0]) (z:=part yX [1,1,1]) ah ah ah (f1:=[]) (f2:=[8]) (f3:=[]) 60 oo 1
  (fun i:Nat=>uG n c i) (fun i=>[(0,cC i (cR c) af)]) (fun i=>i<=n-1) (fun i=>i=n-1) (fun i=>n-1-i) (fun _=>⟨⟨_,Vz,?_⟩,fun i hi=>⟨_,Vy,?_⟩,fun i hi=>⟨_,TH,?_⟩⟩) K []
 ·simp only[ag.all,az]
  exact⟨0,aa,[],rfl,rfl,rfl,kZ rfl aa aa trivial⟩
 ·have hb:(max 1 (bV ((i+1:Nat):Int).natAbs))<=64:=by
   rw[Int.natAbs_natCast]
   have:=jZ (x:=i+1) (k:=64)|>.2 aa
   omega
  simp only[ag.all,az,bB,bD,bJ]
  refine⟨fun h2=>⟨aa,aa,i+1,aa,by dsimp only;omega,[(0,53249)],rfl,?_,rfl,br rfl rfl rfl (fun j hj=>?_) trivial⟩,fun h2=>⟨rfl,i,aa,[(0,0)],rfl,rfl,rfl,br rfl rfl rfl (fun j hj=>bN rfl rfl) trivial⟩⟩
  ·rw[show((i+1:Nat):Int)+1=((i+1+1:Nat):Int) by omega];rfl
  ·refine .inr ⟨?_,?_⟩
   ·split
    ·rfl
    ·rw[show j-i+0=0 by omega];rfl
   ·split
    ·exact .refl _
    ·rw[show j-i+0=0 by omega,show j=i by omega]
     exact ej rfl (hz i aa)
 ·subst hi
  simp only[ag.all,az]
  exact⟨⟨ek aT,aa⟩,.refl _⟩
def rR:Spec:=dD (kC (kL af) kN) (fun a=>bz (cR a.1.2) (bK (cR a.1.2) (a.1.1-1)) af) fun a=>[a.1.1<2^40,cN (a.1.1-1) (cR a.1.2)]
theorem Iw:aY P rR 73:=cO fun⟨⟨n,c⟩,_⟩ K hn=>RQ hn.1 hn.2 K
def sj (f:Nat->AV) (n s:Nat):Prop:=∀i,i<n->keys (f i)=[]/\aW (f i) (.rat (aM (f i)) s)
def Aj:Spec:=fun _ args pre=>match args,pre with
 |[.own k 3 0 n],[(k',⟨true,true,3,m,f⟩)]=>match k'==k with
  |true=>some ⟨.own k 3 0 (bK (fun i=>aM (f i)) n),[(k,cC m (fun i=>aM (f i)) af)],[n<=m,n<2^40,sj f m af]⟩
  |false=>none
 |_,_=>none
abbrev vG:FuncId:=141
abbrev Bv:Func:=f141
def J1:Spec:=rK fun K l=>match l with
 |[v]=>match(kL af).read v with
  |some ((0,k),q)=>some (aL (bz k 0 af) q)
  |some ((n+1,k),q)=>some ⟨.own K 3 0 (n+1),[(K,cC (n+1) k af)],q++[n+1<2^30]⟩
  |none=>none
 |_=>none
def I9:bk:=zG::(142,ju kR kR A0 rj)::(121,DV)::gL
def EM (n:Nat):Nat:=if n=0 then 1 else n
def KT (n:Nat) (c:Nat->Rat) (i:Nat):Rat:=if n=0 then 0 else ga n c i
def Qc:bk:=zG::(137,MN)::gL
def Qz:bk:=zG::(115,A2)::(114,wv)::gL
theorem QW:bf vG Bv:=bg func141
theorem XS:bf 135 f135:=bg func135
theorem ZX:bf 81 f81:=bg func81
theorem Vt:bf 57 f57:=bg func57
theorem ahy {n m:Nat} {x:Nat->Rat}:aI T GZ [] 60 oL (before nU [1,0]) ⟨aU 0 [.own 0 3 0 n],[(0,cC m x af)],1⟩=
  some (leaf normal ([own 0 3 0 n],[(0,au.mk true true 3 m fun i=>rat (x i) af)])):=ah
theorem ael {n m:Nat} {x:Nat->Rat}:aI T GZ [6,15] 60 oL [part nU [1,0,0,0]] ⟨aC oL [.own 0 3 0 n],[(0,cC m x af)],1⟩=
  let c7:Int:=(↑n:Int);let c4:Int:=(2:Int)^63;let c3:Nat×au:=(0,au.mk true true 3 m fun i=>rat (x i) af);let c6:ag (List AV×aE):=leaf (exit 0) ([own 0 3 0 n],[c3]);let c5:Bool:=decide (c7>0);let c2:Int:=c7-1;let c1:ag (List AV×aE):=aj [-c4<=c2/\c2<c4,(0:Int)<=0/\(0:Int)<=c2/\c2<=c2/\c2<=c7] (leaf normal ([own 0 3 0 (c2.toNat-Int.toNat (0:Int))],[c3]));some (fork c5 (aj [c5=true,-c4<=c2/\c2<c4,(0:Int)<=c2/\c2.toNat<n,c2.toNat+0<m,af<2^42] (fork (bif true then bL (x (c2.toNat+0))==0 else false) c1 c6)) (aj [c5=false] (fork false c1 c6))):=ah
theorem agQ {n m:Nat} {x:Nat->Rat}:aI T GZ [] 60 [2] [part nU [1,1]] ⟨aC oL [.own 0 3 0 n],[(0,cC m x af)],1⟩=
  some (leaf ret ([own 0 3 0 n],[(0,au.mk true true 3 m fun i=>rat (x i) af)])):=ah
theorem Vn {n:Nat} {k:Nat->Rat}:aI T [nG] [] 60 [2] [aH Bv] ⟨aU 0 [.e9 false 3 n (fun i=>.rat (k i) af)],[],0⟩=
  some (aj [(0:Nat)*3<=2^24,((0:Nat)+n)*((56:Nat)+1)*2<=2^47] (leaf ret ([own 20480 3 0 ((0:Nat)+n)],[(20480,au.mk true true 3 ((0:Nat)+n) fun i=>rat (k (i-0)) af)]))):=ah
theorem aiE {b:Bool} {k:Nat->Rat}:b9 T [zG] [4] 60 Bv (aH Bv) ⟨aU 0 [.e9 b 3 0 (fun i=>.rat (k i) af)],[],0⟩=
  some (fork b (leaf ret [nil]) (aj [(0:Nat)*3<=2^24,((0:Nat)+0)*((56:Nat)+1)*2<=2^47] (leaf ret [ak 3 0 fun i=>rat (k (i+0-0)) af]))):=ah
theorem Xb {n:Nat} {c:Nat->Rat}:b9 T I9 [7] 60 f135 (aH f135) ⟨aU 0 [bz c n af],[],0⟩=
  let c3:Nat:=Max.max 1 (bV (Int.natAbs (1:Int)));let c2:Int:=(2:Int)^63;let c1:Int:=(↑n:Int)-1;let c4:Rat:=(↑(1:Int):Rat)/c c1.toNat;some (fork ((↑n:Int)==0) (leaf ret [nil]) (aj [-c2<=1,(1:Int)<c2,-c2<=c1/\c1<c2,(0:Int)<=c1/\c1.toNat<n,c3<2^42,af<2^42,(0:Nat)<1] (aj [(0:Nat)<1,cP (fun i=>rat (c i) af) n af,c3+af<=eu,n<2^40,cN n fun i=>c4*aM (rat (c i) af)] (leaf ret [ak 3 n fun i=>rat (c4*aM (rat (c i) af)) af])))):=ah
theorem T1 {n:Nat} {c:Nat->Rat}:b9 T Qc [7] 60 f81 (aH f81) ⟨aU 0 [bz c n af],[],0⟩=
  some (fork ((↑n:Int)==0) (aj [(1:Nat)*3<=2^24] (leaf ret [ak 3 1 fun i=>nth [agg [AV.bool (decide ((0:Rat)<0)),mag (↑(nat_lit 0):Int).natAbs,mag (if 1=1 then 0 else 1)]] (rat 0 1) (i+0)])) (aj [cP (fun i=>rat (c i) af) n af,(1:Nat)<=n,n<=41,jR n fun i=>aM (rat (c i) af)] (leaf ret [ak 3 n fun i=>rat (ga n (fun i=>aM (rat (c i) af)) i) af]))):=ah
theorem T6 {n:Nat} {c:Nat->Rat}:b9 T Qz [] 60 f57 (aH f57) ⟨aU 0 [bz c n af],[],0⟩=
  some (aj [cP (fun i=>rat (c i) af) n af,(1:Nat)<=n,n<=41,sL n fun i=>aM (rat (c i) af),cP (fun i=>rat (fG n (fun i=>aM (rat (c i) af)) i) af) n af,n<2^40] (leaf ret [ak 3 (bK (fun i=>aM (rat (fG n (fun i=>aM (rat (c i) af)) i) af)) n) fun i=>rat (aM (rat (fG n (fun i=>aM (rat (c i) af)) i) af)) af])):=ah
theorem ahG {kk n m:Nat} {x:Nat->Rat} (hn:n<2^40) (hnm:n<=m) (c:Ctx) (hk:Kept [0] c):ax P c f114.ntmps nU ⟨aU 0 [.own 0 3 0 n],[(0,cC m x af)],1⟩ (HG f114 kk [.own kk 3 0 (bK x n)] (cC m x af)):=by
 have hW:=cF
 have re:∀j,dS [0] ([.own 0 3 0 j],[((0:Nat),cC m x af)]) [.own 0 3 0 j] [(0,cC m x af)] 1:=fun j=>⟨[(0,0)],rfl,rfl,rfl,nJ trivial⟩
 refine ax.oD hT pE hm [1,0] (i:=0) (y:=part nU [1,0,0,0]) (z:=part nU [1,1]) ah ah ah EA.dst hk (f1:=[]) (f2:=[6,15]) 60 oL 1
  (fun j:Nat=>[.own 0 3 0 j]) (fun _=>[(0,cC m x af)]) (fun j=>j<=n/\bK x j=bK x n) (fun j=>j=bK x n) (fun j=>j) (fun _=>False) ⟨_,ahy,?_⟩ (fun j hj=>⟨_,ael,?_⟩) (fun j hj=>?_) (fun _ _ h=>h.elim)
 ·simp only[ag.all,az]
  exact⟨n,⟨aT,rfl⟩,re n⟩
 ·obtain⟨h1,h2⟩:=hj
  simp only[ag.all,az,cond_true,od,bB,bD,Nat.add_zero]
  refine⟨fun h=>⟨⟨aa,aa,aa,aa,aa⟩,fun h3=>⟨aa,j-1,⟨aa,?_⟩,by dsimp only;omega,?_⟩,fun h3=>⟨rfl,j,?_,re j⟩⟩,fun h=>⟨aa,fun h3=>absurd h3 (by decide),fun _=>⟨rfl,j,?_,re j⟩⟩⟩
  ·rw[<-h2]
   obtain⟨m,rfl⟩:∃m,j=m+1:=⟨j-1,aa⟩
   rw[show(((m+1:Nat):Int)-1).toNat=m by omega]at h3
   show bK x m=_
   rw[bK,if_pos h3]
  ·rw[show((j:Int)-1).toNat-(0:Int).toNat=j-1 by omega]
   exact re (j-1)
  ·rw[<-h2]
   obtain⟨m,rfl⟩:∃m,j=m+1:=⟨j-1,aa⟩
   rw[show(((m+1:Nat):Int)-1).toNat=m by omega]at h3
   exact(pS (.inr h3)).symm
  ·rw[<-h2,show j=0 by omega];rfl
 ·subst hj
  exact ax.bO hT pE hm 60 [2] agQ ah fun s' hs'=>⟨.inr rfl,[2],_,[.own 0 3 0 (bK x n)],_,_,hs',ah,⟨⟨rfl,eE (by simp[bp,look]) rfl rfl⟩,trivial⟩,rfl,hH rfl fun i hi=>fD rfl⟩
theorem ab2:aY P Aj 114:=by
 intro K args pre r h
 unfold Aj at h
 split at h
 ·rename_i k n k' m f
  split at h
  ·rename_i hc
   have hc:=eq_of_beq hc
   subst hc
   simp only[ay]at h
   subst h
   intro need
   have h0:=need
   obtain⟨n1,n2,n3⟩:=need
   exact Oy hT EA (rest:=[]) (ws:=[.own k' 3 0 _]) (o2:=⟨true,true,3,m,f⟩) (o:=cC m (fun i=>aM (f i)) af) rfl rfl aX (fun ρ=>hH rfl fun i hi=>iV (n3 i hi).1 (n3 i hi).2) (fun _ c hk=>ahG n2 n1 c hk) K h0
  ·simp at h
 ·simp at h
theorem T3 {args:List AV} {n:Nat} {k:Nat->Rat} {l:List Prop} (ha:az l->g9 (bp []) args [.e9 false 3 n (fun i=>.rat (k i) af)]) (hn:az l->n<2^30) (K:Nat):aQ P vG K args [] ⟨nW [.own K 3 0 n],[(K,cC n k af)],l⟩:=by
 refine Du hT QW ha aX fun need c hk=>?_
 have h2:=hn need
 refine ax.bO hT (gi cz) hm 60 [2] Vn ah ?_
 simp only[ag.all,az]
 exact⟨⟨aa,aa⟩,fun s' hs'=>⟨.inr trivial,[2],_,[.own 20480 3 0 (0+n)],_,20480,_,hs',ah,⟨⟨rfl,eE (by simp[bp,look]) rfl aa⟩,trivial⟩,rfl,hH aa fun i hi=>fD rfl⟩⟩
theorem aiM {n:Nat} {k:Nat->Rat} {l:List Prop} (hn:az l->1<=n/\n<2^30) (K:Nat):aQ P vG K [bz k n af] [] ⟨nW [.own K 3 0 n],[(K,cC n k af)],l⟩:=by
 refine HA fun b hb=>?_
 intro need
 have h1:=hn need
 cases b
 ·exact T3 (args:=[.e9 false 3 n (fun i=>.rat (k i) af)]) (fun _=>⟨aS,trivial⟩) (fun h=>(hn h).2) K need
 ·have:=hb rfl
  omega
theorem Us {k:Nat->Rat} (K:Nat):aQ P vG K [bz k 0 af] [] (aL (bz k 0 af) []):=by
 refine HA fun b hb=>?_
 refine ck hT (gY cz) hm QW rfl aX rfl 60 aiE (fun _=>?_) K []
 simp only[ag.all,az]
 exact⟨fun _=>lZ aa,fun _=>⟨⟨aa,aa⟩,iH fun i hi=>absurd hi (Nat.not_lt_zero i)⟩⟩
theorem Y3:aY P J1 vG:=by
 refine uX fun K args r hk hs=>?_
 split at hs
 ·rename_i v
  split at hs
  ·rename_i k q hv
   simp only[ay]at hs
   subst hs
   intro need
   exact gW (Us K) hk ⟨(kL af).ok hv need,trivial⟩ [] trivial
  ·rename_i n k q hv
   simp only[ay]at hs
   subst hs
   intro need
   obtain⟨hn1,hn2⟩:=gJ.1 need
   exact gW (aiM (l:=q++[n+1<2^30]) (fun h=>⟨Nat.succ_pos n,(gJ (a:=q) (b:=[n+1<2^30]).1 h).2⟩) K) hk ⟨(kL af).ok hv hn1,trivial⟩ [] need
  ·simp at hs
 ·simp at hs
theorem adm:bR P I9:=gY (aJ (jG fun _ _ K hn=>FX hn.1 hn.2 K) (aJ L5 gQ))
theorem Oa {n:Nat} {c:Nat->Rat} (i:Nat):((1:Int):Rat)/c (n-1)*c i=cL n c i:=by
 unfold cL;rw[Rat.div_def,Rat.div_def,Rat.mul_comm];congr 1;exact Rat.one_mul _
theorem agH {n:Nat} {c:Nat->Rat} (hn:n<2^40) (hz:cN n (cL n c)) (K:Nat):aQ P 135 K [bz c n af] [] (aL (bz (cL n c) n af) []):=by
 have hW:=cF
 have hX:=uQ
 refine ck hT adm hm XS rfl aX rfl 60 Xb (fun _=>?_) K []
 simp only[ag.all,az,beq_iff_eq,beq_eq_false_iff_ne]
 refine⟨fun h=>?_,fun h=>?_⟩
 ·rw[show n=0 by omega];exact lZ aa
 ·rw[show((n:Int)-1).toNat=n-1 by omega]
  have hb:bV (Int.natAbs 1)=1:=by decide
  refine⟨⟨aa,aa,aa,aa,by rw[hb];decide,aa,aa⟩,⟨aa,ek aT,?_,hn,fun i hi=>by show Sz (_*c i) _;rw[Oa];exact hz i hi⟩,iH fun i hi=>dy (Oa i) aT⟩
  rw[hb,Nat.max_self];omega
def GL:Spec:=dD (kC (kL af) kN) (fun a=>bz (cL a.1.1 a.1.2) a.1.1 af) fun a=>[a.1.1<2^40,cN a.1.1 (cL a.1.1 a.1.2)]
theorem Ki:aY P GL 135:=cO fun⟨⟨n,c⟩,_⟩ K hn=>agH hn.1 hn.2 K
theorem abN:bR P Qc:=gY (aJ Wg gQ)
theorem XP {n:Nat} {c:Nat->Rat} (hn:n<=41) (hz:jR n c) (K:Nat):aQ P 81 K [bz c n af] [] (aL (bz (KT n c) (EM n) af) []):=by
 refine ck hT abN hm ZX rfl aX rfl 60 T1 (fun _=>?_) K []
 simp only[ag.all,az,beq_iff_eq,beq_eq_false_iff_ne]
 refine⟨fun h=>⟨aa,?_⟩,fun h=>⟨⟨ek aT,aa,hn,hz⟩,?_⟩⟩
 ·obtain rfl:n=0:=aa
  refine iH (n:=1) fun i hi=>?_
  obtain rfl:i=0:=aa
  exact pO
 ·have e1:EM n=n:=if_neg aa
  rw[e1]
  exact iH fun i hi=>dy (if_neg (show¬n=0 by omega)).symm aT
theorem Zs:bR P Qz:=gY (aJ To (aJ Et gQ))
theorem XK {n:Nat} {c:Nat->Rat} (h1:1<=n) (h2:n<=41) (h3:sL n c) (K:Nat):aQ P 57 K [bz c n af] [] (aL (bz (fG n c) (bK (fG n c) n) af) []):=by
 refine ck hT Zs hm Vt rfl aX rfl 60 T6 (fun _=>?_) K []
 simp only[ag.all,az]
 exact⟨⟨ek aT,h1,h2,h3,ek aT,aa⟩,.refl _⟩
def wO:Spec:=fun K args pre=>match Aj K args pre with
 |some r=>some r
 |none=>wv K args pre
def qK:bk:=zG::(vG,J1)::(114,wO)::(142,ju kR kR A0 rj)::gL
abbrev vO:Code:=aH f88
abbrev Ft:Code:=part vO [1,1,1,1,0,0,0]
abbrev zX:Code:=part Ft [1,0]
abbrev tf:List Nat:=[1,4,5,6]
abbrev x8 (e:Nat) (d:Nat->Rat) (R L:Nat):List AV:=[bz d (e+1) af,.own 1 3 0 R,.own 0 3 0 L,.int .i64 e]
abbrev AJ (n R:Nat) (x q:Nat->Rat):aE:=[(0,cC n x af),(1,cC R q af)]
abbrev xe:List Nat:=[1,4,5,6,7,8,55,56,57]
abbrev EI (e:Nat) (d:Nat->Rat) (R L k i:Nat):List AV:=[bz d (e+1) af,.own 1 3 0 R,.own 0 3 0 L,.int .i64 e,.int .i64 k,.ptr 2 0 3 0 [],bz d e af,.int .i64 e,.int .i64 i]
abbrev F0 (n R:Nat) (x q:Nat->Rat) (f:Rat):aE:=[(2,⟨false,true,3,1,fun _=>.rat f af⟩),(0,cC n x af),(1,cC R q af)]
theorem Hq:bf 88 f88:=bg func88
theorem ZD {e:Nat} {a d:Nat->Rat}:b9 T qK [200020,200029] 60 f88 (aH f88) ⟨aU 0 [bz a 0 af,bz d (e+1) af],[],0⟩=
  let c3:AV:=rat 0 1;let c2:Int:=(↑(0:Nat):Int);let c1:Int:=(↑(e+1):Int)-1;some (aj [cP (fun i=>rat (a i) af) 0 af] (aj [-(2:Int)^63<=c1/\c1<2^63] (aj [decide (c2>c1)=false] (aj [decide (c2>c1)=false] (aj [cP (fun x=>c3) 0 af,(0:Nat)<2^40] (leaf ret [ak 3 0 fun i=>rat (aM c3) af,ak 3 0 fun i=>rat (aM (rat (a i) af)) af])))))):=ah
theorem Wu {n e:Nat} {a d:Nat->Rat}:aI T qK [20] 60 tf (before vO [1,1,1,1,0]) ⟨aU 0 [bz a (n+1) af,bz d (e+1) af],[],0⟩=
  let c6:Int:=(2:Int)^63;let c5:AV:=ak 3 (e+1) fun i=>rat (d i) af;let c3:Int:=(↑(e+1):Int)-1;let c2:Nat:=n+1;let c7:List AV:=[own 12288 3 0 c2,int i64 c3];let c4:Nat×au:=(12288,au.mk true true 3 c2 fun i=>rat (aM (rat (a i) af)) af);let c1:Int:=(↑c2:Int)-c3;some (aj [cP (fun i=>rat (a i) af) (n+1) af,c2<2^30] (aj [-c6<=c3/\c3<c6] (fork (decide ((↑c2:Int)>c3)) (aj [-c6<=c1/\c1<c6,(0:Int)<=c1/\c1<=c1/\c1<=2^47/\c1*(↑(56:Nat):Int)<=2^47] (leaf normal (c5::own 69632 3 0 c1.toNat::c7,[c4,(69632,au.mk true true 3 c1.toNat fun x=>rat 0 1)]))) (leaf normal (c5::nil::c7,[c4]))))):=ah
theorem ZF {n e R L:Nat} {d x q:Nat->Rat}:aI T qK [29] 60 tf (before Ft [1]) ⟨aC tf (x8 e d R L),AJ n R x q,2⟩=
  let c1:List AV×aE:=([ak 3 (e+1) fun i=>rat (d i) af,own 1 3 0 R,own 0 3 0 L,int i64 (↑e:Int)],[(0,au.mk true true 3 n fun i=>rat (x i) af),(1,au.mk true true 3 R fun i=>rat (q i) af)]);some (fork (decide ((↑L:Int)>(↑e:Int))) (leaf normal c1) (leaf (exit 0) c1)):=ah
theorem Sm {n e R L:Nat} {d x q:Nat->Rat}:aI T qK [] 60 xe (before zX [1,1,1,0,1]) ⟨aC tf (x8 e d R L),AJ n R x q,2⟩=
  let c7:Prop:=af<2^42;let c6:Nat:=Int.toNat (0:Int);let c3:Int:=(2:Int)^63;let c2:Int:=(↑e:Int);let c1:Int:=(↑L:Int)-1;let c5:Nat:=c1.toNat+0;let c4:Nat:=(c1-c2).toNat+0;some (aj [-c3<=c1/\c1<c3,-c3<=c1-c2/\c1-c2<c3] (aj [-c3<=c1/\c1<c3,(0:Int)<=c1/\c1.toNat<L,c5<n,(0:Int)<=c2/\c2.toNat<e+1,c7,c7,(0:Nat)<1] (aj [(0:Nat)<1,(0:Int)<=c1-c2/\(c1-c2).toNat<R,c4<R] (aj [(0:Int)<=0/\(0:Int)<=c2/\c2<=c2/\c2<=(↑(e+1):Int)] (leaf normal ([ak 3 (e+1) fun i=>rat (d i) af,own 1 3 0 R,own 0 3 0 L,int i64 c2,int i64 (c1-c2),ptr 81922 0 3 0 [],ak 3 (c2.toNat-c6) fun i=>rat (d (i+c6)) af,int i64 (↑(c2.toNat-c6):Int),int i64 0],[((81922:Nat),gA fun j=>if(j==0)=true then de (rA (x c5/d c2.toNat) (af+af))else rat 0 1),(0,au.mk true true 3 n fun i=>rat (x i) af),(1,au.mk true true 3 R fun j=>rat (bif j==c4 then x c5/d c2.toNat else q j) (bif j==c4 then af+af else af))])))))):=ah
theorem VK {n e R L k i:Nat} {d x q:Nat->Rat} {f:Rat}:aI T qK [58] 60 xe [part zX [1,1,1,0,1,0,0]] ⟨aC xe (EI e d R L k i),F0 n R x q f,3⟩=
  let c14:AV:=own 0 3 0 L;let c13:AV:=own 1 3 0 R;let c12:Prop:=0<1;let c11:AV:=ptr 2 0 3 0 [];let c10:AV:=int i64 (↑e:Int);let c9:AV:=ak 3 e fun i=>rat (d i) af;let c8:Nat:=2^42;let c7:Int:=(↑i:Int);let c6:AV:=ak 3 (e+1) fun i=>rat (d i) af;let c4:Nat×au:=(1,au.mk true true 3 R fun i=>rat (q i) af);let c3:Nat×au:=((2:Nat),gA fun x=>rat f af);let c2:Int:=(2:Int)^63;let c16:Int:=c7+1;let c1:Int:=(↑k:Int)+c7;let c15:Prop:=(0:Int)<=c1/\c1.toNat<L;let c5:Nat:=c1.toNat+0;some (fork (decide (c7<(↑e:Int))) (aj [(0:Int)<=c7/\c7.toNat<e,c12] (aj [-c2<=c1/\c1<c2,-c2<=c1/\c1<c2,c15,c5<n,c12,c12,af<c8,af<c8,af<c8,af+af<c8,c15,c5<n] (aj [-c2<=c16/\c16<c2] (leaf normal ([c6,c13,c14,c10,int i64 (↑k:Int),c11,c9,c10,int i64 c16],[c3,(0,au.mk true true 3 n fun j=>rat (bif j==c5 then x c5-f*d c7.toNat else x j) (bif j==c5 then af+(af+af)+1 else af)),c4]))))) (leaf (exit 2) ([c6,c13,c14,c10,int i64 (↑k:Int),c11,c9,c10,int i64 c7],[c3,(0,au.mk true true 3 n fun i=>rat (x i) af),c4]))):=ah
theorem U5 {n e R L k i:Nat} {d x q:Nat->Rat} {f:Rat}:aI T qK [] 60 tf (behind zX [1,1,1,0,1]) ⟨aC xe (EI e d R L k i),F0 n R x q f,3⟩=
  let c1:Int:=(↑L:Int)-1;let c2:Nat:=c1.toNat-Int.toNat (0:Int);some (aj [-(2:Int)^63<=c1/\c1<2^63,(0:Int)<=0/\(0:Int)<=c1/\c1<=c1/\c1<=(↑L:Int),c2<=n,c2<2^40,sj (fun i=>rat (x i) af) n af] (leaf normal ([ak 3 (e+1) fun i=>rat (d i) af,own 1 3 0 R,own 0 3 0 (bK (fun i=>aM (rat (x i) af)) c2),int i64 (↑e:Int)],[(0,au.mk true true 3 n fun i=>rat (aM (rat (x i) af)) af),(1,au.mk true true 3 R fun i=>rat (q i) af)]))):=ah
theorem Zx {n e R L:Nat} {d x q:Nat->Rat}:cQ T qK [] 60 f88 [part vO [1,1,1,1,1]] ⟨aC tf (x8 e d R L),AJ n R x q,2⟩=
  some (aj [R<=R,R<2^40,sj (fun i=>rat (q i) af) R af] (leaf ret [ak 3 (bK (fun i=>aM (rat (q i) af)) R) fun i=>rat (aM (rat (q (i+0)) af)) af,ak 3 L fun i=>rat (x (i+0)) af])):=ah
theorem ahT:aY P wO 114:=by
 intro K args pre r h
 unfold wO at h
 split at h
 ·rename_i h1
  exact ab2 K args pre r (h1.trans h)
 ·exact Et K args pre r h
theorem Iy:bR P qK:=gY (aJ Y3 (aJ ahT (aJ (jG fun _ _ K hn=>FX hn.1 hn.2 K) gQ)))
def nR (n e:Nat) (d a:Nat->Rat):Prop:=(∀j,j<=n-e->cN n (ct e d a (n-e) j))/\cN (n-e) (dM e d a (n-e))
abbrev u7 (n e:Nat) (d a:Nat->Rat):AV:=.tuple [bz (dM e d a (n-e)) (bK (dM e d a (n-e)) (n-e)) af,bz (ct e d a (n-e) (n-e)) (bK (ct e d a (n-e) (n-e)) n) af]
theorem Om {e:Nat} {a d:Nat->Rat} (he:e<2^30) (K:Nat):aQ P 88 K [bz a 0 af,bz d (e+1) af] [] (aL (u7 0 e d a) []):=by
 refine ck hT Iy hm Hq rfl aX rfl 60 ZD (fun _=>?_) K []
 simp only[ag.all,az,bD]
 have e0:bK (dM e d a (0-e)) (0-e)=0:=by rw[Nat.zero_sub];rfl
 refine⟨fun i hi=>absurd hi (Nat.not_lt_zero i),aa,aa,aa,⟨fun i hi=>absurd hi (Nat.not_lt_zero i),aa⟩,?_⟩
 show aW _ _/\aW _ _/\True
 rw[e0]
 exact⟨iH fun i hi=>absurd hi (Nat.not_lt_zero i),iH fun i hi=>absurd hi (Nat.not_lt_zero i),trivial⟩
theorem QG {n e:Nat} {a d:Nat->Rat} (hn:n+1<2^30) (he:e<2^30) (ha:a n≠0) (hd:d e≠0) (hz:nR (n+1) e d a) (K:Nat):aQ P 88 K [bz a (n+1) af,bz d (e+1) af] [] (aL (u7 (n+1) e d a) []):=by
 refine iw (r:=aL (u7 (n+1) e d a) []) hT Hq rfl aX rfl (fun _ cx h0=>?_) K []
 have hk:=lX h0
 have hW:=cF
 obtain⟨N,hN⟩:∃N,N=n+1:=⟨_,rfl⟩
 obtain⟨R,hR⟩:∃R,R=N-e:=⟨_,rfl⟩
 have hRr:R=n+1-e:=aa
 unfold nR at hz
 rw[<-hN,<-hR]at hz
 obtain⟨hzR,hzQ⟩:=hz
 refine ax.aiN hT Iy hm (x:=vO) [1,1,1,1,0] (i:=0) (y:=Ft) ah ah Hq.dst [1] (j:=1) (x1:=zX) ah ah ah [1,1,1,0,1] (i2:=2) (y2:=part zX [1,1,1,0,1,0,0]) ah ah rfl ah hk
  (f1:=[20]) (f2:=[29]) (f3:=[]) (f4:=[58]) (f5:=[]) 60 tf xe 2 3 (fun a:Nat×(Nat->Rat)×(Nat->Rat)=>x8 e d R a.1) (fun a=>AJ N R a.2.1 a.2.2) (fun b=>kP N e R d a b.1 b.2.1 b.2.2/\cN N b.2.1) (fun b=>kP N e R d a b.1 b.2.1 b.2.2/\b.1<=e) (fun b=>b.1) (fun b=>e<b.1) (fun _=>False) (fun _=>False)
  (fun b (i:Nat)=>EI e d R b.1 (b.1-1-e) i) (fun b i=>F0 N R (fB e d b.2.1 (b.1-1-e) (b.2.1 (b.1-1)/d e) i) (fun j=>if j=b.1-1-e then b.2.1 (b.1-1)/d e else b.2.2 j) (b.2.1 (b.1-1)/d e)) (fun b i=>i<=e/\cN N (fB e d b.2.1 (b.1-1-e) (b.2.1 (b.1-1)/d e) i)) (fun b i=>i=e/\cN N (fB e d b.2.1 (b.1-1-e) (b.2.1 (b.1-1)/d e) e)) (fun _ i=>e-i)
  ⟨_,Wu,?_⟩ (fun b ⟨hb,hx⟩=>⟨_,ZF,?_⟩) (fun b ⟨hb,hx⟩ hG=>⟨_,Sm,?_⟩) (fun b ⟨hb,hx⟩ hG i ⟨hi,hxi⟩=>⟨_,VK,?_⟩) (fun b ⟨hb,hx⟩ hG i ⟨hi,hxi⟩=>⟨_,U5,?_⟩) (fun b s' ⟨hb,hle⟩ hs'=>?_) (fun _ _ h=>h.elim) (fun _ _ h=>h.elim)
 ·simp only[ag.all,az,bB,bD]
  have hs0:kP N e R d a N a fun _=>0:=kP.start hR (.inr (by rw[hN];exact ha))
  have hsz:cN N a:=hzR 0 (Nat.zero_le _)
  refine⟨⟨ek aT,hn⟩,aa,fun h=>⟨aa,(N,a,fun _=>0),⟨hs0,hsz⟩,[(0,12288),(1,69632)],rfl,?_,rfl,br rfl rfl hN.symm (fun j hj=>bN rfl rfl) (br rfl rfl aa (fun j hj=>.inr ⟨rfl,dy rfl aa⟩) trivial)⟩,fun h=>?_⟩
  ·rw[show((n+1:Nat):Int)-(((e+1:Nat):Int)-1)=(R:Nat) by omega,show((e+1:Nat):Int)-1=(e:Nat) by omega,bJ,<-hN];rfl
  ·have h0:R=0:=aa
   clear hzR hzQ
   subst h0
   refine⟨(N,a,fun _=>0),⟨hs0,hsz⟩,[(0,12288)],rfl,?_,rfl,br rfl rfl hN.symm (fun j hj=>bN rfl rfl) (kZ rfl aa aa trivial)⟩
   rw[show((e+1:Nat):Int)-1=(e:Nat) by omega,<-hN];rfl
 ·obtain⟨L,x,q⟩:=b
  simp only[ag.all,az,bB,bD]
  have re:dS [] ([ak 3 (e+1) fun i=>rat (d i) af,own 1 3 0 R,own 0 3 0 L,int i64 (↑e:Int)],[(0,au.mk true true 3 N fun i=>rat (x i) af),(1,au.mk true true 3 R fun i=>rat (q i) af)]) (x8 e d R L) (AJ N R x q) 2:=⟨[(0,0),(1,1)],rfl,rfl,rfl,br rfl rfl rfl (fun j hj=>bN rfl rfl) (br rfl rfl rfl (fun j hj=>bN rfl rfl) trivial)⟩
  exact⟨fun h=>⟨aa,re⟩,fun h=>⟨rfl,(L,x,q),⟨hb,by dsimp only;omega⟩,re⟩⟩
 ·obtain⟨L,x,q⟩:=b
  have hl:=hb.le
  have hG:e<L:=hG
  dsimp only at hl hb
  have hq:=hb.quot hR hG
  have hf:Sz (x (L-1)/d e) af:=by rw[hq];exact hzQ _ aa
  simp only[ag.all,az,Nat.add_zero]
  rw[show((L:Int)-1).toNat=L-1 by omega,show((L:Int)-1-(e:Int)).toNat=L-1-e by omega,bJ]
  have hu0:fB e d x (L-1-e) (x (L-1)/d e) 0=x:=by funext j;unfold fB;rw[if_neg aa]
  refine⟨aa,aa,aa,aa,0,⟨Nat.zero_le _,by rw[hu0];exact hx⟩,[(0,0),(1,1),(2,81922)],rfl,?_,rfl,?_⟩
  ·rw[show(L:Int)-1-(e:Int)=(L-1-e:Nat) by omega];rfl
  ·refine kg rfl rfl (.inr ⟨rfl,ej rfl hf⟩) (br rfl rfl rfl (fun j hj=>.inr ⟨rfl,dy (by rw[hu0]) aT⟩) (br rfl rfl rfl (fun j hj=>?_) trivial))
   exact nh (x:=q) (y:=fun j=>if j=L-1-e then x (L-1)/d e else q j) (ej (if_pos rfl).symm (by show Sz (if _ then _ else _) _;rw[if_pos rfl];exact hf)) fun hj=>dy (if_neg hj).symm aT
 ·obtain⟨L,x,q⟩:=b
  have hl:=hb.le
  have hG:e<L:=hG
  dsimp only at hl hb hi hxi
  simp only[ag.all,az,bB,bD,Nat.add_zero]
  rw[show((L-1-e:Nat):Int)+(i:Int)=(L-1-e+i:Nat) by omega,bJ,bJ]
  generalize hf:x (L-1)/d e=f at*
  have h1:∀j,j≠L-1-e+i->fB e d x (L-1-e) f i j=fB e d x (L-1-e) f (i+1) j:=fun j hj=>by
   unfold fB
   by_cases h2:L-1-e<=j/\j<L-1-e+i
   ·rw[if_pos h2,if_pos aa]
   ·rw[if_neg h2,if_neg aa]
  have h2:fB e d x (L-1-e) f i (L-1-e+i)-f*d i=fB e d x (L-1-e) f (i+1) (L-1-e+i):=by
   unfold fB
   rw[if_neg aa,if_pos aa,show L-1-e+i-(L-1-e)=i by omega]
  refine⟨fun h=>?_,fun h=>⟨rfl,i,⟨aa,by rw[show i=e by omega]at hxi;exact hxi⟩,[(0,0),(1,1),(2,2)],rfl,rfl,rfl,cG (br rfl rfl rfl (fun j hj=>bN rfl rfl) (br rfl rfl rfl (fun j hj=>bN rfl rfl) trivial))⟩⟩
  have hs:Sz (fB e d x (L-1-e) f (i+1) (L-1-e+i)) af:=by
   subst hf
   rw[hb.Ov hR hG (i:=i+1) aa aa aa]
   exact hzR _ aa _ aa
  refine⟨aa,aa,aa,i+1,⟨aa,fun j hj=>?_⟩,by dsimp only;omega,[(0,0),(1,1),(2,2)],rfl,rfl,rfl,cG (br rfl rfl rfl (fun j hj=>?_) (br rfl rfl rfl (fun j hj=>bN rfl rfl) trivial))⟩
  ·by_cases h3:j=L-1-e+i
   ·rw[h3];exact hs
   ·rw[<-h1 j h3];exact hxi j hj
  ·exact nh (x:=fB e d x (L-1-e) f i) (y:=fB e d x (L-1-e) f (i+1)) (ej h2 hs) fun hj=>dy (h1 j hj) aT
 ·obtain⟨L,x,q⟩:=b
  have hl:=hb.le
  have hG:e<L:=hG
  dsimp only at hl hb hi hxi
  subst hi
  simp only[ag.all,az]
  rw[show((L:Int)-1).toNat-(0:Int).toNat=L-1 by omega]
  exact⟨⟨aa,aa,aa,aa,fun j hj=>⟨rfl,.refl _⟩⟩,(_,_,_),⟨hb.next hR hd hG,hxi⟩,Nat.lt_of_le_of_lt fN (show L-1<L by omega),[(0,0),(1,1)],rfl,rfl,rfl,br rfl rfl rfl (fun j hj=>bN rfl rfl) (br rfl rfl rfl (fun j hj=>bN rfl rfl) trivial)⟩
 ·obtain⟨L,x,q⟩:=b
  dsimp only at hb hle
  obtain⟨f1,f2,f3⟩:=hb.fin hR hle
  have hl:=hb.le
  rw[show behind vO [1,1,1,1,0]=[part vO [1,1,1,1,1]]from by kernel_rfl]
  refine aG.weak rfl hs' (aG.mono (fun _ _ h=>.inl h) (aG.fin hT Iy hm 60 Zx ah ?_))
  simp only[ag.all,az,Nat.add_zero]
  refine⟨⟨aT,aa,fun j hj=>⟨rfl,.refl _⟩⟩,?_⟩
  show aW _ _/\aW _ _/\True
  rw[<-hN,<-hR,<-f1,<-DJ (k:=q) f3]
  exact⟨iH fun i hi=>dy (f3 i (Nat.lt_of_lt_of_le hi fN)) aT,iH fun i hi=>dy (f2 i hi) aT,trivial⟩
def C8:Spec:=dD (kC (kL af) (kC (kL af) kN)) (fun a=>u7 a.1.1 (a.2.1.1-1) a.2.1.2 a.1.2) fun a=>[a.1.1<2^30,1<=a.2.1.1,a.2.1.1<2^30,a.1.1=0\/a.1.2 (a.1.1-1)≠0,a.2.1.2 (a.2.1.1-1)≠0,nR a.1.1 (a.2.1.1-1) a.2.1.2 a.1.2]
theorem Ih:aY P C8 88:=cO fun⟨⟨n,a⟩,⟨m,d⟩,_⟩ K hn=>by
 obtain⟨h1,h2,h3,h4,h5,h6⟩:=hn
 simp only at h1 h2 h3 h4 h5 h6
 obtain⟨e,rfl⟩:∃e,m=e+1:=⟨m-1,aa⟩
 cases n with
 |zero=>exact Om aa K
 |succ n=>exact QG h1 aa (by simpa using h4) h5 h6 K
end Go.Am.B
