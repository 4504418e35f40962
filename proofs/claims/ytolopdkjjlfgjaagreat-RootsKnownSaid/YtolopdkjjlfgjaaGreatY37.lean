/- bG by the shape of the arguments: numbers, points, planes, maps. -/
import Derived.Test.YtolopdkjjlfgjaaGreatB33
import Init
import Derived.Test.YtolopdkjjlfgjaaGreatZ2
set_option linter.unusedVariables false
noncomputable section
namespace Go.Am.B
open Go Go.Am.N AV Proofs.Tryz IntKind
@[ext] structure V3 where
 x:Rat
 y:Rat
 z:Rat
structure Pl where
 n:V3
 d:Rat
abbrev rA (q:Rat) (n:Nat):AV:=.rat q n
abbrev vA (v:V3) (n:Nat):AV:=.agg [.rat v.x n,.rat v.y n,.rat v.z n]
theorem fh {q r:Rat} {n k:Nat} (h:q=r) (hk:n<=k):bg (.rat q n) (.rat r k):=h▸o7 hk
structure Kind (α:Type) where
 read:AV->Option (α×List Prop)
 make:α->AV
 ok:∀{v:AV} {a:α} {q:List Prop},read v=some (a,q)->aF q->bg v (make a)
def pS:AV->Option (Rat×Nat)
 |.rat q n=>some (q,n)
 |.agg [.bool false,.mag 0,.mag 0]=>some (0,1)
 |_=>none
theorem zM {v:AV} {a:Rat×Nat} (h:pS v=some a):bg v (rA a.1 a.2):=by
 unfold pS at h
 split at h
 ·simp only[aB]at h;subst h;exact .refl _
 ·simp only[aB]at h;subst h;exact pH
 ·simp at h
def CW (v:AV):Option ((Rat×Nat)×List Prop):=match pS v with
 |some a=>some (a,[])
 |none=>none
theorem ZC {v:AV} {a:Rat×Nat} {q:List Prop} (h:CW v=some (a,q)) (_:aF q):bg v (rA a.1 a.2):=by
 unfold CW at h
 split at h
 ·rename_i h1
  simp only[aB,Prod.mk.injEq]at h
  obtain⟨rfl,rfl⟩:=h
  exact zM h1
 ·simp at h
def kR:Kind (Rat×Nat):=⟨CW,fun a=>rA a.1 a.2,ZC⟩
section specs
variable {α β γ δ:Type} {f:FuncId}
def EG (k:Kind α) (g:α->AV) (need:α->List Prop):Spec:=cw fun l=>match l with
 |[x]=>match k.read x with
  |some (a,p)=>some (aT (g a) (p++need a))
  |none=>none
 |_=>none
theorem MQ {k:Kind α} {g:α->AV} {need:α->List Prop} (h:∀a K,aF (need a)->aY P f K [k.make a] [] (aT (g a) [])):bF P (EG k g need) f:=by
 refine cX fun K args r hk hs _=>?_
 split at hs
 ·split at hs
  ·rename_i h1
   simp only[aB]at hs
   subst hs
   intro hn
   obtain⟨n1,hn⟩:=ir.1 hn
   exact je (h _ K hn) hk ⟨k.ok h1 n1,trivial⟩ [] trivial
  ·simp at hs
 ·simp at hs
def kg (k:Kind α) (k2:Kind β) (g:α->β->AV) (need:α->β->List Prop):Spec:=cw fun l=>match l with
 |[x,y]=>match k.read x,k2.read y with
  |some (a,p),some (b,q)=>some (aT (g a b) (p++(q++need a b)))
  |_,_=>none
 |_=>none
theorem kI {k:Kind α} {k2:Kind β} {g:α->β->AV} {need:α->β->List Prop} (h:∀a b K,aF (need a b)->aY P f K [k.make a,k2.make b] [] (aT (g a b) [])):bF P (kg k k2 g need) f:=by
 refine cX fun K args r hk hs _=>?_
 split at hs
 ·split at hs
  ·rename_i h1 h2
   simp only[aB]at hs
   subst hs
   intro hn
   obtain⟨n1,hn⟩:=ir.1 hn
   obtain⟨n2,hn⟩:=ir.1 hn
   exact je (h _ _ K hn) hk ⟨k.ok h1 n1,k2.ok h2 n2,trivial⟩ [] trivial
  ·simp at hs
 ·simp at hs
end specs
def qU (a b:Rat×Nat):List Prop:=[a.2<2^42,b.2<2^42]
def rm (a b:Rat×Nat):List Prop:=[a.2<2^41,b.2<2^41]
def Bl (a b:Rat×Nat):AV:=rA (a.1+b.1) (a.2+b.2+1)
def I7 (a b:Rat×Nat):AV:=rA (a.1-b.1) (a.2+b.2+1)
def Fj (a b:Rat×Nat):AV:=rA (a.1*b.1) (a.2+b.2)
def Aa (a b:Rat×Nat):AV:=.tuple [rA (a.1/b.1) (a.2+b.2),.int .i64 (if b.1=0 then 3 else 0)]
def Og (a b:Rat×Nat):AV:=.int .i64 (gq a.1 b.1)
def Ot (a b:Rat×Nat):AV:=.bool (decide (a.1=b.1))
def IQ (a:Rat×Nat):AV:=.int .i64 (bR a.1)
abbrev FN:FuncId×Spec:=(71,Me)
def gE:bG:=[(128,kg kR kR Bl qU),(143,kg kR kR I7 qU),(129,kg kR kR Fj qU),(110,kg kR kR Ot qU),(58,kg kR kR Og qU),(65,EG kR IQ fun a=>[a.2<2^42]),FN]
def qA:bG:=[(92,kg kR kR Bl rm),(53,kg kR kR I7 rm),(90,kg kR kR Fj rm),(26,kg kR kR Ot rm),(27,kg kR kR Og rm),(24,EG kR IQ fun a=>[a.2<2^41]),(23,HQ)]
theorem XR:bF P FN.2 FN.1:=QU
theorem gV:cm P gE:=aM (kI fun _ _ K hn=>Tt hn.1 hn.2 K) (aM (kI fun _ _ K hn=>Xo hn.1 hn.2 K) (aM (kI fun _ _ K hn=>Mr hn.1 hn.2 K)
 (aM (kI fun _ _ K hn=>aaO (Nat.lt_trans hn.1 aa) (Nat.lt_trans hn.2 aa) K []) (aM (kI fun _ _ K hn=>J6 hn.1 hn.2 K []) (aM (MQ fun _ K hn=>Ke (Nat.lt_trans hn aa) K []) (aM XR cK))))))
theorem um:cm P qA:=aM (kI fun _ _ K hn=>Je hn.1 hn.2 K) (aM (kI fun _ _ K hn=>Zl hn.1 hn.2 K) (aM (kI fun _ _ K hn=>Y7 hn.1 hn.2 K)
 (aM (kI fun _ _ K hn=>WD (Nat.lt_trans hn.1 aa) (Nat.lt_trans hn.2 aa) K []) (aM (kI fun _ _ K hn=>abr hn.1 hn.2 K) (aM (MQ fun _ K _=>LJ K []) (aM T1 cK))))))
end Go.Am.B
namespace Go.Am.B
def yV (n:Nat) (f:Nat->Rat):Rat:=match n with
 |0=>0
 |n+1=>yV n f+f n
def fr (a b t:Rat):Rat:=(t-a)/(b-a)
def vB (k:Nat->Rat) (i:Nat) (t:Rat):Nat->Nat->Rat
 |0,j=>if j=0 then 1 else 0
 |d+1,j=>(if j=0 then 0 else fr (k (i-d+(j-1))) (k (i-d+(j-1)+(d+1))) t*vB k i t d (j-1))+
   (if j<=d then(1-fr (k (i-d+j)) (k (i-d+j+(d+1))) t)*vB k i t d j else 0)
structure At (n:Nat) (k:Nat->Rat) (i:Nat):Prop where
 lt:i+1<n
 sorted:∀i,i+1<n->k i<=k (i+1)
 wide:k i<k (i+1)
def UP (k:Nat->Rat) (b p r:Nat) (t:Rat) (x:Nat->Rat) (j:Nat):Rat:=
 if r<j then x (j-1)+fr (k (b+j)) (k (b+j+(p-r))) t*(x j-x (j-1))else x j
def bl (k:Nat->Rat) (b p:Nat):Nat->(Nat->Rat)->List Rat->Nat->Rat
 |_,x,[]=>x
 |r,x,t::l=>bl k b p (r+1) (UP k b p r t x) l
variable {k:Nat->Rat} {b p:Nat}
variable {n:Nat}
end Go.Am.B
namespace Go.Am.B
def KY (g:Nat->Bool):Nat->Nat
 |0=>0
 |m+1=>if g m then m else KY g m
def Hp (n:Nat) (k:Nat->Rat) (t:Rat):Nat:=KY (fun i=>decide (k i<k (i+1))&&decide (k i<=t)) (n-1)
open AV
def aN:AV->Rat
 |.rat q _=>q
 |_=>0
def cY (f:Nat->AV) (n s:Nat):Prop:=∀i,i<n->bg (f i) (.rat (aN (f i)) s)
abbrev bT (k:Nat->Rat) (n s:Nat):AV:=.az 3 n (fun i=>.rat (k i) s)
theorem eF {k:Nat->Rat} {n s s':Nat} (h:s<=s'):cY (fun i=>.rat (k i) s) n s':=fun _ _=>o7 h
theorem Tz {f:Nat->AV} {n s:Nat} (h:cY f n s):bg (.az 3 n f) (bT (fun i=>aN (f i)) n s):=ki h
def xC:AV->Option (Nat×(Nat->AV))
 |.az 3 n f=>some (n,f)
 |.nil=>some (0,fun _=>.rat 0 1)
 |_=>none
theorem YG {v:AV} {n s:Nat} {f:Nat->AV} (h:xC v=some (n,f)) (ha:cY f n s):bg v (bT (fun i=>aN (f i)) n s):=by
 unfold xC at h
 split at h
 ·simp only[aB,Prod.mk.injEq]at h
  obtain⟨rfl,rfl⟩:=h
  exact Tz ha
 ·simp only[aB,Prod.mk.injEq]at h
  obtain⟨rfl,rfl⟩:=h
  exact mC aa
 ·simp at h
end Go.Am.B
namespace Go.Am
def bn:Nat->Nat->Nat
 |_,0=>1
 |0,_+1=>0
 |n+1,k+1=>bn n k+bn n (k+1)
theorem qM (n:Nat):bn n 0=1:=by cases n<;>rfl
theorem pL (n k:Nat):bn (n+1) (k+1)=bn n k+bn n (k+1):=rfl
theorem pq:∀{n k:Nat},n<k->bn n k=0
 |0,_+1,_=>rfl
 |n+1,k+1,h=>by rw[pL,pq (by omega),pq (by omega)]
theorem OX:∀n:Nat,bn n n=1
 |0=>rfl
 |n+1=>by rw[pL,OX n,pq (by omega)]
theorem tu:∀n k:Nat,bn n k<=2^n
 |0,0=>by decide
 |0,_+1=>by rw[pq (by omega)];exact Nat.zero_le _
 |n+1,0=>by rw[qM];exact Nat.one_le_two_pow
 |n+1,k+1=>by
  have h1:=tu n k
  have h2:=tu n (k+1)
  rw[pL,Nat.pow_succ];omega
theorem z9:∀{n k:Nat},k<=n->0<bn n k
 |n,0,_=>by rw[qM];exact Nat.one_pos
 |n+1,k+1,h=>by
  have:=z9 (n:=n) (k:=k) (by omega)
  rw[pL];omega
theorem BG {n k:Nat} (h:n<=40):bn n k<=2^40:=Nat.le_trans (tu n k) (Nat.pow_le_pow_right (by decide) h)
theorem AY:∀n k:Nat,(k+1)*bn n (k+1)=(n-k)*bn n k
 |0,0=>rfl
 |0,k+1=>by rw[pq (by omega),Nat.zero_sub];simp
 |n+1,0=>by
  have:=AY n 0
  simp only[qM,Nat.zero_add,Nat.one_mul,Nat.sub_zero,Nat.mul_one]at this ⊢
  rw[pL,qM,this];omega
 |n+1,k+1=>by
  have h1:=AY n k
  have h2:=AY n (k+1)
  rw[pL n (k+1),pL n k,show n+1-(k+1)=n-k by omega]
  by_cases h:k+1<=n
  ·obtain⟨m,rfl⟩:∃m,n=k+1+m:=⟨n-(k+1),by omega⟩
   rw[show k+1+m-(k+1)=m by omega]at h2
   rw[show k+1+m-k=m+1 by omega]at h1 ⊢
   generalize bn (k+1+m) (k+1+1)=A at*
   generalize bn (k+1+m) (k+1)=B at*
   generalize bn (k+1+m) k=C at*
   have e1:(k+1+1)*(B+A)=(k+1)*B+B+(k+1+1)*A:=by rw[Nat.mul_add,Nat.add_mul (k+1) 1 B,Nat.one_mul]
   have e2:(m+1)*(C+B)=(m+1)*C+(m*B+B):=by rw[Nat.mul_add,Nat.add_mul m 1 B,Nat.one_mul]
   rw[e1,e2,h2,h1];omega
  ·rw[pq (n:=n) (k:=k+1+1) (by omega)]
   by_cases h3:k=n
   ·subst h3
    rw[pq (by omega),Nat.sub_self];simp
   ·rw[pq (n:=n) (k:=k+1) (by omega),pq (n:=n) (k:=k) (by omega)];simp
end Go.Am
namespace Go.Am.B
open Go Go.Am.N AV af au IntKind Proofs.Tryz
abbrev qQ (n:Nat) (g:Nat->Int):aC:=⟨true,true,1,n,fun i=>.int .i64 (g i)⟩
abbrev dL (m:Nat) (k:Nat->Rat) (s:Nat):aC:=⟨true,true,3,m,fun i=>.rat (k i) s⟩
def GZ:bG:=zG::gE
abbrev BE:Code:=aJ f158
abbrev xP:Code:=part BE [1,1,0,1,0,0]
abbrev zZ:Code:=part xP [1,1,0,0]
abbrev rU:Code:=part BE [1,1,1]
abbrev s5:List Nat:=[0,3,9,10]
abbrev A3 (n r:Nat):List AV:=[.int .i64 n,.own 0 1 0 (r+1),.int .i64 n,.int .i64 r]
abbrev xg:List Nat:=[0,3,9,10,4]
abbrev E8 (n r j:Nat):List AV:=[.int .i64 n,.own 0 1 0 (r+1+1),.int .i64 n,.int .i64 r,.int .i64 j]
abbrev xT:List Nat:=[37,5,38,39]
abbrev Gt (n i:Nat):List AV:=[.own 0 1 0 (n+1),.own 1 3 0 (n+1),.int .i64 (n+1:Nat),.int .i64 i]
abbrev EK (n:Nat) (g:Nat->Int) (x:Nat->Rat):aG:=[(1,dL (n+1) x 64),(0,qQ (n+1) g)]
theorem NF:bC 158 f158:=bD func158
theorem Xh {n:Nat}:aK T GZ [] 60 s5 (before BE [1,1,0,1]) ⟨bf 0 [.int .i64 n],[],0⟩=
  some (aj [(1:Nat)*1<=2^24] (leaf normal ([int i64 (↑n:Int),own 4096 1 0 1,int i64 (↑n:Int),int i64 0],[(4096,aC.mk true true 1 1 fun i=>nth [int i64 1] (int i64 0) i)]))):=ah
theorem Su {n r:Nat} {g:Nat->Int}:aK T GZ [11] 60 s5 (before xP [1,1,0]) ⟨aH s5 (A3 n r),[(0,qQ (r+1) g)],1⟩=
  let c2:Int:=(↑n:Int);let c1:List AV×aG:=([int i64 c2,own 0 1 0 (r+1),int i64 c2,int i64 (↑r:Int)],[(0,aC.mk true true 1 (r+1) fun i=>int i64 (g i))]);some (fork (decide ((↑r:Int)<c2)) (leaf normal c1) (leaf (exit 0) c1)):=ah
theorem ZA {n r:Nat} {g:Nat->Int}:aK T GZ [] 60 xg (before zZ [1,1]) ⟨aH s5 (A3 n r),[(0,qQ (r+1) g)],1⟩=
  let c3:Nat:=r+1;let c1:Nat:=c3+1;let c2:Int:=(↑c1:Int)-2;some (aj [(1:Nat)*1<=2^24,c1*((8:Nat)+1)*2<=2^47] (aj [-(2:Int)^63<=c2/\c2<2^63] (leaf normal ([int i64 (↑n:Int),own 8193 1 0 c1,int i64 (↑n:Int),int i64 (↑r:Int),int i64 c2],[(8193,aC.mk true true 1 c1 fun i=>if i<c3 then int i64 (g i)else nth [int i64 1] (int i64 0) (i-c3+0))])))):=ah
theorem Ul {n r j:Nat} {g:Nat->Int}:aK T GZ [19] 60 xg [part zZ [1,1,0,0]] ⟨aH xg (E8 n r j),[(0,qQ (r+1+1) g)],1⟩=
  let c7:AV:=int i64 (↑n:Int);let c5:Int:=(↑j:Int);let c4:Int:=(2:Int)^63;let c1:Nat:=r+1+1;let c9:Prop:=(0:Int)<=c5/\c5.toNat<c1;let c8:AV:=own 0 1 0 c1;let c3:Nat:=c5.toNat+0;let c2:Int:=c5-1;let c6:Int:=g c3+g (c2.toNat+0);some (fork (decide (c5>0)) (aj [c9,c3<c1,-c4<=c2/\c2<c4,(0:Int)<=c2/\c2.toNat<c1,c2.toNat+0<c1,-c4<=c6/\c6<c4,c9,c3<c1] (aj [-c4<=c2/\c2<c4] (leaf normal ([c7,c8,c7,int i64 (↑r:Int),int i64 c2],[(0,aC.mk true true 1 c1 fun j=>int i64 (bif j==c3 then c6 else g j))])))) (leaf (exit 2) ([c7,c8,c7,int i64 (↑r:Int),int i64 c5],[(0,aC.mk true true 1 c1 fun i=>int i64 (g i))]))):=ah
theorem acN {n r j:Nat} {g:Nat->Int}:aK T GZ [] 60 s5 [part xP [1,1,1]] ⟨aH xg (E8 n r j),[(0,qQ (r+1+1) g)],1⟩=
  let c2:Nat:=r+1+1;let c1:Int:=(↑r:Int)+1;some (aj [-(2:Int)^63<=c1/\c1<2^63] (leaf normal ([int i64 (↑n:Int),own 0 1 0 c2,int i64 (↑n:Int),int i64 c1],[(0,aC.mk true true 1 c2 fun i=>int i64 (g i))]))):=ah
theorem Tu {n r:Nat} {g:Nat->Int}:aK T GZ [] 60 xT (before rU [1,0,1]) ⟨aH s5 (A3 n r),[(0,qQ (r+1) g)],1⟩=
  let c1:Int:=(↑(r+1):Int);some (aj [(0:Int)<=c1/\c1<=c1/\c1<=2^47/\c1*(↑(56:Nat):Int)<=2^47] (leaf normal ([own 0 1 0 (r+1),own 8193 3 0 c1.toNat,int i64 c1,int i64 0],[(8193,aC.mk true true 3 c1.toNat fun x=>rat 0 1),(0,aC.mk true true 1 (r+1) fun i=>int i64 (g i))]))):=ah
theorem aek {n i:Nat} {g:Nat->Int} {x:Nat->Rat}:aK T GZ [40] 60 xT [part rU [1,0,1,0,0]] ⟨aH xT (Gt n i),EK n g x,2⟩=
  let c4:Int:=(2:Int)^63;let c3:Int:=(↑i:Int);let c2:Nat:=n+1;let c10:Int:=c3+1;let c9:Int:=(↑c2:Int);let c7:AV:=own 0 1 0 c2;let c6:AV:=own 1 3 0 c2;let c5:Nat×aC:=(0,aC.mk true true 1 c2 fun i=>int i64 (g i));let c1:Nat:=c3.toNat+0;let c8:List Prop:=[(0:Int)<=c3/\c3.toNat<c2,c1<c2];some (fork (decide (c3<c9)) (aj c8 (aj ((-c4<=g c1)::(g c1<c4)::c8) (aj [-c4<=c10/\c10<c4] (leaf normal ([c7,c6,int i64 c9,int i64 c10],[(1,aC.mk true true 3 c2 fun j=>rat (bif j==c1 then(↑(g c1):Rat)else x j) (bif j==c1 then Max.max 1 (bS (g c1).natAbs)else 64)),c5]))))) (leaf (exit 4) ([c7,c6,int i64 c9,int i64 c3],[(1,aC.mk true true 3 c2 fun i=>rat (x i) 64),c5]))):=ah
theorem Sw {n i:Nat} {g:Nat->Int} {x:Nat->Rat}:dK T GZ [] 60 f158 [part rU [1,1]] ⟨aH xT (Gt n i),EK n g x,2⟩=
  some (leaf ret [az 3 (n+1) fun i=>rat (x (i+0)) 64]):=ah
theorem pI:cm P GZ:=jA gV
def p9 (r j i:Nat):Int:=if i<=j then(if i=r+1 then 1 else(bn r i:Int))else bn (r+1) i
theorem Oa {r j i:Nat} (hr:r<40) (hi:i<=r):-2^41<=p9 r j i/\p9 r j i<=2^40:=by
 have h1:=BG (n:=r) (k:=i) aa
 have h2:=BG (n:=r+1) (k:=i) aa
 unfold p9;rw[if_neg (c:=i=r+1) aa];split<;>omega
theorem ZR {n:Nat} (hn:n<=40) (K:Nat):aY P 158 K [.int .i64 n] [] (aT (bT (fun i=>((bn n i:Int):Rat)) (n+1) 64) []):=by
 refine iY (r:=aT (bT (fun i=>((bn n i:Int):Rat)) (n+1) 64) []) hT NF rfl br rfl (fun _ cx h0=>?_) K []
 have hk:=ou h0
 refine aA.we hT pI hm (x:=BE) [1,1,0,1] (i:=0) (y:=xP) (z:=rU) ah ah ah NF.dst [1,1,0] (j:=1) (x1:=zZ) (zb:=part xP [1,1,1]) ah ah ah [1,1] (i2:=2) (y2:=part zZ [1,1,0,0]) ah ah rfl hk
  (f1:=[]) (f2:=[11]) (f3:=[]) (f4:=[19]) (f5:=[]) 60 s5 xg 1 1 (fun r:Nat=>A3 n r) (fun r=>[(0,qQ (r+1) fun i=>bn r i)]) (fun r=>r<=n) (fun r=>r=n) (fun r=>n-r) (fun r=>r<n) (fun _=>False) (fun _=>False)
  (fun r (j:Nat)=>E8 n r j) (fun r j=>[(0,qQ (r+1+1) (p9 r j))]) (fun r j=>j<=r) (fun _ j=>j=0) (fun _ j=>j)
  ⟨_,Xh,?_⟩ (fun r hr=>⟨_,Su,?_⟩) (fun r hr hG=>⟨_,ZA,?_⟩) (fun r hr hG j hj=>⟨_,Ul,?_⟩) (fun r hr hG j hj=>⟨_,acN,?_⟩) (fun r hr=>?_) (fun _ _ h=>h.elim) (fun _ _ h=>h.elim)
 ·simp only[af.all,aF]
  refine⟨aa,0,aa,[(0,4096)],rfl,rfl,rfl,bX rfl rfl rfl (fun i hi=>by obtain rfl:i=0:=aa;exact cA rfl rfl) trivial⟩
 ·simp only[af.all,aF,bI,bO]
  exact⟨fun h=>⟨aa,[(0,0)],rfl,rfl,rfl,bX rfl rfl rfl (fun i hi=>cA rfl rfl) trivial⟩,fun h=>⟨rfl,r,aa,[(0,0)],rfl,rfl,rfl,bX rfl rfl rfl (fun i hi=>cA rfl rfl) trivial⟩⟩
 ·simp only[af.all,aF]
  refine⟨aa,aa,r,aa,[(0,8193)],rfl,?_,rfl,bX rfl rfl rfl (fun i hi=>cA ?_ ?_) trivial⟩
  ·rw[show((r+1+1:Nat):Int)-2=(r:Nat) by omega];rfl
  ·split
   ·rfl
   ·rw[show i-(r+1)+0=0 by omega];rfl
  ·unfold p9
   by_cases h:i<r+1
   ·rw[if_pos h,if_pos aa,if_neg aa]
   ·rw[if_neg h,if_neg aa,show i-(r+1)+0=0 by omega,show i=r+1 by omega,OX];rfl
 ·simp only[af.all,aF,bI,bO,bJ,Nat.add_zero]
  refine⟨fun h=>?_,fun h=>⟨rfl,j,aa,[(0,0)],rfl,rfl,rfl,bX rfl rfl rfl (fun i hi=>cA rfl rfl) trivial⟩⟩
  obtain⟨m,rfl⟩:∃m,j=m+1:=⟨j-1,aa⟩
  have e1:(((m+1:Nat):Int)-1).toNat=m:=aa
  have h1:=Oa (r:=r) (j:=m+1) (i:=m+1) aa hj
  have h2:=Oa (r:=r) (j:=m+1) (i:=m) aa aa
  rw[e1]
  refine⟨aa,aa,m,aa,by dsimp only;omega,[(0,0)],rfl,?_,rfl,bX rfl rfl rfl (fun i hi=>cA rfl ?_) trivial⟩
  ·rw[show((m+1:Nat):Int)-1=(m:Nat) by omega];rfl
  ·by_cases h:i=m+1
   ·subst h
    simp only[beq_self_eq_true,cond_true]
    unfold p9
    rw[if_pos aa,if_neg aa,if_pos aa,if_neg aa,if_neg aa,pL,Int.natCast_add,Int.add_comm]
   ·have hb:(i==m+1)=false:=by simpa using h
    rw[hb,cond_false]
    unfold p9
    by_cases h2:i<=m
    ·rw[if_pos h2,if_pos aa]
    ·rw[if_neg h2,if_neg aa]
 ·subst hj
  simp only[af.all,aF]
  refine⟨aa,r+1,aa,by dsimp only;omega,[(0,0)],rfl,rfl,rfl,bX rfl rfl rfl (fun i hi=>cA rfl ?_) trivial⟩
  show AV.int i64 (p9 r 0 i)=AV.int i64 (bn (r+1) i)
  unfold p9
  by_cases h:i<=0
  ·rw[if_pos h,if_neg aa,show i=0 by omega,qM,qM]
  ·rw[if_neg h]
 ·subst hr
  refine aA.qS hT pI hm (x:=rU) [1,0,1] (i:=4) (y:=part rU [1,0,1,0,0]) (z:=part rU [1,1]) ah ah ah ah hk (f1:=[]) (f2:=[40]) 60 xT 2 (fun i:Nat=>Gt r i) (fun i=>EK r (fun i=>bn r i) fun j=>if j<i then((bn r j:Int):Rat)else 0)
   (fun i=>i<=r+1) (fun i=>i=r+1) (fun i=>r+1-i) (fun _=>False) ⟨_,Tu,?_⟩ (fun i hi=>⟨_,aek,?_⟩) (fun i hi=>?_) (fun _ _ h=>h.elim)
  ·simp only[af.all,aF,bJ]
   exact⟨aa,0,aa,[(0,0),(1,8193)],rfl,rfl,rfl,bX rfl rfl rfl (fun i hi=>.inr ⟨rfl,fh (if_neg (Nat.not_lt_zero i)).symm (by decide)⟩) (bX rfl rfl rfl (fun i hi=>cA rfl rfl) trivial)⟩
  ·have h1:=BG (n:=r) (k:=i) hn
   simp only[af.all,aF,bI,bO,bJ,Nat.add_zero]
   refine⟨fun h=>⟨aa,aa,aa,i+1,aa,by dsimp only;omega,[(0,0),(1,1)],rfl,rfl,rfl,bX rfl rfl rfl (fun j hj=>.inr ⟨rfl,?_⟩) (bX rfl rfl rfl (fun i hi=>cA rfl rfl) trivial)⟩,fun h=>⟨rfl,i,aa,[(0,0),(1,1)],rfl,rfl,rfl,bX rfl rfl rfl (fun j hj=>cA rfl rfl) (bX rfl rfl rfl (fun i hi=>cA rfl rfl) trivial)⟩⟩
   by_cases h2:j=i
   ·subst h2
    simp only[beq_self_eq_true,cond_true]
    exact fL (if_pos (Nat.lt_succ_self j)).symm (by rw[if_pos (Nat.lt_succ_self j)];exact FU (y:=0) aa aa)
   ·have hb:(j==i)=false:=by simpa using h2
    rw[hb,cond_false,cond_false]
    refine fh ?_ aX
    show(if j<i then _ else _)=if j<i+1 then _ else _
    by_cases h3:j<i
    ·rw[if_pos h3,if_pos aa]
    ·rw[if_neg h3,if_neg aa]
  ·subst hi
   refine aA.oN ((aI.fin hT pI hm 60 Sw ah (ki fun i hi=>fh ?_ aX)).mono fun _ _ h=>.inl h)
   rw[Nat.add_zero,if_pos hi]
def CY:Spec:=cw fun l=>match l with
 |[.int .i64 n]=>some (aT (bT (fun i=>((bn n.toNat i:Int):Rat)) (n.toNat+1) 64) [0<=n,n<=40])
 |_=>none
theorem Ou:bF P CY 158:=by
 refine cX fun K args r hk hs _=>?_
 split at hs
 ·rename_i n
  simp only[aB]at hs
  subst hs
  intro hn
  have h1:0<=n:=hn.1
  have h2:n<=40:=hn.2
  have:=ZR (n:=n.toNat) aa K
  rw[Int.toNat_of_nonneg h1]at this
  exact this trivial
 ·simp at hs
open Go Go.Am.N AV Proofs.Tryz IntKind
theorem Tv:bC 51 f51:=bD func51
def Ud:bG:=[(45,FP),(46,Bk)]
theorem SZ {d:Int}:cy T Ud [] 60 f51 (aJ f51) ⟨bf 0 [.int .i64 d],[],0⟩=
  some (af.aj [(17:Int)≠(0:Int),(0:Int)<12,(12:Int)<2^62] (af.aj [(0:Int)<i64.wrap (i64.wrap ((1:Int)+i64.wrap (d.tdiv (17:Int))%(12:Int))+1),i64.wrap (i64.wrap ((1:Int)+i64.wrap (d.tdiv (17:Int))%(12:Int))+1)<2^62,-(2:Int)^63<=d%i64.wrap (i64.wrap ((1:Int)+i64.wrap (d.tdiv (17:Int))%(12:Int))+1),d%i64.wrap (i64.wrap ((1:Int)+i64.wrap (d.tdiv (17:Int))%(12:Int))+1)<2^63,-(2:Int)^63<=i64.wrap ((1:Int)+i64.wrap (d.tdiv (17:Int))%(12:Int)),i64.wrap ((1:Int)+i64.wrap (d.tdiv (17:Int))%(12:Int))<2^63,(0:Nat)<1] (af.aj [(0:Nat)<1] (af.leaf au.ret [rat ((↑(d%i64.wrap (i64.wrap ((1:Int)+i64.wrap (d.tdiv (17:Int))%(12:Int))+1)):Rat)/(↑(i64.wrap ((1:Int)+i64.wrap (d.tdiv (17:Int))%(12:Int))):Rat)) 64])))):=ah
def ia (d:Int):Int:=1+i64.wrap (d.tdiv 17)%12
def dI (d:Int):Rat:=((d%(ia d+1):Int):Rat)/((ia d:Int):Rat)
def MN:Spec:=cw fun l=>match l with
 |[.int .i64 d]=>some (aT (.rat (dI d) 64) [])
 |_=>none
theorem T8:bF P MN 51:=by
 refine cX fun K args r hk hs _=>?_
 split at hs
 ·rename_i d
  simp only[aB]at hs
  subst hs
  refine cB hT (aM Jn (aM ET cK)) hm Tv rfl br rfl 60 SZ (fun _=>?_) K []
  unfold dI ia
  generalize i64.wrap (d.tdiv 17)=w at*
  have w1:=Int.emod_nonneg w (show(12:Int)≠0 by omega)
  have w2:=Int.emod_lt_of_pos w (show(0:Int)<12 by omega)
  generalize w%12=x at*
  have e1:i64.wrap (1+x)=1+x:=wrap_i64 aa aa
  have e2:i64.wrap (1+x+1)=1+x+1:=wrap_i64 aa aa
  rw[e1,e2]
  have v1:=Int.emod_nonneg d (show 1+x+1≠0 by omega)
  have v2:=Int.emod_lt_of_pos d (show 0<1+x+1 by omega)
  generalize d%(1+x+1)=y at*
  simp only[af.all,aF]
  exact⟨⟨aa,aa,aa⟩,⟨aa,aa,aa,aa,aa,aa,aa⟩,aa,.refl _⟩
 ·simp at hs
structure Kd (α:Type) where
 read:AV->Option α
 make:α->AV
 ok:∀{v:AV} {a:α},read v=some a->bg v (make a)
def DK:AV->Option (V3×Nat)
 |.agg [x,y,z]=>match pS x,pS y,pS z with
  |some (x,a),some (y,b),some (z,c)=>some (⟨x,y,z⟩,max a (max b c))
  |_,_,_=>none
 |_=>none
theorem Qq {v:AV} {a:V3×Nat} (h:DK v=some a):bg v (vA a.1 a.2):=by
 unfold DK at h
 split at h
 ·split at h
  ·rename_i h1 h2 h3
   simp only[aB]at h
   subst h
   exact m7 ⟨(zM h1).trans (fh rfl (by simp only;omega)),(zM h2).trans (fh rfl (by simp only;omega)),(zM h3).trans (fh rfl (by simp only;omega)),trivial⟩
  ·simp at h
 ·simp at h
def dV:Kd (V3×Nat):=⟨DK,fun a=>vA a.1 a.2,Qq⟩
section specs
variable {α β γ δ:Type} {f:FuncId}
end specs
def b1 {α:Type} (e:Nat) (a:α×Nat):Bool:=Nat.blt a.2 (2^e)
def b2 {α β:Type} (e:Nat) (a:α×Nat) (b:β×Nat):Bool:=Nat.blt a.2 (2^e)&&Nat.blt b.2 (2^e)
def b3 {α β γ:Type} (e:Nat) (a:α×Nat) (b:β×Nat) (c:γ×Nat):Bool:=Nat.blt a.2 (2^e)&&(Nat.blt b.2 (2^e)&&Nat.blt c.2 (2^e))
end Go.Am.B
namespace Go.Am.B
open Go Go.Am.N AV Proofs.Tryz IntKind
theorem VL:bC 148 f148:=bD func148
theorem XC:bC 93 f93:=bD func93
theorem aaH {q r:Rat} {n m:Nat}:cy T sJ [9] 60 f148 (aJ f148) ⟨bf 0 [.rat q n,.rat r m],[],0⟩=
  some (af.aj [(0:Nat)<1] (af.fork ((↑(nl r.num.natAbs):Int)==0) (af.aj [(0:Nat)<1] (af.aj [(0:Nat)<1] (af.leaf au.ret [agg [AV.bool false,mag 0,mag 0],int .i64 (3:Int)]))) (af.aj [(0:Nat)<1,(0:Nat)<1,(0:Nat)<1,(0:Nat)<1,nl q.num.natAbs<2^39,nl r.den<2^39,(0:Nat)<1,(0:Nat)<1,nl q.den<2^39,nl r.num.natAbs<2^39,nl (q.num.natAbs*r.den)<2^38,nl (q.den*r.num.natAbs)<2^38,q.den*r.num.natAbs≠0,(0:Nat)<1] (af.aj [(0:Nat)<1] (af.leaf au.ret [rat (sQ (decide (q<0)!=decide (r<0)) (q.num.natAbs*r.den) (q.den*r.num.natAbs)) (dR (sQ (decide (q<0)!=decide (r<0)) (q.num.natAbs*r.den) (q.den*r.num.natAbs))),int .i64 (0:Int)]))))):=ah
theorem W5 {q r:Rat} {n m:Nat} (hn:n<2^41) (hm':m<2^41) (K:Nat):aY P 148 K [.rat q n,.rat r m] [] (aT (.tuple [.rat (q/r) (n+m),.int .i64 (if r=0 then 3 else 0)]) []):=by
 refine lU fun⟨hq,hr,_⟩=>?_
 have hq:Sz q n:=hq
 have hr:Sz r m:=hr
 have d1:=q.den_nz
 have d2:=r.den_nz
 have a1:nl q.num.natAbs<2^38:=g8 hq.1 aa
 have a2:nl q.den<2^38:=g8 hq.2 aa
 have b1:nl r.num.natAbs<2^38:=g8 hr.1 aa
 have b2:nl r.den<2^38:=g8 hr.2 aa
 have m1:nl (q.num.natAbs*r.den)<2^38:=g8 (pX hq.1 hr.2) aa
 have m3:nl (q.den*r.num.natAbs)<2^38:=g8 (pX hq.2 hr.1) aa
 refine cB hT vX hm VL rfl br rfl 60 aaH (fun _=>?_) K []
 have key:((nl r.num.natAbs:Int)==0)=decide (r=0):=by
  by_cases h:r=0
  ·subst h;rfl
  ·have h1:r.num.natAbs≠0:=fun e=>h (oE.1 e)
   have:=iP.2 h1
   simp only[h,decide_false,beq_eq_false_iff_ne];omega
 rw[key]
 simp only[af.all,aF,bI,bO]
 refine⟨aa,fun h0=>?_,fun h0=>?_⟩
 ·refine⟨aa,aa,?_,cu (by rw[if_pos h0]),trivial⟩
  have e:q/r=0:=by rw[h0,Rat.div_def,Rat.inv_zero,Rat.mul_zero]
  obtain⟨k,hk⟩:∃k,n+m=k+1:=⟨n+m-1,by have:=hq.pos;omega⟩
  rw[e,hk]
  first|exact pH|exact o7 aa
 ·have hr0:r.num.natAbs≠0:=fun h=>h0 (oE.1 h)
  have hv:=C3 q r h0
  (repeat' with_reducible refine And.intro ?_ ?_)
  all_goals first|omega|exact m1|exact m3|exact Nat.mul_ne_zero d1 hr0|skip
  exact⟨fL hv (hq.div hr),cu (by rw[if_neg h0]),trivial⟩
def ID:bG:=[(148,kg kR kR Aa rm)]
theorem VV:cm P ID:=aM (kI fun _ _ K hn=>W5 hn.1 hn.2 K) cK
theorem X8 {q r:Rat} {n m:Nat}:cy T ID [] 60 f93 (aJ f93) ⟨bf 0 [.rat q n,.rat r m],[],0⟩=
  some (af.aj [(0:Nat)<1,(0:Nat)<1,n<2^41,m<2^41,(0:Nat)<1] (af.aj [(0:Nat)<1,(0:Nat)<1] (af.aj [(0:Nat)<1] (af.leaf au.ret [rat (q/r) (n+m)])))):=ah
theorem LX {q r:Rat} {n m:Nat} (hn:n<2^41) (hm':m<2^41) (K:Nat):aY P 93 K [.rat q n,.rat r m] [] (aT (.rat (q/r) (n+m)) []):=by
 refine cB hT VV hm XC rfl br rfl 60 X8 (fun _=>?_) K []
 simp only[af.all,aF]
 (repeat' with_reducible refine And.intro ?_ ?_)
 all_goals first|omega|exact bg.refl _
def JT (a b:Rat×Nat):AV:=rA (a.1/b.1) (a.2+b.2)
def kL (s:Nat):Kind (Nat×(Nat->Rat)):=⟨fun v=>match xC v with
 |some (n,f)=>some ((n,fun i=>aN (f i)),[cY f n s])
 |none=>none,fun a=>bT a.2 a.1 s,fun {v a q} h hq=>by
  split at h
  ·rename_i h1
   simp only[aB,Prod.mk.injEq]at h
   obtain⟨rfl,rfl⟩:=h
   exact YG h1 hq
  ·simp at h⟩
def ij (s:Nat):Kind Rat:=⟨fun v=>match pS v with
 |some (q,n)=>some (q,[n<=s])
 |none=>none,fun a=>.rat a s,fun {v a q} h hq=>by
  split at h
  ·rename_i h1
   simp only[aB,Prod.mk.injEq]at h
   obtain⟨rfl,rfl⟩:=h
   exact(zM h1).trans (o7 hq)
  ·simp at h⟩
structure yT (α:Type) where
 read:List AV->Option (α×List Prop)
 make:α->List AV
 ok:∀{l:List AV} {a:α} {q:List Prop},read l=some (a,q)->aF q->iq l (make a)
def kN:yT Unit:=⟨fun l=>match l with
 |[]=>some ((),[])
 |_=>none,fun _=>[],fun {l a q} h _=>by
  split at h
  ·trivial
  ·simp at h⟩
def kC {α β:Type} (k:Kind α) (kl:yT β):yT (α×β):=⟨fun l=>match l with
 |v::l=>match k.read v,kl.read l with
  |some (a,p),some (b,q)=>some ((a,b),p++q)
  |_,_=>none
 |[]=>none,fun a=>k.make a.1::kl.make a.2,fun {l a q} h hq=>by
  split at h
  ·split at h
   ·rename_i h1 h2
    simp only[aB,Prod.mk.injEq]at h
    obtain⟨rfl,rfl⟩:=h
    obtain⟨q1,q2⟩:=ir.1 hq
    exact⟨k.ok h1 q1,kl.ok h2 q2⟩
   ·simp at h
  ·simp at h⟩
def e9 {α:Type} (k:yT α) (g:α->AV) (need:α->List Prop):Spec:=cw fun l=>match k.read l with
 |some (a,p)=>some (aT (g a) (p++need a))
 |none=>none
theorem fj {α:Type} {f:FuncId} {k:yT α} {g:α->AV} {need:α->List Prop} (h:∀a K,aF (need a)->aY P f K (k.make a) [] (aT (g a) [])):bF P (e9 k g need) f:=by
 refine cX fun K args r hk hs _=>?_
 split at hs
 ·rename_i h1
  simp only[aB]at hs
  subst hs
  intro hn
  obtain⟨n1,hn⟩:=ir.1 hn
  exact je (h _ K hn) hk (k.ok h1 n1) [] trivial
 ·simp at hs
end Go.Am.B
namespace Go.Am
def gn (p:Nat->Rat):Nat->Nat->Rat
 |0,i=>p i
 |k+1,i=>gn p k (i+1)-gn p k i
def gO (n:Nat) (p:Nat->Rat) (k:Nat):Rat:=((bn (n-1) k:Int):Rat)*gn p k 0
def lC (n:Nat) (c:Nat->Rat) (i:Nat):Nat->Rat
 |0=>0
 |k+1=>lC n c i k+((bn i k:Int):Rat)/((bn (n-1) k:Int):Rat)*c k
def iX (n:Nat) (c:Nat->Rat) (i:Nat):Rat:=lC n c i (i+1)
def oL (m:Nat) (p:Nat->Rat) (k j:Nat):Rat:=gn p (min k (m-j)) j
def lX (m:Nat) (p:Nat->Rat) (k i j:Nat):Rat:=if j<i then gn p (k+1) j else oL m p k j
theorem Fl {m k j:Nat} {p:Nat->Rat} (h:k+j<=m):oL m p k j=gn p k j:=by unfold oL;rw[show min k (m-j)=k by omega]
theorem Q6 {m k j:Nat} {p:Nat->Rat}:lX m p k (m-k) j=oL m p (k+1) j:=by
 unfold lX oL
 split
 ·rw[show min (k+1) (m-j)=k+1 by omega]
 ·rw[show min (k+1) (m-j)=min k (m-j) by omega]
theorem XE {m k i j:Nat} {p:Nat->Rat} (h:i+k<m):(if j=i then lX m p k i (i+1)-lX m p k i i else lX m p k i j)=lX m p k (i+1) j:=by
 unfold lX
 by_cases h1:j=i
 ·subst h1
  rw[if_pos rfl,if_neg (by omega),if_neg (by omega),if_pos (by omega),Fl (by omega),Fl (by omega)];rfl
 ·rw[if_neg h1]
  by_cases h2:j<i
  ·rw[if_pos h2,if_pos (by omega)]
  ·rw[if_neg h2,if_neg (by omega)]
def cr (k:Nat->Rat):Nat->Nat
 |0=>0
 |n+1=>if k n=0 then cr k n else n+1
theorem fY {k:Nat->Rat}:∀{n:Nat},cr k n<=n
 |0=>Nat.le_refl _
 |n+1=>by unfold cr;split;exact Nat.le_succ_of_le fY;exact Nat.le_refl _
theorem Ge {k:Nat->Rat}:∀{n:Nat},0<cr k n->k (cr k n-1)≠0
 |0,h=>by simp[cr]at h
 |n+1,h=>by
  unfold cr at h ⊢
  split
  ·rename_i h1;rw[if_pos h1]at h;exact Ge h
  ·rename_i h1;simpa using h1
theorem DO {k:Nat->Rat}:∀{n i:Nat},cr k n<=i->i<n->k i=0
 |0,_,_,h=>absurd h (Nat.not_lt_zero _)
 |n+1,i,h,hi=>by
  unfold cr at h
  split at h
  ·rename_i h1
   rcases Nat.lt_or_ge i n with h2|h2
   ·exact DO h h2
   ·rw[show i=n by omega];exact h1
  ·omega
theorem xp {k:Nat->Rat} {n:Nat} (h:n=0\/k (n-1)≠0):cr k n=n:=by
 cases n with
 |zero=>rfl
 |succ n=>unfold cr;rw[if_neg (by simpa using h)]
theorem AL {k l:Nat->Rat}:∀{n:Nat},(∀i,i<n->k i=l i)->cr k n=cr l n
 |0,_=>rfl
 |n+1,h=>by unfold cr;rw[h n (by omega),AL fun i hi=>h i (by omega)]
theorem FG {k:Nat->Rat} {n:Nat}:∀{m:Nat},(∀i,n<=i->i<n+m->k i=0)->cr k (n+m)=cr k n
 |0,_=>rfl
 |m+1,h=>by
  show cr k (n+m+1)=_
  unfold cr
  rw[if_pos (h (n+m) (by omega) (by omega)),FG fun i h1 h2=>h i h1 (by omega)]
  cases n<;>rfl
end Go.Am
namespace Go.Am.B
open Go Go.Am.N AV af au IntKind Proofs.Tryz
def ag:Nat:=68719476736
def dF (n:Nat) (k:Nat->Rat):Prop:=∀i,i<n->Sz (k i) ag
abbrev zy:Code:=aJ f157
abbrev xb:List Nat:=[3,9,10,11]
abbrev CM (n:Nat) (k:Nat->Rat) (s i:Nat):List AV:=[.own 0 3 0 n,bT k n s,.int .i64 n,.int .i64 i]
def Il:Spec:=zl fun K l=>match l with
 |[v]=>match(kL ag).read v with
  |some ((n,k),q)=>some ⟨.own K 3 0 n,[(K,dL n k ag)],q++[n<2^40,dF n k]⟩
  |none=>none
 |_=>none
def rP:bG:=zG::(157,Il)::(158,CY)::gE
abbrev w8:Code:=aJ f115
abbrev yZ:Code:=part w8 [1,1,1,0,1,0,0]
abbrev wM:Code:=part yZ [1,1,0,0]
abbrev sS:List Nat:=[0,3,4,17,18,19]
abbrev zY (m:Nat) (p:Nat->Rat) (k:Nat):List AV:=[bT p (m+1) ag,.own 0 3 0 (m+1-k),.own 1 3 0 k,bT (fun i=>((bn m i:Int):Rat)) (m+1) 64,.int .i64 (m+1:Nat),.int .i64 k]
abbrev sF (m:Nat) (d x:Nat->Rat) (k:Nat):aG:=[(1,dL k x ag),(0,dL (m+1) d ag)]
abbrev xK:List Nat:=[0,3,4,17,18,19,38,39]
abbrev Gn (m:Nat) (p:Nat->Rat) (k i:Nat):List AV:=[bT p (m+1) ag,.own 0 3 0 (m+1-k),.own 1 3 0 (k+1),bT (fun i=>((bn m i:Int):Rat)) (m+1) 64,.int .i64 (m+1:Nat),.int .i64 k,.int .i64 (m-k:Nat),.int .i64 i]
theorem HH:bC 115 f115:=bD func115
theorem YU {m:Nat} {p:Nat->Rat}:aK T rP [] 60 sS (before w8 [1,1,1,0,1]) ⟨bf 0 [bT p (m+1) ag],[],0⟩=
  let c3:Nat:=m+1;let c4:Int:=(↑c3:Int);let c1:Int:=c4-1;let c2:Int:=if c1<0 then(0:Int)else c1;some (aj [cY (fun i=>rat (p i) ag) c3 ag,c3<2^40,dF c3 fun i=>aN (rat (p i) ag)] (aj [(0:Int)<=0/\(0:Int)<=c4/\c4<=2^47/\c4*(↑(56:Nat):Int)<=2^47] (aj [-(2:Int)^63<=c1/\c1<2^63,(0:Int)<=c2,c2<=40] (leaf normal ([az 3 c3 fun i=>rat (p i) ag,own 8192 3 0 c3,own 24576 3 0 0,az 3 (c2.toNat+1) fun i=>rat (↑(↑(bn c2.toNat i):Int):Rat) 64,int i64 (↑(c2.toNat+1):Int),int i64 0],[(24576,aC.mk true true 3 0 fun x=>rat 0 1),(8192,aC.mk true true 3 c3 fun i=>rat (aN (rat (p i) ag)) ag)]))))):=ah
theorem QN {m k:Nat} {p d x:Nat->Rat}:aK T rP [20] 60 sS (before yZ [1,1,0]) ⟨aH sS (zY m p k),sF m d x k,2⟩=
  let c2:Nat:=m+1;let c1:List AV×aG:=([az 3 c2 fun i=>rat (p i) ag,own 0 3 0 (c2-k),own 1 3 0 k,az 3 c2 fun i=>rat (↑(↑(bn m i):Int):Rat) 64,int i64 (↑c2:Int),int i64 (↑k:Int)],[(1,aC.mk true true 3 k fun i=>rat (x i) ag),(0,aC.mk true true 3 c2 fun i=>rat (d i) ag)]);some (fork (decide ((↑k:Int)<(↑c2:Int))) (leaf normal c1) (leaf (exit 0) c1)):=ah
theorem Vj {m k:Nat} {p d x:Nat->Rat}:aK T rP [200027] 60 xK (before wM [1,1,1,0,1]) ⟨aH sS (zY m p k),sF m d x k,2⟩=
  let c4:Int:=(↑k:Int);let c3:Nat:=Int.toNat (0:Int);let c1:Nat:=m+1;let c2:Int:=(↑(c1-k):Int)-1;some (aj [(0:Int)<=c4/\c4.toNat<c1,(0:Nat)<1] (aj [(c4==(↑c1:Int))=false] (aj [(0:Nat)<1,(0:Int)<=0/\c3<c1-k,c3+0<c1,(64:Nat)<2^42,ag<2^42,(1:Nat)*3<=2^24,(k+1)*((56:Nat)+1)*2<=2^47] (aj [-(2:Int)^63<=c2/\c2<2^63] (leaf normal ([az 3 c1 fun i=>rat (p i) ag,own 0 3 0 (c1-k),own 69634 3 0 (k+1),az 3 c1 fun i=>rat (↑(↑(bn m i):Int):Rat) 64,int i64 (↑c1:Int),int i64 c4,int i64 c2,int i64 0],[(69634,aC.mk true true 3 (k+1) fun i=>if i<k then rat (x i) ag else nth [rat ((↑(↑(bn m c4.toNat):Int):Rat)*d (c3+0)) ((64:Nat)+ag)] (rat 0 1) (i-k+0)),(0,aC.mk true true 3 c1 fun i=>rat (d i) ag)])))))):=ah
theorem Xe {m k i:Nat} {p d x:Nat->Rat}:aK T rP [40] 60 xK [part wM [1,1,1,0,1,0,0]] ⟨aH xK (Gn m p k i),sF m d x (k+1),2⟩=
  let c13:Prop:=ag<2^42;let c11:Int:=(↑(m-k):Int);let c9:AV:=own 1 3 0 (k+1);let c7:Int:=(↑i:Int);let c6:Int:=(2:Int)^63;let c4:Nat×aC:=(1,aC.mk true true 3 (k+1) fun i=>rat (x i) ag);let c2:Nat:=m+1;let c12:Prop:=(0:Int)<=c7/\c7.toNat<c2-k;let c10:AV:=own 0 3 0 (c2-k);let c8:AV:=az 3 c2 fun i=>rat (p i) ag;let c5:AV:=az 3 c2 fun i=>rat (↑(↑(bn m i):Int):Rat) 64;let c3:Nat:=c7.toNat+0;let c1:Int:=c7+1;some (fork (decide (c7<c11)) (aj [-c6<=c1/\c1<c6,(0:Int)<=c1/\c1.toNat<c2-k,c1.toNat+0<c2,c12,c3<c2,c13,c13,c12,c3<c2] (aj [-c6<=c1/\c1<c6] (leaf normal ([c8,c10,c9,c5,int i64 (↑c2:Int),int i64 (↑k:Int),int i64 c11,int i64 c1],[c4,(0,aC.mk true true 3 c2 fun j=>rat (bif j==c3 then d (c1.toNat+0)-d c3 else d j) (bif j==c3 then ag+ag+1 else ag))])))) (leaf (exit 2) ([c8,c10,c9,c5,int i64 (↑c2:Int),int i64 (↑k:Int),int i64 c11,int i64 c7],[c4,(0,aC.mk true true 3 c2 fun i=>rat (d i) ag)]))):=ah
theorem RX {m k i:Nat} {p d x:Nat->Rat}:aK T rP [] 60 sS (behind wM [1,1,1,0,1]++[part yZ [1,1,1]]) ⟨aH xK (Gn m p k i),sF m d x (k+1),2⟩=
  let c4:Int:=(↑k:Int)+1;let c3:Nat:=m+1;let c2:Int:=(2:Int)^63;let c1:Int:=(↑(c3-k):Int)-1;some (aj [-c2<=c1/\c1<c2,(0:Int)<=0/\(0:Int)<=c1/\c1<=c1/\c1<=(↑(c3-k):Int)] (aj [-c2<=c4/\c4<c2] (leaf normal ([az 3 c3 fun i=>rat (p i) ag,own 0 3 0 (c1.toNat-Int.toNat (0:Int)),own 1 3 0 (k+1),az 3 c3 fun i=>rat (↑(↑(bn m i):Int):Rat) 64,int i64 (↑c3:Int),int i64 c4],[(1,aC.mk true true 3 (k+1) fun i=>rat (x i) ag),(0,aC.mk true true 3 c3 fun i=>rat (d i) ag)])))):=ah
theorem aam {m k:Nat} {p d x:Nat->Rat}:dK T rP [] 60 f115 [part w8 [1,1,1,1]] ⟨aH sS (zY m p k),sF m d x k,2⟩=
  some (leaf ret [az 3 k fun i=>rat (x (i+0)) ag]):=ah
theorem MM:bC 157 f157:=bD func157
theorem VP {n s:Nat} {k:Nat->Rat}:aK T GZ [] 60 xb (before zy [1,1,0,1]) ⟨bf 0 [bT k n s],[],0⟩=
  let c1:Int:=(↑n:Int);some (aj [(0:Int)<=c1/\c1<=c1/\c1<=2^47/\c1*(↑(56:Nat):Int)<=2^47] (leaf normal ([own 12288 3 0 c1.toNat,az 3 n fun i=>rat (k i) s,int i64 c1,int i64 0],[(12288,aC.mk true true 3 c1.toNat fun x=>rat 0 1)]))):=ah
theorem PU {n s i:Nat} {k x:Nat->Rat}:aK T GZ [12] 60 xb [part zy [1,1,0,1,0,0]] ⟨aH xb (CM n k s i),[(0,dL n x ag)],1⟩=
  let c7:Int:=(↑n:Int);let c4:AV:=own 0 3 0 n;let c3:AV:=az 3 n fun i=>rat (k i) s;let c1:Int:=(↑i:Int);let c6:Int:=c1+1;let c5:Prop:=(0:Int)<=c1/\c1.toNat<n;let c2:Nat:=c1.toNat+0;some (fork (decide (c1<c7)) (aj [c5,(0:Nat)<1] (aj [(0:Nat)<1,s<2^42,(1:Nat)<2^42,c5,c2<n] (aj [-(2:Int)^63<=c6/\c6<2^63] (leaf normal ([c4,c3,int i64 c7,int i64 c6],[(0,aC.mk true true 3 n fun j=>rat (bif j==c2 then k c1.toNat+0 else x j) (bif j==c2 then s+1+1 else ag))]))))) (leaf (exit 0) ([c4,c3,int i64 c7,int i64 c1],[(0,aC.mk true true 3 n fun i=>rat (x i) ag)]))):=ah
theorem abO {n s i:Nat} {k x:Nat->Rat}:aK T GZ [] 60 [2] [part zy [1,1,1]] ⟨aH xb (CM n k s i),[(0,dL n x ag)],1⟩=
  some (leaf ret ([own 0 3 0 n],[(0,aC.mk true true 3 n fun i=>rat (x i) ag)])):=ah
theorem de:ag=2^36:=rfl
theorem qz {rl:List (Nat×Nat)} {i j zt z w:Nat} {t:Rat} {x y:Nat->Rat} (h1:bg (.rat t zt) (.rat (y i) w)) (h2:j≠i->bg (.rat (x j) z) (.rat (y j) w)):qO rl (.rat (bif j==i then t else x j) (bif j==i then zt else z)) (.rat (y j) w):=by
 refine .inr ⟨rfl,?_⟩
 by_cases h:j=i
 ·subst h;rw[beq_self_eq_true];exact h1
 ·rw[show(j==i)=false by simpa using h];exact h2 h
theorem M6 {α:Type} {i j:Nat} {a b:α} (h:j≠i):(if j<i+1 then a else b)=if j<i then a else b:=by
 by_cases h1:j<i
 ·rw[if_pos h1,if_pos aa]
 ·rw[if_neg h1,if_neg aa]
theorem Xu {args:List AV} {n:Nat} {k:Nat->Rat} {l:List Prop} (ha:aF l->iU (bH []) args [bT k n ag]) (hn:aF l->n<2^40/\dF n k) (K:Nat):aY P 157 K args [] ⟨pZ [.own K 3 0 n],[(K,dL n k ag)],l⟩:=by
 refine NM hT MM ha br fun need c hk=>?_
 obtain⟨hn,hz⟩:=hn need
 have hW:=de
 refine aA.qS hT pI hm [1,1,0,1] (i:=0) (y:=part zy [1,1,0,1,0,0]) (z:=part zy [1,1,1]) ah ah ah MM.dst hk (f1:=[]) (f2:=[12]) 60 xb 1 (fun i:Nat=>CM n k ag i) (fun i=>[(0,dL n (fun j=>if j<i then k j else 0) ag)])
  (fun i=>i<=n) (fun i=>i=n) (fun i=>n-i) (fun _=>False) ⟨_,VP,?_⟩ (fun i hi=>⟨_,PU,?_⟩) (fun i hi=>?_) (fun _ _ h=>h.elim)
 ·simp only[af.all,aF,bJ]
  exact⟨aa,0,Nat.zero_le _,[(0,12288)],rfl,rfl,rfl,bX rfl rfl rfl (fun i hi=>.inr ⟨rfl,fh (if_neg (Nat.not_lt_zero i)).symm aa⟩) trivial⟩
 ·simp only[af.all,aF,bI,bO,bJ,Nat.add_zero]
  refine⟨fun h2=>⟨aa,aa,aa,i+1,aa,by dsimp only;omega,[(0,0)],rfl,rfl,rfl,bX rfl rfl rfl (fun j hj=>?_) trivial⟩,fun h2=>⟨rfl,i,aa,[(0,0)],rfl,rfl,rfl,bX rfl rfl rfl (fun j hj=>cA rfl rfl) trivial⟩⟩
  exact qz (x:=fun j=>if j<i then k j else 0) (y:=fun j=>if j<i+1 then k j else 0) (fL ((Rat.add_zero _).trans (if_pos (Nat.lt_succ_self i)).symm) (by show Sz (if i<i+1 then _ else _) _;rw[if_pos (Nat.lt_succ_self i)];exact hz i aa)) fun hj=>fh (M6 hj).symm aX
 ·subst hi
  refine aA.bM hT pI hm 60 [2] abO ah fun s' hs'=>⟨.inr rfl,[2],_,[.own 0 3 0 i],_,0,_,hs',ah,⟨⟨rfl,eR (by simp[bH,look]) rfl rfl⟩,trivial⟩,rfl,jj rfl fun j hj=>?_⟩
  rw[if_pos hj];exact jO rfl
theorem QI:bF P Il 157:=by
 refine CS fun K args r hk hs=>?_
 split at hs
 ·rename_i v
  split at hs
  ·rename_i n k q hv
   simp only[aB]at hs
   subst hs
   exact Xu (fun hn=>Lw hk (by cases v<;>first|rfl|simp[kL,xC]at hv) ⟨(kL ag).ok hv (ir.1 hn).1,trivial⟩) (fun hn=>have:=(ir (a:=q) (b:=[n<2^40,dF n k]).1 hn).2;⟨this.1,this.2⟩) K
  ·simp at hs
 ·simp at hs
theorem KN:cm P rP:=jA (aM QI (aM Ou gV))
theorem dF.up {n:Nat} {k:Nat->Rat} {i z:Nat} (h:dF n k) (hi:i<n):bg (.rat (k i) z) (.rat (k i) ag):=fL rfl (h i hi)
def wN (n:Nat) (p:Nat->Rat):Prop:=(∀k i,k+i<n->Sz (gn p k i) ag)/\dF n (gO n p)
theorem Rq {m:Nat} {p:Nat->Rat} (hm1:m<=40) (hz:wN (m+1) p) (K:Nat):aY P 115 K [bT p (m+1) ag] [] (aT (bT (gO (m+1) p) (m+1) ag) []):=by
 refine iY (r:=aT (bT (gO (m+1) p) (m+1) ag) []) hT HH rfl br rfl (fun _ cx h0=>?_) K []
 have hk:=ou h0
 have hW:=de
 have hd:∀k i,k+i<=m->Sz (gn p k i) ag:=fun k i h=>hz.1 k i aa
 refine aA.we hT KN hm (x:=w8) [1,1,1,0,1] (i:=0) (y:=yZ) (z:=part w8 [1,1,1,1]) ah ah ah HH.dst [1,1,0] (j:=1) (x1:=wM) (zb:=part yZ [1,1,1]) ah ah ah [1,1,1,0,1] (i2:=2) (y2:=part wM [1,1,1,0,1,0,0]) ah ah rfl hk
  (f1:=[]) (f2:=[20]) (f3:=[200027]) (f4:=[40]) (f5:=[]) 60 sS xK 2 2 (fun k:Nat=>zY m p k) (fun k=>sF m (oL m p k) (gO (m+1) p) k) (fun k=>k<=m+1) (fun k=>k=m+1) (fun k=>m+1-k) (fun k=>k<m+1) (fun _=>False) (fun _=>False)
  (fun k (i:Nat)=>Gn m p k i) (fun k i=>sF m (lX m p k i) (gO (m+1) p) (k+1)) (fun k i=>i<=m-k) (fun k i=>i=m-k) (fun k i=>m-k-i)
  ⟨_,YU,?_⟩ (fun k hk=>⟨_,QN,?_⟩) (fun k hk hG=>⟨_,Vj,?_⟩) (fun k hk hG i hi=>⟨_,Xe,?_⟩) (fun k hk hG i hi=>⟨_,RX,?_⟩) (fun k hk=>?_) (fun _ _ h=>h.elim) (fun _ _ h=>h.elim)
 ·simp only[af.all,aF]
  have e1:(if((m+1:Nat):Int)-1<0 then 0 else((m+1:Nat):Int)-1)=(m:Nat):=by rw[if_neg aa];omega
  rw[e1]
  refine⟨⟨eF aX,aa,fun i hi=>hd 0 i aa⟩,aa,aa,0,aa,[(0,8192),(1,24576)],rfl,rfl,rfl,bX rfl rfl rfl (fun i hi=>absurd hi (Nat.not_lt_zero i)) (bX rfl rfl rfl (fun i hi=>cA rfl ?_) trivial)⟩
  show AV.rat (p i) ag=AV.rat (oL m p 0 i) ag
  unfold oL;rw[Nat.zero_min];rfl
 ·simp only[af.all,aF,bI,bO]
  exact⟨fun h=>⟨aa,[(0,0),(1,1)],rfl,rfl,rfl,bX rfl rfl rfl (fun i hi=>cA rfl rfl) (bX rfl rfl rfl (fun i hi=>cA rfl rfl) trivial)⟩,fun h=>⟨rfl,k,aa,[(0,0),(1,1)],rfl,rfl,rfl,bX rfl rfl rfl (fun i hi=>cA rfl rfl) (bX rfl rfl rfl (fun i hi=>cA rfl rfl) trivial)⟩⟩
 ·simp only[af.all,aF,bJ,beq_eq_false_iff_ne]
  have e0:(0:Int).toNat=0:=rfl
  refine⟨aa,aa,aa,aa,0,aa,[(0,0),(1,69634)],rfl,?_,rfl,bX rfl rfl rfl (fun i hi=>?_) (bX rfl rfl rfl (fun i hi=>cA rfl ?_) trivial)⟩
  ·rw[show((m+1-k:Nat):Int)-1=(m-k:Nat) by omega];rfl
  ·refine .inr ⟨?_,?_⟩
   ·split
    ·rfl
    ·rw[show i-k+0=0 by omega];rfl
   ·split
    ·exact .refl _
    ·rw[show i-k+0=0 by omega,show i=k by omega]
     exact fL (by rw[Fl aa];rfl) (hz.2 k hG)
  ·show AV.rat (oL m p k i) ag=AV.rat (lX m p k 0 i) ag
   unfold lX;rw[if_neg (Nat.not_lt_zero i)]
 ·simp only[af.all,aF,bI,bO,bJ,Nat.add_zero]
  have e1:((i:Int)+1).toNat=i+1:=aa
  rw[e1]
  refine⟨fun h=>⟨aa,aa,i+1,aa,by dsimp only;omega,[(0,0),(1,1)],rfl,rfl,rfl,bX rfl rfl rfl (fun j hj=>cA rfl rfl) (bX rfl rfl rfl (fun j hj=>?_) trivial)⟩,fun h=>⟨rfl,i,aa,[(0,0),(1,1)],rfl,rfl,rfl,bX rfl rfl rfl (fun j hj=>cA rfl rfl) (bX rfl rfl rfl (fun j hj=>cA rfl rfl) trivial)⟩⟩
  have h3:=fun j=>XE (m:=m) (k:=k) (i:=i) (j:=j) (p:=p) aa
  exact qz (x:=lX m p k i) (y:=lX m p k (i+1)) (fL ((if_pos rfl).symm.trans (h3 i)) (by unfold lX;rw[if_pos (Nat.lt_succ_self i)];exact hd _ _ aa)) fun hj=>fh ((if_neg hj).symm.trans (h3 j)) aX
 ·subst hi
  simp only[af.all,aF]
  refine⟨aa,aa,k+1,aa,by dsimp only;omega,[(0,0),(1,1)],rfl,?_,rfl,bX rfl rfl rfl (fun j hj=>cA rfl rfl) (bX rfl rfl rfl (fun j hj=>cA rfl ?_) trivial)⟩
  ·rw[show(((m+1-k:Nat):Int)-1).toNat-(0:Int).toNat=m+1-(k+1) by omega];rfl
  ·show AV.rat (lX m p k (m-k) j) ag=AV.rat (oL m p (k+1) j) ag
   rw[Q6]
 ·subst hk
  exact aA.oN ((aI.fin hT KN hm 60 aam ah (ki fun _ _=>.refl _)).mono fun _ _ h=>.inl h)
def HK:Spec:=e9 (kC (kL ag) kN) (fun a=>bT (gO a.1.1 a.1.2) a.1.1 ag) fun a=>[1<=a.1.1,a.1.1<=41,wN a.1.1 a.1.2]
theorem Wh:bF P HK 115:=fj fun⟨⟨n,p⟩,_⟩ K hn=>by
 obtain⟨h1,h2,h3⟩:=hn
 simp only at h1 h2 h3
 obtain⟨m,rfl⟩:∃m,n=m+1:=⟨n-1,aa⟩
 exact Rq aa h3 K
end Go.Am.B
namespace Go.Am
def iE (e:Nat) (d:Nat->Rat) (k:Nat) (r:Nat->Rat) (i:Nat):Rat:=if k<=i/\i<k+e+1 then r i-r (k+e)/d e*d (i-k)else r i
def cM (e:Nat) (d a:Nat->Rat) (R:Nat):Nat->Nat->Rat
 |0=>a
 |j+1=>iE e d (R-1-j) (cM e d a R j)
def fK (e:Nat) (d a:Nat->Rat) (R k:Nat):Rat:=cM e d a R (R-1-k) (k+e)/d e
theorem Jj {e k:Nat} {d r:Nat->Rat} (hd:d e≠0):iE e d k r (k+e)=0:=by
 unfold iE
 rw[if_pos (by omega),show k+e-k=e by omega,Rat.div_mul_cancel hd,Rat.sub_self]
theorem Ue {e k:Nat} {d r:Nat->Rat} (h:r (k+e)=0):iE e d k r=r:=by
 funext i
 unfold iE
 split
 ·rw[h,Rat.div_def,Rat.zero_mul,Rat.zero_mul];grind
 ·rfl
section
variable {n e R:Nat} {d a:Nat->Rat}
def fP (n R L:Nat):Nat:=min (n-L) R
theorem G6 (hR:R=n-e) {L:Nat} (hL:L<=n) (hz:∀i,L<=i->i<n->cM e d a R (fP n R L) i=0):∀m,m<=L->(∀i,L-m<=i->i<n->cM e d a R (fP n R L) i=0)->cM e d a R (fP n R (L-m))=cM e d a R (fP n R L)
 |0,_,_=>rfl
 |m+1,hm,h=>by
  have ih:=G6 hR hL hz m (by omega) (fun i h1 h2=>h i (by omega) h2)
  rw[<-ih]
  by_cases h1:n-(L-m)<R
  ·rw[show fP n R (L-(m+1))=n-(L-m)+1 by unfold fP;omega,show fP n R (L-m)=n-(L-m) by unfold fP;omega]
   show iE e d (R-1-(n-(L-m))) (cM e d a R (n-(L-m)))=_
   refine Ue ?_
   rw[show n-(L-m)=fP n R (L-m) by unfold fP;omega,ih]
   exact h _ (by unfold fP;omega) (by unfold fP;omega)
  ·rw[show fP n R (L-(m+1))=fP n R (L-m) by unfold fP;omega]
structure k9 (n e R:Nat) (d a:Nat->Rat) (L:Nat) (x q:Nat->Rat):Prop where
 le:L<=n
 xX:∀i,i<L->x i=cM e d a R (fP n R L) i
 zero:∀i,L<=i->i<n->cM e d a R (fP n R L) i=0
 top:L=0\/cM e d a R (fP n R L) (L-1)≠0
 quo:∀k,k<R->q k=if k+e<L then 0 else fK e d a R k
theorem k9.start (hR:R=n-e) (ha:n=0\/a (n-1)≠0):k9 n e R d a n a fun _=>0 where
 le:=Nat.le_refl _
 xX i hi:=by rw[show fP n R n=0 by unfold fP;omega];rfl
 zero i h1 h2:=by omega
 top:=by rw[show fP n R n=0 by unfold fP;omega];exact ha
 quo k hk:=by rw[if_pos (by omega)]
def jm (e:Nat) (d x:Nat->Rat) (k:Nat) (f:Rat) (i j:Nat):Rat:=if k<=j/\j<k+i then x j-f*d (j-k)else x j
variable {L:Nat} {x q:Nat->Rat}
theorem k9.quot (hR:R=n-e) (h:k9 n e R d a L x q) (hL:e<L):x (L-1)/d e=fK e d a R (L-1-e):=by
 have:=h.le
 unfold fK
 rw[h.xX _ (by omega),show fP n R L=R-1-(L-1-e) by unfold fP;omega,show L-1-e+e=L-1 by omega]
theorem k9.Nx (hR:R=n-e) (h:k9 n e R d a L x q) (hL:e<L) {i j:Nat} (hi:i<=e) (hj:j<L-1) (hij:j<L-1-e+i):jm e d x (L-1-e) (x (L-1)/d e) i j=cM e d a R (n-L+1) j:=by
 have hl:=h.le
 have e1:fP n R L=n-L:=by unfold fP;omega
 show _=iE e d (R-1-(n-L)) (cM e d a R (n-L)) j
 rw[show R-1-(n-L)=L-1-e by omega]
 unfold jm iE
 rw[show L-1-e+e=L-1 by omega,<-e1,<-h.xX j (by omega),<-h.xX (L-1) (by omega)]
 by_cases hk:L-1-e<=j
 ·rw[if_pos ⟨hk,hij⟩,if_pos (by omega)]
 ·rw[if_neg (by omega),if_neg (by omega)]
theorem k9.next (hR:R=n-e) (hd:d e≠0) (h:k9 n e R d a L x q) (hL:e<L):
  k9 n e R d a (cr (jm e d x (L-1-e) (x (L-1)/d e) e) (L-1)) (jm e d x (L-1-e) (x (L-1)/d e) e) fun j=>if j=L-1-e then x (L-1)/d e else q j:=by
 have hl:=h.le
 have hu:∀j,j<L-1->jm e d x (L-1-e) (x (L-1)/d e) e j=cM e d a R (n-L+1) j:=fun j hj=>h.Nx hR hL (Nat.le_refl _) hj (by omega)
 have e1:fP n R L=n-L:=by unfold fP;omega
 have e2:fP n R (L-1)=n-L+1:=by unfold fP;omega
 obtain⟨M,hM⟩:∃M,M=cr (jm e d x (L-1-e) (x (L-1)/d e) e) (L-1):=⟨_,rfl⟩
 have hM2:M=cr (cM e d a R (n-L+1)) (L-1):=by rw[hM];exact AL hu
 have hMl:M<=L-1:=by rw[hM2];exact fY
 have hz1:∀i,L-1<=i->i<n->cM e d a R (n-L+1) i=0:=fun i h1 h2=>by
  show iE e d (R-1-(n-L)) (cM e d a R (n-L)) i=0
  rw[show R-1-(n-L)=L-1-e by omega]
  by_cases h3:i=L-1
  ·have:=Jj (k:=L-1-e) (r:=cM e d a R (n-L)) hd
   rwa [show L-1-e+e=i by omega]at this
  ·unfold iE
   rw[if_neg (by omega),<-e1]
   exact h.zero i (by omega) h2
 have hz:∀i,M<=i->i<n->cM e d a R (n-L+1) i=0:=fun i h1 h2=>by
  rcases Nat.lt_or_ge i (L-1)with h3|h3
  ·exact DO (by rw[<-hM2];exact h1) h3
  ·exact hz1 i h3 h2
 have hs:cM e d a R (fP n R M)=cM e d a R (n-L+1):=by
  have:=G6 (d:=d) (a:=a) hR (L:=L-1) (by omega) (by rw[e2];exact hz1) (L-1-M) (by omega) (by rw[e2,show L-1-(L-1-M)=M by omega];exact hz)
  rwa [show L-1-(L-1-M)=M by omega,e2]at this
 rw[<-hM]
 refine⟨by omega,fun i hi=>by rw[hs];exact hu i (by omega),fun i h1 h2=>by rw[hs];exact hz i h1 h2,?_,fun k hk=>?_⟩
 ·rw[hs]
  rcases Nat.eq_zero_or_pos M with h0|h0
  ·exact .inl h0
  ·right
   rw[hM2]at h0 ⊢
   exact Ge h0
 ·show(if k=L-1-e then x (L-1)/d e else q k)=_
  by_cases h1:k=L-1-e
  ·rw[if_pos h1,if_neg (by omega),h.quot hR hL,h1]
  ·rw[if_neg h1,h.quo k hk]
   by_cases h2:k+e<M
   ·rw[if_pos h2,if_pos (by omega)]
   ·rw[if_neg h2]
    by_cases h3:k+e<L
    ·rw[if_pos h3]
     -- a round that did nothing
     have hk2:k+e<L-1:=by omega
     unfold fK
     have e3:=G6 (d:=d) (a:=a) hR (L:=L-1) (by omega) (by rw[e2];exact hz1) (L-1-(k+e+1)) (by omega) (by rw[e2,show L-1-(L-1-(k+e+1))=k+e+1 by omega];exact fun i h1 h2=>hz i (by omega) h2)
     rw[show L-1-(L-1-(k+e+1))=k+e+1 by omega,e2]at e3
     rw[show R-1-k=fP n R (k+e+1) by unfold fP;omega,e3,hz (k+e) (by omega) (by omega),Rat.div_def,Rat.zero_mul]
    ·rw[if_neg h3]
theorem k9.fin (hR:R=n-e) (h:k9 n e R d a L x q) (hL:L<=e):L=cr (cM e d a R R) n/\(∀i,i<L->x i=cM e d a R R i)/\∀k,k<R->q k=fK e d a R k:=by
 have hl:=h.le
 have e1:fP n R L=R:=by unfold fP;omega
 have hz:=h.zero
 have ht:=h.top
 have ha:=h.xX
 rw[e1]at hz ht ha
 refine⟨?_,ha,fun k hk=>by rw[h.quo k hk,if_neg (by omega)]⟩
 have:=FG (k:=cM e d a R R) (n:=L) (m:=n-L) fun i h1 h2=>hz i h1 (by omega)
 rw[show L+(n-L)=n by omega,xp ht]at this
 exact this.symm
end
end Go.Am
namespace Go.Am
abbrev PP:=Nat×(Nat->Rat)
def fl (a d:PP):PP:=(cr (cM (d.1-1) d.2 a.2 (a.1-(d.1-1)) (a.1-(d.1-1))) a.1,cM (d.1-1) d.2 a.2 (a.1-(d.1-1)) (a.1-(d.1-1)))
def gN (a d:PP):PP:=(cr (fK (d.1-1) d.2 a.2 (a.1-(d.1-1))) (a.1-(d.1-1)),fK (d.1-1) d.2 a.2 (a.1-(d.1-1)))
def cS (n:Nat) (c:Nat->Rat) (i:Nat):Rat:=c i/c (n-1)
def gm (a:PP):PP:=(a.1,cS a.1 a.2)
def dD (c:Nat->Rat) (i:Nat):Rat:=((i+1:Nat):Int)*c (i+1)
def bh (a:PP):PP:=(cr (dD a.2) (a.1-1),dD a.2)
def Trim (a:PP):Prop:=a.1=0\/a.2 (a.1-1)≠0
theorem mJ {k:Nat->Rat} {n:Nat}:Trim (cr k n,k):=by
 rcases Nat.eq_zero_or_pos (cr k n)with h|h
 ·exact .inl h
 ·exact .inr (Ge h)
theorem tH {a d:PP}:Trim (fl a d):=mJ
theorem Az {a d:PP}:Trim (gN a d):=mJ
theorem dZ {a:PP}:Trim (bh a):=mJ
theorem nZ {a:PP} (h:Trim a):Trim (gm a):=by
 rcases h with h|h
 ·exact .inl h
 ·right
  show cS a.1 a.2 (a.1-1)≠0
  unfold cS
  rw[Rat.div_def,Rat.mul_inv_cancel _ h];decide
theorem Jt {n e R:Nat} {d a:Nat->Rat} (hR:R=n-e) (hd:d e≠0):∀j,j<=R->∀i,n-j<=i->i<n->cM e d a R j i=0
 |0,_,i,h1,h2=>by omega
 |j+1,hj,i,h1,h2=>by
  show iE e d (R-1-j) (cM e d a R j) i=0
  by_cases h:i=R-1-j+e
  ·rw[h];exact Jj hd
  ·unfold iE
   rw[if_neg (by omega)]
   exact Jt hR hd j (by omega) i (by omega) h2
theorem o9 {a d:PP} (hd:0<d.1) (ht:Trim d):(fl a d).1<d.1:=by
 show cr _ _<_
 have h0:d.2 (d.1-1)≠0:=by rcases ht with h|h;omega;exact h
 have:=fun i=>Jt (n:=a.1) (a:=a.2) (rfl) h0 _ (Nat.le_refl (a.1-(d.1-1))) i
 rcases Nat.lt_or_ge a.1 d.1 with h|h
 ·exact Nat.lt_of_le_of_lt fY h
 ·have e1:=FG (k:=cM (d.1-1) d.2 a.2 (a.1-(d.1-1)) (a.1-(d.1-1))) (n:=d.1-1) (m:=a.1-(d.1-1)) fun i h1 h2=>this i (by omega) (by omega)
  rw[show d.1-1+(a.1-(d.1-1))=a.1 by omega]at e1
  rw[e1]
  have:=fY (k:=cM (d.1-1) d.2 a.2 (a.1-(d.1-1)) (a.1-(d.1-1))) (n:=d.1-1)
  omega
def gF (s:PP×PP):PP×PP:=if s.2.1=0 then s else(s.2,gm (fl s.1 s.2))
def ct (s:PP×PP):Nat->PP×PP
 |0=>s
 |j+1=>gF (ct s j)
theorem mz {s:PP×PP} (h1:Trim s.1) (h2:Trim s.2):∀j,Trim (ct s j).1/\Trim (ct s j).2
 |0=>⟨h1,h2⟩
 |j+1=>by
  have:=mz h1 h2 j
  show Trim (gF _).1/\Trim (gF _).2
  unfold gF
  split
  ·exact this
  ·exact⟨this.2,nZ tH⟩
theorem zV {s:PP×PP} (h1:Trim s.1) (h2:Trim s.2):∀j,(ct s j).2.1<=s.2.1-j
 |0=>Nat.le_refl _
 |j+1=>by
  have:=zV h1 h2 j
  have ht:=mz h1 h2 j
  show(gF _).2.1<=_
  unfold gF
  split
  ·rename_i h;rw[h];exact Nat.zero_le _
  ·rename_i h
   have:=o9 (a:=(ct s j).1) (d:=(ct s j).2) (by omega) ht.2
   show(fl _ _).1<=_
   omega
theorem Hw {s:PP×PP} {j:Nat} (h:(ct s j).2.1=0):∀m,ct s (j+m)=ct s j
 |0=>rfl
 |m+1=>by
  show gF (ct s (j+m))=_
  rw[Hw h m]
  unfold gF
  rw[if_pos h]
theorem s7 {s:PP×PP} (h:0<s.1.1):∀j,0<(ct s j).1.1
 |0=>h
 |j+1=>by
  have:=s7 h j
  show 0<(gF _).1.1
  unfold gF
  split
  ·exact this
  ·dsimp only;omega
theorem z7 {s:PP×PP} {B:Nat} (ha:s.1.1<=B) (hb:s.2.1<=B) (h1:Trim s.1) (h2:Trim s.2):∀j,(ct s j).1.1<=B
 |0=>ha
 |j+1=>by
  have:=z7 ha hb h1 h2 j
  have h3:=zV h1 h2 j
  show(gF _).1.1<=_
  unfold gF
  split
  ·exact this
  ·dsimp only;omega
def bK (a b:PP):PP:=gm (ct (a,b) b.1).1
theorem XM {a b:PP} (h1:Trim a) (h2:Trim b) {j:Nat} (hj:j<=b.1) (h:(ct (a,b) j).2.1=0):gm (ct (a,b) j).1=bK a b:=by
 have:=Hw h (b.1-j)
 rw[show j+(b.1-j)=b.1 by omega]at this
 unfold bK
 rw[this]
theorem jX {a b:PP} (h1:Trim a) (h2:Trim b):Trim (bK a b):=nZ (mz (s:=(a,b)) h1 h2 _).1
theorem mF {a b:PP} (h:0<a.1):0<(bK a b).1:=s7 (s:=(a,b)) h _
def aW (a:PP):PP:=if a.1=0 then(0,a.2)else gm (gN a (bK a (bh a)))
def mD (s:PP×PP):PP×PP:=(s.2,((fl s.1 s.2).1,fun i=>((-1:Int):Rat)*(fl s.1 s.2).2 i))
def bZ (s:PP×PP):Nat->PP×PP
 |0=>s
 |j+1=>mD (bZ s j)
theorem vZ {a:PP} {r:Rat} (h:Trim a) (hr:r≠0):Trim (a.1,fun i=>r*a.2 i):=by
 rcases h with h|h
 ·exact .inl h
 ·right
  show r*a.2 (a.1-1)≠0
  intro h0
  rcases Rat.mul_eq_zero.1 h0 with h1|h1
  ·exact hr h1
  ·exact h h1
theorem nM {s:PP×PP} (h1:Trim s.1) (h2:Trim s.2):∀j,Trim (bZ s j).1/\Trim (bZ s j).2
 |0=>⟨h1,h2⟩
 |j+1=>⟨(nM h1 h2 j).2,vZ (a:=fl (bZ s j).1 (bZ s j).2) tH (by decide)⟩
def stM (s:PP×PP):Nat->Nat->Nat
 |0,j=>j
 |f+1,j=>if(bZ s j).2.1=0 then j else stM s f (j+1)
def fk (s:PP×PP):Nat:=stM s s.2.1 0
theorem MP {s:PP×PP} (h1:Trim s.1) (h2:Trim s.2):∀f j,(bZ s j).2.1<=f->j<=stM s f j/\stM s f j<=j+f/\(bZ s (stM s f j)).2.1=0/\∀i,j<=i->i<stM s f j->(bZ s i).2.1≠0
 |0,j,h=>⟨Nat.le_refl _,by show j<=_;omega,by show(bZ s j).2.1=0;omega,fun i h1 h2=>by have:i<j:=h2;omega⟩
 |f+1,j,h=>by
  unfold stM
  split
  ·rename_i h0
   exact⟨Nat.le_refl _,by omega,h0,fun i h1 h2=>by omega⟩
  ·rename_i h0
   have hr:=o9 (a:=(bZ s j).1) (d:=(bZ s j).2) (by omega) (nM h1 h2 j).2
   have hr:(bZ s (j+1)).2.1<(bZ s j).2.1:=hr
   obtain⟨g1,g2,g3,g4⟩:=MP h1 h2 f (j+1) (by omega)
   refine⟨by omega,by omega,g3,fun i k1 k2=>?_⟩
   rcases Nat.eq_or_lt_of_le k1 with h|h
   ·subst h;exact h0
   ·exact g4 i h k2
theorem lS {s:PP×PP} (h1:Trim s.1) (h2:Trim s.2):fk s<=s.2.1/\(bZ s (fk s)).2.1=0/\∀i,i<fk s->(bZ s i).2.1≠0:=by
 obtain⟨_,g2,g3,g4⟩:=MP h1 h2 s.2.1 0 (Nat.le_refl _)
 exact⟨by unfold fk;omega,g3,fun i hi=>g4 i (Nat.zero_le _) hi⟩
theorem Nc {s:PP×PP} {B:Nat} (ha:s.1.1<=B) (hb:s.2.1<=B) (h1:Trim s.1) (h2:Trim s.2):∀j,j<=fk s->(bZ s j).1.1<=B/\(bZ s j).2.1<=B
 |0,_=>⟨ha,hb⟩
 |j+1,hj=>by
  have ih:=Nc ha hb h1 h2 j (by omega)
  have h0:=(lS h1 h2).2.2 j (by omega)
  have hr:(bZ s (j+1)).2.1<(bZ s j).2.1:=o9 (a:=(bZ s j).1) (d:=(bZ s j).2) (by omega) (nM h1 h2 j).2
  exact⟨ih.2,by omega⟩
def dY (a:PP):PP×PP:=(aW a,bh (aW a))
theorem iz {a:PP}:Trim (aW a):=by
 unfold aW
 split
 ·exact .inl rfl
 ·exact nZ Az
def fV (n:Nat) (k:Nat->Rat) (t:Rat):Nat->Rat
 |0=>0
 |m+1=>fV n k t m*t+k (n-1-m)
def cC (a:PP) (t:Rat):Rat:=fV a.1 a.2 t a.1
def cN (s:Nat->Int):Nat->Int×Nat
 |0=>(0,0)
 |i+1=>(if s i=0 then(cN s i).1 else s i,if s i*(cN s i).1<0 then(cN s i).2+1 else(cN s i).2)
end Go.Am
namespace Go.Am.B
open Go Go.Am.N AV af au IntKind Proofs.Tryz
def vD:Nat:=68719477736
abbrev nN:Code:=aJ f114
abbrev o6:List Nat:=[0]
def AF:Spec:=e9 (kC (kL ag) kN) (fun a=>bT a.1.2 (cr a.1.2 a.1.1) ag) fun a=>[a.1.1<2^40]
def Ho:Spec:=e9 (kC kR (kC kR kN)) (fun a=>.rat (a.1.1/a.2.1.1) (a.1.2+a.2.1.2)) fun a=>[a.1.2<2^42,a.2.1.2<2^42]
def KR:bG:=zG::(142,kg kR kR Aa qU)::gE
def sj:bG:=zG::(158,CY)::(171,Ho)::gE
abbrev xz:Code:=aJ f137
abbrev y9:Code:=part xz [1,1,1,1,0,1,0,0]
abbrev Ca:Code:=part y9 [1,1,0,0]
abbrev Ea (m:Nat):AV:=bT (fun i=>((bn m i:Int):Rat)) (m+1) 64
abbrev s8:List Nat:=[0,4,5,25,26]
abbrev Ak (m:Nat) (c:Nat->Rat) (i:Nat):List AV:=[bT c (m+1) ag,Ea m,.own 0 3 0 (m+1),.int .i64 (m+1:Nat),.int .i64 i]
abbrev yW:List Nat:=[0,4,5,25,26,6,30,31,32]
abbrev DU (m:Nat) (c:Nat->Rat) (i k:Nat):List AV:=[bT c (m+1) ag,Ea m,.own 0 3 0 (m+1),.int .i64 (m+1:Nat),.int .i64 i,.int .i64 i,Ea i,.int .i64 (i+1:Nat),.int .i64 k]
abbrev xG:Code:=aJ f121
abbrev xR:List Nat:=[3,5,11,12,13]
abbrev GH (n:Nat) (c:Nat->Rat) (i:Nat):List AV:=[.ptr 1 0 3 0 [],.own 0 3 0 n,bT c n ag,.int .i64 n,.int .i64 i]
abbrev wQ:Code:=aJ f73
abbrev x6:List Nat:=[0,3,4]
abbrev CI (n:Nat) (c:Nat->Rat) (i:Nat):List AV:=[bT c n ag,.own 0 3 0 i,.int .i64 (i+1:Nat)]
def Bf:bG:=zG::(114,AF)::gE
theorem Fw:bC 114 f114:=bD func114
theorem aaw:bC 171 f171:=bD func171
theorem I0:bC 137 f137:=bD func137
theorem Us:bC 121 f121:=bD func121
theorem adB:bC 73 f73:=bD func73
theorem Wy {n:Nat} {k:Nat->Rat}:aK T GZ [] 60 o6 (before nN [1,0]) ⟨bf 0 [bT k n ag],[],0⟩=
  some (leaf normal ([az 3 n fun i=>rat (k i) ag],[])):=ah
theorem Qf {n:Nat} {k:Nat->Rat}:aK T GZ [6,15] 60 o6 [part nN [1,0,0,0]] ⟨aH o6 [bT k n ag],[],0⟩=
  let c6:Int:=(↑n:Int);let c4:Int:=(2:Int)^63;let c3:af (List AV×aG):=leaf (exit 0) ([az 3 n fun i=>rat (k i) ag],[]);let c5:Bool:=decide (c6>0);let c2:Int:=c6-1;let c1:af (List AV×aG):=aj [-c4<=c2/\c2<c4,(0:Int)<=0/\(0:Int)<=c2/\c2<=c2/\c2<=c6] (leaf normal ([az 3 (c2.toNat-Int.toNat (0:Int)) fun i=>rat (k (i+Int.toNat (0:Int))) ag],[]));some (fork c5 (aj [c5=true,-c4<=c2/\c2<c4,(0:Int)<=c2/\c2.toNat<n,ag<2^42] (fork (bif true then bR (k c2.toNat)==0 else false) c1 c3)) (aj [c5=false] (fork false c1 c3))):=ah
theorem Xd {n:Nat} {k:Nat->Rat}:dK T GZ [] 60 f114 [part nN [1,1]] ⟨aH o6 [bT k n ag],[],0⟩=
  some (leaf ret [az 3 n fun i=>rat (k i) ag]):=ah
theorem Rt {q r:Rat} {n m:Nat}:cy T KR [] 60 f171 (aJ f171) ⟨bf 0 [.rat q n,.rat r m],[],0⟩=
  let c1:Prop:=0<1;some (aj [c1,c1,n<2^42,m<2^42,c1] (aj [c1,c1] (aj [c1] (leaf ret [rat (q/r) (n+m)])))):=ah
theorem abH {m:Nat} {c:Nat->Rat}:aK T sj [200016,11] 60 s8 (before xz [1,1,1,1,0,1]) ⟨bf 0 [bT c (m+1) ag],[],0⟩=
  let c1:Int:=(↑(m+1):Int);let c2:Int:=c1-1;some (aj [(bif c1==0 then true else decide (c1>41))=false] (aj [-(2:Int)^63<=c2/\c2<2^63,(0:Int)<=c2,c2<=40] (aj [(0:Int)<=c1/\c1<=c1/\c1<=2^47/\c1*(↑(56:Nat):Int)<=2^47] (leaf normal ([az 3 (m+1) fun i=>rat (c i) ag,az 3 (c2.toNat+1) fun i=>rat (↑(↑(bn c2.toNat i):Int):Rat) 64,own 69632 3 0 c1.toNat,int i64 (↑c1.toNat:Int),int i64 0],[(69632,aC.mk true true 3 c1.toNat fun x=>rat 0 1)]))))):=ah
theorem adU {m i:Nat} {c x:Nat->Rat}:aK T sj [27] 60 s8 (before y9 [1,1,0]) ⟨aH s8 (Ak m c i),[(0,dL (m+1) x ag)],1⟩=
  let c2:Nat:=m+1;let c1:List AV×aG:=([az 3 c2 fun i=>rat (c i) ag,az 3 c2 fun i=>rat (↑(↑(bn m i):Int):Rat) 64,own 0 3 0 c2,int i64 (↑c2:Int),int i64 (↑i:Int)],[(0,aC.mk true true 3 c2 fun i=>rat (x i) ag)]);some (fork (decide ((↑i:Int)<(↑c2:Int))) (leaf normal c1) (leaf (exit 0) c1)):=ah
theorem RK {m i:Nat} {c x:Nat->Rat}:aK T sj [] 60 yW (before Ca [1,1]) ⟨aH s8 (Ak m c i),[(0,dL (m+1) x ag)],1⟩=
  let c2:Nat:=m+1;let c1:Int:=(↑i:Int);some (aj [(0:Int)<=c1,c1<=40] (leaf normal ([az 3 c2 fun i=>rat (c i) ag,az 3 c2 fun i=>rat (↑(↑(bn m i):Int):Rat) 64,own 0 3 0 c2,int i64 (↑c2:Int),int i64 c1,int i64 c1,az 3 (c1.toNat+1) fun i=>rat (↑(↑(bn c1.toNat i):Int):Rat) 64,int i64 (↑(c1.toNat+1):Int),int i64 0],[(0,aC.mk true true 3 c2 fun i=>rat (x i) ag)]))):=ah
theorem Wf {m i k:Nat} {c x:Nat->Rat}:aK T sj [33] 60 yW [part Ca [1,1,0,0]] ⟨aH yW (DU m c i k),[(0,dL (m+1) x ag)],1⟩=
  let c10:Nat:=64+64;let c8:Int:=(↑i:Int);let c7:Int:=(↑(i+1):Int);let c5:AV:=az 3 (i+1) fun i_1=>rat (↑(↑(bn i i_1):Int):Rat) 64;let c4:Nat:=2^42;let c3:Int:=(↑k:Int);let c1:Nat:=m+1;let c15:AV:=int i64 c8;let c14:Int:=c3+1;let c13:Prop:=(0:Int)<=c8/\c8.toNat<c1;let c12:Prop:=(0:Int)<=c3/\c3.toNat<c1;let c11:AV:=own 0 3 0 c1;let c9:AV:=az 3 c1 fun i=>rat (c i) ag;let c6:AV:=az 3 c1 fun i=>rat (↑(↑(bn m i):Int):Rat) 64;let c2:Nat:=c8.toNat+0;some (fork (decide (c3<c7)) (aj [(0:Int)<=c3/\c3.toNat<i+1,(0:Nat)<1] (aj [c13,c2<c1,(0:Nat)<1,c12,(64:Nat)<c4,(64:Nat)<c4,c12,c10<c4,ag<c4,ag<c4,c10+ag<c4,c13,c2<c1] (aj [-(2:Int)^63<=c14/\c14<2^63] (leaf normal ([c9,c6,c11,int i64 (↑c1:Int),c15,c15,c5,int i64 c7,int i64 c14],[(0,aC.mk true true 3 c1 fun j=>rat (bif j==c2 then x c2+(↑(↑(bn i c3.toNat):Int):Rat)/(↑(↑(bn m c3.toNat):Int):Rat)*c c3.toNat else x j) (bif j==c2 then ag+(c10+ag)+1 else ag))]))))) (leaf (exit 2) ([c9,c6,c11,int i64 (↑c1:Int),c15,c15,c5,int i64 c7,int i64 c3],[(0,aC.mk true true 3 c1 fun i=>rat (x i) ag)]))):=ah
theorem ado {m i k:Nat} {c x:Nat->Rat}:aK T sj [] 60 s8 [part y9 [1,1,1]] ⟨aH yW (DU m c i k),[(0,dL (m+1) x ag)],1⟩=
  let c2:Int:=(↑i:Int)+1;let c1:Nat:=m+1;some (aj [-(2:Int)^63<=c2/\c2<2^63] (leaf normal ([az 3 c1 fun i=>rat (c i) ag,az 3 c1 fun i=>rat (↑(↑(bn m i):Int):Rat) 64,own 0 3 0 c1,int i64 (↑c1:Int),int i64 c2],[(0,aC.mk true true 3 c1 fun i=>rat (x i) ag)]))):=ah
theorem ac9 {m i:Nat} {c x:Nat->Rat}:dK T sj [] 60 f137 [part xz [1,1,1,1,1]] ⟨aH s8 (Ak m c i),[(0,dL (m+1) x ag)],1⟩=
  some (leaf ret [az 3 (m+1) fun i=>rat (x (i+0)) ag,int i64 0]):=ah
theorem aeJ {n s:Nat} {c:Nat->Rat} {r:Rat}:aK T GZ [] 60 xR (before xG [1,1,0,1]) ⟨bf 0 [bT c n ag,.rat r s],[],0⟩=
  let c1:Int:=(↑n:Int);some (aj [(0:Int)<=c1/\c1<=c1/\c1<=2^47/\c1*(↑(56:Nat):Int)<=2^47] (leaf normal ([ptr 0 0 (dN (rat r s)).size 0 [],own 16384 3 0 c1.toNat,az 3 n fun i=>rat (c i) ag,int i64 c1,int i64 0],[(16384,aC.mk true true 3 c1.toNat fun x=>rat 0 1),(0,aC.mk false true (dN (rat r s)).size 1 fun x=>rat r s)]))):=ah
theorem abf {n s i:Nat} {c x:Nat->Rat} {r:Rat}:aK T GZ [14] 60 xR [part xG [1,1,0,1,0,0]] ⟨aH xR (GH n c i),[(0,dL n x ag),(1,⟨false,true,3,1,fun _=>.rat r s⟩)],2⟩=
  let c10:Int:=(↑n:Int);let c7:AV:=own 0 3 0 n;let c5:Prop:=0<1;let c4:AV:=ptr 1 0 3 0 [];let c3:AV:=az 3 n fun i=>rat (c i) ag;let c2:Nat×aC:=((1:Nat),iy fun x=>rat r s);let c1:Int:=(↑i:Int);let c9:Int:=c1+1;let c8:Prop:=(0:Int)<=c1/\c1.toNat<n;let c6:Nat:=c1.toNat+0;some (fork (decide (c1<c10)) (aj [c8,c5] (aj [c5,c5,s<2^42,ag<2^42,c8,c6<n] (aj [-(2:Int)^63<=c9/\c9<2^63] (leaf normal ([c4,c7,c3,int i64 c10,int i64 c9],[(0,aC.mk true true 3 n fun j=>rat (bif j==c6 then r*c c1.toNat else x j) (bif j==c6 then s+ag else ag)),c2]))))) (leaf (exit 0) ([c4,c7,c3,int i64 c10,int i64 c1],[(0,aC.mk true true 3 n fun i=>rat (x i) ag),c2]))):=ah
theorem S2 {n s i:Nat} {c x:Nat->Rat} {r:Rat}:dK T GZ [] 60 f121 [part xG [1,1,1]] ⟨aH xR (GH n c i),[(0,dL n x ag),(1,⟨false,true,3,1,fun _=>.rat r s⟩)],2⟩=
  some (leaf ret [az 3 n fun i=>rat (x (i+0)) ag]):=ah
theorem ael {n:Nat} {c:Nat->Rat}:aK T Bf [] 60 x6 (before wQ [1,1,0,1]) ⟨bf 0 [bT c n ag],[],0⟩=
  some (leaf normal ([az 3 n fun i=>rat (c i) ag,nil,int i64 1],[])):=ah
theorem Tx {n i:Nat} {c x:Nat->Rat}:aK T Bf [8] 60 x6 [part wQ [1,1,0,1,0,0]] ⟨aH x6 (CI n c i),[(0,dL i x ag)],1⟩=
  let c5:Nat:=i+1;let c3:AV:=az 3 n fun i=>rat (c i) ag;let c2:Int:=(2:Int)^63;let c1:Int:=(↑c5:Int);let c6:Int:=c1+1;let c4:Nat:=Max.max 1 (bS c1.natAbs);some (fork (decide (c1<(↑n:Int))) (aj [-c2<=c1,c1<c2,(0:Int)<=c1/\c1.toNat<n,c4<2^42,ag<2^42,(1:Nat)*3<=2^24,c5*((56:Nat)+1)*2<=2^47] (aj [-c2<=c6/\c6<c2] (leaf normal ([c3,own 53249 3 0 c5,int i64 c6],[(53249,aC.mk true true 3 c5 fun i_1=>if i_1<i then rat (x i_1) ag else nth [rat ((↑c1:Rat)*c c1.toNat) (c4+ag)] (rat 0 1) (i_1-i+0))])))) (leaf (exit 0) ([c3,own 0 3 0 i,int i64 c1],[(0,aC.mk true true 3 i fun i=>rat (x i) ag)]))):=ah
theorem Vw {n i:Nat} {c x:Nat->Rat}:dK T Bf [] 60 f73 [part wQ [1,1,1]] ⟨aH x6 (CI n c i),[(0,dL i x ag)],1⟩=
  some (aj [cY (fun i=>rat (x (i+0)) ag) i ag,i<2^40] (leaf ret [az 3 (cr (fun i=>aN (rat (x (i+0)) ag)) i) fun i=>rat (aN (rat (x (i+0)) ag)) ag])):=ah
theorem yp {q:Rat}:(bR q==0)=decide (q=0):=by
 unfold bR
 by_cases h:q=0
 ·simp[h]
 ·simp only[h,decide_false]
  split
  ·rfl
  ·split
   ·rfl
   ·grind
theorem Qo {n:Nat} {k:Nat->Rat} (hn:n<2^40) (K:Nat):aY P 114 K [bT k n ag] [] (aT (bT k (cr k n) ag) []):=by
 have hW:=de
 refine qk (r:=aT (bT k (cr k n) ag) []) hT pI hm Fw rfl br rfl [1,0] (i:=0) (y:=part nN [1,0,0,0]) (z:=part nN [1,1]) ah ah ah (f1:=[]) (f2:=[6,15]) (f3:=[]) 60 o6 0
  (fun j:Nat=>[bT k j ag]) (fun _=>[]) (fun j=>j<=n/\cr k j=cr k n) (fun j=>j=cr k n) (fun j=>j) (fun _=>⟨⟨_,Wy,?_⟩,fun j hj=>⟨_,Qf,?_⟩,fun j hj=>⟨_,Xd,?_⟩⟩) K []
 ·simp only[af.all,aF]
  exact⟨n,⟨aX,rfl⟩,fu.vals rfl⟩
 ·obtain⟨h1,h2⟩:=hj
  simp only[af.all,aF,cond_true,yp,bI,bO]
  refine⟨fun h=>⟨⟨aa,aa,aa,aa⟩,fun h3=>⟨aa,j-1,⟨aa,?_⟩,by dsimp only;omega,?_⟩,fun h3=>⟨rfl,j,?_,fu.vals rfl⟩⟩,fun h=>⟨aa,fun h3=>absurd h3 (by decide),fun _=>⟨rfl,j,?_,fu.vals rfl⟩⟩⟩
  ·rw[<-h2]
   obtain⟨m,rfl⟩:∃m,j=m+1:=⟨j-1,aa⟩
   rw[show(((m+1:Nat):Int)-1).toNat=m by omega]at h3
   show cr k m=_
   rw[cr,if_pos h3]
  ·rw[show((j:Int)-1).toNat-(0:Int).toNat=j-1 by omega]
   exact fu.vals rfl
  ·rw[<-h2]
   obtain⟨m,rfl⟩:∃m,j=m+1:=⟨j-1,aa⟩
   rw[show(((m+1:Nat):Int)-1).toNat=m by omega]at h3
   exact(xp (.inr h3)).symm
  ·rw[<-h2,show j=0 by omega];rfl
 ·rw[hj];exact .refl _
theorem Fs:bF P AF 114:=fj fun⟨⟨n,k⟩,_⟩ K hn=>Qo hn K
theorem Te:cm P KR:=jA (aM (kI fun _ _ K hn=>Dh hn.1 hn.2 K) gV)
theorem abu:bF P Ho 171:=fj fun⟨⟨q,n⟩,⟨r,m⟩,_⟩ K hn=>by
 obtain⟨h1,h2⟩:=hn
 refine cB hT Te hm aaw rfl br rfl 60 Rt (fun _=>?_) K []
 simp only[af.all,aF]
 exact⟨⟨aa,aa,h1,h2,aa⟩,⟨aa,aa⟩,aa,.refl _⟩
theorem Jh:cm P sj:=jA (aM Ou (aM abu gV))
def mG (n:Nat) (c:Nat->Rat):Prop:=∀i k,i<n->k<=i+1->Sz (lC n c i k) ag
def mR (n:Nat) (c:Nat->Rat) (i k j:Nat):Rat:=if j<i then iX n c j else if j=i then lC n c i k else 0
theorem QC {m:Nat} {c:Nat->Rat} (hm1:m<=40) (hz:mG (m+1) c) (K:Nat):aY P 137 K [bT c (m+1) ag] [] (aT (.tuple [bT (iX (m+1) c) (m+1) ag,.int .i64 0]) []):=by
 refine iY (r:=aT (.tuple [bT (iX (m+1) c) (m+1) ag,.int .i64 0]) []) hT I0 rfl br rfl (fun _ cx h0=>?_) K []
 have hk:=ou h0
 have hW:=de
 refine aA.we hT Jh hm (x:=xz) [1,1,1,1,0,1] (i:=0) (y:=y9) (z:=part xz [1,1,1,1,1]) ah ah ah I0.dst [1,1,0] (j:=1) (x1:=Ca) (zb:=part y9 [1,1,1]) ah ah ah [1,1] (i2:=2) (y2:=part Ca [1,1,0,0]) ah ah rfl hk
  (f1:=[200016,11]) (f2:=[27]) (f3:=[]) (f4:=[33]) (f5:=[]) 60 s8 yW 1 1 (fun i:Nat=>Ak m c i) (fun i=>[(0,dL (m+1) (mR (m+1) c i 0) ag)]) (fun i=>i<=m+1) (fun i=>i=m+1) (fun i=>m+1-i) (fun i=>i<m+1) (fun _=>False) (fun _=>False)
  (fun i (k:Nat)=>DU m c i k) (fun i k=>[(0,dL (m+1) (mR (m+1) c i k) ag)]) (fun i k=>k<=i+1) (fun i k=>k=i+1) (fun i k=>i+1-k)
  ⟨_,abH,?_⟩ (fun i hi=>⟨_,adU,?_⟩) (fun i hi hG=>⟨_,RK,?_⟩) (fun i hi hG k hk=>⟨_,Wf,?_⟩) (fun i hi hG k hk=>⟨_,ado,?_⟩) (fun i hi=>?_) (fun _ _ h=>h.elim) (fun _ _ h=>h.elim)
 ·simp only[af.all,aF,bJ]
  have e1:(((m+1:Nat):Int)-1).toNat=m:=aa
  have e2:(((m+1:Nat):Int)==0)=false:=by rw[beq_eq_false_iff_ne];omega
  rw[e1,e2]
  simp only[cond_false,bO]
  refine⟨aa,⟨aa,aa,aa⟩,aa,0,aa,[(0,69632)],rfl,rfl,rfl,bX rfl rfl rfl (fun j hj=>.inr ⟨rfl,fh ?_ aa⟩) trivial⟩
  unfold mR;rw[if_neg (Nat.not_lt_zero j)];split<;>rfl
 ·simp only[af.all,aF,bI,bO]
  exact⟨fun h=>⟨aa,[(0,0)],rfl,rfl,rfl,bX rfl rfl rfl (fun i hi=>cA rfl rfl) trivial⟩,fun h=>⟨rfl,i,aa,[(0,0)],rfl,rfl,rfl,bX rfl rfl rfl (fun i hi=>cA rfl rfl) trivial⟩⟩
 ·simp only[af.all,aF,bJ]
  exact⟨aa,0,aa,[(0,0)],rfl,rfl,rfl,bX rfl rfl rfl (fun i hi=>cA rfl rfl) trivial⟩
 ·simp only[af.all,aF,bI,bO,bJ,Nat.add_zero]
  refine⟨fun h=>⟨aa,aa,aa,k+1,aa,by dsimp only;omega,[(0,0)],rfl,rfl,rfl,bX rfl rfl rfl (fun j hj=>?_) trivial⟩,fun h=>⟨rfl,k,aa,[(0,0)],rfl,rfl,rfl,bX rfl rfl rfl (fun j hj=>cA rfl rfl) trivial⟩⟩
  have e1:∀q,mR (m+1) c i q i=lC (m+1) c i q:=fun q=>by unfold mR;rw[if_neg (Nat.lt_irrefl i),if_pos rfl]
  exact qz (x:=mR (m+1) c i k) (y:=mR (m+1) c i (k+1)) (fL (by rw[e1,e1];rfl) (by rw[e1];exact hz i (k+1) hG aa)) fun hj=>fh (by unfold mR;rw[if_neg hj,if_neg hj]) aX
 ·subst hk
  simp only[af.all,aF]
  refine⟨aa,i+1,aa,by dsimp only;omega,[(0,0)],rfl,rfl,rfl,bX rfl rfl rfl (fun j hj=>cA rfl ?_) trivial⟩
  show AV.rat (mR (m+1) c i (i+1) j) ag=AV.rat (mR (m+1) c (i+1) 0 j) ag
  unfold mR
  by_cases h1:j<i
  ·rw[if_pos h1,if_pos aa]
  ·by_cases h2:j=i
   ·subst h2;rw[if_neg h1,if_pos rfl,if_pos aa];rfl
   ·rw[if_neg h1,if_neg h2,if_neg aa];split<;>rfl
 ·subst hi
  refine aA.oN ((aI.fin hT Jh hm 60 ac9 ah ?_).mono fun _ _ h=>.inl h)
  refine⟨ki fun i hi=>fh ?_ aX,.refl _,trivial⟩
  show mR (m+1) c (m+1) 0 i=_
  unfold mR;rw[if_pos hi]
def Ju:Spec:=e9 (kC (kL ag) kN) (fun a=>.tuple [bT (iX a.1.1 a.1.2) a.1.1 ag,.int .i64 0]) fun a=>[1<=a.1.1,a.1.1<=41,mG a.1.1 a.1.2]
theorem Vh:bF P Ju 137:=fj fun⟨⟨n,p⟩,_⟩ K hn=>by
 obtain⟨h1,h2,h3⟩:=hn
 simp only at h1 h2 h3
 obtain⟨m,rfl⟩:∃m,n=m+1:=⟨n-1,aa⟩
 exact QC aa h3 K
theorem Eb:vD=ag+1000:=rfl
theorem Sy {n:Nat} {c:Nat->Rat} {r:Rat} (hn:n<2^40) (hz:dF n fun i=>r*c i) (K:Nat):aY P 121 K [bT c n ag,.rat r vD] [] (aT (bT (fun i=>r*c i) n ag) []):=by
 have hW:=de
 have hX:=Eb
 refine qk (r:=aT (bT (fun i=>r*c i) n ag) []) hT pI hm Us rfl br rfl [1,1,0,1] (i:=0) (y:=part xG [1,1,0,1,0,0]) (z:=part xG [1,1,1]) ah ah ah (f1:=[]) (f2:=[14]) (f3:=[]) 60 xR 2
  (fun i:Nat=>GH n c i) (fun i=>[(0,dL n (fun j=>if j<i then r*c j else 0) ag),(1,⟨false,true,3,1,fun _=>.rat r vD⟩)]) (fun i=>i<=n) (fun i=>i=n) (fun i=>n-i) (fun _=>⟨⟨_,aeJ,?_⟩,fun i hi=>⟨_,abf,?_⟩,fun i hi=>⟨_,S2,?_⟩⟩) K []
 ·simp only[af.all,aF,bJ]
  exact⟨aa,0,Nat.zero_le _,[(0,16384),(1,0)],rfl,rfl,rfl,bX rfl rfl rfl (fun i hi=>.inr ⟨rfl,fh (if_neg (Nat.not_lt_zero i)).symm aa⟩) (fo trivial)⟩
 ·simp only[af.all,aF,bI,bO,bJ,Nat.add_zero]
  refine⟨fun h2=>⟨aa,aa,aa,i+1,aa,by dsimp only;omega,[(0,0),(1,1)],rfl,rfl,rfl,bX rfl rfl rfl (fun j hj=>?_) (fo trivial)⟩,fun h2=>⟨rfl,i,aa,[(0,0),(1,1)],rfl,rfl,rfl,bX rfl rfl rfl (fun j hj=>cA rfl rfl) (fo trivial)⟩⟩
  exact qz (x:=fun j=>if j<i then r*c j else 0) (y:=fun j=>if j<i+1 then r*c j else 0) (fL (if_pos (Nat.lt_succ_self i)).symm (by show Sz (if i<i+1 then _ else _) _;rw[if_pos (Nat.lt_succ_self i)];exact hz i aa)) fun hj=>fh (M6 hj).symm aX
 ·subst hi
  simp only[af.all,aF]
  exact ki fun j hj=>by rw[Nat.add_zero,if_pos hj];exact .refl _
def EO:Spec:=e9 (kC (kL ag) (kC (ij vD) kN)) (fun a=>bT (fun i=>a.2.1*a.1.2 i) a.1.1 ag) fun a=>[a.1.1<2^40,dF a.1.1 fun i=>a.2.1*a.1.2 i]
theorem NR:bF P EO 121:=fj fun⟨⟨n,c⟩,r,_⟩ K hn=>Sy hn.1 hn.2 K
theorem WL:cm P Bf:=jA (aM Fs gV)
theorem Vs {n:Nat} {c:Nat->Rat} (hn:n<2^40) (hz:dF (n-1) (dD c)) (K:Nat):aY P 73 K [bT c n ag] [] (aT (bT (dD c) (cr (dD c) (n-1)) ag) []):=by
 have hW:=de
 refine qk (r:=aT (bT (dD c) (cr (dD c) (n-1)) ag) []) hT WL hm adB rfl br rfl [1,1,0,1] (i:=0) (y:=part wQ [1,1,0,1,0,0]) (z:=part wQ [1,1,1]) ah ah ah (f1:=[]) (f2:=[8]) (f3:=[]) 60 x6 1
  (fun i:Nat=>CI n c i) (fun i=>[(0,dL i (dD c) ag)]) (fun i=>i<=n-1) (fun i=>i=n-1) (fun i=>n-1-i) (fun _=>⟨⟨_,ael,?_⟩,fun i hi=>⟨_,Tx,?_⟩,fun i hi=>⟨_,Vw,?_⟩⟩) K []
 ·simp only[af.all,aF]
  exact⟨0,aa,[],rfl,rfl,rfl,wD rfl aa aa trivial⟩
 ·have hb:(max 1 (bS ((i+1:Nat):Int).natAbs))<=64:=by
   rw[Int.natAbs_natCast]
   have:=lD (x:=i+1) (k:=64)|>.2 aa
   omega
  simp only[af.all,aF,bI,bO,bJ]
  refine⟨fun h2=>⟨aa,aa,i+1,aa,by dsimp only;omega,[(0,53249)],rfl,?_,rfl,bX rfl rfl rfl (fun j hj=>?_) trivial⟩,fun h2=>⟨rfl,i,aa,[(0,0)],rfl,rfl,rfl,bX rfl rfl rfl (fun j hj=>cA rfl rfl) trivial⟩⟩
  ·rw[show((i+1:Nat):Int)+1=((i+1+1:Nat):Int) by omega];rfl
  ·refine .inr ⟨?_,?_⟩
   ·split
    ·rfl
    ·rw[show j-i+0=0 by omega];rfl
   ·split
    ·exact .refl _
    ·rw[show j-i+0=0 by omega,show j=i by omega]
     exact fL rfl (hz i aa)
 ·subst hi
  simp only[af.all,aF]
  exact⟨⟨eF aX,aa⟩,.refl _⟩
def Cg:Spec:=e9 (kC (kL ag) kN) (fun a=>bT (dD a.1.2) (cr (dD a.1.2) (a.1.1-1)) ag) fun a=>[a.1.1<2^40,dF (a.1.1-1) (dD a.1.2)]
theorem Dw:bF P Cg 73:=fj fun⟨⟨n,c⟩,_⟩ K hn=>Vs hn.1 hn.2 K
def Dk (f:Nat->AV) (n s:Nat):Prop:=∀i,i<n->keys (f i)=[]/\bg (f i) (.rat (aN (f i)) s)
def CK:Spec:=fun _ args pre=>match args,pre with
 |[.own k 3 0 n],[(k',⟨true,true,3,m,f⟩)]=>match k'==k with
  |true=>some ⟨.own k 3 0 (cr (fun i=>aN (f i)) n),[(k,dL m (fun i=>aN (f i)) ag)],[n<=m,n<2^40,Dk f m ag]⟩
  |false=>none
 |_,_=>none
abbrev uU:FuncId:=141
abbrev CG:Func:=f141
def IY:Spec:=zl fun K l=>match l with
 |[v]=>match(kL ag).read v with
  |some ((0,k),q)=>some (aT (bT k 0 ag) q)
  |some ((n+1,k),q)=>some ⟨.own K 3 0 (n+1),[(K,dL (n+1) k ag)],q++[n+1<2^30]⟩
  |none=>none
 |_=>none
def OT:bG:=zG::(142,kg kR kR Aa qU)::(121,EO)::gE
def GW (n:Nat):Nat:=if n=0 then 1 else n
def OS (n:Nat) (c:Nat->Rat) (i:Nat):Rat:=if n=0 then 0 else iX n c i
def I3:bG:=zG::(137,Ju)::gE
def Ms:bG:=zG::(115,HK)::(114,AF)::gE
theorem Md:bC uU CG:=bD func141
theorem Ws:bC 135 f135:=bD func135
theorem VG:bC 81 f81:=bD func81
theorem Sh:bC 57 f57:=bD func57
theorem U2 {n m:Nat} {x:Nat->Rat}:aK T GZ [] 60 o6 (before nN [1,0]) ⟨bf 0 [.own 0 3 0 n],[(0,dL m x ag)],1⟩=
  some (leaf normal ([own 0 3 0 n],[(0,aC.mk true true 3 m fun i=>rat (x i) ag)])):=ah
theorem aen {n m:Nat} {x:Nat->Rat}:aK T GZ [6,15] 60 o6 [part nN [1,0,0,0]] ⟨aH o6 [.own 0 3 0 n],[(0,dL m x ag)],1⟩=
  let c7:Int:=(↑n:Int);let c4:Int:=(2:Int)^63;let c3:Nat×aC:=(0,aC.mk true true 3 m fun i=>rat (x i) ag);let c6:af (List AV×aG):=leaf (exit 0) ([own 0 3 0 n],[c3]);let c5:Bool:=decide (c7>0);let c2:Int:=c7-1;let c1:af (List AV×aG):=aj [-c4<=c2/\c2<c4,(0:Int)<=0/\(0:Int)<=c2/\c2<=c2/\c2<=c7] (leaf normal ([own 0 3 0 (c2.toNat-Int.toNat (0:Int))],[c3]));some (fork c5 (aj [c5=true,-c4<=c2/\c2<c4,(0:Int)<=c2/\c2.toNat<n,c2.toNat+0<m,ag<2^42] (fork (bif true then bR (x (c2.toNat+0))==0 else false) c1 c6)) (aj [c5=false] (fork false c1 c6))):=ah
theorem ab7 {n m:Nat} {x:Nat->Rat}:aK T GZ [] 60 [2] [part nN [1,1]] ⟨aH o6 [.own 0 3 0 n],[(0,dL m x ag)],1⟩=
  some (leaf ret ([own 0 3 0 n],[(0,aC.mk true true 3 m fun i=>rat (x i) ag)])):=ah
theorem Vc {n:Nat} {k:Nat->Rat}:aK T [nG] [] 60 [2] [aJ CG] ⟨bf 0 [.eO false 3 n (fun i=>.rat (k i) ag)],[],0⟩=
  some (aj [(0:Nat)*3<=2^24,((0:Nat)+n)*((56:Nat)+1)*2<=2^47] (leaf ret ([own 20480 3 0 ((0:Nat)+n)],[(20480,aC.mk true true 3 ((0:Nat)+n) fun i=>rat (k (i-0)) ag)]))):=ah
theorem Q0 {b:Bool} {k:Nat->Rat}:cy T [zG] [4] 60 CG (aJ CG) ⟨bf 0 [.eO b 3 0 (fun i=>.rat (k i) ag)],[],0⟩=
  some (fork b (leaf ret [nil]) (aj [(0:Nat)*3<=2^24,((0:Nat)+0)*((56:Nat)+1)*2<=2^47] (leaf ret [az 3 0 fun i=>rat (k (i+0-0)) ag]))):=ah
theorem Zq {n:Nat} {c:Nat->Rat}:cy T OT [7] 60 f135 (aJ f135) ⟨bf 0 [bT c n ag],[],0⟩=
  let c3:Nat:=Max.max 1 (bS (Int.natAbs (1:Int)));let c2:Int:=(2:Int)^63;let c1:Int:=(↑n:Int)-1;let c4:Rat:=(↑(1:Int):Rat)/c c1.toNat;some (fork ((↑n:Int)==0) (leaf ret [nil]) (aj [-c2<=1,(1:Int)<c2,-c2<=c1/\c1<c2,(0:Int)<=c1/\c1.toNat<n,c3<2^42,ag<2^42,(0:Nat)<1] (aj [(0:Nat)<1,cY (fun i=>rat (c i) ag) n ag,c3+ag<=vD,n<2^40,dF n fun i=>c4*aN (rat (c i) ag)] (leaf ret [az 3 n fun i=>rat (c4*aN (rat (c i) ag)) ag])))):=ah
theorem S5 {n:Nat} {c:Nat->Rat}:cy T I3 [7] 60 f81 (aJ f81) ⟨bf 0 [bT c n ag],[],0⟩=
  some (fork ((↑n:Int)==0) (aj [(1:Nat)*3<=2^24] (leaf ret [az 3 1 fun i=>nth [agg [AV.bool (decide ((0:Rat)<0)),mag (↑(nat_lit 0):Int).natAbs,mag (if 1=1 then 0 else 1)]] (rat 0 1) (i+0)])) (aj [cY (fun i=>rat (c i) ag) n ag,(1:Nat)<=n,n<=41,mG n fun i=>aN (rat (c i) ag)] (leaf ret [az 3 n fun i=>rat (iX n (fun i=>aN (rat (c i) ag)) i) ag]))):=ah
theorem aee {n:Nat} {c:Nat->Rat}:cy T Ms [] 60 f57 (aJ f57) ⟨bf 0 [bT c n ag],[],0⟩=
  some (aj [cY (fun i=>rat (c i) ag) n ag,(1:Nat)<=n,n<=41,wN n fun i=>aN (rat (c i) ag),cY (fun i=>rat (gO n (fun i=>aN (rat (c i) ag)) i) ag) n ag,n<2^40] (leaf ret [az 3 (cr (fun i=>aN (rat (gO n (fun i=>aN (rat (c i) ag)) i) ag)) n) fun i=>rat (aN (rat (gO n (fun i=>aN (rat (c i) ag)) i) ag)) ag])):=ah
theorem SF {kk n m:Nat} {x:Nat->Rat} (hn:n<2^40) (hnm:n<=m) (c:Ctx) (hk:Kept [0] c):aA P c f114.ntmps nN ⟨bf 0 [.own 0 3 0 n],[(0,dL m x ag)],1⟩ (Ns f114 kk [.own kk 3 0 (cr x n)] (dL m x ag)):=by
 have hW:=de
 have re:∀j,fu [0] ([.own 0 3 0 j],[((0:Nat),dL m x ag)]) [.own 0 3 0 j] [(0,dL m x ag)] 1:=fun j=>⟨[(0,0)],rfl,rfl,rfl,qb trivial⟩
 refine aA.qS hT pI hm [1,0] (i:=0) (y:=part nN [1,0,0,0]) (z:=part nN [1,1]) ah ah ah Fw.dst hk (f1:=[]) (f2:=[6,15]) 60 o6 1
  (fun j:Nat=>[.own 0 3 0 j]) (fun _=>[(0,dL m x ag)]) (fun j=>j<=n/\cr x j=cr x n) (fun j=>j=cr x n) (fun j=>j) (fun _=>False) ⟨_,U2,?_⟩ (fun j hj=>⟨_,aen,?_⟩) (fun j hj=>?_) (fun _ _ h=>h.elim)
 ·simp only[af.all,aF]
  exact⟨n,⟨aX,rfl⟩,re n⟩
 ·obtain⟨h1,h2⟩:=hj
  simp only[af.all,aF,cond_true,yp,bI,bO,Nat.add_zero]
  refine⟨fun h=>⟨⟨aa,aa,aa,aa,aa⟩,fun h3=>⟨aa,j-1,⟨aa,?_⟩,by dsimp only;omega,?_⟩,fun h3=>⟨rfl,j,?_,re j⟩⟩,fun h=>⟨aa,fun h3=>absurd h3 (by decide),fun _=>⟨rfl,j,?_,re j⟩⟩⟩
  ·rw[<-h2]
   obtain⟨m,rfl⟩:∃m,j=m+1:=⟨j-1,aa⟩
   rw[show(((m+1:Nat):Int)-1).toNat=m by omega]at h3
   show cr x m=_
   rw[cr,if_pos h3]
  ·rw[show((j:Int)-1).toNat-(0:Int).toNat=j-1 by omega]
   exact re (j-1)
  ·rw[<-h2]
   obtain⟨m,rfl⟩:∃m,j=m+1:=⟨j-1,aa⟩
   rw[show(((m+1:Nat):Int)-1).toNat=m by omega]at h3
   exact(xp (.inr h3)).symm
  ·rw[<-h2,show j=0 by omega];rfl
 ·subst hj
  exact aA.bM hT pI hm 60 [2] ab7 ah fun s' hs'=>⟨.inr rfl,[2],_,[.own 0 3 0 (cr x n)],_,_,hs',ah,⟨⟨rfl,eR (by simp[bH,look]) rfl rfl⟩,trivial⟩,rfl,jj rfl fun i hi=>jO rfl⟩
theorem PX:bF P CK 114:=by
 intro K args pre r h
 unfold CK at h
 split at h
 ·rename_i k n k' m f
  split at h
  ·rename_i hc
   have hc:=eq_of_beq hc
   subst hc
   simp only[aB]at h
   subst h
   intro need
   have h0:=need
   obtain⟨n1,n2,n3⟩:=need
   exact Vn hT Fw (rest:=[]) (ws:=[.own k' 3 0 _]) (o2:=⟨true,true,3,m,f⟩) (o:=dL m (fun i=>aN (f i)) ag) rfl rfl br (fun ρ=>jj rfl fun i hi=>jQ (n3 i hi).1 (n3 i hi).2) (fun _ c hk=>SF n2 n1 c hk) K h0
  ·simp at h
 ·simp at h
theorem adt {args:List AV} {n:Nat} {k:Nat->Rat} {l:List Prop} (ha:aF l->iU (bH []) args [.eO false 3 n (fun i=>.rat (k i) ag)]) (hn:aF l->n<2^30) (K:Nat):aY P uU K args [] ⟨pZ [.own K 3 0 n],[(K,dL n k ag)],l⟩:=by
 refine NM hT Md ha br fun need c hk=>?_
 have h2:=hn need
 refine aA.bM hT (jg cK) hm 60 [2] Vc ah ?_
 simp only[af.all,aF]
 exact⟨⟨aa,aa⟩,fun s' hs'=>⟨.inr trivial,[2],_,[.own 20480 3 0 (0+n)],_,20480,_,hs',ah,⟨⟨rfl,eR (by simp[bH,look]) rfl aa⟩,trivial⟩,rfl,jj aa fun i hi=>jO rfl⟩⟩
theorem ad6 {n:Nat} {k:Nat->Rat} {l:List Prop} (hn:aF l->1<=n/\n<2^30) (K:Nat):aY P uU K [bT k n ag] [] ⟨pZ [.own K 3 0 n],[(K,dL n k ag)],l⟩:=by
 refine Fc fun b hb=>?_
 intro need
 have h1:=hn need
 cases b
 ·exact adt (args:=[.eO false 3 n (fun i=>.rat (k i) ag)]) (fun _=>⟨aU,trivial⟩) (fun h=>(hn h).2) K need
 ·have:=hb rfl
  omega
theorem RC {k:Nat->Rat} (K:Nat):aY P uU K [bT k 0 ag] [] (aT (bT k 0 ag) []):=by
 refine Fc fun b hb=>?_
 refine cB hT (jA cK) hm Md rfl br rfl 60 Q0 (fun _=>?_) K []
 simp only[af.all,aF]
 exact⟨fun _=>mC aa,fun _=>⟨⟨aa,aa⟩,ki fun i hi=>absurd hi (Nat.not_lt_zero i)⟩⟩
theorem Zy:bF P IY uU:=by
 refine CS fun K args r hk hs=>?_
 split at hs
 ·rename_i v
  split at hs
  ·rename_i k q hv
   simp only[aB]at hs
   subst hs
   intro need
   exact je (RC K) hk ⟨(kL ag).ok hv need,trivial⟩ [] trivial
  ·rename_i n k q hv
   simp only[aB]at hs
   subst hs
   intro need
   obtain⟨hn1,hn2⟩:=ir.1 need
   exact je (ad6 (l:=q++[n+1<2^30]) (fun h=>⟨Nat.succ_pos n,(ir (a:=q) (b:=[n+1<2^30]).1 h).2⟩) K) hk ⟨(kL ag).ok hv hn1,trivial⟩ [] need
  ·simp at hs
 ·simp at hs
theorem VS:cm P OT:=jA (aM (kI fun _ _ K hn=>Dh hn.1 hn.2 K) (aM NR gV))
theorem Hx {n:Nat} {c:Nat->Rat} (i:Nat):((1:Int):Rat)/c (n-1)*c i=cS n c i:=by
 unfold cS;rw[Rat.div_def,Rat.div_def,Rat.mul_comm];congr 1;exact Rat.one_mul _
theorem YD {n:Nat} {c:Nat->Rat} (hn:n<2^40) (hz:dF n (cS n c)) (K:Nat):aY P 135 K [bT c n ag] [] (aT (bT (cS n c) n ag) []):=by
 have hW:=de
 have hX:=Eb
 refine cB hT VS hm Ws rfl br rfl 60 Zq (fun _=>?_) K []
 simp only[af.all,aF,beq_iff_eq,beq_eq_false_iff_ne]
 refine⟨fun h=>?_,fun h=>?_⟩
 ·rw[show n=0 by omega];exact mC aa
 ·rw[show((n:Int)-1).toNat=n-1 by omega]
  have hb:bS (Int.natAbs 1)=1:=by decide
  refine⟨⟨aa,aa,aa,aa,by rw[hb];decide,aa,aa⟩,⟨aa,eF aX,?_,hn,fun i hi=>by show Sz (_*c i) _;rw[Hx];exact hz i hi⟩,ki fun i hi=>fh (Hx i) aX⟩
  rw[hb,Nat.max_self];omega
def Du:Spec:=e9 (kC (kL ag) kN) (fun a=>bT (cS a.1.1 a.1.2) a.1.1 ag) fun a=>[a.1.1<2^40,dF a.1.1 (cS a.1.1 a.1.2)]
theorem Mj:bF P Du 135:=fj fun⟨⟨n,c⟩,_⟩ K hn=>YD hn.1 hn.2 K
theorem acr:cm P I3:=jA (aM Vh gV)
theorem abI {n:Nat} {c:Nat->Rat} (hn:n<=41) (hz:mG n c) (K:Nat):aY P 81 K [bT c n ag] [] (aT (bT (OS n c) (GW n) ag) []):=by
 refine cB hT acr hm VG rfl br rfl 60 S5 (fun _=>?_) K []
 simp only[af.all,aF,beq_iff_eq,beq_eq_false_iff_ne]
 refine⟨fun h=>⟨aa,?_⟩,fun h=>⟨⟨eF aX,aa,hn,hz⟩,?_⟩⟩
 ·obtain rfl:n=0:=aa
  refine ki (n:=1) fun i hi=>?_
  obtain rfl:i=0:=aa
  exact pH
 ·have e1:GW n=n:=if_neg aa
  rw[e1]
  exact ki fun i hi=>fh (if_neg (show¬n=0 by omega)).symm aX
theorem RU:cm P Ms:=jA (aM Wh (aM Fs gV))
theorem P3 {n:Nat} {c:Nat->Rat} (h1:1<=n) (h2:n<=41) (h3:wN n c) (K:Nat):aY P 57 K [bT c n ag] [] (aT (bT (gO n c) (cr (gO n c) n) ag) []):=by
 refine cB hT RU hm Sh rfl br rfl 60 aee (fun _=>?_) K []
 simp only[af.all,aF]
 exact⟨⟨eF aX,h1,h2,h3,eF aX,aa⟩,.refl _⟩
def Db:Spec:=fun K args pre=>match CK K args pre with
 |some r=>some r
 |none=>AF K args pre
def qN:bG:=zG::(uU,IY)::(114,Db)::(142,kg kR kR Aa qU)::gE
abbrev vc:Code:=aJ f88
abbrev Ev:Code:=part vc [1,1,1,1,0,0,0]
abbrev wF:Code:=part Ev [1,0]
abbrev rL:List Nat:=[1,4,5,6]
abbrev wS (e:Nat) (d:Nat->Rat) (R L:Nat):List AV:=[bT d (e+1) ag,.own 1 3 0 R,.own 0 3 0 L,.int .i64 e]
abbrev zE (n R:Nat) (x q:Nat->Rat):aG:=[(0,dL n x ag),(1,dL R q ag)]
abbrev za:List Nat:=[1,4,5,6,7,8,55,56,57]
abbrev CV (e:Nat) (d:Nat->Rat) (R L k i:Nat):List AV:=[bT d (e+1) ag,.own 1 3 0 R,.own 0 3 0 L,.int .i64 e,.int .i64 k,.ptr 2 0 3 0 [],bT d e ag,.int .i64 e,.int .i64 i]
abbrev Gj (n R:Nat) (x q:Nat->Rat) (f:Rat):aG:=[(2,⟨false,true,3,1,fun _=>.rat f ag⟩),(0,dL n x ag),(1,dL R q ag)]
theorem D7:bC 88 f88:=bD func88
theorem PM {e:Nat} {a d:Nat->Rat}:cy T qN [200020,200029] 60 f88 (aJ f88) ⟨bf 0 [bT a 0 ag,bT d (e+1) ag],[],0⟩=
  let c3:AV:=rat 0 1;let c2:Int:=(↑(0:Nat):Int);let c1:Int:=(↑(e+1):Int)-1;some (aj [cY (fun i=>rat (a i) ag) 0 ag] (aj [-(2:Int)^63<=c1/\c1<2^63] (aj [decide (c2>c1)=false] (aj [decide (c2>c1)=false] (aj [cY (fun x=>c3) 0 ag,(0:Nat)<2^40] (leaf ret [az 3 0 fun i=>rat (aN c3) ag,az 3 0 fun i=>rat (aN (rat (a i) ag)) ag])))))):=ah
theorem Ta {n e:Nat} {a d:Nat->Rat}:aK T qN [20] 60 rL (before vc [1,1,1,1,0]) ⟨bf 0 [bT a (n+1) ag,bT d (e+1) ag],[],0⟩=
  let c6:Int:=(2:Int)^63;let c5:AV:=az 3 (e+1) fun i=>rat (d i) ag;let c3:Int:=(↑(e+1):Int)-1;let c2:Nat:=n+1;let c7:List AV:=[own 12288 3 0 c2,int i64 c3];let c4:Nat×aC:=(12288,aC.mk true true 3 c2 fun i=>rat (aN (rat (a i) ag)) ag);let c1:Int:=(↑c2:Int)-c3;some (aj [cY (fun i=>rat (a i) ag) (n+1) ag,c2<2^30] (aj [-c6<=c3/\c3<c6] (fork (decide ((↑c2:Int)>c3)) (aj [-c6<=c1/\c1<c6,(0:Int)<=c1/\c1<=c1/\c1<=2^47/\c1*(↑(56:Nat):Int)<=2^47] (leaf normal (c5::own 69632 3 0 c1.toNat::c7,[c4,(69632,aC.mk true true 3 c1.toNat fun x=>rat 0 1)]))) (leaf normal (c5::nil::c7,[c4]))))):=ah
theorem Sb {n e R L:Nat} {d x q:Nat->Rat}:aK T qN [29] 60 rL (before Ev [1]) ⟨aH rL (wS e d R L),zE n R x q,2⟩=
  let c1:List AV×aG:=([az 3 (e+1) fun i=>rat (d i) ag,own 1 3 0 R,own 0 3 0 L,int i64 (↑e:Int)],[(0,aC.mk true true 3 n fun i=>rat (x i) ag),(1,aC.mk true true 3 R fun i=>rat (q i) ag)]);some (fork (decide ((↑L:Int)>(↑e:Int))) (leaf normal c1) (leaf (exit 0) c1)):=ah
theorem Xr {n e R L:Nat} {d x q:Nat->Rat}:aK T qN [] 60 za (before wF [1,1,1,0,1]) ⟨aH rL (wS e d R L),zE n R x q,2⟩=
  let c7:Prop:=ag<2^42;let c6:Nat:=Int.toNat (0:Int);let c3:Int:=(2:Int)^63;let c2:Int:=(↑e:Int);let c1:Int:=(↑L:Int)-1;let c5:Nat:=c1.toNat+0;let c4:Nat:=(c1-c2).toNat+0;some (aj [-c3<=c1/\c1<c3,-c3<=c1-c2/\c1-c2<c3] (aj [-c3<=c1/\c1<c3,(0:Int)<=c1/\c1.toNat<L,c5<n,(0:Int)<=c2/\c2.toNat<e+1,c7,c7,(0:Nat)<1] (aj [(0:Nat)<1,(0:Int)<=c1-c2/\(c1-c2).toNat<R,c4<R] (aj [(0:Int)<=0/\(0:Int)<=c2/\c2<=c2/\c2<=(↑(e+1):Int)] (leaf normal ([az 3 (e+1) fun i=>rat (d i) ag,own 1 3 0 R,own 0 3 0 L,int i64 c2,int i64 (c1-c2),ptr 81922 0 3 0 [],az 3 (c2.toNat-c6) fun i=>rat (d (i+c6)) ag,int i64 (↑(c2.toNat-c6):Int),int i64 0],[((81922:Nat),iy fun j=>if(j==0)=true then dN (rA (x c5/d c2.toNat) (ag+ag))else rat 0 1),(0,aC.mk true true 3 n fun i=>rat (x i) ag),(1,aC.mk true true 3 R fun j=>rat (bif j==c4 then x c5/d c2.toNat else q j) (bif j==c4 then ag+ag else ag))])))))):=ah
theorem T6 {n e R L k i:Nat} {d x q:Nat->Rat} {f:Rat}:aK T qN [58] 60 za [part wF [1,1,1,0,1,0,0]] ⟨aH za (CV e d R L k i),Gj n R x q f,3⟩=
  let c14:AV:=own 0 3 0 L;let c13:AV:=own 1 3 0 R;let c12:Prop:=0<1;let c11:AV:=ptr 2 0 3 0 [];let c10:AV:=int i64 (↑e:Int);let c9:AV:=az 3 e fun i=>rat (d i) ag;let c8:Nat:=2^42;let c7:Int:=(↑i:Int);let c6:AV:=az 3 (e+1) fun i=>rat (d i) ag;let c4:Nat×aC:=(1,aC.mk true true 3 R fun i=>rat (q i) ag);let c3:Nat×aC:=((2:Nat),iy fun x=>rat f ag);let c2:Int:=(2:Int)^63;let c16:Int:=c7+1;let c1:Int:=(↑k:Int)+c7;let c15:Prop:=(0:Int)<=c1/\c1.toNat<L;let c5:Nat:=c1.toNat+0;some (fork (decide (c7<(↑e:Int))) (aj [(0:Int)<=c7/\c7.toNat<e,c12] (aj [-c2<=c1/\c1<c2,-c2<=c1/\c1<c2,c15,c5<n,c12,c12,ag<c8,ag<c8,ag<c8,ag+ag<c8,c15,c5<n] (aj [-c2<=c16/\c16<c2] (leaf normal ([c6,c13,c14,c10,int i64 (↑k:Int),c11,c9,c10,int i64 c16],[c3,(0,aC.mk true true 3 n fun j=>rat (bif j==c5 then x c5-f*d c7.toNat else x j) (bif j==c5 then ag+(ag+ag)+1 else ag)),c4]))))) (leaf (exit 2) ([c6,c13,c14,c10,int i64 (↑k:Int),c11,c9,c10,int i64 c7],[c3,(0,aC.mk true true 3 n fun i=>rat (x i) ag),c4]))):=ah
theorem ace {n e R L k i:Nat} {d x q:Nat->Rat} {f:Rat}:aK T qN [] 60 rL (behind wF [1,1,1,0,1]) ⟨aH za (CV e d R L k i),Gj n R x q f,3⟩=
  let c1:Int:=(↑L:Int)-1;let c2:Nat:=c1.toNat-Int.toNat (0:Int);some (aj [-(2:Int)^63<=c1/\c1<2^63,(0:Int)<=0/\(0:Int)<=c1/\c1<=c1/\c1<=(↑L:Int),c2<=n,c2<2^40,Dk (fun i=>rat (x i) ag) n ag] (leaf normal ([az 3 (e+1) fun i=>rat (d i) ag,own 1 3 0 R,own 0 3 0 (cr (fun i=>aN (rat (x i) ag)) c2),int i64 (↑e:Int)],[(0,aC.mk true true 3 n fun i=>rat (aN (rat (x i) ag)) ag),(1,aC.mk true true 3 R fun i=>rat (q i) ag)]))):=ah
theorem abC {n e R L:Nat} {d x q:Nat->Rat}:dK T qN [] 60 f88 [part vc [1,1,1,1,1]] ⟨aH rL (wS e d R L),zE n R x q,2⟩=
  some (aj [R<=R,R<2^40,Dk (fun i=>rat (q i) ag) R ag] (leaf ret [az 3 (cr (fun i=>aN (rat (q i) ag)) R) fun i=>rat (aN (rat (q (i+0)) ag)) ag,az 3 L fun i=>rat (x (i+0)) ag])):=ah
theorem SW:bF P Db 114:=by
 intro K args pre r h
 unfold Db at h
 split at h
 ·rename_i h1
  exact PX K args pre r (h1.trans h)
 ·exact Fs K args pre r h
theorem Ek:cm P qN:=jA (aM Zy (aM SW (aM (kI fun _ _ K hn=>Dh hn.1 hn.2 K) gV)))
def tJ (n e:Nat) (d a:Nat->Rat):Prop:=(∀j,j<=n-e->dF n (cM e d a (n-e) j))/\dF (n-e) (fK e d a (n-e))
abbrev Bn (n e:Nat) (d a:Nat->Rat):AV:=.tuple [bT (fK e d a (n-e)) (cr (fK e d a (n-e)) (n-e)) ag,bT (cM e d a (n-e) (n-e)) (cr (cM e d a (n-e) (n-e)) n) ag]
theorem IL {e:Nat} {a d:Nat->Rat} (he:e<2^30) (K:Nat):aY P 88 K [bT a 0 ag,bT d (e+1) ag] [] (aT (Bn 0 e d a) []):=by
 refine cB hT Ek hm D7 rfl br rfl 60 PM (fun _=>?_) K []
 simp only[af.all,aF,bO]
 have e0:cr (fK e d a (0-e)) (0-e)=0:=by rw[Nat.zero_sub];rfl
 refine⟨fun i hi=>absurd hi (Nat.not_lt_zero i),aa,aa,aa,⟨fun i hi=>absurd hi (Nat.not_lt_zero i),aa⟩,?_⟩
 show bg _ _/\bg _ _/\True
 rw[e0]
 exact⟨ki fun i hi=>absurd hi (Nat.not_lt_zero i),ki fun i hi=>absurd hi (Nat.not_lt_zero i),trivial⟩
theorem K7 {n e:Nat} {a d:Nat->Rat} (hn:n+1<2^30) (he:e<2^30) (ha:a n≠0) (hd:d e≠0) (hz:tJ (n+1) e d a) (K:Nat):aY P 88 K [bT a (n+1) ag,bT d (e+1) ag] [] (aT (Bn (n+1) e d a) []):=by
 refine iY (r:=aT (Bn (n+1) e d a) []) hT D7 rfl br rfl (fun _ cx h0=>?_) K []
 have hk:=ou h0
 have hW:=de
 obtain⟨N,hN⟩:∃N,N=n+1:=⟨_,rfl⟩
 obtain⟨R,hR⟩:∃R,R=N-e:=⟨_,rfl⟩
 have hRr:R=n+1-e:=aa
 unfold tJ at hz
 rw[<-hN,<-hR]at hz
 obtain⟨hzR,hzQ⟩:=hz
 refine aA.aaA hT Ek hm (x:=vc) [1,1,1,1,0] (i:=0) (y:=Ev) ah ah D7.dst [1] (j:=1) (x1:=wF) ah ah ah [1,1,1,0,1] (i2:=2) (y2:=part wF [1,1,1,0,1,0,0]) ah ah rfl ah hk
  (f1:=[20]) (f2:=[29]) (f3:=[]) (f4:=[58]) (f5:=[]) 60 rL za 2 3 (fun a:Nat×(Nat->Rat)×(Nat->Rat)=>wS e d R a.1) (fun a=>zE N R a.2.1 a.2.2) (fun b=>k9 N e R d a b.1 b.2.1 b.2.2/\dF N b.2.1) (fun b=>k9 N e R d a b.1 b.2.1 b.2.2/\b.1<=e) (fun b=>b.1) (fun b=>e<b.1) (fun _=>False) (fun _=>False)
  (fun b (i:Nat)=>CV e d R b.1 (b.1-1-e) i) (fun b i=>Gj N R (jm e d b.2.1 (b.1-1-e) (b.2.1 (b.1-1)/d e) i) (fun j=>if j=b.1-1-e then b.2.1 (b.1-1)/d e else b.2.2 j) (b.2.1 (b.1-1)/d e)) (fun b i=>i<=e/\dF N (jm e d b.2.1 (b.1-1-e) (b.2.1 (b.1-1)/d e) i)) (fun b i=>i=e/\dF N (jm e d b.2.1 (b.1-1-e) (b.2.1 (b.1-1)/d e) e)) (fun _ i=>e-i)
  ⟨_,Ta,?_⟩ (fun b ⟨hb,hx⟩=>⟨_,Sb,?_⟩) (fun b ⟨hb,hx⟩ hG=>⟨_,Xr,?_⟩) (fun b ⟨hb,hx⟩ hG i ⟨hi,hxi⟩=>⟨_,T6,?_⟩) (fun b ⟨hb,hx⟩ hG i ⟨hi,hxi⟩=>⟨_,ace,?_⟩) (fun b s' ⟨hb,hle⟩ hs'=>?_) (fun _ _ h=>h.elim) (fun _ _ h=>h.elim)
 ·simp only[af.all,aF,bI,bO]
  have hs0:k9 N e R d a N a fun _=>0:=k9.start hR (.inr (by rw[hN];exact ha))
  have hsz:dF N a:=hzR 0 (Nat.zero_le _)
  refine⟨⟨eF aX,hn⟩,aa,fun h=>⟨aa,(N,a,fun _=>0),⟨hs0,hsz⟩,[(0,12288),(1,69632)],rfl,?_,rfl,bX rfl rfl hN.symm (fun j hj=>cA rfl rfl) (bX rfl rfl aa (fun j hj=>.inr ⟨rfl,fh rfl aa⟩) trivial)⟩,fun h=>?_⟩
  ·rw[show((n+1:Nat):Int)-(((e+1:Nat):Int)-1)=(R:Nat) by omega,show((e+1:Nat):Int)-1=(e:Nat) by omega,bJ,<-hN];rfl
  ·have h0:R=0:=aa
   clear hzR hzQ
   subst h0
   refine⟨(N,a,fun _=>0),⟨hs0,hsz⟩,[(0,12288)],rfl,?_,rfl,bX rfl rfl hN.symm (fun j hj=>cA rfl rfl) (wD rfl aa aa trivial)⟩
   rw[show((e+1:Nat):Int)-1=(e:Nat) by omega,<-hN];rfl
 ·obtain⟨L,x,q⟩:=b
  simp only[af.all,aF,bI,bO]
  have re:fu [] ([az 3 (e+1) fun i=>rat (d i) ag,own 1 3 0 R,own 0 3 0 L,int i64 (↑e:Int)],[(0,aC.mk true true 3 N fun i=>rat (x i) ag),(1,aC.mk true true 3 R fun i=>rat (q i) ag)]) (wS e d R L) (zE N R x q) 2:=⟨[(0,0),(1,1)],rfl,rfl,rfl,bX rfl rfl rfl (fun j hj=>cA rfl rfl) (bX rfl rfl rfl (fun j hj=>cA rfl rfl) trivial)⟩
  exact⟨fun h=>⟨aa,re⟩,fun h=>⟨rfl,(L,x,q),⟨hb,by dsimp only;omega⟩,re⟩⟩
 ·obtain⟨L,x,q⟩:=b
  have hl:=hb.le
  have hG:e<L:=hG
  dsimp only at hl hb
  have hq:=hb.quot hR hG
  have hf:Sz (x (L-1)/d e) ag:=by rw[hq];exact hzQ _ aa
  simp only[af.all,aF,Nat.add_zero]
  rw[show((L:Int)-1).toNat=L-1 by omega,show((L:Int)-1-(e:Int)).toNat=L-1-e by omega,bJ]
  have hu0:jm e d x (L-1-e) (x (L-1)/d e) 0=x:=by funext j;unfold jm;rw[if_neg aa]
  refine⟨aa,aa,aa,aa,0,⟨Nat.zero_le _,by rw[hu0];exact hx⟩,[(0,0),(1,1),(2,81922)],rfl,?_,rfl,?_⟩
  ·rw[show(L:Int)-1-(e:Int)=(L-1-e:Nat) by omega];rfl
  ·refine lE rfl rfl (.inr ⟨rfl,fL rfl hf⟩) (bX rfl rfl rfl (fun j hj=>.inr ⟨rfl,fh (by rw[hu0]) aX⟩) (bX rfl rfl rfl (fun j hj=>?_) trivial))
   exact qz (x:=q) (y:=fun j=>if j=L-1-e then x (L-1)/d e else q j) (fL (if_pos rfl).symm (by show Sz (if _ then _ else _) _;rw[if_pos rfl];exact hf)) fun hj=>fh (if_neg hj).symm aX
 ·obtain⟨L,x,q⟩:=b
  have hl:=hb.le
  have hG:e<L:=hG
  dsimp only at hl hb hi hxi
  simp only[af.all,aF,bI,bO,Nat.add_zero]
  rw[show((L-1-e:Nat):Int)+(i:Int)=(L-1-e+i:Nat) by omega,bJ,bJ]
  generalize hf:x (L-1)/d e=f at*
  have h1:∀j,j≠L-1-e+i->jm e d x (L-1-e) f i j=jm e d x (L-1-e) f (i+1) j:=fun j hj=>by
   unfold jm
   by_cases h2:L-1-e<=j/\j<L-1-e+i
   ·rw[if_pos h2,if_pos aa]
   ·rw[if_neg h2,if_neg aa]
  have h2:jm e d x (L-1-e) f i (L-1-e+i)-f*d i=jm e d x (L-1-e) f (i+1) (L-1-e+i):=by
   unfold jm
   rw[if_neg aa,if_pos aa,show L-1-e+i-(L-1-e)=i by omega]
  refine⟨fun h=>?_,fun h=>⟨rfl,i,⟨aa,by rw[show i=e by omega]at hxi;exact hxi⟩,[(0,0),(1,1),(2,2)],rfl,rfl,rfl,fo (bX rfl rfl rfl (fun j hj=>cA rfl rfl) (bX rfl rfl rfl (fun j hj=>cA rfl rfl) trivial))⟩⟩
  have hs:Sz (jm e d x (L-1-e) f (i+1) (L-1-e+i)) ag:=by
   subst hf
   rw[hb.Nx hR hG (i:=i+1) aa aa aa]
   exact hzR _ aa _ aa
  refine⟨aa,aa,aa,i+1,⟨aa,fun j hj=>?_⟩,by dsimp only;omega,[(0,0),(1,1),(2,2)],rfl,rfl,rfl,fo (bX rfl rfl rfl (fun j hj=>?_) (bX rfl rfl rfl (fun j hj=>cA rfl rfl) trivial))⟩
  ·by_cases h3:j=L-1-e+i
   ·rw[h3];exact hs
   ·rw[<-h1 j h3];exact hxi j hj
  ·exact qz (x:=jm e d x (L-1-e) f i) (y:=jm e d x (L-1-e) f (i+1)) (fL h2 hs) fun hj=>fh (h1 j hj) aX
 ·obtain⟨L,x,q⟩:=b
  have hl:=hb.le
  have hG:e<L:=hG
  dsimp only at hl hb hi hxi
  subst hi
  simp only[af.all,aF]
  rw[show((L:Int)-1).toNat-(0:Int).toNat=L-1 by omega]
  exact⟨⟨aa,aa,aa,aa,fun j hj=>⟨rfl,.refl _⟩⟩,(_,_,_),⟨hb.next hR hd hG,hxi⟩,Nat.lt_of_le_of_lt fY (show L-1<L by omega),[(0,0),(1,1)],rfl,rfl,rfl,bX rfl rfl rfl (fun j hj=>cA rfl rfl) (bX rfl rfl rfl (fun j hj=>cA rfl rfl) trivial)⟩
 ·obtain⟨L,x,q⟩:=b
  dsimp only at hb hle
  obtain⟨f1,f2,f3⟩:=hb.fin hR hle
  have hl:=hb.le
  rw[show behind vc [1,1,1,1,0]=[part vc [1,1,1,1,1]]from by kernel_rfl]
  refine aI.weak rfl hs' (aI.mono (fun _ _ h=>.inl h) (aI.fin hT Ek hm 60 abC ah ?_))
  simp only[af.all,aF,Nat.add_zero]
  refine⟨⟨aX,aa,fun j hj=>⟨rfl,.refl _⟩⟩,?_⟩
  show bg _ _/\bg _ _/\True
  rw[<-hN,<-hR,<-f1,<-AL (k:=q) f3]
  exact⟨ki fun i hi=>fh (f3 i (Nat.lt_of_lt_of_le hi fY)) aX,ki fun i hi=>fh (f2 i hi) aX,trivial⟩
def Bo:Spec:=e9 (kC (kL ag) (kC (kL ag) kN)) (fun a=>Bn a.1.1 (a.2.1.1-1) a.2.1.2 a.1.2) fun a=>[a.1.1<2^30,1<=a.2.1.1,a.2.1.1<2^30,a.1.1=0\/a.1.2 (a.1.1-1)≠0,a.2.1.2 (a.2.1.1-1)≠0,tJ a.1.1 (a.2.1.1-1) a.2.1.2 a.1.2]
theorem FY:bF P Bo 88:=fj fun⟨⟨n,a⟩,⟨m,d⟩,_⟩ K hn=>by
 obtain⟨h1,h2,h3,h4,h5,h6⟩:=hn
 simp only at h1 h2 h3 h4 h5 h6
 obtain⟨e,rfl⟩:∃e,m=e+1:=⟨m-1,aa⟩
 cases n with
 |zero=>exact IL aa K
 |succ n=>exact K7 h1 aa (by simpa using h4) h5 h6 K
abbrev aP (a:PP):AV:=bT a.2 a.1 ag
def AI:bG:=zG::(88,Bo)::(135,Du)::gE
abbrev xQ:Code:=aJ f72
abbrev x5:List Nat:=[0,1]
abbrev Fu (s:PP×PP):List AV:=[aP s.1,aP s.2]
def tQ (a d:PP):Prop:=tJ a.1 (d.1-1) d.2 a.2
def oz (s:PP×PP):Prop:=(∀j,(ct s j).2.1≠0->tQ (ct s j).1 (ct s j).2/\dF (fl (ct s j).1 (ct s j).2).1 (cS (fl (ct s j).1 (ct s j).2).1 (fl (ct s j).1 (ct s j).2).2))/\dF (bK s.1 s.2).1 (bK s.1 s.2).2
def yq:Spec:=e9 (kC (kL ag) (kC (kL ag) kN)) (fun a=>aP (bK a.1 a.2.1)) fun a=>[a.1.1<2^30,a.2.1.1<2^30,Trim a.1,Trim a.2.1,oz (a.1,a.2.1)]
def wL (a:PP):Prop:=a.1≠0->oz (a,bh a)/\tQ a (bK a (bh a))/\dF (aW a).1 (aW a).2
def IS:bG:=zG::(88,Bo)::(135,Du)::(73,Cg)::(72,yq)::gE
theorem RE:bC 72 f72:=bD func72
theorem adl:bC 80 f80:=bD func80
theorem Qv {s:PP×PP}:aK T AI [] 60 x5 (before xQ [1,0]) ⟨bf 0 [aP s.1,aP s.2],[],0⟩=
  some (leaf normal ([az 3 s.fst.fst fun i=>rat (s.fst.snd i) ag,az 3 s.snd.fst fun i=>rat (s.snd.snd i) ag],[])):=ah
theorem XS {a b:PP}:aK T AI [9] 60 x5 [part xQ [1,0,0,0]] ⟨aH x5 [aP a,aP b],[],0⟩=
  let c3:AV:=az 3 b.fst fun i=>rat (b.snd i) ag;let c2:Nat:=b.fst-1;let c4:Nat:=a.fst-c2;let c1:Nat:=cr (cM c2 (fun i=>aN (rat (b.snd i) ag)) (fun i=>aN (rat (a.snd i) ag)) c4 c4) a.fst;some (fork (decide ((↑b.fst:Int)>0)) (aj [cY (fun i=>rat (a.snd i) ag) a.fst ag,cY (fun i=>rat (b.snd i) ag) b.fst ag,a.fst<2^30,(1:Nat)<=b.fst,b.fst<2^30,a.fst=0\/aN (rat (a.snd (a.fst-1)) ag)≠0,aN (rat (b.snd c2) ag)≠0,tJ a.fst c2 (fun i=>aN (rat (b.snd i) ag)) fun i=>aN (rat (a.snd i) ag)] (aj [cY (fun i=>rat (cM c2 (fun i=>aN (rat (b.snd i) ag)) (fun i=>aN (rat (a.snd i) ag)) c4 c4 i) ag) c1 ag,c1<2^40,dF c1 (cS c1 fun i=>aN (rat (cM c2 (fun i=>aN (rat (b.snd i) ag)) (fun i=>aN (rat (a.snd i) ag)) c4 c4 i) ag))] (leaf normal ([c3,az 3 c1 fun i=>rat (cS c1 (fun i=>aN (rat (cM c2 (fun i=>aN (rat (b.snd i) ag)) (fun i=>aN (rat (a.snd i) ag)) c4 c4 i) ag)) i) ag],[])))) (leaf (exit 0) ([az 3 a.fst fun i=>rat (a.snd i) ag,c3],[]))):=ah
theorem adE {a b:PP}:dK T AI [] 60 f72 [part xQ [1,1]] ⟨aH x5 [aP a,aP b],[],0⟩=
  some (aj [cY (fun i=>rat (a.snd i) ag) a.fst ag,a.fst<2^40,dF a.fst (cS a.fst fun i=>aN (rat (a.snd i) ag))] (leaf ret [az 3 a.fst fun i=>rat (cS a.fst (fun i=>aN (rat (a.snd i) ag)) i) ag])):=ah
theorem Rz {a:PP}:cy T IS [7] 60 f80 (aJ f80) ⟨bf 0 [aP a],[],0⟩=
  let c9:Nat:=a.fst;let c8:Nat:=2^30;let c11:Nat:=c9-1;let c7:Nat×(Nat->Rat):=(c9,fun i=>aN (rat (a.snd i) ag));let c6:Prop:=cY (fun i=>rat (a.snd i) ag) c9 ag;let c3:Nat:=cr (dD fun i=>aN (rat (a.snd i) ag)) c11;let c5:Nat×(Nat->Rat):=(c3,fun i=>aN (rat (dD (fun i=>aN (rat (a.snd i) ag)) i) ag));let c1:PP:=(ct (c7,c5) c3).fst;let c10:Nat:=c1.fst;let c4:Nat:=c10-1;let c2:Nat:=cr (fK c4 (fun i=>aN (rat (cS c10 c1.snd i) ag)) (fun i=>aN (rat (a.snd i) ag)) (c9-c4)) (c9-c4);some (fork ((↑c9:Int)==0) (leaf ret [nil]) (aj [c6,c9<2^40,dF c11 (dD fun i=>aN (rat (a.snd i) ag)),c6,cY (fun i=>rat (dD (fun i=>aN (rat (a.snd i) ag)) i) ag) c3 ag,c9<c8,c3<c8,Trim c7,Trim c5,oz (c7,c5),c6,cY (fun i=>rat (cS c10 c1.snd i) ag) c10 ag,c9<c8,(1:Nat)<=c10,c10<c8,c9=0\/aN (rat (a.snd c11) ag)≠0,aN (rat (cS c10 c1.snd c4) ag)≠0,tJ c9 c4 (fun i=>aN (rat (cS c10 c1.snd i) ag)) fun i=>aN (rat (a.snd i) ag)] (aj [cY (fun i=>rat (fK c4 (fun i=>aN (rat (cS c10 c1.snd i) ag)) (fun i=>aN (rat (a.snd i) ag)) (c9-c4) i) ag) c2 ag,c2<2^40,dF c2 (cS c2 fun i=>aN (rat (fK c4 (fun i=>aN (rat (cS c10 c1.snd i) ag)) (fun i=>aN (rat (a.snd i) ag)) (c9-c4) i) ag))] (leaf ret [az 3 c2 fun i=>rat (cS c2 (fun i=>aN (rat (fK c4 (fun i=>aN (rat (cS c10 c1.snd i) ag)) (fun i=>aN (rat (a.snd i) ag)) (c9-c4) i) ag)) i) ag])))):=ah
theorem Yo:cm P AI:=jA (aM FY (aM Mj gV))
theorem aaz {a b:PP} (ha:a.1<2^30) (hb:b.1<2^30) (ta:Trim a) (tb:Trim b) (hz:oz (a,b)) (K:Nat):aY P 72 K [aP a,aP b] [] (aT (aP (bK a b)) []):=by
 obtain⟨s,hs⟩:∃s,s=(a,b):=⟨_,rfl⟩
 have hT1:=mz (s:=s) (by rw[hs];exact ta) (by rw[hs];exact tb)
 have hL:=zV (s:=s) (by rw[hs];exact ta) (by rw[hs];exact tb)
 have hB:=z7 (s:=s) (B:=2^30-1) (by rw[hs];dsimp only;omega) (by rw[hs];dsimp only;omega) (by rw[hs];exact ta) (by rw[hs];exact tb)
 have hb2:s.2.1=b.1:=by rw[hs]
 rw[<-hs]at hz
 refine qk (r:=aT (aP (bK a b)) []) hT Yo hm RE rfl br rfl [1,0] (i:=0) (y:=part xQ [1,0,0,0]) (z:=part xQ [1,1]) ah ah ah (f1:=[]) (f2:=[9]) (f3:=[]) 60 x5 0
  (fun j:Nat=>Fu (ct s j)) (fun _=>[]) (fun j=>j<=b.1) (fun j=>j<=b.1/\(ct s j).2.1=0) (fun j=>(ct s j).2.1) (fun _=>⟨⟨_,Qv (s:=(a,b)),?_⟩,fun j hj=>⟨_,XS,?_⟩,fun j hj=>⟨_,adE,?_⟩⟩) K []
 ·simp only[af.all,aF]
  exact⟨0,Nat.zero_le _,by rw[hs];exact fu.vals rfl⟩
 ·have h1:=hT1 j
  have h2:=hL j
  have h3:=hB j
  have h4:=hB (j+1)
  have h5:=hz.1 j
  have e1:(ct s j).2.1≠0->ct s (j+1)=((ct s j).2,gm (fl (ct s j).1 (ct s j).2)):=fun h=>if_neg h
  have e2:=hL (j+1)
  obtain⟨x,y,hx⟩:∃x y,ct s j=(x,y):=⟨_,_,rfl⟩
  rw[hx]at h1 h2 h3 h5 e1
  dsimp only at h1 h2 h3 h5 e1
  simp only[af.all,aF,bI,bO,hx]
  refine⟨fun h=>?_,fun h=>⟨rfl,j,⟨hj,by rw[hx];dsimp only;omega⟩,by show fu _ _ (Fu (ct s j)) _ _;rw[hx];exact fu.vals rfl⟩⟩
  have hy:y.1≠0:=aa
  have e1:=e1 hy
  rw[e1]at h4 e2
  have hr:(fl x y).1<y.1:=o9 aa h1.2
  have ty:y.2 (y.1-1)≠0:=by rcases h1.2 with h|h;omega;exact h
  refine⟨⟨eF aX,eF aX,aa,aa,aa,h1.1,ty,(h5 hy).1⟩,⟨eF aX,by show(fl x y).1<_;omega,(h5 hy).2⟩,j+1,aa,?_,?_⟩
  ·show(ct s (j+1)).2.1<(ct s j).2.1
   rw[e1,hx];exact hr
  ·show fu _ _ (Fu (ct s (j+1))) _ _
   rw[e1];exact fu.vals rfl
 ·obtain⟨hj,h0⟩:=hj
  have hg:gm (ct s j).1=bK a b:=by rw[hs]at h0 ⊢;exact XM ta tb hj h0
  have h3:=hB j
  have hz2:=hz.2
  rw[show s.1=a by rw[hs],show s.2=b by rw[hs],<-hg]at hz2
  rw[<-hg]
  simp only[af.all,aF]
  exact⟨⟨eF aX,aa,hz2⟩,.refl _⟩
theorem CA:bF P yq 72:=fj fun⟨a,b,_⟩ K hn=>aaz hn.1 hn.2.1 hn.2.2.1 hn.2.2.2.1 hn.2.2.2.2 K
theorem Wm:cm P IS:=jA (aM FY (aM Mj (aM Dw (aM CA gV))))
theorem Oy {a:PP} (ha:a.1<2^30) (ta:Trim a) (hd:dF (a.1-1) (dD a.2)) (hz:wL a) (K:Nat):aY P 80 K [aP a] [] (aT (aP (aW a)) []):=by
 refine cB hT Wm hm adl rfl br rfl 60 Rz (fun _=>?_) K []
 simp only[af.all,aF,beq_iff_eq,beq_eq_false_iff_ne]
 refine⟨fun h=>?_,fun h=>?_⟩
 ·have h0:a.1=0:=aa
  unfold aW
  rw[if_pos h0];exact mC aa
 ·have h0:a.1≠0:=aa
  obtain⟨z1,z2,z3⟩:=hz h0
  have e0:aW a=gm (gN a (bK a (bh a))):=if_neg h0
  rw[e0]at z3 ⊢
  have hd1:(bh a).1<=a.1-1:=fY
  have hg:=z7 (s:=(a,bh a)) (B:=a.1) aX (by dsimp only;omega) ta dZ (bh a).1
  have hgp:0<(bK a (bh a)).1:=mF aa
  have tg:Trim (bK a (bh a)):=jX ta dZ
  have tg':(bK a (bh a)).2 ((bK a (bh a)).1-1)≠0:=by rcases tg with h|h;omega;exact h
  have hq:(gN a (bK a (bh a))).1<=a.1:=Nat.le_trans fY (Nat.sub_le _ _)
  exact⟨⟨eF aX,aa,hd,eF aX,eF aX,ha,Nat.lt_of_le_of_lt hd1 aa,ta,dZ,z1,eF aX,eF aX,ha,hgp,Nat.lt_of_le_of_lt hg ha,ta,tg',z2⟩,⟨eF aX,Nat.lt_of_le_of_lt hq aa,z3⟩,.refl _⟩
def Nm:Spec:=e9 (kC (kL ag) kN) (fun a=>aP (aW a.1)) fun a=>[a.1.1<2^30,Trim a.1,dF (a.1.1-1) (dD a.1.2),wL a.1]
theorem Wg:bF P Nm 80:=fj fun⟨a,_⟩ K hn=>Oy hn.1 hn.2.1 hn.2.2.1 hn.2.2.2 K
end Go.Am.B
