/- bh by the shape of the arguments: numbers, points, planes, maps. -/
import Derived.Test.YtolopdkjjlfgjaaGreatB33
import Init
import Derived.Test.YtolopdkjjlfgjaaGreatZ2
set_option linter.unusedVariables false
noncomputable section
namespace Go.Am.B
open Go Go.Am.N AV Proofs.Tryz IntKind
@[ext] structure V3 where
 x:Rat
 y:Rat
 z:Rat
abbrev rA (q:Rat) (n:Nat):AV:=.rat q n
abbrev vA (v:V3) (n:Nat):AV:=.agg [.rat v.x n,.rat v.y n,.rat v.z n]
theorem dy {q r:Rat} {n k:Nat} (h:q=r) (hk:n<=k):bA (.rat q n) (.rat r k):=h▸mC hk
structure Kind (α:Type) where
 read:AV->Option (α×List Prop)
 make:α->AV
 ok:∀{v:AV} {a:α} {q:List Prop},read v=some (a,q)->aA q->bA v (make a)
def nU:AV->Option (Rat×Nat)
 |.rat q n=>some (q,n)
 |.agg [.bool false,.mag 0,.mag 0]=>some (0,1)
 |_=>none
theorem xI {v:AV} {a:Rat×Nat} (h:nU v=some a):bA v (rA a.1 a.2):=by
 unfold nU at h
 split at h
 ·simp only[ay]at h;subst h;exact .refl _
 ·simp only[ay]at h;subst h;exact lV
 ·simp at h
def BE (v:AV):Option ((Rat×Nat)×List Prop):=match nU v with
 |some a=>some (a,[])
 |none=>none
theorem acp {v:AV} {a:Rat×Nat} {q:List Prop} (h:BE v=some (a,q)) (_:aA q):bA v (rA a.1 a.2):=by
 unfold BE at h
 split at h
 ·rename_i h1
  simp only[ay,Prod.mk.injEq]at h
  obtain⟨rfl,rfl⟩:=h
  exact xI h1
 ·simp at h
def kR:Kind (Rat×Nat):=⟨BE,fun a=>rA a.1 a.2,acp⟩
section specs
variable {α β γ δ:Type} {f:FuncId}
def BJ (k:Kind α) (g:α->AV) (need:α->List Prop):Spec:=bU fun l=>match l with
 |[x]=>match k.read x with
  |some (a,p)=>some (aK (g a) (p++need a))
  |none=>none
 |_=>none
theorem FW {k:Kind α} {g:α->AV} {need:α->List Prop} (h:∀a K,aA (need a)->aP P f K [k.make a] [] (aK (g a) [])):bf P (BJ k g need) f:=by
 refine cJ fun K args r hk hs _=>?_
 split at hs
 ·split at hs
  ·rename_i h1
   simp only[ay]at hs
   subst hs
   intro hn
   obtain⟨n1,hn⟩:=fI.1 hn
   exact gD (h _ K hn) hk ⟨k.ok h1 n1,trivial⟩ [] trivial
  ·simp at hs
 ·simp at hs
def ir (k:Kind α) (k2:Kind β) (g:α->β->AV) (need:α->β->List Prop):Spec:=bU fun l=>match l with
 |[x,y]=>match k.read x,k2.read y with
  |some (a,p),some (b,q)=>some (aK (g a b) (p++(q++need a b)))
  |_,_=>none
 |_=>none
theorem iL {k:Kind α} {k2:Kind β} {g:α->β->AV} {need:α->β->List Prop} (h:∀a b K,aA (need a b)->aP P f K [k.make a,k2.make b] [] (aK (g a b) [])):bf P (ir k k2 g need) f:=by
 refine cJ fun K args r hk hs _=>?_
 split at hs
 ·split at hs
  ·rename_i h1 h2
   simp only[ay]at hs
   subst hs
   intro hn
   obtain⟨n1,hn⟩:=fI.1 hn
   obtain⟨n2,hn⟩:=fI.1 hn
   exact gD (h _ _ K hn) hk ⟨k.ok h1 n1,k2.ok h2 n2,trivial⟩ [] trivial
  ·simp at hs
 ·simp at hs
end specs
def o7 (a b:Rat×Nat):List Prop:=[a.2<2^42,b.2<2^42]
def mS (a b:Rat×Nat):List Prop:=[a.2<2^41,b.2<2^41]
def wY (a b:Rat×Nat):AV:=rA (a.1+b.1) (a.2+b.2+1)
def JJ (a b:Rat×Nat):AV:=rA (a.1-b.1) (a.2+b.2+1)
def CH (a b:Rat×Nat):AV:=rA (a.1*b.1) (a.2+b.2)
def xO (a b:Rat×Nat):AV:=.tuple [rA (a.1/b.1) (a.2+b.2),.int .i64 (if b.1=0 then 3 else 0)]
def Hg (a b:Rat×Nat):AV:=.int .i64 (iy a.1 b.1)
def GJ (a b:Rat×Nat):AV:=.bool (decide (a.1=b.1))
def ML (a:Rat×Nat):AV:=.int .i64 (dn a.1)
abbrev C7:FuncId×Spec:=(71,IT)
def gB:bh:=[(128,ir kR kR wY o7),(143,ir kR kR JJ o7),(129,ir kR kR CH o7),(110,ir kR kR GJ o7),(58,ir kR kR Hg o7),(65,BJ kR ML fun a=>[a.2<2^42]),C7]
def gV:bh:=[(92,ir kR kR wY mS),(53,ir kR kR JJ mS),(90,ir kR kR CH mS),(26,ir kR kR GJ mS),(27,ir kR kR Hg mS),(24,BJ kR ML fun a=>[a.2<2^41]),(23,Ef)]
theorem abV:bf P C7.2 C7.1:=aaK
theorem gE:bI P gB:=aL (iL fun _ _ K hn=>NF hn.1 hn.2 K) (aL (iL fun _ _ K hn=>Rw hn.1 hn.2 K) (aL (iL fun _ _ K hn=>Fl hn.1 hn.2 K)
 (aL (iL fun _ _ K hn=>VM (Nat.lt_trans hn.1 aa) (Nat.lt_trans hn.2 aa) K []) (aL (iL fun _ _ K hn=>KA hn.1 hn.2 K []) (aL (FW fun _ K hn=>Hr (Nat.lt_trans hn aa) K []) (aL abV b9))))))
theorem iu:bI P gV:=aL (iL fun _ _ K hn=>G9 hn.1 hn.2 K) (aL (iL fun _ _ K hn=>Pd hn.1 hn.2 K) (aL (iL fun _ _ K hn=>adK hn.1 hn.2 K)
 (aL (iL fun _ _ K hn=>Uk (Nat.lt_trans hn.1 aa) (Nat.lt_trans hn.2 aa) K []) (aL (iL fun _ _ K hn=>SC hn.1 hn.2 K) (aL (FW fun _ K _=>Ga K []) (aL Ii b9))))))
end Go.Am.B
namespace Go.Am.B
structure Kn (n p:Nat) (k:Nat->Rat):Prop where
 p1:1<=p
 len:2*p+2<=n
 sorted:∀i,i+1<n->k i<=k (i+1)
 first:∀i,i<=p->k i=k 0
 last:∀i,n<=i+p+1->i<n->k i=k (n-1)
 mult:∀i,1<=i->i+p+1<n->k i<k (i+p)
theorem D0 {n:Nat} {k:Nat->Rat} (h:∀i,i+1<n->k i<=k (i+1)) {i:Nat}:∀{j:Nat},i<=j->j<n->k i<=k j
 |0,hij,_=>by
    have:i=0:=by omega
    subst this;exact Rat.le_refl
 |j+1,hij,hj=>by
  by_cases he:i=j+1
  ·subst he;exact Rat.le_refl
  ·exact Rat.le_trans (D0 h (j:=j) (by omega) (by omega)) (h j hj)
theorem Kn.mono {n p:Nat} {k:Nat->Rat} (h:Kn n p k) {i j:Nat} (hij:i<=j) (hj:j<n):k i<=k j:=D0 h.sorted hij hj
def fr (a b t:Rat):Rat:=(t-a)/(b-a)
def vB (k:Nat->Rat) (i:Nat) (t:Rat):Nat->Nat->Rat
 |0,j=>if j=0 then 1 else 0
 |d+1,j=>(if j=0 then 0 else fr (k (i-d+(j-1))) (k (i-d+(j-1)+(d+1))) t*vB k i t d (j-1))+
   (if j<=d then(1-fr (k (i-d+j)) (k (i-d+j+(d+1))) t)*vB k i t d j else 0)
structure At (n:Nat) (k:Nat->Rat) (i:Nat):Prop where
 lt:i+1<n
 sorted:∀i,i+1<n->k i<=k (i+1)
 wide:k i<k (i+1)
def OF (k:Nat->Rat) (b p r:Nat) (t:Rat) (x:Nat->Rat) (j:Nat):Rat:=
 if r<j then x (j-1)+fr (k (b+j)) (k (b+j+(p-r))) t*(x j-x (j-1))else x j
def bl (k:Nat->Rat) (b p:Nat):Nat->(Nat->Rat)->List Rat->Nat->Rat
 |_,x,[]=>x
 |r,x,t::l=>bl k b p (r+1) (OF k b p r t x) l
variable {k:Nat->Rat} {b p:Nat}
variable {n:Nat}
end Go.Am.B
namespace Go.Am.B
open AV
def aS:AV->Rat
 |.rat q _=>q
 |_=>0
def cF (f:Nat->AV) (n s:Nat):Prop:=∀i,i<n->bA (f i) (.rat (aS (f i)) s)
abbrev aV (k:Nat->Rat) (n s:Nat):AV:=.ak 3 n (fun i=>.rat (k i) s)
theorem cZ {k:Nat->Rat} {n s s':Nat} (h:s<=s'):cF (fun i=>.rat (k i) s) n s':=fun _ _=>mC h
theorem Nm {f:Nat->AV} {n s:Nat} (h:cF f n s):bA (.ak 3 n f) (aV (fun i=>aS (f i)) n s):=gr h
def qi:AV->Option (Nat×(Nat->AV))
 |.ak 3 n f=>some (n,f)
 |.nil=>some (0,fun _=>.rat 0 1)
 |_=>none
theorem acT {v:AV} {n s:Nat} {f:Nat->AV} (h:qi v=some (n,f)) (ha:cF f n s):bA v (aV (fun i=>aS (f i)) n s):=by
 unfold qi at h
 split at h
 ·simp only[ay,Prod.mk.injEq]at h
  obtain⟨rfl,rfl⟩:=h
  exact Nm ha
 ·simp only[ay,Prod.mk.injEq]at h
  obtain⟨rfl,rfl⟩:=h
  exact jS aa
 ·simp at h
end Go.Am.B
namespace Go.Am
def bn:Nat->Nat->Nat
 |_,0=>1
 |0,_+1=>0
 |n+1,k+1=>bn n k+bn n (k+1)
theorem ov (n:Nat):bn n 0=1:=by cases n<;>rfl
theorem mX (n k:Nat):bn (n+1) (k+1)=bn n k+bn n (k+1):=rfl
theorem mM:∀{n k:Nat},n<k->bn n k=0
 |0,_+1,_=>rfl
 |n+1,k+1,h=>by rw[mX,mM (by omega),mM (by omega)]
theorem Lw:∀n:Nat,bn n n=1
 |0=>rfl
 |n+1=>by rw[mX,Lw n,mM (by omega)]
theorem rC:∀n k:Nat,bn n k<=2^n
 |0,0=>by decide
 |0,_+1=>by rw[mM (by omega)];exact Nat.zero_le _
 |n+1,0=>by rw[ov];exact Nat.one_le_two_pow
 |n+1,k+1=>by
  have h1:=rC n k
  have h2:=rC n (k+1)
  rw[mX,Nat.pow_succ];omega
theorem AL:∀{n k:Nat},k<=n->0<bn n k
 |n,0,_=>by rw[ov];exact Nat.one_pos
 |n+1,k+1,h=>by
  have:=AL (n:=n) (k:=k) (by omega)
  rw[mX];omega
theorem Af {n k:Nat} (h:n<=40):bn n k<=2^40:=Nat.le_trans (rC n k) (Nat.pow_le_pow_right (by decide) h)
theorem yh:∀n k:Nat,(k+1)*bn n (k+1)=(n-k)*bn n k
 |0,0=>rfl
 |0,k+1=>by rw[mM (by omega),Nat.zero_sub];simp
 |n+1,0=>by
  have:=yh n 0
  simp only[ov,Nat.zero_add,Nat.one_mul,Nat.sub_zero,Nat.mul_one]at this ⊢
  rw[mX,ov,this];omega
 |n+1,k+1=>by
  have h1:=yh n k
  have h2:=yh n (k+1)
  rw[mX n (k+1),mX n k,show n+1-(k+1)=n-k by omega]
  by_cases h:k+1<=n
  ·obtain⟨m,rfl⟩:∃m,n=k+1+m:=⟨n-(k+1),by omega⟩
   rw[show k+1+m-(k+1)=m by omega]at h2
   rw[show k+1+m-k=m+1 by omega]at h1 ⊢
   generalize bn (k+1+m) (k+1+1)=A at*
   generalize bn (k+1+m) (k+1)=B at*
   generalize bn (k+1+m) k=C at*
   have e1:(k+1+1)*(B+A)=(k+1)*B+B+(k+1+1)*A:=by rw[Nat.mul_add,Nat.add_mul (k+1) 1 B,Nat.one_mul]
   have e2:(m+1)*(C+B)=(m+1)*C+(m*B+B):=by rw[Nat.mul_add,Nat.add_mul m 1 B,Nat.one_mul]
   rw[e1,e2,h2,h1];omega
  ·rw[mM (n:=n) (k:=k+1+1) (by omega)]
   by_cases h3:k=n
   ·subst h3
    rw[mM (by omega),Nat.sub_self];simp
   ·rw[mM (n:=n) (k:=k+1) (by omega),mM (n:=n) (k:=k) (by omega)];simp
end Go.Am
namespace Go.Am.B
open Go Go.Am.N AV af aq IntKind Proofs.Tryz
abbrev oQ (n:Nat) (g:Nat->Int):ax:=⟨true,true,1,n,fun i=>.int .i64 (g i)⟩
abbrev bT (m:Nat) (k:Nat->Rat) (s:Nat):ax:=⟨true,true,3,m,fun i=>.rat (k i) s⟩
def GZ:bh:=zG::gB
abbrev zg:Code:=aH f158
abbrev wF:Code:=part zg [1,1,0,1,0,0]
abbrev AI:Code:=part wF [1,1,0,0]
abbrev q9:Code:=part zg [1,1,1]
abbrev qR:List Nat:=[0,3,9,10]
abbrev AU (n r:Nat):List AV:=[.int .i64 n,.own 0 1 0 (r+1),.int .i64 n,.int .i64 r]
abbrev vX:List Nat:=[0,3,9,10,4]
abbrev D4 (n r j:Nat):List AV:=[.int .i64 n,.own 0 1 0 (r+1+1),.int .i64 n,.int .i64 r,.int .i64 j]
abbrev uq:List Nat:=[37,5,38,39]
abbrev Dc (n i:Nat):List AV:=[.own 0 1 0 (n+1),.own 1 3 0 (n+1),.int .i64 (n+1:Nat),.int .i64 i]
abbrev DF (n:Nat) (g:Nat->Int) (x:Nat->Rat):aE:=[(1,bT (n+1) x 64),(0,oQ (n+1) g)]
theorem KV:aX 158 f158:=aZ func158
theorem UF {n:Nat}:aG T GZ [] 60 qR (before zg [1,1,0,1]) ⟨aT 0 [.int .i64 n],[],0⟩=
  some (aj [(1:Nat)*1<=2^24] (leaf normal ([int i64 (↑n:Int),own 4096 1 0 1,int i64 (↑n:Int),int i64 0],[(4096,ax.mk true true 1 1 fun i=>nth [int i64 1] (int i64 0) i)]))):=ah
theorem Rz {n r:Nat} {g:Nat->Int}:aG T GZ [11] 60 qR (before wF [1,1,0]) ⟨aC qR (AU n r),[(0,oQ (r+1) g)],1⟩=
  let c2:Int:=(↑n:Int);let c1:List AV×aE:=([int i64 c2,own 0 1 0 (r+1),int i64 c2,int i64 (↑r:Int)],[(0,ax.mk true true 1 (r+1) fun i=>int i64 (g i))]);some (fork (decide ((↑r:Int)<c2)) (leaf normal c1) (leaf (exit 0) c1)):=ah
theorem aeO {n r:Nat} {g:Nat->Int}:aG T GZ [] 60 vX (before AI [1,1]) ⟨aC qR (AU n r),[(0,oQ (r+1) g)],1⟩=
  let c3:Nat:=r+1;let c1:Nat:=c3+1;let c2:Int:=(↑c1:Int)-2;some (aj [(1:Nat)*1<=2^24,c1*((8:Nat)+1)*2<=2^47] (aj [-(2:Int)^63<=c2/\c2<2^63] (leaf normal ([int i64 (↑n:Int),own 8193 1 0 c1,int i64 (↑n:Int),int i64 (↑r:Int),int i64 c2],[(8193,ax.mk true true 1 c1 fun i=>if i<c3 then int i64 (g i)else nth [int i64 1] (int i64 0) (i-c3+0))])))):=ah
theorem Ui {n r j:Nat} {g:Nat->Int}:aG T GZ [19] 60 vX [part AI [1,1,0,0]] ⟨aC vX (D4 n r j),[(0,oQ (r+1+1) g)],1⟩=
  let c7:AV:=int i64 (↑n:Int);let c5:Int:=(↑j:Int);let c4:Int:=(2:Int)^63;let c1:Nat:=r+1+1;let c9:Prop:=(0:Int)<=c5/\c5.toNat<c1;let c8:AV:=own 0 1 0 c1;let c3:Nat:=c5.toNat+0;let c2:Int:=c5-1;let c6:Int:=g c3+g (c2.toNat+0);some (fork (decide (c5>0)) (aj [c9,c3<c1,-c4<=c2/\c2<c4,(0:Int)<=c2/\c2.toNat<c1,c2.toNat+0<c1,-c4<=c6/\c6<c4,c9,c3<c1] (aj [-c4<=c2/\c2<c4] (leaf normal ([c7,c8,c7,int i64 (↑r:Int),int i64 c2],[(0,ax.mk true true 1 c1 fun j=>int i64 (bif j==c3 then c6 else g j))])))) (leaf (exit 2) ([c7,c8,c7,int i64 (↑r:Int),int i64 c5],[(0,ax.mk true true 1 c1 fun i=>int i64 (g i))]))):=ah
theorem aa9 {n r j:Nat} {g:Nat->Int}:aG T GZ [] 60 qR [part wF [1,1,1]] ⟨aC vX (D4 n r j),[(0,oQ (r+1+1) g)],1⟩=
  let c2:Nat:=r+1+1;let c1:Int:=(↑r:Int)+1;some (aj [-(2:Int)^63<=c1/\c1<2^63] (leaf normal ([int i64 (↑n:Int),own 0 1 0 c2,int i64 (↑n:Int),int i64 c1],[(0,ax.mk true true 1 c2 fun i=>int i64 (g i))]))):=ah
theorem OG {n r:Nat} {g:Nat->Int}:aG T GZ [] 60 uq (before q9 [1,0,1]) ⟨aC qR (AU n r),[(0,oQ (r+1) g)],1⟩=
  let c1:Int:=(↑(r+1):Int);some (aj [(0:Int)<=c1/\c1<=c1/\c1<=2^47/\c1*(↑(56:Nat):Int)<=2^47] (leaf normal ([own 0 1 0 (r+1),own 8193 3 0 c1.toNat,int i64 c1,int i64 0],[(8193,ax.mk true true 3 c1.toNat fun x=>rat 0 1),(0,ax.mk true true 1 (r+1) fun i=>int i64 (g i))]))):=ah
theorem YI {n i:Nat} {g:Nat->Int} {x:Nat->Rat}:aG T GZ [40] 60 uq [part q9 [1,0,1,0,0]] ⟨aC uq (Dc n i),DF n g x,2⟩=
  let c4:Int:=(2:Int)^63;let c3:Int:=(↑i:Int);let c2:Nat:=n+1;let c10:Int:=c3+1;let c9:Int:=(↑c2:Int);let c7:AV:=own 0 1 0 c2;let c6:AV:=own 1 3 0 c2;let c5:Nat×ax:=(0,ax.mk true true 1 c2 fun i=>int i64 (g i));let c1:Nat:=c3.toNat+0;let c8:List Prop:=[(0:Int)<=c3/\c3.toNat<c2,c1<c2];some (fork (decide (c3<c9)) (aj c8 (aj ((-c4<=g c1)::(g c1<c4)::c8) (aj [-c4<=c10/\c10<c4] (leaf normal ([c7,c6,int i64 c9,int i64 c10],[(1,ax.mk true true 3 c2 fun j=>rat (bif j==c1 then(↑(g c1):Rat)else x j) (bif j==c1 then Max.max 1 (bK (g c1).natAbs)else 64)),c5]))))) (leaf (exit 4) ([c7,c6,int i64 c9,int i64 c3],[(1,ax.mk true true 3 c2 fun i=>rat (x i) 64),c5]))):=ah
theorem abT {n i:Nat} {g:Nat->Int} {x:Nat->Rat}:cA T GZ [] 60 f158 [part q9 [1,1]] ⟨aC uq (Dc n i),DF n g x,2⟩=
  some (leaf ret [ak 3 (n+1) fun i=>rat (x (i+0)) 64]):=ah
theorem nO:bI P GZ:=fD gE
def nK (r j i:Nat):Int:=if i<=j then(if i=r+1 then 1 else(bn r i:Int))else bn (r+1) i
theorem Kl {r j i:Nat} (hr:r<40) (hi:i<=r):-2^41<=nK r j i/\nK r j i<=2^40:=by
 have h1:=Af (n:=r) (k:=i) aa
 have h2:=Af (n:=r+1) (k:=i) aa
 unfold nK;rw[if_neg (c:=i=r+1) aa];split<;>omega
theorem acO {n:Nat} (hn:n<=40) (K:Nat):aP P 158 K [.int .i64 n] [] (aK (aV (fun i=>((bn n i:Int):Rat)) (n+1) 64) []):=by
 refine gm (r:=aK (aV (fun i=>((bn n i:Int):Rat)) (n+1) 64) []) hT KV rfl aW rfl (fun _ cx h0=>?_) K []
 have hk:=jZ h0
 refine au.oX hT nO hm (x:=zg) [1,1,0,1] (i:=0) (y:=wF) (z:=q9) ah ah ah KV.dst [1,1,0] (j:=1) (x1:=AI) (zb:=part wF [1,1,1]) ah ah ah [1,1] (i2:=2) (y2:=part AI [1,1,0,0]) ah ah rfl hk
  (f1:=[]) (f2:=[11]) (f3:=[]) (f4:=[19]) (f5:=[]) 60 qR vX 1 1 (fun r:Nat=>AU n r) (fun r=>[(0,oQ (r+1) fun i=>bn r i)]) (fun r=>r<=n) (fun r=>r=n) (fun r=>n-r) (fun r=>r<n) (fun _=>False) (fun _=>False)
  (fun r (j:Nat)=>D4 n r j) (fun r j=>[(0,oQ (r+1+1) (nK r j))]) (fun r j=>j<=r) (fun _ j=>j=0) (fun _ j=>j)
  ⟨_,UF,?_⟩ (fun r hr=>⟨_,Rz,?_⟩) (fun r hr hG=>⟨_,aeO,?_⟩) (fun r hr hG j hj=>⟨_,Ui,?_⟩) (fun r hr hG j hj=>⟨_,aa9,?_⟩) (fun r hr=>?_) (fun _ _ h=>h.elim) (fun _ _ h=>h.elim)
 ·simp only[af.all,aA]
  refine⟨aa,0,aa,[(0,4096)],rfl,rfl,rfl,bg rfl rfl rfl (fun i hi=>by obtain rfl:i=0:=aa;exact bE rfl rfl) trivial⟩
 ·simp only[af.all,aA,bw,bB]
  exact⟨fun h=>⟨aa,[(0,0)],rfl,rfl,rfl,bg rfl rfl rfl (fun i hi=>bE rfl rfl) trivial⟩,fun h=>⟨rfl,r,aa,[(0,0)],rfl,rfl,rfl,bg rfl rfl rfl (fun i hi=>bE rfl rfl) trivial⟩⟩
 ·simp only[af.all,aA]
  refine⟨aa,aa,r,aa,[(0,8193)],rfl,?_,rfl,bg rfl rfl rfl (fun i hi=>bE ?_ ?_) trivial⟩
  ·rw[show((r+1+1:Nat):Int)-2=(r:Nat) by omega];rfl
  ·split
   ·rfl
   ·rw[show i-(r+1)+0=0 by omega];rfl
  ·unfold nK
   by_cases h:i<r+1
   ·rw[if_pos h,if_pos aa,if_neg aa]
   ·rw[if_neg h,if_neg aa,show i-(r+1)+0=0 by omega,show i=r+1 by omega,Lw];rfl
 ·simp only[af.all,aA,bw,bB,bu,Nat.add_zero]
  refine⟨fun h=>?_,fun h=>⟨rfl,j,aa,[(0,0)],rfl,rfl,rfl,bg rfl rfl rfl (fun i hi=>bE rfl rfl) trivial⟩⟩
  obtain⟨m,rfl⟩:∃m,j=m+1:=⟨j-1,aa⟩
  have e1:(((m+1:Nat):Int)-1).toNat=m:=aa
  have h1:=Kl (r:=r) (j:=m+1) (i:=m+1) aa hj
  have h2:=Kl (r:=r) (j:=m+1) (i:=m) aa aa
  rw[e1]
  refine⟨aa,aa,m,aa,by dsimp only;omega,[(0,0)],rfl,?_,rfl,bg rfl rfl rfl (fun i hi=>bE rfl ?_) trivial⟩
  ·rw[show((m+1:Nat):Int)-1=(m:Nat) by omega];rfl
  ·by_cases h:i=m+1
   ·subst h
    simp only[beq_self_eq_true,cond_true]
    unfold nK
    rw[if_pos aa,if_neg aa,if_pos aa,if_neg aa,if_neg aa,mX,Int.natCast_add,Int.add_comm]
   ·have hb:(i==m+1)=false:=by simpa using h
    rw[hb,cond_false]
    unfold nK
    by_cases h2:i<=m
    ·rw[if_pos h2,if_pos aa]
    ·rw[if_neg h2,if_neg aa]
 ·subst hj
  simp only[af.all,aA]
  refine⟨aa,r+1,aa,by dsimp only;omega,[(0,0)],rfl,rfl,rfl,bg rfl rfl rfl (fun i hi=>bE rfl ?_) trivial⟩
  show AV.int i64 (nK r 0 i)=AV.int i64 (bn (r+1) i)
  unfold nK
  by_cases h:i<=0
  ·rw[if_pos h,if_neg aa,show i=0 by omega,ov,ov]
  ·rw[if_neg h]
 ·subst hr
  refine au.l5 hT nO hm (x:=q9) [1,0,1] (i:=4) (y:=part q9 [1,0,1,0,0]) (z:=part q9 [1,1]) ah ah ah ah hk (f1:=[]) (f2:=[40]) 60 uq 2 (fun i:Nat=>Dc r i) (fun i=>DF r (fun i=>bn r i) fun j=>if j<i then((bn r j:Int):Rat)else 0)
   (fun i=>i<=r+1) (fun i=>i=r+1) (fun i=>r+1-i) (fun _=>False) ⟨_,OG,?_⟩ (fun i hi=>⟨_,YI,?_⟩) (fun i hi=>?_) (fun _ _ h=>h.elim)
  ·simp only[af.all,aA,bu]
   exact⟨aa,0,aa,[(0,0),(1,8193)],rfl,rfl,rfl,bg rfl rfl rfl (fun i hi=>.inr ⟨rfl,dy (if_neg (Nat.not_lt_zero i)).symm (by decide)⟩) (bg rfl rfl rfl (fun i hi=>bE rfl rfl) trivial)⟩
  ·have h1:=Af (n:=r) (k:=i) hn
   simp only[af.all,aA,bw,bB,bu,Nat.add_zero]
   refine⟨fun h=>⟨aa,aa,aa,i+1,aa,by dsimp only;omega,[(0,0),(1,1)],rfl,rfl,rfl,bg rfl rfl rfl (fun j hj=>.inr ⟨rfl,?_⟩) (bg rfl rfl rfl (fun i hi=>bE rfl rfl) trivial)⟩,fun h=>⟨rfl,i,aa,[(0,0),(1,1)],rfl,rfl,rfl,bg rfl rfl rfl (fun j hj=>bE rfl rfl) (bg rfl rfl rfl (fun i hi=>bE rfl rfl) trivial)⟩⟩
   by_cases h2:j=i
   ·subst h2
    simp only[beq_self_eq_true,cond_true]
    exact dK (if_pos (Nat.lt_succ_self j)).symm (by rw[if_pos (Nat.lt_succ_self j)];exact yg (y:=0) aa aa)
   ·have hb:(j==i)=false:=by simpa using h2
    rw[hb,cond_false,cond_false]
    refine dy ?_ aQ
    show(if j<i then _ else _)=if j<i+1 then _ else _
    by_cases h3:j<i
    ·rw[if_pos h3,if_pos aa]
    ·rw[if_neg h3,if_neg aa]
  ·subst hi
   refine au.jV ((aF.fin hT nO hm 60 abT ah (gr fun i hi=>dy ?_ aQ)).mono fun _ _ h=>.inl h)
   rw[Nat.add_zero,if_pos hi]
def Dn:Spec:=bU fun l=>match l with
 |[.int .i64 n]=>some (aK (aV (fun i=>((bn n.toNat i:Int):Rat)) (n.toNat+1) 64) [0<=n,n<=40])
 |_=>none
theorem IA:bf P Dn 158:=by
 refine cJ fun K args r hk hs _=>?_
 split at hs
 ·rename_i n
  simp only[ay]at hs
  subst hs
  intro hn
  have h1:0<=n:=hn.1
  have h2:n<=40:=hn.2
  have:=acO (n:=n.toNat) aa K
  rw[Int.toNat_of_nonneg h1]at this
  exact this trivial
 ·simp at hs
open Go Go.Am.N AV Proofs.Tryz IntKind
theorem XD:aX 51 f51:=aZ func51
def Tx:bh:=[(45,Cq),(46,yd)]
theorem Qc {d:Int}:bR T Tx [] 60 f51 (aH f51) ⟨aT 0 [.int .i64 d],[],0⟩=
  some (af.aj [(17:Int)≠(0:Int),(0:Int)<12,(12:Int)<2^62] (af.aj [(0:Int)<i64.wrap (i64.wrap ((1:Int)+i64.wrap (d.tdiv (17:Int))%(12:Int))+1),i64.wrap (i64.wrap ((1:Int)+i64.wrap (d.tdiv (17:Int))%(12:Int))+1)<2^62,-(2:Int)^63<=d%i64.wrap (i64.wrap ((1:Int)+i64.wrap (d.tdiv (17:Int))%(12:Int))+1),d%i64.wrap (i64.wrap ((1:Int)+i64.wrap (d.tdiv (17:Int))%(12:Int))+1)<2^63,-(2:Int)^63<=i64.wrap ((1:Int)+i64.wrap (d.tdiv (17:Int))%(12:Int)),i64.wrap ((1:Int)+i64.wrap (d.tdiv (17:Int))%(12:Int))<2^63,(0:Nat)<1] (af.aj [(0:Nat)<1] (af.leaf aq.ret [rat ((↑(d%i64.wrap (i64.wrap ((1:Int)+i64.wrap (d.tdiv (17:Int))%(12:Int))+1)):Rat)/(↑(i64.wrap ((1:Int)+i64.wrap (d.tdiv (17:Int))%(12:Int))):Rat)) 64])))):=ah
def gZ (d:Int):Int:=1+i64.wrap (d.tdiv 17)%12
def kr (d:Int):Rat:=((d%(gZ d+1):Int):Rat)/((gZ d:Int):Rat)
def Mp:Spec:=bU fun l=>match l with
 |[.int .i64 d]=>some (aK (.rat (kr d) 64) [])
 |_=>none
theorem Xe:bf P Mp 51:=by
 refine cJ fun K args r hk hs _=>?_
 split at hs
 ·rename_i d
  simp only[ay]at hs
  subst hs
  refine bZ hT (aL Mc (aL CK b9)) hm XD rfl aW rfl 60 Qc (fun _=>?_) K []
  unfold kr gZ
  generalize i64.wrap (d.tdiv 17)=w at*
  have w1:=Int.emod_nonneg w (show(12:Int)≠0 by omega)
  have w2:=Int.emod_lt_of_pos w (show(0:Int)<12 by omega)
  generalize w%12=x at*
  have e1:i64.wrap (1+x)=1+x:=wrap_i64 aa aa
  have e2:i64.wrap (1+x+1)=1+x+1:=wrap_i64 aa aa
  rw[e1,e2]
  have v1:=Int.emod_nonneg d (show 1+x+1≠0 by omega)
  have v2:=Int.emod_lt_of_pos d (show 0<1+x+1 by omega)
  generalize d%(1+x+1)=y at*
  simp only[af.all,aA]
  exact⟨⟨aa,aa,aa⟩,⟨aa,aa,aa,aa,aa,aa,aa⟩,aa,.refl _⟩
 ·simp at hs
structure Kd (α:Type) where
 read:AV->Option α
 make:α->AV
 ok:∀{v:AV} {a:α},read v=some a->bA v (make a)
def BW:AV->Option (V3×Nat)
 |.agg [x,y,z]=>match nU x,nU y,nU z with
  |some (x,a),some (y,b),some (z,c)=>some (⟨x,y,z⟩,max a (max b c))
  |_,_,_=>none
 |_=>none
theorem UH {v:AV} {a:V3×Nat} (h:BW v=some a):bA v (vA a.1 a.2):=by
 unfold BW at h
 split at h
 ·split at h
  ·rename_i h1 h2 h3
   simp only[ay]at h
   subst h
   exact oR ⟨(xI h1).trans (dy rfl (by simp only;omega)),(xI h2).trans (dy rfl (by simp only;omega)),(xI h3).trans (dy rfl (by simp only;omega)),trivial⟩
  ·simp at h
 ·simp at h
def dV:Kd (V3×Nat):=⟨BW,fun a=>vA a.1 a.2,UH⟩
section specs
variable {α β γ δ:Type} {f:FuncId}
end specs
def b1 {α:Type} (e:Nat) (a:α×Nat):Bool:=Nat.blt a.2 (2^e)
def b2 {α β:Type} (e:Nat) (a:α×Nat) (b:β×Nat):Bool:=Nat.blt a.2 (2^e)&&Nat.blt b.2 (2^e)
def b3 {α β γ:Type} (e:Nat) (a:α×Nat) (b:β×Nat) (c:γ×Nat):Bool:=Nat.blt a.2 (2^e)&&(Nat.blt b.2 (2^e)&&Nat.blt c.2 (2^e))
end Go.Am.B
namespace Go.Am.B
open Go Go.Am.N AV Proofs.Tryz IntKind
theorem S3:aX 148 f148:=aZ func148
theorem YL:aX 93 f93:=aZ func93
theorem Om {q r:Rat} {n m:Nat}:bR T ql [9] 60 f148 (aH f148) ⟨aT 0 [.rat q n,.rat r m],[],0⟩=
  some (af.aj [(0:Nat)<1] (af.fork ((↑(nl r.num.natAbs):Int)==0) (af.aj [(0:Nat)<1] (af.aj [(0:Nat)<1] (af.leaf aq.ret [agg [AV.bool false,mag 0,mag 0],int .i64 (3:Int)]))) (af.aj [(0:Nat)<1,(0:Nat)<1,(0:Nat)<1,(0:Nat)<1,nl q.num.natAbs<2^39,nl r.den<2^39,(0:Nat)<1,(0:Nat)<1,nl q.den<2^39,nl r.num.natAbs<2^39,nl (q.num.natAbs*r.den)<2^38,nl (q.den*r.num.natAbs)<2^38,q.den*r.num.natAbs≠0,(0:Nat)<1] (af.aj [(0:Nat)<1] (af.leaf aq.ret [rat (sQ (decide (q<0)!=decide (r<0)) (q.num.natAbs*r.den) (q.den*r.num.natAbs)) (dB (sQ (decide (q<0)!=decide (r<0)) (q.num.natAbs*r.den) (q.den*r.num.natAbs))),int .i64 (0:Int)]))))):=ah
theorem Z6 {q r:Rat} {n m:Nat} (hn:n<2^41) (hm':m<2^41) (K:Nat):aP P 148 K [.rat q n,.rat r m] [] (aK (.tuple [.rat (q/r) (n+m),.int .i64 (if r=0 then 3 else 0)]) []):=by
 refine kg fun⟨hq,hr,_⟩=>?_
 have hq:Sz q n:=hq
 have hr:Sz r m:=hr
 have d1:=q.den_nz
 have d2:=r.den_nz
 have a1:nl q.num.natAbs<2^38:=fQ hq.1 aa
 have a2:nl q.den<2^38:=fQ hq.2 aa
 have b1:nl r.num.natAbs<2^38:=fQ hr.1 aa
 have b2:nl r.den<2^38:=fQ hr.2 aa
 have m1:nl (q.num.natAbs*r.den)<2^38:=fQ (nW hq.1 hr.2) aa
 have m3:nl (q.den*r.num.natAbs)<2^38:=fQ (nW hq.2 hr.1) aa
 refine bZ hT sY hm S3 rfl aW rfl 60 Om (fun _=>?_) K []
 have key:((nl r.num.natAbs:Int)==0)=decide (r=0):=by
  by_cases h:r=0
  ·subst h;rfl
  ·have h1:r.num.natAbs≠0:=fun e=>h (nN.1 e)
   have:=gC.2 h1
   simp only[h,decide_false,beq_eq_false_iff_ne];omega
 rw[key]
 simp only[af.all,aA,bw,bB]
 refine⟨aa,fun h0=>?_,fun h0=>?_⟩
 ·refine⟨aa,aa,?_,bN (by rw[if_pos h0]),trivial⟩
  have e:q/r=0:=by rw[h0,Rat.div_def,Rat.inv_zero,Rat.mul_zero]
  obtain⟨k,hk⟩:∃k,n+m=k+1:=⟨n+m-1,by have:=hq.pos;omega⟩
  rw[e,hk]
  first|exact lV|exact mC aa
 ·have hr0:r.num.natAbs≠0:=fun h=>h0 (nN.1 h)
  have hv:=Bl q r h0
  (repeat' with_reducible refine And.intro ?_ ?_)
  all_goals first|omega|exact m1|exact m3|exact Nat.mul_ne_zero d1 hr0|skip
  exact⟨dK hv (hq.div hr),bN (by rw[if_neg h0]),trivial⟩
def Iz:bh:=[(148,ir kR kR xO mS)]
theorem OR:bI P Iz:=aL (iL fun _ _ K hn=>Z6 hn.1 hn.2 K) b9
theorem Pk {q r:Rat} {n m:Nat}:bR T Iz [] 60 f93 (aH f93) ⟨aT 0 [.rat q n,.rat r m],[],0⟩=
  some (af.aj [(0:Nat)<1,(0:Nat)<1,n<2^41,m<2^41,(0:Nat)<1] (af.aj [(0:Nat)<1,(0:Nat)<1] (af.aj [(0:Nat)<1] (af.leaf aq.ret [rat (q/r) (n+m)])))):=ah
theorem AP {q r:Rat} {n m:Nat} (hn:n<2^41) (hm':m<2^41) (K:Nat):aP P 93 K [.rat q n,.rat r m] [] (aK (.rat (q/r) (n+m)) []):=by
 refine bZ hT OR hm YL rfl aW rfl 60 Pk (fun _=>?_) K []
 simp only[af.all,aA]
 (repeat' with_reducible refine And.intro ?_ ?_)
 all_goals first|omega|exact bA.refl _
def xH (a b:Rat×Nat):AV:=rA (a.1/b.1) (a.2+b.2)
structure KG (p j:Nat) (k:Nat->Rat) (t:Rat):Prop where
 p1:1<=p
 first:∀i,i<=p->k i=k 0
 top:k (p+j)=t
 sorted:∀i,i<p+j->k i<=k (i+1)
 mult:∀i,1<=i->i<=j->k i<k (i+p)
 half:∀i,i<=p+j->∃z:Int,k i=(z:Rat)/2/\-4<=z/\z<=2+6*(j:Int)
def uM (k:Nat->Rat) (m:Nat) (t:Rat):Nat->Rat:=fun i=>if i=m then t else k i
theorem zj {k:Nat->Rat} {m:Nat} {t:Rat}:uM k m t m=t:=if_pos rfl
theorem ny {k:Nat->Rat} {m i:Nat} {t:Rat} (h:i≠m):uM k m t i=k i:=if_neg h
theorem KG.start {p:Nat} (hp:1<=p) {z:Int} (h1:-2<=z) (h2:z<=1):KG p 0 (fun _=>(z:Rat)) (z:Rat) where
 p1:=hp
 first:=fun _ _=>rfl
 top:=rfl
 sorted:=fun _ _=>Rat.le_refl
 mult:=fun i h1 h2=>by omega
 half:=fun i _=>⟨2*z,by
  have:((2*z:Int):Rat)=2*(z:Rat):=by simp
  rw[this];grind,by omega,by omega⟩
theorem KG.le_top {p j:Nat} {k:Nat->Rat} {t:Rat} (h:KG p j k t) {i:Nat} (hi:i<=p+j):k i<=t:=by
 rw[<-h.top]
 exact D0 (n:=p+j+1) (fun i hi=>h.sorted i (by omega)) hi (by omega)
theorem KG.next {p j:Nat} {k:Nat->Rat} {t t':Rat} (h:KG p j k t) (hc:(t<t'/\∃z:Int,t'=t+(z:Rat)/2/\z<=6)\/(t'=t/\1<=j/\t≠k (j+1))):KG p (j+1) (uM k (p+1+j) t') t':=by
 have hle:t<=t':=by
  rcases hc with⟨h1,_⟩|⟨h1,_⟩
  ·grind
  ·rw[h1];exact Rat.le_refl
 have hp:=h.p1
 refine⟨hp,fun i hi=>?_,?_,fun i hi=>?_,fun i h1 h2=>?_,fun i hi=>?_⟩
 ·rw[ny (by omega),ny (by omega)];exact h.first i hi
 ·rw[show p+(j+1)=p+1+j by omega,zj]
 ·by_cases he:i+1=p+1+j
  ·rw[he,zj,ny (by omega),show i=p+j by omega,h.top];exact hle
  ·rw[ny (by omega),ny he];exact h.sorted i (by omega)
 ·by_cases he:i=j+1
  ·subst he
   rw[show j+1+p=p+1+j by omega,zj,ny (by omega)]
   have:=h.le_top (i:=j+1) (by omega)
   rcases hc with⟨h3,_⟩|⟨h3,h4,h5⟩
   ·grind
   ·rw[h3];grind
  ·rw[ny (by omega),ny (by omega)];exact h.mult i h1 (by omega)
 ·by_cases he:i=p+1+j
  ·subst he
   rw[zj]
   obtain⟨z,e1,e2,e3⟩:=h.half (p+j) (by omega)
   rw[h.top]at e1
   rcases hc with⟨h3,y,e4,e5⟩|⟨h3,_⟩
   ·refine⟨z+y,?_,?_,by omega⟩
    ·rw[e4,e1]
     have:((z+y:Int):Rat)=(z:Rat)+(y:Rat):=by simp
     rw[this];grind
    ·have hy:0<y:=by
      rcases Int.lt_or_le 0 y with h6|h6
      ·exact h6
      ·exfalso
       have:((y:Int):Rat)<=0:=Rat.intCast_nonpos.2 h6
       grind
     omega
   ·exact⟨z,by rw[h3,e1],e2,by omega⟩
  ·rw[ny he]
   obtain⟨z,e1,e2,e3⟩:=h.half i (by omega)
   exact⟨z,e1,e2,by omega⟩
def ED (p j:Nat) (k:Nat->Rat) (t:Rat):Nat->Rat:=fun i=>if i<p+1+j then k i else t+1
theorem KG.done {p j:Nat} {k:Nat->Rat} {t:Rat} (h:KG p j k t):Kn (2*p+2+j) p (ED p j k t):=by
 have hp:=h.p1
 have lo:∀{i},i<p+1+j->ED p j k t i=k i:=fun hi=>if_pos hi
 have hi':∀{i},p+1+j<=i->ED p j k t i=t+1:=fun hi=>if_neg (by omega)
 refine⟨hp,by omega,fun i hi=>?_,fun i hi=>?_,fun i h1 h2=>?_,fun i h1 h2=>?_⟩
 ·by_cases h1:i+1<p+1+j
  ·rw[lo h1,lo (by omega)];exact h.sorted i (by omega)
  ·rw[hi' (i:=i+1) (by omega)]
   by_cases h2:i<p+1+j
   ·rw[lo h2]
    have:=h.le_top (i:=i) (by omega)
    grind
   ·rw[hi' (by omega)];exact Rat.le_refl
 ·rw[lo (i:=i) (by omega),lo (i:=0) (by omega)];exact h.first i hi
 ·rw[hi' (i:=i) (by omega),hi' (i:=2*p+2+j-1) (by omega)]
 ·by_cases h3:i+p<p+1+j
  ·rw[lo (by omega),lo h3];exact h.mult i h1 (by omega)
  ·rw[hi' (i:=i+p) (by omega),lo (i:=i) (by omega)]
   have:=h.le_top (i:=i) (by omega)
   grind
def kL (s:Nat):Kind (Nat×(Nat->Rat)):=⟨fun v=>match qi v with
 |some (n,f)=>some ((n,fun i=>aS (f i)),[cF f n s])
 |none=>none,fun a=>aV a.2 a.1 s,fun {v a q} h hq=>by
  split at h
  ·rename_i h1
   simp only[ay,Prod.mk.injEq]at h
   obtain⟨rfl,rfl⟩:=h
   exact acT h1 hq
  ·simp at h⟩
def fP (s:Nat):Kind Rat:=⟨fun v=>match nU v with
 |some (q,n)=>some (q,[n<=s])
 |none=>none,fun a=>.rat a s,fun {v a q} h hq=>by
  split at h
  ·rename_i h1
   simp only[ay,Prod.mk.injEq]at h
   obtain⟨rfl,rfl⟩:=h
   exact(xI h1).trans (mC hq)
  ·simp at h⟩
structure vE (α:Type) where
 read:List AV->Option (α×List Prop)
 make:α->List AV
 ok:∀{l:List AV} {a:α} {q:List Prop},read l=some (a,q)->aA q->fY l (make a)
def kN:vE Unit:=⟨fun l=>match l with
 |[]=>some ((),[])
 |_=>none,fun _=>[],fun {l a q} h _=>by
  split at h
  ·trivial
  ·simp at h⟩
def kC {α β:Type} (k:Kind α) (kl:vE β):vE (α×β):=⟨fun l=>match l with
 |v::l=>match k.read v,kl.read l with
  |some (a,p),some (b,q)=>some ((a,b),p++q)
  |_,_=>none
 |[]=>none,fun a=>k.make a.1::kl.make a.2,fun {l a q} h hq=>by
  split at h
  ·split at h
   ·rename_i h1 h2
    simp only[ay,Prod.mk.injEq]at h
    obtain⟨rfl,rfl⟩:=h
    obtain⟨q1,q2⟩:=fI.1 hq
    exact⟨k.ok h1 q1,kl.ok h2 q2⟩
   ·simp at h
  ·simp at h⟩
def dA {α:Type} (k:vE α) (g:α->AV) (need:α->List Prop):Spec:=bU fun l=>match k.read l with
 |some (a,p)=>some (aK (g a) (p++need a))
 |none=>none
theorem cR {α:Type} {f:FuncId} {k:vE α} {g:α->AV} {need:α->List Prop} (h:∀a K,aA (need a)->aP P f K (k.make a) [] (aK (g a) [])):bf P (dA k g need) f:=by
 refine cJ fun K args r hk hs _=>?_
 split at hs
 ·rename_i h1
  simp only[ay]at hs
  subst hs
  intro hn
  obtain⟨n1,hn⟩:=fI.1 hn
  exact gD (h _ K hn) hk (k.ok h1 n1) [] trivial
 ·simp at hs
end Go.Am.B
namespace Go.Am
def fe (p:Nat->Rat):Nat->Nat->Rat
 |0,i=>p i
 |k+1,i=>fe p k (i+1)-fe p k i
def fk (n:Nat) (p:Nat->Rat) (k:Nat):Rat:=((bn (n-1) k:Int):Rat)*fe p k 0
def ju (n:Nat) (c:Nat->Rat) (i:Nat):Nat->Rat
 |0=>0
 |k+1=>ju n c i k+((bn i k:Int):Rat)/((bn (n-1) k:Int):Rat)*c k
def eW (n:Nat) (c:Nat->Rat) (i:Nat):Rat:=ju n c i (i+1)
def jo (m:Nat) (p:Nat->Rat) (k j:Nat):Rat:=fe p (min k (m-j)) j
def gQ (m:Nat) (p:Nat->Rat) (k i j:Nat):Rat:=if j<i then fe p (k+1) j else jo m p k j
theorem zK {m k j:Nat} {p:Nat->Rat} (h:k+j<=m):jo m p k j=fe p k j:=by unfold jo;rw[show min k (m-j)=k by omega]
theorem Gk {m k j:Nat} {p:Nat->Rat}:gQ m p k (m-k) j=jo m p (k+1) j:=by
 unfold gQ jo
 split
 ·rw[show min (k+1) (m-j)=k+1 by omega]
 ·rw[show min (k+1) (m-j)=min k (m-j) by omega]
theorem Mr {m k i j:Nat} {p:Nat->Rat} (h:i+k<m):(if j=i then gQ m p k i (i+1)-gQ m p k i i else gQ m p k i j)=gQ m p k (i+1) j:=by
 unfold gQ
 by_cases h1:j=i
 ·subst h1
  rw[if_pos rfl,if_neg (by omega),if_neg (by omega),if_pos (by omega),zK (by omega),zK (by omega)];rfl
 ·rw[if_neg h1]
  by_cases h2:j<i
  ·rw[if_pos h2,if_pos (by omega)]
  ·rw[if_neg h2,if_neg (by omega)]
def br (k:Nat->Rat):Nat->Nat
 |0=>0
 |n+1=>if k n=0 then br k n else n+1
theorem eI {k:Nat->Rat}:∀{n:Nat},br k n<=n
 |0=>Nat.le_refl _
 |n+1=>by unfold br;split;exact Nat.le_succ_of_le eI;exact Nat.le_refl _
theorem EK {k:Nat->Rat}:∀{n:Nat},0<br k n->k (br k n-1)≠0
 |0,h=>by simp[br]at h
 |n+1,h=>by
  unfold br at h ⊢
  split
  ·rename_i h1;rw[if_pos h1]at h;exact EK h
  ·rename_i h1;simpa using h1
theorem Bc {k:Nat->Rat}:∀{n i:Nat},br k n<=i->i<n->k i=0
 |0,_,_,h=>absurd h (Nat.not_lt_zero _)
 |n+1,i,h,hi=>by
  unfold br at h
  split at h
  ·rename_i h1
   rcases Nat.lt_or_ge i n with h2|h2
   ·exact Bc h h2
   ·rw[show i=n by omega];exact h1
  ·omega
theorem nP {k:Nat->Rat} {n:Nat} (h:n=0\/k (n-1)≠0):br k n=n:=by
 cases n with
 |zero=>rfl
 |succ n=>unfold br;rw[if_neg (by simpa using h)]
theorem Ao {k l:Nat->Rat}:∀{n:Nat},(∀i,i<n->k i=l i)->br k n=br l n
 |0,_=>rfl
 |n+1,h=>by unfold br;rw[h n (by omega),Ao fun i hi=>h i (by omega)]
theorem Cc {k:Nat->Rat} {n:Nat}:∀{m:Nat},(∀i,n<=i->i<n+m->k i=0)->br k (n+m)=br k n
 |0,_=>rfl
 |m+1,h=>by
  show br k (n+m+1)=_
  unfold br
  rw[if_pos (h (n+m) (by omega) (by omega)),Cc fun i h1 h2=>h i h1 (by omega)]
  cases n<;>rfl
end Go.Am
namespace Go.Am.B
open Go Go.Am.N AV af aq IntKind Proofs.Tryz
def ag:Nat:=68719476736
def cG (n:Nat) (k:Nat->Rat):Prop:=∀i,i<n->Sz (k i) ag
abbrev wZ:Code:=aH f157
abbrev vC:List Nat:=[3,9,10,11]
abbrev Bp (n:Nat) (k:Nat->Rat) (s i:Nat):List AV:=[.own 0 3 0 n,aV k n s,.int .i64 n,.int .i64 i]
def Kr:Spec:=qE fun K l=>match l with
 |[v]=>match(kL ag).read v with
  |some ((n,k),q)=>some ⟨.own K 3 0 n,[(K,bT n k ag)],q++[n<2^40,cG n k]⟩
  |none=>none
 |_=>none
def qo:bh:=zG::(157,Kr)::(158,Dn)::gB
abbrev xC:Code:=aH f115
abbrev vi:Code:=part xC [1,1,1,0,1,0,0]
abbrev xk:Code:=part vi [1,1,0,0]
abbrev qW:List Nat:=[0,3,4,17,18,19]
abbrev zX (m:Nat) (p:Nat->Rat) (k:Nat):List AV:=[aV p (m+1) ag,.own 0 3 0 (m+1-k),.own 1 3 0 k,aV (fun i=>((bn m i:Int):Rat)) (m+1) 64,.int .i64 (m+1:Nat),.int .i64 k]
abbrev jR (m:Nat) (d x:Nat->Rat) (k:Nat):aE:=[(1,bT k x ag),(0,bT (m+1) d ag)]
abbrev vk:List Nat:=[0,3,4,17,18,19,38,39]
abbrev Cy (m:Nat) (p:Nat->Rat) (k i:Nat):List AV:=[aV p (m+1) ag,.own 0 3 0 (m+1-k),.own 1 3 0 (k+1),aV (fun i=>((bn m i:Int):Rat)) (m+1) 64,.int .i64 (m+1:Nat),.int .i64 k,.int .i64 (m-k:Nat),.int .i64 i]
theorem MN:aX 115 f115:=aZ func115
theorem acA {m:Nat} {p:Nat->Rat}:aG T qo [] 60 qW (before xC [1,1,1,0,1]) ⟨aT 0 [aV p (m+1) ag],[],0⟩=
  let c3:Nat:=m+1;let c4:Int:=(↑c3:Int);let c1:Int:=c4-1;let c2:Int:=if c1<0 then(0:Int)else c1;some (aj [cF (fun i=>rat (p i) ag) c3 ag,c3<2^40,cG c3 fun i=>aS (rat (p i) ag)] (aj [(0:Int)<=0/\(0:Int)<=c4/\c4<=2^47/\c4*(↑(56:Nat):Int)<=2^47] (aj [-(2:Int)^63<=c1/\c1<2^63,(0:Int)<=c2,c2<=40] (leaf normal ([ak 3 c3 fun i=>rat (p i) ag,own 8192 3 0 c3,own 24576 3 0 0,ak 3 (c2.toNat+1) fun i=>rat (↑(↑(bn c2.toNat i):Int):Rat) 64,int i64 (↑(c2.toNat+1):Int),int i64 0],[(24576,ax.mk true true 3 0 fun x=>rat 0 1),(8192,ax.mk true true 3 c3 fun i=>rat (aS (rat (p i) ag)) ag)]))))):=ah
theorem Zz {m k:Nat} {p d x:Nat->Rat}:aG T qo [20] 60 qW (before vi [1,1,0]) ⟨aC qW (zX m p k),jR m d x k,2⟩=
  let c2:Nat:=m+1;let c1:List AV×aE:=([ak 3 c2 fun i=>rat (p i) ag,own 0 3 0 (c2-k),own 1 3 0 k,ak 3 c2 fun i=>rat (↑(↑(bn m i):Int):Rat) 64,int i64 (↑c2:Int),int i64 (↑k:Int)],[(1,ax.mk true true 3 k fun i=>rat (x i) ag),(0,ax.mk true true 3 c2 fun i=>rat (d i) ag)]);some (fork (decide ((↑k:Int)<(↑c2:Int))) (leaf normal c1) (leaf (exit 0) c1)):=ah
theorem aaX {m k:Nat} {p d x:Nat->Rat}:aG T qo [200027] 60 vk (before xk [1,1,1,0,1]) ⟨aC qW (zX m p k),jR m d x k,2⟩=
  let c4:Int:=(↑k:Int);let c3:Nat:=Int.toNat (0:Int);let c1:Nat:=m+1;let c2:Int:=(↑(c1-k):Int)-1;some (aj [(0:Int)<=c4/\c4.toNat<c1,(0:Nat)<1] (aj [(c4==(↑c1:Int))=false] (aj [(0:Nat)<1,(0:Int)<=0/\c3<c1-k,c3+0<c1,(64:Nat)<2^42,ag<2^42,(1:Nat)*3<=2^24,(k+1)*((56:Nat)+1)*2<=2^47] (aj [-(2:Int)^63<=c2/\c2<2^63] (leaf normal ([ak 3 c1 fun i=>rat (p i) ag,own 0 3 0 (c1-k),own 69634 3 0 (k+1),ak 3 c1 fun i=>rat (↑(↑(bn m i):Int):Rat) 64,int i64 (↑c1:Int),int i64 c4,int i64 c2,int i64 0],[(69634,ax.mk true true 3 (k+1) fun i=>if i<k then rat (x i) ag else nth [rat ((↑(↑(bn m c4.toNat):Int):Rat)*d (c3+0)) ((64:Nat)+ag)] (rat 0 1) (i-k+0)),(0,ax.mk true true 3 c1 fun i=>rat (d i) ag)])))))):=ah
theorem XK {m k i:Nat} {p d x:Nat->Rat}:aG T qo [40] 60 vk [part xk [1,1,1,0,1,0,0]] ⟨aC vk (Cy m p k i),jR m d x (k+1),2⟩=
  let c13:Prop:=ag<2^42;let c11:Int:=(↑(m-k):Int);let c9:AV:=own 1 3 0 (k+1);let c7:Int:=(↑i:Int);let c6:Int:=(2:Int)^63;let c4:Nat×ax:=(1,ax.mk true true 3 (k+1) fun i=>rat (x i) ag);let c2:Nat:=m+1;let c12:Prop:=(0:Int)<=c7/\c7.toNat<c2-k;let c10:AV:=own 0 3 0 (c2-k);let c8:AV:=ak 3 c2 fun i=>rat (p i) ag;let c5:AV:=ak 3 c2 fun i=>rat (↑(↑(bn m i):Int):Rat) 64;let c3:Nat:=c7.toNat+0;let c1:Int:=c7+1;some (fork (decide (c7<c11)) (aj [-c6<=c1/\c1<c6,(0:Int)<=c1/\c1.toNat<c2-k,c1.toNat+0<c2,c12,c3<c2,c13,c13,c12,c3<c2] (aj [-c6<=c1/\c1<c6] (leaf normal ([c8,c10,c9,c5,int i64 (↑c2:Int),int i64 (↑k:Int),int i64 c11,int i64 c1],[c4,(0,ax.mk true true 3 c2 fun j=>rat (bif j==c3 then d (c1.toNat+0)-d c3 else d j) (bif j==c3 then ag+ag+1 else ag))])))) (leaf (exit 2) ([c8,c10,c9,c5,int i64 (↑c2:Int),int i64 (↑k:Int),int i64 c11,int i64 c7],[c4,(0,ax.mk true true 3 c2 fun i=>rat (d i) ag)]))):=ah
theorem Pr {m k i:Nat} {p d x:Nat->Rat}:aG T qo [] 60 qW (behind xk [1,1,1,0,1]++[part vi [1,1,1]]) ⟨aC vk (Cy m p k i),jR m d x (k+1),2⟩=
  let c4:Int:=(↑k:Int)+1;let c3:Nat:=m+1;let c2:Int:=(2:Int)^63;let c1:Int:=(↑(c3-k):Int)-1;some (aj [-c2<=c1/\c1<c2,(0:Int)<=0/\(0:Int)<=c1/\c1<=c1/\c1<=(↑(c3-k):Int)] (aj [-c2<=c4/\c4<c2] (leaf normal ([ak 3 c3 fun i=>rat (p i) ag,own 0 3 0 (c1.toNat-Int.toNat (0:Int)),own 1 3 0 (k+1),ak 3 c3 fun i=>rat (↑(↑(bn m i):Int):Rat) 64,int i64 (↑c3:Int),int i64 c4],[(1,ax.mk true true 3 (k+1) fun i=>rat (x i) ag),(0,ax.mk true true 3 c3 fun i=>rat (d i) ag)])))):=ah
theorem ab1 {m k:Nat} {p d x:Nat->Rat}:cA T qo [] 60 f115 [part xC [1,1,1,1]] ⟨aC qW (zX m p k),jR m d x k,2⟩=
  some (leaf ret [ak 3 k fun i=>rat (x (i+0)) ag]):=ah
theorem IL:aX 157 f157:=aZ func157
theorem Q4 {n s:Nat} {k:Nat->Rat}:aG T GZ [] 60 vC (before wZ [1,1,0,1]) ⟨aT 0 [aV k n s],[],0⟩=
  let c1:Int:=(↑n:Int);some (aj [(0:Int)<=c1/\c1<=c1/\c1<=2^47/\c1*(↑(56:Nat):Int)<=2^47] (leaf normal ([own 12288 3 0 c1.toNat,ak 3 n fun i=>rat (k i) s,int i64 c1,int i64 0],[(12288,ax.mk true true 3 c1.toNat fun x=>rat 0 1)]))):=ah
theorem WT {n s i:Nat} {k x:Nat->Rat}:aG T GZ [12] 60 vC [part wZ [1,1,0,1,0,0]] ⟨aC vC (Bp n k s i),[(0,bT n x ag)],1⟩=
  let c7:Int:=(↑n:Int);let c4:AV:=own 0 3 0 n;let c3:AV:=ak 3 n fun i=>rat (k i) s;let c1:Int:=(↑i:Int);let c6:Int:=c1+1;let c5:Prop:=(0:Int)<=c1/\c1.toNat<n;let c2:Nat:=c1.toNat+0;some (fork (decide (c1<c7)) (aj [c5,(0:Nat)<1] (aj [(0:Nat)<1,s<2^42,(1:Nat)<2^42,c5,c2<n] (aj [-(2:Int)^63<=c6/\c6<2^63] (leaf normal ([c4,c3,int i64 c7,int i64 c6],[(0,ax.mk true true 3 n fun j=>rat (bif j==c2 then k c1.toNat+0 else x j) (bif j==c2 then s+1+1 else ag))]))))) (leaf (exit 0) ([c4,c3,int i64 c7,int i64 c1],[(0,ax.mk true true 3 n fun i=>rat (x i) ag)]))):=ah
theorem abX {n s i:Nat} {k x:Nat->Rat}:aG T GZ [] 60 [2] [part wZ [1,1,1]] ⟨aC vC (Bp n k s i),[(0,bT n x ag)],1⟩=
  some (leaf ret ([own 0 3 0 n],[(0,ax.mk true true 3 n fun i=>rat (x i) ag)])):=ah
theorem cW:ag=2^36:=rfl
theorem kI {rl:List (Nat×Nat)} {i j zt z w:Nat} {t:Rat} {x y:Nat->Rat} (h1:bA (.rat t zt) (.rat (y i) w)) (h2:j≠i->bA (.rat (x j) z) (.rat (y j) w)):pP rl (.rat (bif j==i then t else x j) (bif j==i then zt else z)) (.rat (y j) w):=by
 refine .inr ⟨rfl,?_⟩
 by_cases h:j=i
 ·subst h;rw[beq_self_eq_true];exact h1
 ·rw[show(j==i)=false by simpa using h];exact h2 h
theorem Ey {α:Type} {i j:Nat} {a b:α} (h:j≠i):(if j<i+1 then a else b)=if j<i then a else b:=by
 by_cases h1:j<i
 ·rw[if_pos h1,if_pos aa]
 ·rw[if_neg h1,if_neg aa]
theorem Ze {args:List AV} {n:Nat} {k:Nat->Rat} {l:List Prop} (ha:aA l->ga (aY []) args [aV k n ag]) (hn:aA l->n<2^40/\cG n k) (K:Nat):aP P 157 K args [] ⟨lZ [.own K 3 0 n],[(K,bT n k ag)],l⟩:=by
 refine BB hT IL ha aW fun need c hk=>?_
 obtain⟨hn,hz⟩:=hn need
 have hW:=cW
 refine au.l5 hT nO hm [1,1,0,1] (i:=0) (y:=part wZ [1,1,0,1,0,0]) (z:=part wZ [1,1,1]) ah ah ah IL.dst hk (f1:=[]) (f2:=[12]) 60 vC 1 (fun i:Nat=>Bp n k ag i) (fun i=>[(0,bT n (fun j=>if j<i then k j else 0) ag)])
  (fun i=>i<=n) (fun i=>i=n) (fun i=>n-i) (fun _=>False) ⟨_,Q4,?_⟩ (fun i hi=>⟨_,WT,?_⟩) (fun i hi=>?_) (fun _ _ h=>h.elim)
 ·simp only[af.all,aA,bu]
  exact⟨aa,0,Nat.zero_le _,[(0,12288)],rfl,rfl,rfl,bg rfl rfl rfl (fun i hi=>.inr ⟨rfl,dy (if_neg (Nat.not_lt_zero i)).symm aa⟩) trivial⟩
 ·simp only[af.all,aA,bw,bB,bu,Nat.add_zero]
  refine⟨fun h2=>⟨aa,aa,aa,i+1,aa,by dsimp only;omega,[(0,0)],rfl,rfl,rfl,bg rfl rfl rfl (fun j hj=>?_) trivial⟩,fun h2=>⟨rfl,i,aa,[(0,0)],rfl,rfl,rfl,bg rfl rfl rfl (fun j hj=>bE rfl rfl) trivial⟩⟩
  exact kI (x:=fun j=>if j<i then k j else 0) (y:=fun j=>if j<i+1 then k j else 0) (dK ((Rat.add_zero _).trans (if_pos (Nat.lt_succ_self i)).symm) (by show Sz (if i<i+1 then _ else _) _;rw[if_pos (Nat.lt_succ_self i)];exact hz i aa)) fun hj=>dy (Ey hj).symm aQ
 ·subst hi
  refine au.bD hT nO hm 60 [2] abX ah fun s' hs'=>⟨.inr rfl,[2],_,[.own 0 3 0 i],_,0,_,hs',ah,⟨⟨rfl,dH (by simp[aY,look]) rfl rfl⟩,trivial⟩,rfl,gk rfl fun j hj=>?_⟩
  rw[if_pos hj];exact gp rfl
theorem Pq:bf P Kr 157:=by
 refine wq fun K args r hk hs=>?_
 split at hs
 ·rename_i v
  split at hs
  ·rename_i n k q hv
   simp only[ay]at hs
   subst hs
   exact Ze (fun hn=>Dg hk (by cases v<;>first|rfl|simp[kL,qi]at hv) ⟨(kL ag).ok hv (fI.1 hn).1,trivial⟩) (fun hn=>have:=(fI (a:=q) (b:=[n<2^40,cG n k]).1 hn).2;⟨this.1,this.2⟩) K
  ·simp at hs
 ·simp at hs
theorem Mq:bI P qo:=fD (aL Pq (aL IA gE))
theorem cG.up {n:Nat} {k:Nat->Rat} {i z:Nat} (h:cG n k) (hi:i<n):bA (.rat (k i) z) (.rat (k i) ag):=dK rfl (h i hi)
def qk (n:Nat) (p:Nat->Rat):Prop:=(∀k i,k+i<n->Sz (fe p k i) ag)/\cG n (fk n p)
theorem Po {m:Nat} {p:Nat->Rat} (hm1:m<=40) (hz:qk (m+1) p) (K:Nat):aP P 115 K [aV p (m+1) ag] [] (aK (aV (fk (m+1) p) (m+1) ag) []):=by
 refine gm (r:=aK (aV (fk (m+1) p) (m+1) ag) []) hT MN rfl aW rfl (fun _ cx h0=>?_) K []
 have hk:=jZ h0
 have hW:=cW
 have hd:∀k i,k+i<=m->Sz (fe p k i) ag:=fun k i h=>hz.1 k i aa
 refine au.oX hT Mq hm (x:=xC) [1,1,1,0,1] (i:=0) (y:=vi) (z:=part xC [1,1,1,1]) ah ah ah MN.dst [1,1,0] (j:=1) (x1:=xk) (zb:=part vi [1,1,1]) ah ah ah [1,1,1,0,1] (i2:=2) (y2:=part xk [1,1,1,0,1,0,0]) ah ah rfl hk
  (f1:=[]) (f2:=[20]) (f3:=[200027]) (f4:=[40]) (f5:=[]) 60 qW vk 2 2 (fun k:Nat=>zX m p k) (fun k=>jR m (jo m p k) (fk (m+1) p) k) (fun k=>k<=m+1) (fun k=>k=m+1) (fun k=>m+1-k) (fun k=>k<m+1) (fun _=>False) (fun _=>False)
  (fun k (i:Nat)=>Cy m p k i) (fun k i=>jR m (gQ m p k i) (fk (m+1) p) (k+1)) (fun k i=>i<=m-k) (fun k i=>i=m-k) (fun k i=>m-k-i)
  ⟨_,acA,?_⟩ (fun k hk=>⟨_,Zz,?_⟩) (fun k hk hG=>⟨_,aaX,?_⟩) (fun k hk hG i hi=>⟨_,XK,?_⟩) (fun k hk hG i hi=>⟨_,Pr,?_⟩) (fun k hk=>?_) (fun _ _ h=>h.elim) (fun _ _ h=>h.elim)
 ·simp only[af.all,aA]
  have e1:(if((m+1:Nat):Int)-1<0 then 0 else((m+1:Nat):Int)-1)=(m:Nat):=by rw[if_neg aa];omega
  rw[e1]
  refine⟨⟨cZ aQ,aa,fun i hi=>hd 0 i aa⟩,aa,aa,0,aa,[(0,8192),(1,24576)],rfl,rfl,rfl,bg rfl rfl rfl (fun i hi=>absurd hi (Nat.not_lt_zero i)) (bg rfl rfl rfl (fun i hi=>bE rfl ?_) trivial)⟩
  show AV.rat (p i) ag=AV.rat (jo m p 0 i) ag
  unfold jo;rw[Nat.zero_min];rfl
 ·simp only[af.all,aA,bw,bB]
  exact⟨fun h=>⟨aa,[(0,0),(1,1)],rfl,rfl,rfl,bg rfl rfl rfl (fun i hi=>bE rfl rfl) (bg rfl rfl rfl (fun i hi=>bE rfl rfl) trivial)⟩,fun h=>⟨rfl,k,aa,[(0,0),(1,1)],rfl,rfl,rfl,bg rfl rfl rfl (fun i hi=>bE rfl rfl) (bg rfl rfl rfl (fun i hi=>bE rfl rfl) trivial)⟩⟩
 ·simp only[af.all,aA,bu,beq_eq_false_iff_ne]
  have e0:(0:Int).toNat=0:=rfl
  refine⟨aa,aa,aa,aa,0,aa,[(0,0),(1,69634)],rfl,?_,rfl,bg rfl rfl rfl (fun i hi=>?_) (bg rfl rfl rfl (fun i hi=>bE rfl ?_) trivial)⟩
  ·rw[show((m+1-k:Nat):Int)-1=(m-k:Nat) by omega];rfl
  ·refine .inr ⟨?_,?_⟩
   ·split
    ·rfl
    ·rw[show i-k+0=0 by omega];rfl
   ·split
    ·exact .refl _
    ·rw[show i-k+0=0 by omega,show i=k by omega]
     exact dK (by rw[zK aa];rfl) (hz.2 k hG)
  ·show AV.rat (jo m p k i) ag=AV.rat (gQ m p k 0 i) ag
   unfold gQ;rw[if_neg (Nat.not_lt_zero i)]
 ·simp only[af.all,aA,bw,bB,bu,Nat.add_zero]
  have e1:((i:Int)+1).toNat=i+1:=aa
  rw[e1]
  refine⟨fun h=>⟨aa,aa,i+1,aa,by dsimp only;omega,[(0,0),(1,1)],rfl,rfl,rfl,bg rfl rfl rfl (fun j hj=>bE rfl rfl) (bg rfl rfl rfl (fun j hj=>?_) trivial)⟩,fun h=>⟨rfl,i,aa,[(0,0),(1,1)],rfl,rfl,rfl,bg rfl rfl rfl (fun j hj=>bE rfl rfl) (bg rfl rfl rfl (fun j hj=>bE rfl rfl) trivial)⟩⟩
  have h3:=fun j=>Mr (m:=m) (k:=k) (i:=i) (j:=j) (p:=p) aa
  exact kI (x:=gQ m p k i) (y:=gQ m p k (i+1)) (dK ((if_pos rfl).symm.trans (h3 i)) (by unfold gQ;rw[if_pos (Nat.lt_succ_self i)];exact hd _ _ aa)) fun hj=>dy ((if_neg hj).symm.trans (h3 j)) aQ
 ·subst hi
  simp only[af.all,aA]
  refine⟨aa,aa,k+1,aa,by dsimp only;omega,[(0,0),(1,1)],rfl,?_,rfl,bg rfl rfl rfl (fun j hj=>bE rfl rfl) (bg rfl rfl rfl (fun j hj=>bE rfl ?_) trivial)⟩
  ·rw[show(((m+1-k:Nat):Int)-1).toNat-(0:Int).toNat=m+1-(k+1) by omega];rfl
  ·show AV.rat (gQ m p k (m-k) j) ag=AV.rat (jo m p (k+1) j) ag
   rw[Gk]
 ·subst hk
  exact au.jV ((aF.fin hT Mq hm 60 ab1 ah (gr fun _ _=>.refl _)).mono fun _ _ h=>.inl h)
def yC:Spec:=dA (kC (kL ag) kN) (fun a=>aV (fk a.1.1 a.1.2) a.1.1 ag) fun a=>[1<=a.1.1,a.1.1<=41,qk a.1.1 a.1.2]
theorem Nf:bf P yC 115:=cR fun⟨⟨n,p⟩,_⟩ K hn=>by
 obtain⟨h1,h2,h3⟩:=hn
 simp only at h1 h2 h3
 obtain⟨m,rfl⟩:∃m,n=m+1:=⟨n-1,aa⟩
 exact Po aa h3 K
end Go.Am.B
namespace Go.Am
def fJ (e:Nat) (d:Nat->Rat) (k:Nat) (r:Nat->Rat) (i:Nat):Rat:=if k<=i/\i<k+e+1 then r i-r (k+e)/d e*d (i-k)else r i
def bP (e:Nat) (d a:Nat->Rat) (R:Nat):Nat->Nat->Rat
 |0=>a
 |j+1=>fJ e d (R-1-j) (bP e d a R j)
def cY (e:Nat) (d a:Nat->Rat) (R k:Nat):Rat:=bP e d a R (R-1-k) (k+e)/d e
theorem Lu {e k:Nat} {d r:Nat->Rat} (hd:d e≠0):fJ e d k r (k+e)=0:=by
 unfold fJ
 rw[if_pos (by omega),show k+e-k=e by omega,Rat.div_mul_cancel hd,Rat.sub_self]
theorem ado {e k:Nat} {d r:Nat->Rat} (h:r (k+e)=0):fJ e d k r=r:=by
 funext i
 unfold fJ
 split
 ·rw[h,Rat.div_def,Rat.zero_mul,Rat.zero_mul];grind
 ·rfl
section
variable {n e R:Nat} {d a:Nat->Rat}
def eJ (n R L:Nat):Nat:=min (n-L) R
theorem EX (hR:R=n-e) {L:Nat} (hL:L<=n) (hz:∀i,L<=i->i<n->bP e d a R (eJ n R L) i=0):∀m,m<=L->(∀i,L-m<=i->i<n->bP e d a R (eJ n R L) i=0)->bP e d a R (eJ n R (L-m))=bP e d a R (eJ n R L)
 |0,_,_=>rfl
 |m+1,hm,h=>by
  have ih:=EX hR hL hz m (by omega) (fun i h1 h2=>h i (by omega) h2)
  rw[<-ih]
  by_cases h1:n-(L-m)<R
  ·rw[show eJ n R (L-(m+1))=n-(L-m)+1 by unfold eJ;omega,show eJ n R (L-m)=n-(L-m) by unfold eJ;omega]
   show fJ e d (R-1-(n-(L-m))) (bP e d a R (n-(L-m)))=_
   refine ado ?_
   rw[show n-(L-m)=eJ n R (L-m) by unfold eJ;omega,ih]
   exact h _ (by unfold eJ;omega) (by unfold eJ;omega)
  ·rw[show eJ n R (L-(m+1))=eJ n R (L-m) by unfold eJ;omega]
structure jx (n e R:Nat) (d a:Nat->Rat) (L:Nat) (x q:Nat->Rat):Prop where
 le:L<=n
 xd:∀i,i<L->x i=bP e d a R (eJ n R L) i
 zero:∀i,L<=i->i<n->bP e d a R (eJ n R L) i=0
 top:L=0\/bP e d a R (eJ n R L) (L-1)≠0
 quo:∀k,k<R->q k=if k+e<L then 0 else cY e d a R k
theorem jx.start (hR:R=n-e) (ha:n=0\/a (n-1)≠0):jx n e R d a n a fun _=>0 where
 le:=Nat.le_refl _
 xd i hi:=by rw[show eJ n R n=0 by unfold eJ;omega];rfl
 zero i h1 h2:=by omega
 top:=by rw[show eJ n R n=0 by unfold eJ;omega];exact ha
 quo k hk:=by rw[if_pos (by omega)]
def en (e:Nat) (d x:Nat->Rat) (k:Nat) (f:Rat) (i j:Nat):Rat:=if k<=j/\j<k+i then x j-f*d (j-k)else x j
variable {L:Nat} {x q:Nat->Rat}
theorem jx.quot (hR:R=n-e) (h:jx n e R d a L x q) (hL:e<L):x (L-1)/d e=cY e d a R (L-1-e):=by
 have:=h.le
 unfold cY
 rw[h.xd _ (by omega),show eJ n R L=R-1-(L-1-e) by unfold eJ;omega,show L-1-e+e=L-1 by omega]
theorem jx.Gh (hR:R=n-e) (h:jx n e R d a L x q) (hL:e<L) {i j:Nat} (hi:i<=e) (hj:j<L-1) (hij:j<L-1-e+i):en e d x (L-1-e) (x (L-1)/d e) i j=bP e d a R (n-L+1) j:=by
 have hl:=h.le
 have e1:eJ n R L=n-L:=by unfold eJ;omega
 show _=fJ e d (R-1-(n-L)) (bP e d a R (n-L)) j
 rw[show R-1-(n-L)=L-1-e by omega]
 unfold en fJ
 rw[show L-1-e+e=L-1 by omega,<-e1,<-h.xd j (by omega),<-h.xd (L-1) (by omega)]
 by_cases hk:L-1-e<=j
 ·rw[if_pos ⟨hk,hij⟩,if_pos (by omega)]
 ·rw[if_neg (by omega),if_neg (by omega)]
theorem jx.next (hR:R=n-e) (hd:d e≠0) (h:jx n e R d a L x q) (hL:e<L):
  jx n e R d a (br (en e d x (L-1-e) (x (L-1)/d e) e) (L-1)) (en e d x (L-1-e) (x (L-1)/d e) e) fun j=>if j=L-1-e then x (L-1)/d e else q j:=by
 have hl:=h.le
 have hu:∀j,j<L-1->en e d x (L-1-e) (x (L-1)/d e) e j=bP e d a R (n-L+1) j:=fun j hj=>h.Gh hR hL (Nat.le_refl _) hj (by omega)
 have e1:eJ n R L=n-L:=by unfold eJ;omega
 have e2:eJ n R (L-1)=n-L+1:=by unfold eJ;omega
 obtain⟨M,hM⟩:∃M,M=br (en e d x (L-1-e) (x (L-1)/d e) e) (L-1):=⟨_,rfl⟩
 have hM2:M=br (bP e d a R (n-L+1)) (L-1):=by rw[hM];exact Ao hu
 have hMl:M<=L-1:=by rw[hM2];exact eI
 have hz1:∀i,L-1<=i->i<n->bP e d a R (n-L+1) i=0:=fun i h1 h2=>by
  show fJ e d (R-1-(n-L)) (bP e d a R (n-L)) i=0
  rw[show R-1-(n-L)=L-1-e by omega]
  by_cases h3:i=L-1
  ·have:=Lu (k:=L-1-e) (r:=bP e d a R (n-L)) hd
   rwa [show L-1-e+e=i by omega]at this
  ·unfold fJ
   rw[if_neg (by omega),<-e1]
   exact h.zero i (by omega) h2
 have hz:∀i,M<=i->i<n->bP e d a R (n-L+1) i=0:=fun i h1 h2=>by
  rcases Nat.lt_or_ge i (L-1)with h3|h3
  ·exact Bc (by rw[<-hM2];exact h1) h3
  ·exact hz1 i h3 h2
 have hs:bP e d a R (eJ n R M)=bP e d a R (n-L+1):=by
  have:=EX (d:=d) (a:=a) hR (L:=L-1) (by omega) (by rw[e2];exact hz1) (L-1-M) (by omega) (by rw[e2,show L-1-(L-1-M)=M by omega];exact hz)
  rwa [show L-1-(L-1-M)=M by omega,e2]at this
 rw[<-hM]
 refine⟨by omega,fun i hi=>by rw[hs];exact hu i (by omega),fun i h1 h2=>by rw[hs];exact hz i h1 h2,?_,fun k hk=>?_⟩
 ·rw[hs]
  rcases Nat.eq_zero_or_pos M with h0|h0
  ·exact .inl h0
  ·right
   rw[hM2]at h0 ⊢
   exact EK h0
 ·show(if k=L-1-e then x (L-1)/d e else q k)=_
  by_cases h1:k=L-1-e
  ·rw[if_pos h1,if_neg (by omega),h.quot hR hL,h1]
  ·rw[if_neg h1,h.quo k hk]
   by_cases h2:k+e<M
   ·rw[if_pos h2,if_pos (by omega)]
   ·rw[if_neg h2]
    by_cases h3:k+e<L
    ·rw[if_pos h3]
     -- a round that did nothing
     have hk2:k+e<L-1:=by omega
     unfold cY
     have e3:=EX (d:=d) (a:=a) hR (L:=L-1) (by omega) (by rw[e2];exact hz1) (L-1-(k+e+1)) (by omega) (by rw[e2,show L-1-(L-1-(k+e+1))=k+e+1 by omega];exact fun i h1 h2=>hz i (by omega) h2)
     rw[show L-1-(L-1-(k+e+1))=k+e+1 by omega,e2]at e3
     rw[show R-1-k=eJ n R (k+e+1) by unfold eJ;omega,e3,hz (k+e) (by omega) (by omega),Rat.div_def,Rat.zero_mul]
    ·rw[if_neg h3]
theorem jx.fin (hR:R=n-e) (h:jx n e R d a L x q) (hL:L<=e):L=br (bP e d a R R) n/\(∀i,i<L->x i=bP e d a R R i)/\∀k,k<R->q k=cY e d a R k:=by
 have hl:=h.le
 have e1:eJ n R L=R:=by unfold eJ;omega
 have hz:=h.zero
 have ht:=h.top
 have ha:=h.xd
 rw[e1]at hz ht ha
 refine⟨?_,ha,fun k hk=>by rw[h.quo k hk,if_neg (by omega)]⟩
 have:=Cc (k:=bP e d a R R) (n:=L) (m:=n-L) fun i h1 h2=>hz i h1 (by omega)
 rw[show L+(n-L)=n by omega,nP ht]at this
 exact this.symm
end
end Go.Am
namespace Go.Am
abbrev PP:=Nat×(Nat->Rat)
def cw (a d:PP):PP:=(br (bP (d.1-1) d.2 a.2 (a.1-(d.1-1)) (a.1-(d.1-1))) a.1,bP (d.1-1) d.2 a.2 (a.1-(d.1-1)) (a.1-(d.1-1)))
def eZ (a d:PP):PP:=(br (cY (d.1-1) d.2 a.2 (a.1-(d.1-1))) (a.1-(d.1-1)),cY (d.1-1) d.2 a.2 (a.1-(d.1-1)))
def cu (n:Nat) (c:Nat->Rat) (i:Nat):Rat:=c i/c (n-1)
def dO (a:PP):PP:=(a.1,cu a.1 a.2)
def cT (c:Nat->Rat) (i:Nat):Rat:=((i+1:Nat):Int)*c (i+1)
def bQ (a:PP):PP:=(br (cT a.2) (a.1-1),cT a.2)
def Trim (a:PP):Prop:=a.1=0\/a.2 (a.1-1)≠0
theorem lK {k:Nat->Rat} {n:Nat}:Trim (br k n,k):=by
 rcases Nat.eq_zero_or_pos (br k n)with h|h
 ·exact .inl h
 ·exact .inr (EK h)
theorem oN {a d:PP}:Trim (cw a d):=lK
theorem xV {a d:PP}:Trim (eZ a d):=lK
theorem fA {a:PP}:Trim (bQ a):=lK
theorem m8 {a:PP} (h:Trim a):Trim (dO a):=by
 rcases h with h|h
 ·exact .inl h
 ·right
  show cu a.1 a.2 (a.1-1)≠0
  unfold cu
  rw[Rat.div_def,Rat.mul_inv_cancel _ h];decide
theorem FT {n e R:Nat} {d a:Nat->Rat} (hR:R=n-e) (hd:d e≠0):∀j,j<=R->∀i,n-j<=i->i<n->bP e d a R j i=0
 |0,_,i,h1,h2=>by omega
 |j+1,hj,i,h1,h2=>by
  show fJ e d (R-1-j) (bP e d a R j) i=0
  by_cases h:i=R-1-j+e
  ·rw[h];exact Lu hd
  ·unfold fJ
   rw[if_neg (by omega)]
   exact FT hR hd j (by omega) i (by omega) h2
theorem nD {a d:PP} (hd:0<d.1) (ht:Trim d):(cw a d).1<d.1:=by
 show br _ _<_
 have h0:d.2 (d.1-1)≠0:=by rcases ht with h|h;omega;exact h
 have:=fun i=>FT (n:=a.1) (a:=a.2) (rfl) h0 _ (Nat.le_refl (a.1-(d.1-1))) i
 rcases Nat.lt_or_ge a.1 d.1 with h|h
 ·exact Nat.lt_of_le_of_lt eI h
 ·have e1:=Cc (k:=bP (d.1-1) d.2 a.2 (a.1-(d.1-1)) (a.1-(d.1-1))) (n:=d.1-1) (m:=a.1-(d.1-1)) fun i h1 h2=>this i (by omega) (by omega)
  rw[show d.1-1+(a.1-(d.1-1))=a.1 by omega]at e1
  rw[e1]
  have:=eI (k:=bP (d.1-1) d.2 a.2 (a.1-(d.1-1)) (a.1-(d.1-1))) (n:=d.1-1)
  omega
def fo (s:PP×PP):PP×PP:=if s.2.1=0 then s else(s.2,dO (cw s.1 s.2))
def bJ (s:PP×PP):Nat->PP×PP
 |0=>s
 |j+1=>fo (bJ s j)
theorem mI {s:PP×PP} (h1:Trim s.1) (h2:Trim s.2):∀j,Trim (bJ s j).1/\Trim (bJ s j).2
 |0=>⟨h1,h2⟩
 |j+1=>by
  have:=mI h1 h2 j
  show Trim (fo _).1/\Trim (fo _).2
  unfold fo
  split
  ·exact this
  ·exact⟨this.2,m8 oN⟩
theorem wV {s:PP×PP} (h1:Trim s.1) (h2:Trim s.2):∀j,(bJ s j).2.1<=s.2.1-j
 |0=>Nat.le_refl _
 |j+1=>by
  have:=wV h1 h2 j
  have ht:=mI h1 h2 j
  show(fo _).2.1<=_
  unfold fo
  split
  ·rename_i h;rw[h];exact Nat.zero_le _
  ·rename_i h
   have:=nD (a:=(bJ s j).1) (d:=(bJ s j).2) (by omega) ht.2
   show(cw _ _).1<=_
   omega
theorem El {s:PP×PP} {j:Nat} (h:(bJ s j).2.1=0):∀m,bJ s (j+m)=bJ s j
 |0=>rfl
 |m+1=>by
  show fo (bJ s (j+m))=_
  rw[El h m]
  unfold fo
  rw[if_pos h]
theorem Ip {s:PP×PP} (h:0<s.1.1):∀j,0<(bJ s j).1.1
 |0=>h
 |j+1=>by
  have:=Ip h j
  show 0<(fo _).1.1
  unfold fo
  split
  ·exact this
  ·dsimp only;omega
theorem o4 {s:PP×PP} {B:Nat} (ha:s.1.1<=B) (hb:s.2.1<=B) (h1:Trim s.1) (h2:Trim s.2):∀j,(bJ s j).1.1<=B
 |0=>ha
 |j+1=>by
  have:=o4 ha hb h1 h2 j
  have h3:=wV h1 h2 j
  show(fo _).1.1<=_
  unfold fo
  split
  ·exact this
  ·dsimp only;omega
def bS (a b:PP):PP:=dO (bJ (a,b) b.1).1
theorem acw {a b:PP} (h1:Trim a) (h2:Trim b) {j:Nat} (hj:j<=b.1) (h:(bJ (a,b) j).2.1=0):dO (bJ (a,b) j).1=bS a b:=by
 have:=El h (b.1-j)
 rw[show j+(b.1-j)=b.1 by omega]at this
 unfold bS
 rw[this]
theorem mu {a b:PP} (h1:Trim a) (h2:Trim b):Trim (bS a b):=m8 (mI (s:=(a,b)) h1 h2 _).1
theorem As {a b:PP} (h:0<a.1):0<(bS a b).1:=Ip (s:=(a,b)) h _
def bX (a:PP):PP:=if a.1=0 then(0,a.2)else dO (eZ a (bS a (bQ a)))
def qL (s:PP×PP):PP×PP:=(s.2,((cw s.1 s.2).1,fun i=>((-1:Int):Rat)*(cw s.1 s.2).2 i))
def bG (s:PP×PP):Nat->PP×PP
 |0=>s
 |j+1=>qL (bG s j)
theorem adj {a:PP} {r:Rat} (h:Trim a) (hr:r≠0):Trim (a.1,fun i=>r*a.2 i):=by
 rcases h with h|h
 ·exact .inl h
 ·right
  show r*a.2 (a.1-1)≠0
  intro h0
  rcases Rat.mul_eq_zero.1 h0 with h1|h1
  ·exact hr h1
  ·exact h h1
theorem oE {s:PP×PP} (h1:Trim s.1) (h2:Trim s.2):∀j,Trim (bG s j).1/\Trim (bG s j).2
 |0=>⟨h1,h2⟩
 |j+1=>⟨(oE h1 h2 j).2,adj (a:=cw (bG s j).1 (bG s j).2) oN (by decide)⟩
def stM (s:PP×PP):Nat->Nat->Nat
 |0,j=>j
 |f+1,j=>if(bG s j).2.1=0 then j else stM s f (j+1)
def eU (s:PP×PP):Nat:=stM s s.2.1 0
theorem Fw {s:PP×PP} (h1:Trim s.1) (h2:Trim s.2):∀f j,(bG s j).2.1<=f->j<=stM s f j/\stM s f j<=j+f/\(bG s (stM s f j)).2.1=0/\∀i,j<=i->i<stM s f j->(bG s i).2.1≠0
 |0,j,h=>⟨Nat.le_refl _,by show j<=_;omega,by show(bG s j).2.1=0;omega,fun i h1 h2=>by have:i<j:=h2;omega⟩
 |f+1,j,h=>by
  unfold stM
  split
  ·rename_i h0
   exact⟨Nat.le_refl _,by omega,h0,fun i h1 h2=>by omega⟩
  ·rename_i h0
   have hr:=nD (a:=(bG s j).1) (d:=(bG s j).2) (by omega) (oE h1 h2 j).2
   have hr:(bG s (j+1)).2.1<(bG s j).2.1:=hr
   obtain⟨g1,g2,g3,g4⟩:=Fw h1 h2 f (j+1) (by omega)
   refine⟨by omega,by omega,g3,fun i k1 k2=>?_⟩
   rcases Nat.eq_or_lt_of_le k1 with h|h
   ·subst h;exact h0
   ·exact g4 i h k2
theorem rN {s:PP×PP} (h1:Trim s.1) (h2:Trim s.2):eU s<=s.2.1/\(bG s (eU s)).2.1=0/\∀i,i<eU s->(bG s i).2.1≠0:=by
 obtain⟨_,g2,g3,g4⟩:=Fw h1 h2 s.2.1 0 (Nat.le_refl _)
 exact⟨by unfold eU;omega,g3,fun i hi=>g4 i (Nat.zero_le _) hi⟩
theorem EY {s:PP×PP} {B:Nat} (ha:s.1.1<=B) (hb:s.2.1<=B) (h1:Trim s.1) (h2:Trim s.2):∀j,j<=eU s->(bG s j).1.1<=B/\(bG s j).2.1<=B
 |0,_=>⟨ha,hb⟩
 |j+1,hj=>by
  have ih:=EY ha hb h1 h2 j (by omega)
  have h0:=(rN h1 h2).2.2 j (by omega)
  have hr:(bG s (j+1)).2.1<(bG s j).2.1:=nD (a:=(bG s j).1) (d:=(bG s j).2) (by omega) (oE h1 h2 j).2
  exact⟨ih.2,by omega⟩
def gj (a:PP):PP×PP:=(bX a,bQ (bX a))
theorem pI {a:PP}:Trim (bX a):=by
 unfold bX
 split
 ·exact .inl rfl
 ·exact m8 xV
def eR (n:Nat) (k:Nat->Rat) (t:Rat):Nat->Rat
 |0=>0
 |m+1=>eR n k t m*t+k (n-1-m)
def eF (a:PP) (t:Rat):Rat:=eR a.1 a.2 t a.1
def bY (s:Nat->Int):Nat->Int×Nat
 |0=>(0,0)
 |i+1=>(if s i=0 then(bY s i).1 else s i,if s i*(bY s i).1<0 then(bY s i).2+1 else(bY s i).2)
end Go.Am
namespace Go.Am.B
open Go Go.Am.N AV af aq IntKind Proofs.Tryz
def rR:Nat:=68719477736
abbrev lM:Code:=aH f114
abbrev lY:List Nat:=[0]
def rI:Spec:=dA (kC (kL ag) kN) (fun a=>aV a.1.2 (br a.1.2 a.1.1) ag) fun a=>[a.1.1<2^40]
def HK:Spec:=dA (kC kR (kC kR kN)) (fun a=>.rat (a.1.1/a.2.1.1) (a.1.2+a.2.1.2)) fun a=>[a.1.2<2^42,a.2.1.2<2^42]
def MZ:bh:=zG::(142,ir kR kR xO o7)::gB
def p9:bh:=zG::(158,Dn)::(171,HK)::gB
abbrev wM:Code:=aH f137
abbrev vR:Code:=part wM [1,1,1,1,0,1,0,0]
abbrev Ap:Code:=part vR [1,1,0,0]
abbrev Cj (m:Nat):AV:=aV (fun i=>((bn m i:Int):Rat)) (m+1) 64
abbrev rJ:List Nat:=[0,4,5,25,26]
abbrev Aa (m:Nat) (c:Nat->Rat) (i:Nat):List AV:=[aV c (m+1) ag,Cj m,.own 0 3 0 (m+1),.int .i64 (m+1:Nat),.int .i64 i]
abbrev uz:List Nat:=[0,4,5,25,26,6,30,31,32]
abbrev Bs (m:Nat) (c:Nat->Rat) (i k:Nat):List AV:=[aV c (m+1) ag,Cj m,.own 0 3 0 (m+1),.int .i64 (m+1:Nat),.int .i64 i,.int .i64 i,Cj i,.int .i64 (i+1:Nat),.int .i64 k]
abbrev uQ:Code:=aH f121
abbrev wm:List Nat:=[3,5,11,12,13]
abbrev BX (n:Nat) (c:Nat->Rat) (i:Nat):List AV:=[.ptr 1 0 3 0 [],.own 0 3 0 n,aV c n ag,.int .i64 n,.int .i64 i]
abbrev uN:Code:=aH f73
abbrev mG:List Nat:=[0,3,4]
abbrev rU (n:Nat) (c:Nat->Rat) (i:Nat):List AV:=[aV c n ag,.own 0 3 0 i,.int .i64 (i+1:Nat)]
def x5:bh:=zG::(114,rI)::gB
theorem Ee:aX 114 f114:=aZ func114
theorem UP:aX 171 f171:=aZ func171
theorem Mb:aX 137 f137:=aZ func137
theorem QY:aX 121 f121:=aZ func121
theorem OL:aX 73 f73:=aZ func73
theorem XT {n:Nat} {k:Nat->Rat}:aG T GZ [] 60 lY (before lM [1,0]) ⟨aT 0 [aV k n ag],[],0⟩=
  some (leaf normal ([ak 3 n fun i=>rat (k i) ag],[])):=ah
theorem RE {n:Nat} {k:Nat->Rat}:aG T GZ [6,15] 60 lY [part lM [1,0,0,0]] ⟨aC lY [aV k n ag],[],0⟩=
  let c6:Int:=(↑n:Int);let c4:Int:=(2:Int)^63;let c3:af (List AV×aE):=leaf (exit 0) ([ak 3 n fun i=>rat (k i) ag],[]);let c5:Bool:=decide (c6>0);let c2:Int:=c6-1;let c1:af (List AV×aE):=aj [-c4<=c2/\c2<c4,(0:Int)<=0/\(0:Int)<=c2/\c2<=c2/\c2<=c6] (leaf normal ([ak 3 (c2.toNat-Int.toNat (0:Int)) fun i=>rat (k (i+Int.toNat (0:Int))) ag],[]));some (fork c5 (aj [c5=true,-c4<=c2/\c2<c4,(0:Int)<=c2/\c2.toNat<n,ag<2^42] (fork (bif true then dn (k c2.toNat)==0 else false) c1 c3)) (aj [c5=false] (fork false c1 c3))):=ah
theorem TT {n:Nat} {k:Nat->Rat}:cA T GZ [] 60 f114 [part lM [1,1]] ⟨aC lY [aV k n ag],[],0⟩=
  some (leaf ret [ak 3 n fun i=>rat (k i) ag]):=ah
theorem Qj {q r:Rat} {n m:Nat}:bR T MZ [] 60 f171 (aH f171) ⟨aT 0 [.rat q n,.rat r m],[],0⟩=
  let c1:Prop:=0<1;some (aj [c1,c1,n<2^42,m<2^42,c1] (aj [c1,c1] (aj [c1] (leaf ret [rat (q/r) (n+m)])))):=ah
theorem aag {m:Nat} {c:Nat->Rat}:aG T p9 [200016,11] 60 rJ (before wM [1,1,1,1,0,1]) ⟨aT 0 [aV c (m+1) ag],[],0⟩=
  let c1:Int:=(↑(m+1):Int);let c2:Int:=c1-1;some (aj [(bif c1==0 then true else decide (c1>41))=false] (aj [-(2:Int)^63<=c2/\c2<2^63,(0:Int)<=c2,c2<=40] (aj [(0:Int)<=c1/\c1<=c1/\c1<=2^47/\c1*(↑(56:Nat):Int)<=2^47] (leaf normal ([ak 3 (m+1) fun i=>rat (c i) ag,ak 3 (c2.toNat+1) fun i=>rat (↑(↑(bn c2.toNat i):Int):Rat) 64,own 69632 3 0 c1.toNat,int i64 (↑c1.toNat:Int),int i64 0],[(69632,ax.mk true true 3 c1.toNat fun x=>rat 0 1)]))))):=ah
theorem XW {m i:Nat} {c x:Nat->Rat}:aG T p9 [27] 60 rJ (before vR [1,1,0]) ⟨aC rJ (Aa m c i),[(0,bT (m+1) x ag)],1⟩=
  let c2:Nat:=m+1;let c1:List AV×aE:=([ak 3 c2 fun i=>rat (c i) ag,ak 3 c2 fun i=>rat (↑(↑(bn m i):Int):Rat) 64,own 0 3 0 c2,int i64 (↑c2:Int),int i64 (↑i:Int)],[(0,ax.mk true true 3 c2 fun i=>rat (x i) ag)]);some (fork (decide ((↑i:Int)<(↑c2:Int))) (leaf normal c1) (leaf (exit 0) c1)):=ah
theorem aeI {m i:Nat} {c x:Nat->Rat}:aG T p9 [] 60 uz (before Ap [1,1]) ⟨aC rJ (Aa m c i),[(0,bT (m+1) x ag)],1⟩=
  let c2:Nat:=m+1;let c1:Int:=(↑i:Int);some (aj [(0:Int)<=c1,c1<=40] (leaf normal ([ak 3 c2 fun i=>rat (c i) ag,ak 3 c2 fun i=>rat (↑(↑(bn m i):Int):Rat) 64,own 0 3 0 c2,int i64 (↑c2:Int),int i64 c1,int i64 c1,ak 3 (c1.toNat+1) fun i=>rat (↑(↑(bn c1.toNat i):Int):Rat) 64,int i64 (↑(c1.toNat+1):Int),int i64 0],[(0,ax.mk true true 3 c2 fun i=>rat (x i) ag)]))):=ah
theorem ND {m i k:Nat} {c x:Nat->Rat}:aG T p9 [33] 60 uz [part Ap [1,1,0,0]] ⟨aC uz (Bs m c i k),[(0,bT (m+1) x ag)],1⟩=
  let c10:Nat:=64+64;let c8:Int:=(↑i:Int);let c7:Int:=(↑(i+1):Int);let c5:AV:=ak 3 (i+1) fun i_1=>rat (↑(↑(bn i i_1):Int):Rat) 64;let c4:Nat:=2^42;let c3:Int:=(↑k:Int);let c1:Nat:=m+1;let c15:AV:=int i64 c8;let c14:Int:=c3+1;let c13:Prop:=(0:Int)<=c8/\c8.toNat<c1;let c12:Prop:=(0:Int)<=c3/\c3.toNat<c1;let c11:AV:=own 0 3 0 c1;let c9:AV:=ak 3 c1 fun i=>rat (c i) ag;let c6:AV:=ak 3 c1 fun i=>rat (↑(↑(bn m i):Int):Rat) 64;let c2:Nat:=c8.toNat+0;some (fork (decide (c3<c7)) (aj [(0:Int)<=c3/\c3.toNat<i+1,(0:Nat)<1] (aj [c13,c2<c1,(0:Nat)<1,c12,(64:Nat)<c4,(64:Nat)<c4,c12,c10<c4,ag<c4,ag<c4,c10+ag<c4,c13,c2<c1] (aj [-(2:Int)^63<=c14/\c14<2^63] (leaf normal ([c9,c6,c11,int i64 (↑c1:Int),c15,c15,c5,int i64 c7,int i64 c14],[(0,ax.mk true true 3 c1 fun j=>rat (bif j==c2 then x c2+(↑(↑(bn i c3.toNat):Int):Rat)/(↑(↑(bn m c3.toNat):Int):Rat)*c c3.toNat else x j) (bif j==c2 then ag+(c10+ag)+1 else ag))]))))) (leaf (exit 2) ([c9,c6,c11,int i64 (↑c1:Int),c15,c15,c5,int i64 c7,int i64 c3],[(0,ax.mk true true 3 c1 fun i=>rat (x i) ag)]))):=ah
theorem Zo {m i k:Nat} {c x:Nat->Rat}:aG T p9 [] 60 rJ [part vR [1,1,1]] ⟨aC uz (Bs m c i k),[(0,bT (m+1) x ag)],1⟩=
  let c2:Int:=(↑i:Int)+1;let c1:Nat:=m+1;some (aj [-(2:Int)^63<=c2/\c2<2^63] (leaf normal ([ak 3 c1 fun i=>rat (c i) ag,ak 3 c1 fun i=>rat (↑(↑(bn m i):Int):Rat) 64,own 0 3 0 c1,int i64 (↑c1:Int),int i64 c2],[(0,ax.mk true true 3 c1 fun i=>rat (x i) ag)]))):=ah
theorem Zm {m i:Nat} {c x:Nat->Rat}:cA T p9 [] 60 f137 [part wM [1,1,1,1,1]] ⟨aC rJ (Aa m c i),[(0,bT (m+1) x ag)],1⟩=
  some (leaf ret [ak 3 (m+1) fun i=>rat (x (i+0)) ag,int i64 0]):=ah
theorem Vz {n s:Nat} {c:Nat->Rat} {r:Rat}:aG T GZ [] 60 wm (before uQ [1,1,0,1]) ⟨aT 0 [aV c n ag,.rat r s],[],0⟩=
  let c1:Int:=(↑n:Int);some (aj [(0:Int)<=c1/\c1<=c1/\c1<=2^47/\c1*(↑(56:Nat):Int)<=2^47] (leaf normal ([ptr 0 0 (dN (rat r s)).size 0 [],own 16384 3 0 c1.toNat,ak 3 n fun i=>rat (c i) ag,int i64 c1,int i64 0],[(16384,ax.mk true true 3 c1.toNat fun x=>rat 0 1),(0,ax.mk false true (dN (rat r s)).size 1 fun x=>rat r s)]))):=ah
theorem aek {n s i:Nat} {c x:Nat->Rat} {r:Rat}:aG T GZ [14] 60 wm [part uQ [1,1,0,1,0,0]] ⟨aC wm (BX n c i),[(0,bT n x ag),(1,⟨false,true,3,1,fun _=>.rat r s⟩)],2⟩=
  let c10:Int:=(↑n:Int);let c7:AV:=own 0 3 0 n;let c5:Prop:=0<1;let c4:AV:=ptr 1 0 3 0 [];let c3:AV:=ak 3 n fun i=>rat (c i) ag;let c2:Nat×ax:=((1:Nat),fL fun x=>rat r s);let c1:Int:=(↑i:Int);let c9:Int:=c1+1;let c8:Prop:=(0:Int)<=c1/\c1.toNat<n;let c6:Nat:=c1.toNat+0;some (fork (decide (c1<c10)) (aj [c8,c5] (aj [c5,c5,s<2^42,ag<2^42,c8,c6<n] (aj [-(2:Int)^63<=c9/\c9<2^63] (leaf normal ([c4,c7,c3,int i64 c10,int i64 c9],[(0,ax.mk true true 3 n fun j=>rat (bif j==c6 then r*c c1.toNat else x j) (bif j==c6 then s+ag else ag)),c2]))))) (leaf (exit 0) ([c4,c7,c3,int i64 c10,int i64 c1],[(0,ax.mk true true 3 n fun i=>rat (x i) ag),c2]))):=ah
theorem Ye {n s i:Nat} {c x:Nat->Rat} {r:Rat}:cA T GZ [] 60 f121 [part uQ [1,1,1]] ⟨aC wm (BX n c i),[(0,bT n x ag),(1,⟨false,true,3,1,fun _=>.rat r s⟩)],2⟩=
  some (leaf ret [ak 3 n fun i=>rat (x (i+0)) ag]):=ah
theorem XI {n:Nat} {c:Nat->Rat}:aG T x5 [] 60 mG (before uN [1,1,0,1]) ⟨aT 0 [aV c n ag],[],0⟩=
  some (leaf normal ([ak 3 n fun i=>rat (c i) ag,nil,int i64 1],[])):=ah
theorem ZD {n i:Nat} {c x:Nat->Rat}:aG T x5 [8] 60 mG [part uN [1,1,0,1,0,0]] ⟨aC mG (rU n c i),[(0,bT i x ag)],1⟩=
  let c5:Nat:=i+1;let c3:AV:=ak 3 n fun i=>rat (c i) ag;let c2:Int:=(2:Int)^63;let c1:Int:=(↑c5:Int);let c6:Int:=c1+1;let c4:Nat:=Max.max 1 (bK c1.natAbs);some (fork (decide (c1<(↑n:Int))) (aj [-c2<=c1,c1<c2,(0:Int)<=c1/\c1.toNat<n,c4<2^42,ag<2^42,(1:Nat)*3<=2^24,c5*((56:Nat)+1)*2<=2^47] (aj [-c2<=c6/\c6<c2] (leaf normal ([c3,own 53249 3 0 c5,int i64 c6],[(53249,ax.mk true true 3 c5 fun i_1=>if i_1<i then rat (x i_1) ag else nth [rat ((↑c1:Rat)*c c1.toNat) (c4+ag)] (rat 0 1) (i_1-i+0))])))) (leaf (exit 0) ([c3,own 0 3 0 i,int i64 c1],[(0,ax.mk true true 3 i fun i=>rat (x i) ag)]))):=ah
theorem aav {n i:Nat} {c x:Nat->Rat}:cA T x5 [] 60 f73 [part uN [1,1,1]] ⟨aC mG (rU n c i),[(0,bT i x ag)],1⟩=
  some (aj [cF (fun i=>rat (x (i+0)) ag) i ag,i<2^40] (leaf ret [ak 3 (br (fun i=>aS (rat (x (i+0)) ag)) i) fun i=>rat (aS (rat (x (i+0)) ag)) ag])):=ah
theorem nB {q:Rat}:(dn q==0)=decide (q=0):=by
 unfold dn
 by_cases h:q=0
 ·simp[h]
 ·simp only[h,decide_false]
  split
  ·rfl
  ·split
   ·rfl
   ·grind
theorem abK {n:Nat} {k:Nat->Rat} (hn:n<2^40) (K:Nat):aP P 114 K [aV k n ag] [] (aK (aV k (br k n) ag) []):=by
 have hW:=cW
 refine iG (r:=aK (aV k (br k n) ag) []) hT nO hm Ee rfl aW rfl [1,0] (i:=0) (y:=part lM [1,0,0,0]) (z:=part lM [1,1]) ah ah ah (f1:=[]) (f2:=[6,15]) (f3:=[]) 60 lY 0
  (fun j:Nat=>[aV k j ag]) (fun _=>[]) (fun j=>j<=n/\br k j=br k n) (fun j=>j=br k n) (fun j=>j) (fun _=>⟨⟨_,XT,?_⟩,fun j hj=>⟨_,RE,?_⟩,fun j hj=>⟨_,TT,?_⟩⟩) K []
 ·simp only[af.all,aA]
  exact⟨n,⟨aQ,rfl⟩,dx.vals rfl⟩
 ·obtain⟨h1,h2⟩:=hj
  simp only[af.all,aA,cond_true,nB,bw,bB]
  refine⟨fun h=>⟨⟨aa,aa,aa,aa⟩,fun h3=>⟨aa,j-1,⟨aa,?_⟩,by dsimp only;omega,?_⟩,fun h3=>⟨rfl,j,?_,dx.vals rfl⟩⟩,fun h=>⟨aa,fun h3=>absurd h3 (by decide),fun _=>⟨rfl,j,?_,dx.vals rfl⟩⟩⟩
  ·rw[<-h2]
   obtain⟨m,rfl⟩:∃m,j=m+1:=⟨j-1,aa⟩
   rw[show(((m+1:Nat):Int)-1).toNat=m by omega]at h3
   show br k m=_
   rw[br,if_pos h3]
  ·rw[show((j:Int)-1).toNat-(0:Int).toNat=j-1 by omega]
   exact dx.vals rfl
  ·rw[<-h2]
   obtain⟨m,rfl⟩:∃m,j=m+1:=⟨j-1,aa⟩
   rw[show(((m+1:Nat):Int)-1).toNat=m by omega]at h3
   exact(nP (.inr h3)).symm
  ·rw[<-h2,show j=0 by omega];rfl
 ·rw[hj];exact .refl _
theorem Dh:bf P rI 114:=cR fun⟨⟨n,k⟩,_⟩ K hn=>abK hn K
theorem U4:bI P MZ:=fD (aL (iL fun _ _ K hn=>Cb hn.1 hn.2 K) gE)
theorem Nh:bf P HK 171:=cR fun⟨⟨q,n⟩,⟨r,m⟩,_⟩ K hn=>by
 obtain⟨h1,h2⟩:=hn
 refine bZ hT U4 hm UP rfl aW rfl 60 Qj (fun _=>?_) K []
 simp only[af.all,aA]
 exact⟨⟨aa,aa,h1,h2,aa⟩,⟨aa,aa⟩,aa,.refl _⟩
theorem K7:bI P p9:=fD (aL IA (aL Nh gE))
def iD (n:Nat) (c:Nat->Rat):Prop:=∀i k,i<n->k<=i+1->Sz (ju n c i k) ag
def j9 (n:Nat) (c:Nat->Rat) (i k j:Nat):Rat:=if j<i then eW n c j else if j=i then ju n c i k else 0
theorem Si {m:Nat} {c:Nat->Rat} (hm1:m<=40) (hz:iD (m+1) c) (K:Nat):aP P 137 K [aV c (m+1) ag] [] (aK (.tuple [aV (eW (m+1) c) (m+1) ag,.int .i64 0]) []):=by
 refine gm (r:=aK (.tuple [aV (eW (m+1) c) (m+1) ag,.int .i64 0]) []) hT Mb rfl aW rfl (fun _ cx h0=>?_) K []
 have hk:=jZ h0
 have hW:=cW
 refine au.oX hT K7 hm (x:=wM) [1,1,1,1,0,1] (i:=0) (y:=vR) (z:=part wM [1,1,1,1,1]) ah ah ah Mb.dst [1,1,0] (j:=1) (x1:=Ap) (zb:=part vR [1,1,1]) ah ah ah [1,1] (i2:=2) (y2:=part Ap [1,1,0,0]) ah ah rfl hk
  (f1:=[200016,11]) (f2:=[27]) (f3:=[]) (f4:=[33]) (f5:=[]) 60 rJ uz 1 1 (fun i:Nat=>Aa m c i) (fun i=>[(0,bT (m+1) (j9 (m+1) c i 0) ag)]) (fun i=>i<=m+1) (fun i=>i=m+1) (fun i=>m+1-i) (fun i=>i<m+1) (fun _=>False) (fun _=>False)
  (fun i (k:Nat)=>Bs m c i k) (fun i k=>[(0,bT (m+1) (j9 (m+1) c i k) ag)]) (fun i k=>k<=i+1) (fun i k=>k=i+1) (fun i k=>i+1-k)
  ⟨_,aag,?_⟩ (fun i hi=>⟨_,XW,?_⟩) (fun i hi hG=>⟨_,aeI,?_⟩) (fun i hi hG k hk=>⟨_,ND,?_⟩) (fun i hi hG k hk=>⟨_,Zo,?_⟩) (fun i hi=>?_) (fun _ _ h=>h.elim) (fun _ _ h=>h.elim)
 ·simp only[af.all,aA,bu]
  have e1:(((m+1:Nat):Int)-1).toNat=m:=aa
  have e2:(((m+1:Nat):Int)==0)=false:=by rw[beq_eq_false_iff_ne];omega
  rw[e1,e2]
  simp only[cond_false,bB]
  refine⟨aa,⟨aa,aa,aa⟩,aa,0,aa,[(0,69632)],rfl,rfl,rfl,bg rfl rfl rfl (fun j hj=>.inr ⟨rfl,dy ?_ aa⟩) trivial⟩
  unfold j9;rw[if_neg (Nat.not_lt_zero j)];split<;>rfl
 ·simp only[af.all,aA,bw,bB]
  exact⟨fun h=>⟨aa,[(0,0)],rfl,rfl,rfl,bg rfl rfl rfl (fun i hi=>bE rfl rfl) trivial⟩,fun h=>⟨rfl,i,aa,[(0,0)],rfl,rfl,rfl,bg rfl rfl rfl (fun i hi=>bE rfl rfl) trivial⟩⟩
 ·simp only[af.all,aA,bu]
  exact⟨aa,0,aa,[(0,0)],rfl,rfl,rfl,bg rfl rfl rfl (fun i hi=>bE rfl rfl) trivial⟩
 ·simp only[af.all,aA,bw,bB,bu,Nat.add_zero]
  refine⟨fun h=>⟨aa,aa,aa,k+1,aa,by dsimp only;omega,[(0,0)],rfl,rfl,rfl,bg rfl rfl rfl (fun j hj=>?_) trivial⟩,fun h=>⟨rfl,k,aa,[(0,0)],rfl,rfl,rfl,bg rfl rfl rfl (fun j hj=>bE rfl rfl) trivial⟩⟩
  have e1:∀q,j9 (m+1) c i q i=ju (m+1) c i q:=fun q=>by unfold j9;rw[if_neg (Nat.lt_irrefl i),if_pos rfl]
  exact kI (x:=j9 (m+1) c i k) (y:=j9 (m+1) c i (k+1)) (dK (by rw[e1,e1];rfl) (by rw[e1];exact hz i (k+1) hG aa)) fun hj=>dy (by unfold j9;rw[if_neg hj,if_neg hj]) aQ
 ·subst hk
  simp only[af.all,aA]
  refine⟨aa,i+1,aa,by dsimp only;omega,[(0,0)],rfl,rfl,rfl,bg rfl rfl rfl (fun j hj=>bE rfl ?_) trivial⟩
  show AV.rat (j9 (m+1) c i (i+1) j) ag=AV.rat (j9 (m+1) c (i+1) 0 j) ag
  unfold j9
  by_cases h1:j<i
  ·rw[if_pos h1,if_pos aa]
  ·by_cases h2:j=i
   ·subst h2;rw[if_neg h1,if_pos rfl,if_pos aa];rfl
   ·rw[if_neg h1,if_neg h2,if_neg aa];split<;>rfl
 ·subst hi
  refine au.jV ((aF.fin hT K7 hm 60 Zm ah ?_).mono fun _ _ h=>.inl h)
  refine⟨gr fun i hi=>dy ?_ aQ,.refl _,trivial⟩
  show j9 (m+1) c (m+1) 0 i=_
  unfold j9;rw[if_pos hi]
def Jv:Spec:=dA (kC (kL ag) kN) (fun a=>.tuple [aV (eW a.1.1 a.1.2) a.1.1 ag,.int .i64 0]) fun a=>[1<=a.1.1,a.1.1<=41,iD a.1.1 a.1.2]
theorem WO:bf P Jv 137:=cR fun⟨⟨n,p⟩,_⟩ K hn=>by
 obtain⟨h1,h2,h3⟩:=hn
 simp only at h1 h2 h3
 obtain⟨m,rfl⟩:∃m,n=m+1:=⟨n-1,aa⟩
 exact Si aa h3 K
theorem Df:rR=ag+1000:=rfl
theorem O5 {n:Nat} {c:Nat->Rat} {r:Rat} (hn:n<2^40) (hz:cG n fun i=>r*c i) (K:Nat):aP P 121 K [aV c n ag,.rat r rR] [] (aK (aV (fun i=>r*c i) n ag) []):=by
 have hW:=cW
 have hX:=Df
 refine iG (r:=aK (aV (fun i=>r*c i) n ag) []) hT nO hm QY rfl aW rfl [1,1,0,1] (i:=0) (y:=part uQ [1,1,0,1,0,0]) (z:=part uQ [1,1,1]) ah ah ah (f1:=[]) (f2:=[14]) (f3:=[]) 60 wm 2
  (fun i:Nat=>BX n c i) (fun i=>[(0,bT n (fun j=>if j<i then r*c j else 0) ag),(1,⟨false,true,3,1,fun _=>.rat r rR⟩)]) (fun i=>i<=n) (fun i=>i=n) (fun i=>n-i) (fun _=>⟨⟨_,Vz,?_⟩,fun i hi=>⟨_,aek,?_⟩,fun i hi=>⟨_,Ye,?_⟩⟩) K []
 ·simp only[af.all,aA,bu]
  exact⟨aa,0,Nat.zero_le _,[(0,16384),(1,0)],rfl,rfl,rfl,bg rfl rfl rfl (fun i hi=>.inr ⟨rfl,dy (if_neg (Nat.not_lt_zero i)).symm aa⟩) (dh trivial)⟩
 ·simp only[af.all,aA,bw,bB,bu,Nat.add_zero]
  refine⟨fun h2=>⟨aa,aa,aa,i+1,aa,by dsimp only;omega,[(0,0),(1,1)],rfl,rfl,rfl,bg rfl rfl rfl (fun j hj=>?_) (dh trivial)⟩,fun h2=>⟨rfl,i,aa,[(0,0),(1,1)],rfl,rfl,rfl,bg rfl rfl rfl (fun j hj=>bE rfl rfl) (dh trivial)⟩⟩
  exact kI (x:=fun j=>if j<i then r*c j else 0) (y:=fun j=>if j<i+1 then r*c j else 0) (dK (if_pos (Nat.lt_succ_self i)).symm (by show Sz (if i<i+1 then _ else _) _;rw[if_pos (Nat.lt_succ_self i)];exact hz i aa)) fun hj=>dy (Ey hj).symm aQ
 ·subst hi
  simp only[af.all,aA]
  exact gr fun j hj=>by rw[Nat.add_zero,if_pos hj];exact .refl _
def ER:Spec:=dA (kC (kL ag) (kC (fP rR) kN)) (fun a=>aV (fun i=>a.2.1*a.1.2 i) a.1.1 ag) fun a=>[a.1.1<2^40,cG a.1.1 fun i=>a.2.1*a.1.2 i]
theorem I9:bf P ER 121:=cR fun⟨⟨n,c⟩,r,_⟩ K hn=>O5 hn.1 hn.2 K
theorem aee:bI P x5:=fD (aL Dh gE)
theorem V9 {n:Nat} {c:Nat->Rat} (hn:n<2^40) (hz:cG (n-1) (cT c)) (K:Nat):aP P 73 K [aV c n ag] [] (aK (aV (cT c) (br (cT c) (n-1)) ag) []):=by
 have hW:=cW
 refine iG (r:=aK (aV (cT c) (br (cT c) (n-1)) ag) []) hT aee hm OL rfl aW rfl [1,1,0,1] (i:=0) (y:=part uN [1,1,0,1,0,0]) (z:=part uN [1,1,1]) ah ah ah (f1:=[]) (f2:=[8]) (f3:=[]) 60 mG 1
  (fun i:Nat=>rU n c i) (fun i=>[(0,bT i (cT c) ag)]) (fun i=>i<=n-1) (fun i=>i=n-1) (fun i=>n-1-i) (fun _=>⟨⟨_,XI,?_⟩,fun i hi=>⟨_,ZD,?_⟩,fun i hi=>⟨_,aav,?_⟩⟩) K []
 ·simp only[af.all,aA]
  exact⟨0,aa,[],rfl,rfl,rfl,kA rfl aa aa trivial⟩
 ·have hb:(max 1 (bK ((i+1:Nat):Int).natAbs))<=64:=by
   rw[Int.natAbs_natCast]
   have:=ji (x:=i+1) (k:=64)|>.2 aa
   omega
  simp only[af.all,aA,bw,bB,bu]
  refine⟨fun h2=>⟨aa,aa,i+1,aa,by dsimp only;omega,[(0,53249)],rfl,?_,rfl,bg rfl rfl rfl (fun j hj=>?_) trivial⟩,fun h2=>⟨rfl,i,aa,[(0,0)],rfl,rfl,rfl,bg rfl rfl rfl (fun j hj=>bE rfl rfl) trivial⟩⟩
  ·rw[show((i+1:Nat):Int)+1=((i+1+1:Nat):Int) by omega];rfl
  ·refine .inr ⟨?_,?_⟩
   ·split
    ·rfl
    ·rw[show j-i+0=0 by omega];rfl
   ·split
    ·exact .refl _
    ·rw[show j-i+0=0 by omega,show j=i by omega]
     exact dK rfl (hz i aa)
 ·subst hi
  simp only[af.all,aA]
  exact⟨⟨cZ aQ,aa⟩,.refl _⟩
def pT:Spec:=dA (kC (kL ag) kN) (fun a=>aV (cT a.1.2) (br (cT a.1.2) (a.1.1-1)) ag) fun a=>[a.1.1<2^40,cG (a.1.1-1) (cT a.1.2)]
theorem Em:bf P pT 73:=cR fun⟨⟨n,c⟩,_⟩ K hn=>V9 hn.1 hn.2 K
def qS (f:Nat->AV) (n s:Nat):Prop:=∀i,i<n->keys (f i)=[]/\bA (f i) (.rat (aS (f i)) s)
def vm:Spec:=fun _ args pre=>match args,pre with
 |[.own k 3 0 n],[(k',⟨true,true,3,m,f⟩)]=>match k'==k with
  |true=>some ⟨.own k 3 0 (br (fun i=>aS (f i)) n),[(k,bT m (fun i=>aS (f i)) ag)],[n<=m,n<2^40,qS f m ag]⟩
  |false=>none
 |_,_=>none
abbrev sX:FuncId:=141
abbrev Al:Func:=f141
def Jr:Spec:=qE fun K l=>match l with
 |[v]=>match(kL ag).read v with
  |some ((0,k),q)=>some (aK (aV k 0 ag) q)
  |some ((n+1,k),q)=>some ⟨.own K 3 0 (n+1),[(K,bT (n+1) k ag)],q++[n+1<2^30]⟩
  |none=>none
 |_=>none
def MH:bh:=zG::(142,ir kR kR xO o7)::(121,ER)::gB
def jy (n:Nat):Nat:=if n=0 then 1 else n
def ng (n:Nat) (c:Nat->Rat) (i:Nat):Rat:=if n=0 then 0 else eW n c i
def Jl:bh:=zG::(137,Jv)::gB
def JC:bh:=zG::(115,yC)::(114,rI)::gB
theorem FA:aX sX Al:=aZ func141
theorem Tm:aX 135 f135:=aZ func135
theorem aaH:aX 81 f81:=aZ func81
theorem aac:aX 57 f57:=aZ func57
theorem aaY {n m:Nat} {x:Nat->Rat}:aG T GZ [] 60 lY (before lM [1,0]) ⟨aT 0 [.own 0 3 0 n],[(0,bT m x ag)],1⟩=
  some (leaf normal ([own 0 3 0 n],[(0,ax.mk true true 3 m fun i=>rat (x i) ag)])):=ah
theorem aa1 {n m:Nat} {x:Nat->Rat}:aG T GZ [6,15] 60 lY [part lM [1,0,0,0]] ⟨aC lY [.own 0 3 0 n],[(0,bT m x ag)],1⟩=
  let c7:Int:=(↑n:Int);let c4:Int:=(2:Int)^63;let c3:Nat×ax:=(0,ax.mk true true 3 m fun i=>rat (x i) ag);let c6:af (List AV×aE):=leaf (exit 0) ([own 0 3 0 n],[c3]);let c5:Bool:=decide (c7>0);let c2:Int:=c7-1;let c1:af (List AV×aE):=aj [-c4<=c2/\c2<c4,(0:Int)<=0/\(0:Int)<=c2/\c2<=c2/\c2<=c7] (leaf normal ([own 0 3 0 (c2.toNat-Int.toNat (0:Int))],[c3]));some (fork c5 (aj [c5=true,-c4<=c2/\c2<c4,(0:Int)<=c2/\c2.toNat<n,c2.toNat+0<m,ag<2^42] (fork (bif true then dn (x (c2.toNat+0))==0 else false) c1 c6)) (aj [c5=false] (fork false c1 c6))):=ah
theorem VP {n m:Nat} {x:Nat->Rat}:aG T GZ [] 60 [2] [part lM [1,1]] ⟨aC lY [.own 0 3 0 n],[(0,bT m x ag)],1⟩=
  some (leaf ret ([own 0 3 0 n],[(0,ax.mk true true 3 m fun i=>rat (x i) ag)])):=ah
theorem aci {n:Nat} {k:Nat->Rat}:aG T [nG] [] 60 [2] [aH Al] ⟨aT 0 [.dU false 3 n (fun i=>.rat (k i) ag)],[],0⟩=
  some (aj [(0:Nat)*3<=2^24,((0:Nat)+n)*((56:Nat)+1)*2<=2^47] (leaf ret ([own 20480 3 0 ((0:Nat)+n)],[(20480,ax.mk true true 3 ((0:Nat)+n) fun i=>rat (k (i-0)) ag)]))):=ah
theorem Sx {b:Bool} {k:Nat->Rat}:bR T [zG] [4] 60 Al (aH Al) ⟨aT 0 [.dU b 3 0 (fun i=>.rat (k i) ag)],[],0⟩=
  some (fork b (leaf ret [nil]) (aj [(0:Nat)*3<=2^24,((0:Nat)+0)*((56:Nat)+1)*2<=2^47] (leaf ret [ak 3 0 fun i=>rat (k (i+0-0)) ag]))):=ah
theorem aae {n:Nat} {c:Nat->Rat}:bR T MH [7] 60 f135 (aH f135) ⟨aT 0 [aV c n ag],[],0⟩=
  let c3:Nat:=Max.max 1 (bK (Int.natAbs (1:Int)));let c2:Int:=(2:Int)^63;let c1:Int:=(↑n:Int)-1;let c4:Rat:=(↑(1:Int):Rat)/c c1.toNat;some (fork ((↑n:Int)==0) (leaf ret [nil]) (aj [-c2<=1,(1:Int)<c2,-c2<=c1/\c1<c2,(0:Int)<=c1/\c1.toNat<n,c3<2^42,ag<2^42,(0:Nat)<1] (aj [(0:Nat)<1,cF (fun i=>rat (c i) ag) n ag,c3+ag<=rR,n<2^40,cG n fun i=>c4*aS (rat (c i) ag)] (leaf ret [ak 3 n fun i=>rat (c4*aS (rat (c i) ag)) ag])))):=ah
theorem T4 {n:Nat} {c:Nat->Rat}:bR T Jl [7] 60 f81 (aH f81) ⟨aT 0 [aV c n ag],[],0⟩=
  some (fork ((↑n:Int)==0) (aj [(1:Nat)*3<=2^24] (leaf ret [ak 3 1 fun i=>nth [agg [AV.bool (decide ((0:Rat)<0)),mag (↑(nat_lit 0):Int).natAbs,mag (if 1=1 then 0 else 1)]] (rat 0 1) (i+0)])) (aj [cF (fun i=>rat (c i) ag) n ag,(1:Nat)<=n,n<=41,iD n fun i=>aS (rat (c i) ag)] (leaf ret [ak 3 n fun i=>rat (eW n (fun i=>aS (rat (c i) ag)) i) ag]))):=ah
theorem ZU {n:Nat} {c:Nat->Rat}:bR T JC [] 60 f57 (aH f57) ⟨aT 0 [aV c n ag],[],0⟩=
  some (aj [cF (fun i=>rat (c i) ag) n ag,(1:Nat)<=n,n<=41,qk n fun i=>aS (rat (c i) ag),cF (fun i=>rat (fk n (fun i=>aS (rat (c i) ag)) i) ag) n ag,n<2^40] (leaf ret [ak 3 (br (fun i=>aS (rat (fk n (fun i=>aS (rat (c i) ag)) i) ag)) n) fun i=>rat (aS (rat (fk n (fun i=>aS (rat (c i) ag)) i) ag)) ag])):=ah
theorem X7 {kk n m:Nat} {x:Nat->Rat} (hn:n<2^40) (hnm:n<=m) (c:Ctx) (hk:Kept [0] c):au P c f114.ntmps lM ⟨aT 0 [.own 0 3 0 n],[(0,bT m x ag)],1⟩ (EM f114 kk [.own kk 3 0 (br x n)] (bT m x ag)):=by
 have hW:=cW
 have re:∀j,dx [0] ([.own 0 3 0 j],[((0:Nat),bT m x ag)]) [.own 0 3 0 j] [(0,bT m x ag)] 1:=fun j=>⟨[(0,0)],rfl,rfl,rfl,lf trivial⟩
 refine au.l5 hT nO hm [1,0] (i:=0) (y:=part lM [1,0,0,0]) (z:=part lM [1,1]) ah ah ah Ee.dst hk (f1:=[]) (f2:=[6,15]) 60 lY 1
  (fun j:Nat=>[.own 0 3 0 j]) (fun _=>[(0,bT m x ag)]) (fun j=>j<=n/\br x j=br x n) (fun j=>j=br x n) (fun j=>j) (fun _=>False) ⟨_,aaY,?_⟩ (fun j hj=>⟨_,aa1,?_⟩) (fun j hj=>?_) (fun _ _ h=>h.elim)
 ·simp only[af.all,aA]
  exact⟨n,⟨aQ,rfl⟩,re n⟩
 ·obtain⟨h1,h2⟩:=hj
  simp only[af.all,aA,cond_true,nB,bw,bB,Nat.add_zero]
  refine⟨fun h=>⟨⟨aa,aa,aa,aa,aa⟩,fun h3=>⟨aa,j-1,⟨aa,?_⟩,by dsimp only;omega,?_⟩,fun h3=>⟨rfl,j,?_,re j⟩⟩,fun h=>⟨aa,fun h3=>absurd h3 (by decide),fun _=>⟨rfl,j,?_,re j⟩⟩⟩
  ·rw[<-h2]
   obtain⟨m,rfl⟩:∃m,j=m+1:=⟨j-1,aa⟩
   rw[show(((m+1:Nat):Int)-1).toNat=m by omega]at h3
   show br x m=_
   rw[br,if_pos h3]
  ·rw[show((j:Int)-1).toNat-(0:Int).toNat=j-1 by omega]
   exact re (j-1)
  ·rw[<-h2]
   obtain⟨m,rfl⟩:∃m,j=m+1:=⟨j-1,aa⟩
   rw[show(((m+1:Nat):Int)-1).toNat=m by omega]at h3
   exact(nP (.inr h3)).symm
  ·rw[<-h2,show j=0 by omega];rfl
 ·subst hj
  exact au.bD hT nO hm 60 [2] VP ah fun s' hs'=>⟨.inr rfl,[2],_,[.own 0 3 0 (br x n)],_,_,hs',ah,⟨⟨rfl,dH (by simp[aY,look]) rfl rfl⟩,trivial⟩,rfl,gk rfl fun i hi=>gp rfl⟩
theorem YE:bf P vm 114:=by
 intro K args pre r h
 unfold vm at h
 split at h
 ·rename_i k n k' m f
  split at h
  ·rename_i hc
   have hc:=eq_of_beq hc
   subst hc
   simp only[ay]at h
   subst h
   intro need
   have h0:=need
   obtain⟨n1,n2,n3⟩:=need
   exact Kt hT Ee (rest:=[]) (ws:=[.own k' 3 0 _]) (o2:=⟨true,true,3,m,f⟩) (o:=bT m (fun i=>aS (f i)) ag) rfl rfl aW (fun ρ=>gk rfl fun i hi=>gO (n3 i hi).1 (n3 i hi).2) (fun _ c hk=>X7 n2 n1 c hk) K h0
  ·simp at h
 ·simp at h
theorem Oz {args:List AV} {n:Nat} {k:Nat->Rat} {l:List Prop} (ha:aA l->ga (aY []) args [.dU false 3 n (fun i=>.rat (k i) ag)]) (hn:aA l->n<2^30) (K:Nat):aP P sX K args [] ⟨lZ [.own K 3 0 n],[(K,bT n k ag)],l⟩:=by
 refine BB hT FA ha aW fun need c hk=>?_
 have h2:=hn need
 refine au.bD hT (iQ b9) hm 60 [2] aci ah ?_
 simp only[af.all,aA]
 exact⟨⟨aa,aa⟩,fun s' hs'=>⟨.inr trivial,[2],_,[.own 20480 3 0 (0+n)],_,20480,_,hs',ah,⟨⟨rfl,dH (by simp[aY,look]) rfl aa⟩,trivial⟩,rfl,gk aa fun i hi=>gp rfl⟩⟩
theorem Wr {n:Nat} {k:Nat->Rat} {l:List Prop} (hn:aA l->1<=n/\n<2^30) (K:Nat):aP P sX K [aV k n ag] [] ⟨lZ [.own K 3 0 n],[(K,bT n k ag)],l⟩:=by
 refine ES fun b hb=>?_
 intro need
 have h1:=hn need
 cases b
 ·exact Oz (args:=[.dU false 3 n (fun i=>.rat (k i) ag)]) (fun _=>⟨aO,trivial⟩) (fun h=>(hn h).2) K need
 ·have:=hb rfl
  omega
theorem VR {k:Nat->Rat} (K:Nat):aP P sX K [aV k 0 ag] [] (aK (aV k 0 ag) []):=by
 refine ES fun b hb=>?_
 refine bZ hT (fD b9) hm FA rfl aW rfl 60 Sx (fun _=>?_) K []
 simp only[af.all,aA]
 exact⟨fun _=>jS aa,fun _=>⟨⟨aa,aa⟩,gr fun i hi=>absurd hi (Nat.not_lt_zero i)⟩⟩
theorem Z9:bf P Jr sX:=by
 refine wq fun K args r hk hs=>?_
 split at hs
 ·rename_i v
  split at hs
  ·rename_i k q hv
   simp only[ay]at hs
   subst hs
   intro need
   exact gD (VR K) hk ⟨(kL ag).ok hv need,trivial⟩ [] trivial
  ·rename_i n k q hv
   simp only[ay]at hs
   subst hs
   intro need
   obtain⟨hn1,hn2⟩:=fI.1 need
   exact gD (Wr (l:=q++[n+1<2^30]) (fun h=>⟨Nat.succ_pos n,(fI (a:=q) (b:=[n+1<2^30]).1 h).2⟩) K) hk ⟨(kL ag).ok hv hn1,trivial⟩ [] need
  ·simp at hs
 ·simp at hs
theorem NG:bI P MH:=fD (aL (iL fun _ _ K hn=>Cb hn.1 hn.2 K) (aL I9 gE))
theorem FE {n:Nat} {c:Nat->Rat} (i:Nat):((1:Int):Rat)/c (n-1)*c i=cu n c i:=by
 unfold cu;rw[Rat.div_def,Rat.div_def,Rat.mul_comm];congr 1;exact Rat.one_mul _
theorem Qm {n:Nat} {c:Nat->Rat} (hn:n<2^40) (hz:cG n (cu n c)) (K:Nat):aP P 135 K [aV c n ag] [] (aK (aV (cu n c) n ag) []):=by
 have hW:=cW
 have hX:=Df
 refine bZ hT NG hm Tm rfl aW rfl 60 aae (fun _=>?_) K []
 simp only[af.all,aA,beq_iff_eq,beq_eq_false_iff_ne]
 refine⟨fun h=>?_,fun h=>?_⟩
 ·rw[show n=0 by omega];exact jS aa
 ·rw[show((n:Int)-1).toNat=n-1 by omega]
  have hb:bK (Int.natAbs 1)=1:=by decide
  refine⟨⟨aa,aa,aa,aa,by rw[hb];decide,aa,aa⟩,⟨aa,cZ aQ,?_,hn,fun i hi=>by show Sz (_*c i) _;rw[FE];exact hz i hi⟩,gr fun i hi=>dy (FE i) aQ⟩
  rw[hb,Nat.max_self];omega
def DQ:Spec:=dA (kC (kL ag) kN) (fun a=>aV (cu a.1.1 a.1.2) a.1.1 ag) fun a=>[a.1.1<2^40,cG a.1.1 (cu a.1.1 a.1.2)]
theorem Hz:bf P DQ 135:=cR fun⟨⟨n,c⟩,_⟩ K hn=>Qm hn.1 hn.2 K
theorem aaZ:bI P Jl:=fD (aL WO gE)
theorem QL {n:Nat} {c:Nat->Rat} (hn:n<=41) (hz:iD n c) (K:Nat):aP P 81 K [aV c n ag] [] (aK (aV (ng n c) (jy n) ag) []):=by
 refine bZ hT aaZ hm aaH rfl aW rfl 60 T4 (fun _=>?_) K []
 simp only[af.all,aA,beq_iff_eq,beq_eq_false_iff_ne]
 refine⟨fun h=>⟨aa,?_⟩,fun h=>⟨⟨cZ aQ,aa,hn,hz⟩,?_⟩⟩
 ·obtain rfl:n=0:=aa
  refine gr (n:=1) fun i hi=>?_
  obtain rfl:i=0:=aa
  exact lV
 ·have e1:jy n=n:=if_neg aa
  rw[e1]
  exact gr fun i hi=>dy (if_neg (show¬n=0 by omega)).symm aQ
theorem aeQ:bI P JC:=fD (aL Nf (aL Dh gE))
theorem Tr {n:Nat} {c:Nat->Rat} (h1:1<=n) (h2:n<=41) (h3:qk n c) (K:Nat):aP P 57 K [aV c n ag] [] (aK (aV (fk n c) (br (fk n c) n) ag) []):=by
 refine bZ hT aeQ hm aac rfl aW rfl 60 ZU (fun _=>?_) K []
 simp only[af.all,aA]
 exact⟨⟨cZ aQ,h1,h2,h3,cZ aQ,aa⟩,.refl _⟩
def sN:Spec:=fun K args pre=>match vm K args pre with
 |some r=>some r
 |none=>rI K args pre
def oo:bh:=zG::(sX,Jr)::(114,sN)::(142,ir kR kR xO o7)::gB
abbrev tN:Code:=aH f88
abbrev Dy:Code:=part tN [1,1,1,1,0,0,0]
abbrev vt:Code:=part Dy [1,0]
abbrev qf:List Nat:=[1,4,5,6]
abbrev w8 (e:Nat) (d:Nat->Rat) (R L:Nat):List AV:=[aV d (e+1) ag,.own 1 3 0 R,.own 0 3 0 L,.int .i64 e]
abbrev xw (n R:Nat) (x q:Nat->Rat):aE:=[(0,bT n x ag),(1,bT R q ag)]
abbrev xo:List Nat:=[1,4,5,6,7,8,55,56,57]
abbrev A4 (e:Nat) (d:Nat->Rat) (R L k i:Nat):List AV:=[aV d (e+1) ag,.own 1 3 0 R,.own 0 3 0 L,.int .i64 e,.int .i64 k,.ptr 2 0 3 0 [],aV d e ag,.int .i64 e,.int .i64 i]
abbrev BY (n R:Nat) (x q:Nat->Rat) (f:Rat):aE:=[(2,⟨false,true,3,1,fun _=>.rat f ag⟩),(0,bT n x ag),(1,bT R q ag)]
theorem CG:aX 88 f88:=aZ func88
theorem aef {e:Nat} {a d:Nat->Rat}:bR T oo [200020,200029] 60 f88 (aH f88) ⟨aT 0 [aV a 0 ag,aV d (e+1) ag],[],0⟩=
  let c3:AV:=rat 0 1;let c2:Int:=(↑(0:Nat):Int);let c1:Int:=(↑(e+1):Int)-1;some (aj [cF (fun i=>rat (a i) ag) 0 ag] (aj [-(2:Int)^63<=c1/\c1<2^63] (aj [decide (c2>c1)=false] (aj [decide (c2>c1)=false] (aj [cF (fun x=>c3) 0 ag,(0:Nat)<2^40] (leaf ret [ak 3 0 fun i=>rat (aS c3) ag,ak 3 0 fun i=>rat (aS (rat (a i) ag)) ag])))))):=ah
theorem Xl {n e:Nat} {a d:Nat->Rat}:aG T oo [20] 60 qf (before tN [1,1,1,1,0]) ⟨aT 0 [aV a (n+1) ag,aV d (e+1) ag],[],0⟩=
  let c6:Int:=(2:Int)^63;let c5:AV:=ak 3 (e+1) fun i=>rat (d i) ag;let c3:Int:=(↑(e+1):Int)-1;let c2:Nat:=n+1;let c7:List AV:=[own 12288 3 0 c2,int i64 c3];let c4:Nat×ax:=(12288,ax.mk true true 3 c2 fun i=>rat (aS (rat (a i) ag)) ag);let c1:Int:=(↑c2:Int)-c3;some (aj [cF (fun i=>rat (a i) ag) (n+1) ag,c2<2^30] (aj [-c6<=c3/\c3<c6] (fork (decide ((↑c2:Int)>c3)) (aj [-c6<=c1/\c1<c6,(0:Int)<=c1/\c1<=c1/\c1<=2^47/\c1*(↑(56:Nat):Int)<=2^47] (leaf normal (c5::own 69632 3 0 c1.toNat::c7,[c4,(69632,ax.mk true true 3 c1.toNat fun x=>rat 0 1)]))) (leaf normal (c5::nil::c7,[c4]))))):=ah
theorem Sm {n e R L:Nat} {d x q:Nat->Rat}:aG T oo [29] 60 qf (before Dy [1]) ⟨aC qf (w8 e d R L),xw n R x q,2⟩=
  let c1:List AV×aE:=([ak 3 (e+1) fun i=>rat (d i) ag,own 1 3 0 R,own 0 3 0 L,int i64 (↑e:Int)],[(0,ax.mk true true 3 n fun i=>rat (x i) ag),(1,ax.mk true true 3 R fun i=>rat (q i) ag)]);some (fork (decide ((↑L:Int)>(↑e:Int))) (leaf normal c1) (leaf (exit 0) c1)):=ah
theorem UK {n e R L:Nat} {d x q:Nat->Rat}:aG T oo [] 60 xo (before vt [1,1,1,0,1]) ⟨aC qf (w8 e d R L),xw n R x q,2⟩=
  let c7:Prop:=ag<2^42;let c6:Nat:=Int.toNat (0:Int);let c3:Int:=(2:Int)^63;let c2:Int:=(↑e:Int);let c1:Int:=(↑L:Int)-1;let c5:Nat:=c1.toNat+0;let c4:Nat:=(c1-c2).toNat+0;some (aj [-c3<=c1/\c1<c3,-c3<=c1-c2/\c1-c2<c3] (aj [-c3<=c1/\c1<c3,(0:Int)<=c1/\c1.toNat<L,c5<n,(0:Int)<=c2/\c2.toNat<e+1,c7,c7,(0:Nat)<1] (aj [(0:Nat)<1,(0:Int)<=c1-c2/\(c1-c2).toNat<R,c4<R] (aj [(0:Int)<=0/\(0:Int)<=c2/\c2<=c2/\c2<=(↑(e+1):Int)] (leaf normal ([ak 3 (e+1) fun i=>rat (d i) ag,own 1 3 0 R,own 0 3 0 L,int i64 c2,int i64 (c1-c2),ptr 81922 0 3 0 [],ak 3 (c2.toNat-c6) fun i=>rat (d (i+c6)) ag,int i64 (↑(c2.toNat-c6):Int),int i64 0],[((81922:Nat),fL fun j=>if(j==0)=true then dN (rA (x c5/d c2.toNat) (ag+ag))else rat 0 1),(0,ax.mk true true 3 n fun i=>rat (x i) ag),(1,ax.mk true true 3 R fun j=>rat (bif j==c4 then x c5/d c2.toNat else q j) (bif j==c4 then ag+ag else ag))])))))):=ah
theorem Z1 {n e R L k i:Nat} {d x q:Nat->Rat} {f:Rat}:aG T oo [58] 60 xo [part vt [1,1,1,0,1,0,0]] ⟨aC xo (A4 e d R L k i),BY n R x q f,3⟩=
  let c14:AV:=own 0 3 0 L;let c13:AV:=own 1 3 0 R;let c12:Prop:=0<1;let c11:AV:=ptr 2 0 3 0 [];let c10:AV:=int i64 (↑e:Int);let c9:AV:=ak 3 e fun i=>rat (d i) ag;let c8:Nat:=2^42;let c7:Int:=(↑i:Int);let c6:AV:=ak 3 (e+1) fun i=>rat (d i) ag;let c4:Nat×ax:=(1,ax.mk true true 3 R fun i=>rat (q i) ag);let c3:Nat×ax:=((2:Nat),fL fun x=>rat f ag);let c2:Int:=(2:Int)^63;let c16:Int:=c7+1;let c1:Int:=(↑k:Int)+c7;let c15:Prop:=(0:Int)<=c1/\c1.toNat<L;let c5:Nat:=c1.toNat+0;some (fork (decide (c7<(↑e:Int))) (aj [(0:Int)<=c7/\c7.toNat<e,c12] (aj [-c2<=c1/\c1<c2,-c2<=c1/\c1<c2,c15,c5<n,c12,c12,ag<c8,ag<c8,ag<c8,ag+ag<c8,c15,c5<n] (aj [-c2<=c16/\c16<c2] (leaf normal ([c6,c13,c14,c10,int i64 (↑k:Int),c11,c9,c10,int i64 c16],[c3,(0,ax.mk true true 3 n fun j=>rat (bif j==c5 then x c5-f*d c7.toNat else x j) (bif j==c5 then ag+(ag+ag)+1 else ag)),c4]))))) (leaf (exit 2) ([c6,c13,c14,c10,int i64 (↑k:Int),c11,c9,c10,int i64 c7],[c3,(0,ax.mk true true 3 n fun i=>rat (x i) ag),c4]))):=ah
theorem Sr {n e R L k i:Nat} {d x q:Nat->Rat} {f:Rat}:aG T oo [] 60 qf (behind vt [1,1,1,0,1]) ⟨aC xo (A4 e d R L k i),BY n R x q f,3⟩=
  let c1:Int:=(↑L:Int)-1;let c2:Nat:=c1.toNat-Int.toNat (0:Int);some (aj [-(2:Int)^63<=c1/\c1<2^63,(0:Int)<=0/\(0:Int)<=c1/\c1<=c1/\c1<=(↑L:Int),c2<=n,c2<2^40,qS (fun i=>rat (x i) ag) n ag] (leaf normal ([ak 3 (e+1) fun i=>rat (d i) ag,own 1 3 0 R,own 0 3 0 (br (fun i=>aS (rat (x i) ag)) c2),int i64 (↑e:Int)],[(0,ax.mk true true 3 n fun i=>rat (aS (rat (x i) ag)) ag),(1,ax.mk true true 3 R fun i=>rat (q i) ag)]))):=ah
theorem abn {n e R L:Nat} {d x q:Nat->Rat}:cA T oo [] 60 f88 [part tN [1,1,1,1,1]] ⟨aC qf (w8 e d R L),xw n R x q,2⟩=
  some (aj [R<=R,R<2^40,qS (fun i=>rat (q i) ag) R ag] (leaf ret [ak 3 (br (fun i=>aS (rat (q i) ag)) R) fun i=>rat (aS (rat (q (i+0)) ag)) ag,ak 3 L fun i=>rat (x (i+0)) ag])):=ah
theorem aah:bf P sN 114:=by
 intro K args pre r h
 unfold sN at h
 split at h
 ·rename_i h1
  exact YE K args pre r (h1.trans h)
 ·exact Dh K args pre r h
theorem BQ:bI P oo:=fD (aL Z9 (aL aah (aL (iL fun _ _ K hn=>Cb hn.1 hn.2 K) gE)))
def lR (n e:Nat) (d a:Nat->Rat):Prop:=(∀j,j<=n-e->cG n (bP e d a (n-e) j))/\cG (n-e) (cY e d a (n-e))
abbrev tZ (n e:Nat) (d a:Nat->Rat):AV:=.tuple [aV (cY e d a (n-e)) (br (cY e d a (n-e)) (n-e)) ag,aV (bP e d a (n-e) (n-e)) (br (bP e d a (n-e) (n-e)) n) ag]
theorem F9 {e:Nat} {a d:Nat->Rat} (he:e<2^30) (K:Nat):aP P 88 K [aV a 0 ag,aV d (e+1) ag] [] (aK (tZ 0 e d a) []):=by
 refine bZ hT BQ hm CG rfl aW rfl 60 aef (fun _=>?_) K []
 simp only[af.all,aA,bB]
 have e0:br (cY e d a (0-e)) (0-e)=0:=by rw[Nat.zero_sub];rfl
 refine⟨fun i hi=>absurd hi (Nat.not_lt_zero i),aa,aa,aa,⟨fun i hi=>absurd hi (Nat.not_lt_zero i),aa⟩,?_⟩
 show bA _ _/\bA _ _/\True
 rw[e0]
 exact⟨gr fun i hi=>absurd hi (Nat.not_lt_zero i),gr fun i hi=>absurd hi (Nat.not_lt_zero i),trivial⟩
theorem Ju {n e:Nat} {a d:Nat->Rat} (hn:n+1<2^30) (he:e<2^30) (ha:a n≠0) (hd:d e≠0) (hz:lR (n+1) e d a) (K:Nat):aP P 88 K [aV a (n+1) ag,aV d (e+1) ag] [] (aK (tZ (n+1) e d a) []):=by
 refine gm (r:=aK (tZ (n+1) e d a) []) hT CG rfl aW rfl (fun _ cx h0=>?_) K []
 have hk:=jZ h0
 have hW:=cW
 obtain⟨N,hN⟩:∃N,N=n+1:=⟨_,rfl⟩
 obtain⟨R,hR⟩:∃R,R=N-e:=⟨_,rfl⟩
 have hRr:R=n+1-e:=aa
 unfold lR at hz
 rw[<-hN,<-hR]at hz
 obtain⟨hzR,hzQ⟩:=hz
 refine au.OS hT BQ hm (x:=tN) [1,1,1,1,0] (i:=0) (y:=Dy) ah ah CG.dst [1] (j:=1) (x1:=vt) ah ah ah [1,1,1,0,1] (i2:=2) (y2:=part vt [1,1,1,0,1,0,0]) ah ah rfl ah hk
  (f1:=[20]) (f2:=[29]) (f3:=[]) (f4:=[58]) (f5:=[]) 60 qf xo 2 3 (fun a:Nat×(Nat->Rat)×(Nat->Rat)=>w8 e d R a.1) (fun a=>xw N R a.2.1 a.2.2) (fun b=>jx N e R d a b.1 b.2.1 b.2.2/\cG N b.2.1) (fun b=>jx N e R d a b.1 b.2.1 b.2.2/\b.1<=e) (fun b=>b.1) (fun b=>e<b.1) (fun _=>False) (fun _=>False)
  (fun b (i:Nat)=>A4 e d R b.1 (b.1-1-e) i) (fun b i=>BY N R (en e d b.2.1 (b.1-1-e) (b.2.1 (b.1-1)/d e) i) (fun j=>if j=b.1-1-e then b.2.1 (b.1-1)/d e else b.2.2 j) (b.2.1 (b.1-1)/d e)) (fun b i=>i<=e/\cG N (en e d b.2.1 (b.1-1-e) (b.2.1 (b.1-1)/d e) i)) (fun b i=>i=e/\cG N (en e d b.2.1 (b.1-1-e) (b.2.1 (b.1-1)/d e) e)) (fun _ i=>e-i)
  ⟨_,Xl,?_⟩ (fun b ⟨hb,hx⟩=>⟨_,Sm,?_⟩) (fun b ⟨hb,hx⟩ hG=>⟨_,UK,?_⟩) (fun b ⟨hb,hx⟩ hG i ⟨hi,hxi⟩=>⟨_,Z1,?_⟩) (fun b ⟨hb,hx⟩ hG i ⟨hi,hxi⟩=>⟨_,Sr,?_⟩) (fun b s' ⟨hb,hle⟩ hs'=>?_) (fun _ _ h=>h.elim) (fun _ _ h=>h.elim)
 ·simp only[af.all,aA,bw,bB]
  have hs0:jx N e R d a N a fun _=>0:=jx.start hR (.inr (by rw[hN];exact ha))
  have hsz:cG N a:=hzR 0 (Nat.zero_le _)
  refine⟨⟨cZ aQ,hn⟩,aa,fun h=>⟨aa,(N,a,fun _=>0),⟨hs0,hsz⟩,[(0,12288),(1,69632)],rfl,?_,rfl,bg rfl rfl hN.symm (fun j hj=>bE rfl rfl) (bg rfl rfl aa (fun j hj=>.inr ⟨rfl,dy rfl aa⟩) trivial)⟩,fun h=>?_⟩
  ·rw[show((n+1:Nat):Int)-(((e+1:Nat):Int)-1)=(R:Nat) by omega,show((e+1:Nat):Int)-1=(e:Nat) by omega,bu,<-hN];rfl
  ·have h0:R=0:=aa
   clear hzR hzQ
   subst h0
   refine⟨(N,a,fun _=>0),⟨hs0,hsz⟩,[(0,12288)],rfl,?_,rfl,bg rfl rfl hN.symm (fun j hj=>bE rfl rfl) (kA rfl aa aa trivial)⟩
   rw[show((e+1:Nat):Int)-1=(e:Nat) by omega,<-hN];rfl
 ·obtain⟨L,x,q⟩:=b
  simp only[af.all,aA,bw,bB]
  have re:dx [] ([ak 3 (e+1) fun i=>rat (d i) ag,own 1 3 0 R,own 0 3 0 L,int i64 (↑e:Int)],[(0,ax.mk true true 3 N fun i=>rat (x i) ag),(1,ax.mk true true 3 R fun i=>rat (q i) ag)]) (w8 e d R L) (xw N R x q) 2:=⟨[(0,0),(1,1)],rfl,rfl,rfl,bg rfl rfl rfl (fun j hj=>bE rfl rfl) (bg rfl rfl rfl (fun j hj=>bE rfl rfl) trivial)⟩
  exact⟨fun h=>⟨aa,re⟩,fun h=>⟨rfl,(L,x,q),⟨hb,by dsimp only;omega⟩,re⟩⟩
 ·obtain⟨L,x,q⟩:=b
  have hl:=hb.le
  have hG:e<L:=hG
  dsimp only at hl hb
  have hq:=hb.quot hR hG
  have hf:Sz (x (L-1)/d e) ag:=by rw[hq];exact hzQ _ aa
  simp only[af.all,aA,Nat.add_zero]
  rw[show((L:Int)-1).toNat=L-1 by omega,show((L:Int)-1-(e:Int)).toNat=L-1-e by omega,bu]
  have hu0:en e d x (L-1-e) (x (L-1)/d e) 0=x:=by funext j;unfold en;rw[if_neg aa]
  refine⟨aa,aa,aa,aa,0,⟨Nat.zero_le _,by rw[hu0];exact hx⟩,[(0,0),(1,1),(2,81922)],rfl,?_,rfl,?_⟩
  ·rw[show(L:Int)-1-(e:Int)=(L-1-e:Nat) by omega];rfl
  ·refine jt rfl rfl (.inr ⟨rfl,dK rfl hf⟩) (bg rfl rfl rfl (fun j hj=>.inr ⟨rfl,dy (by rw[hu0]) aQ⟩) (bg rfl rfl rfl (fun j hj=>?_) trivial))
   exact kI (x:=q) (y:=fun j=>if j=L-1-e then x (L-1)/d e else q j) (dK (if_pos rfl).symm (by show Sz (if _ then _ else _) _;rw[if_pos rfl];exact hf)) fun hj=>dy (if_neg hj).symm aQ
 ·obtain⟨L,x,q⟩:=b
  have hl:=hb.le
  have hG:e<L:=hG
  dsimp only at hl hb hi hxi
  simp only[af.all,aA,bw,bB,Nat.add_zero]
  rw[show((L-1-e:Nat):Int)+(i:Int)=(L-1-e+i:Nat) by omega,bu,bu]
  generalize hf:x (L-1)/d e=f at*
  have h1:∀j,j≠L-1-e+i->en e d x (L-1-e) f i j=en e d x (L-1-e) f (i+1) j:=fun j hj=>by
   unfold en
   by_cases h2:L-1-e<=j/\j<L-1-e+i
   ·rw[if_pos h2,if_pos aa]
   ·rw[if_neg h2,if_neg aa]
  have h2:en e d x (L-1-e) f i (L-1-e+i)-f*d i=en e d x (L-1-e) f (i+1) (L-1-e+i):=by
   unfold en
   rw[if_neg aa,if_pos aa,show L-1-e+i-(L-1-e)=i by omega]
  refine⟨fun h=>?_,fun h=>⟨rfl,i,⟨aa,by rw[show i=e by omega]at hxi;exact hxi⟩,[(0,0),(1,1),(2,2)],rfl,rfl,rfl,dh (bg rfl rfl rfl (fun j hj=>bE rfl rfl) (bg rfl rfl rfl (fun j hj=>bE rfl rfl) trivial))⟩⟩
  have hs:Sz (en e d x (L-1-e) f (i+1) (L-1-e+i)) ag:=by
   subst hf
   rw[hb.Gh hR hG (i:=i+1) aa aa aa]
   exact hzR _ aa _ aa
  refine⟨aa,aa,aa,i+1,⟨aa,fun j hj=>?_⟩,by dsimp only;omega,[(0,0),(1,1),(2,2)],rfl,rfl,rfl,dh (bg rfl rfl rfl (fun j hj=>?_) (bg rfl rfl rfl (fun j hj=>bE rfl rfl) trivial))⟩
  ·by_cases h3:j=L-1-e+i
   ·rw[h3];exact hs
   ·rw[<-h1 j h3];exact hxi j hj
  ·exact kI (x:=en e d x (L-1-e) f i) (y:=en e d x (L-1-e) f (i+1)) (dK h2 hs) fun hj=>dy (h1 j hj) aQ
 ·obtain⟨L,x,q⟩:=b
  have hl:=hb.le
  have hG:e<L:=hG
  dsimp only at hl hb hi hxi
  subst hi
  simp only[af.all,aA]
  rw[show((L:Int)-1).toNat-(0:Int).toNat=L-1 by omega]
  exact⟨⟨aa,aa,aa,aa,fun j hj=>⟨rfl,.refl _⟩⟩,(_,_,_),⟨hb.next hR hd hG,hxi⟩,Nat.lt_of_le_of_lt eI (show L-1<L by omega),[(0,0),(1,1)],rfl,rfl,rfl,bg rfl rfl rfl (fun j hj=>bE rfl rfl) (bg rfl rfl rfl (fun j hj=>bE rfl rfl) trivial)⟩
 ·obtain⟨L,x,q⟩:=b
  dsimp only at hb hle
  obtain⟨f1,f2,f3⟩:=hb.fin hR hle
  have hl:=hb.le
  rw[show behind tN [1,1,1,1,0]=[part tN [1,1,1,1,1]]from by kernel_rfl]
  refine aF.weak rfl hs' (aF.mono (fun _ _ h=>.inl h) (aF.fin hT BQ hm 60 abn ah ?_))
  simp only[af.all,aA,Nat.add_zero]
  refine⟨⟨aQ,aa,fun j hj=>⟨rfl,.refl _⟩⟩,?_⟩
  show bA _ _/\bA _ _/\True
  rw[<-hN,<-hR,<-f1,<-Ao (k:=q) f3]
  exact⟨gr fun i hi=>dy (f3 i (Nat.lt_of_lt_of_le hi eI)) aQ,gr fun i hi=>dy (f2 i hi) aQ,trivial⟩
def zM:Spec:=dA (kC (kL ag) (kC (kL ag) kN)) (fun a=>tZ a.1.1 (a.2.1.1-1) a.2.1.2 a.1.2) fun a=>[a.1.1<2^30,1<=a.2.1.1,a.2.1.1<2^30,a.1.1=0\/a.1.2 (a.1.1-1)≠0,a.2.1.2 (a.2.1.1-1)≠0,lR a.1.1 (a.2.1.1-1) a.2.1.2 a.1.2]
theorem Eb:bf P zM 88:=cR fun⟨⟨n,a⟩,⟨m,d⟩,_⟩ K hn=>by
 obtain⟨h1,h2,h3,h4,h5,h6⟩:=hn
 simp only at h1 h2 h3 h4 h5 h6
 obtain⟨e,rfl⟩:∃e,m=e+1:=⟨m-1,aa⟩
 cases n with
 |zero=>exact F9 aa K
 |succ n=>exact Ju h1 aa (by simpa using h4) h5 h6 K
end Go.Am.B
