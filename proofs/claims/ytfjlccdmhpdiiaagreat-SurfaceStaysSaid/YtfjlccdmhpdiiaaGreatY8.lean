/- Plain laws of gb: how a list of valid gb is made, one knot after another. -/
import Derived.Test.YtfjlccdmhpdiiaaGreatY7
import Derived.Test.YtfjlccdmhpdiiaaGreatZ2
set_option linter.unusedVariables false
variable {f k x y:Nat->Rat}{b c d i j l m n p s s':Nat}{t:Rat}
noncomputable section
namespace Go.Am.B
structure KG (p j:Nat) (k:Nat->Rat) (t:Rat):Prop where
 p1:1<=p
 first:∀i,i<=p->k i=k 0
 top:k (p+j)=t
 sorted:∀i,i<p+j->k i<=k (i+1)
 mult:∀i,1<=i->i<=j->k i<k (i+p)
 half:∀i,i<=p+j->∃z:Int,k i=(z:Rat)/2/\-4<=z/\z<=2+6*(j:Int)
def jO (k:Nat->Rat) (m:Nat) (t:Rat):Nat->Rat:=fun i=>if i=m then t else k i
theorem oS:jO k m t m=t:=if_pos rfl
theorem jT (h:i≠m):jO k m t i=k i:=if_neg h
theorem KG.start (hp:1<=p) {z:Int} (h1:-2<=z) (h2:z<=1):KG p 0 (fun _=>(z:Rat)) (z:Rat) where
 p1:=hp
 first:=fun _ _=>rfl
 top:=rfl
 sorted:=fun _ _=>Rat.le_refl
 mult:=fun i h1 h2=>by omega
 half:=fun i _=>⟨2*z,by
  have:((2*z:Int):Rat)=2*(z:Rat):=by simp
  rw[this];grind,by omega,by omega⟩
theorem KG.le_top (h:KG p j k t) (hi:i<=p+j):k i<=t:=by
 rw[<-h.top];exact fT (n:=p+j+1) (fun i hi=>h.sorted i (by omega)) hi (by omega)
theorem KG.next {t':Rat} (h:KG p j k t) (hc:(t<t'/\∃z:Int,t'=t+(z:Rat)/2/\z<=6)\/(t'=t/\1<=j/\t≠k (j+1))):KG p (j+1) (jO k (p+1+j) t') t':=by
 have hle:t<=t':=by
  rcases hc with⟨h1,_⟩|⟨h1,_⟩
  ·grind
  ·rw[h1];exact Rat.le_refl
 have hp:=h.p1;refine⟨hp,fun i hi=>?_,?_,fun i hi=>?_,fun i h1 h2=>?_,fun i hi=>?_⟩
 ·rw[jT (by omega),jT (by omega)];exact h.first i hi
 ·rw[show p+(j+1)=p+1+j by omega,oS]
 ·by_cases he:i+1=p+1+j
  ·rw[he,oS,jT (by omega),show i=p+j by omega,h.top];exact hle
  ·rw[jT (by omega),jT he];exact h.sorted i (by omega)
 ·by_cases he:i=j+1
  ·subst he;rw[show j+1+p=p+1+j by omega,oS,jT (by omega)];have:=h.le_top (i:=j+1) (by omega);rcases hc with⟨h3,_⟩|⟨h3,h4,h5⟩
   ·grind
   ·rw[h3];grind
  ·rw[jT (by omega),jT (by omega)];exact h.mult i h1 (by omega)
 ·by_cases he:i=p+1+j
  ·subst he;rw[oS];obtain⟨z,e1,e2,e3⟩:=h.half (p+j) (by omega);rw[h.top]at e1;rcases hc with⟨h3,y,e4,e5⟩|⟨h3,_⟩
   ·refine⟨z+y,?_,?_,by omega⟩
    ·rw[e4,e1];have:((z+y:Int):Rat)=(z:Rat)+(y:Rat):=by simp
     rw[this];grind
    ·have hy:0<y:=by
      rcases Int.lt_or_le 0 y with h6|h6
      ·exact h6
      ·exfalso;have:((y:Int):Rat)<=0:=Rat.intCast_nonpos.2 h6;grind
     omega
   ·exact⟨z,by rw[h3,e1],e2,by omega⟩
  ·rw[jT he];obtain⟨z,e1,e2,e3⟩:=h.half i (by omega);exact⟨z,e1,e2,by omega⟩
def nE (p j:Nat) (k:Nat->Rat) (t:Rat):Nat->Rat:=fun i=>if i<p+1+j then k i else t+1
theorem KG.done (h:KG p j k t):Kn (2*p+2+j) p (nE p j k t):=by
 have hp:=h.p1;have lo:∀{i},i<p+1+j->nE p j k t i=k i:=fun hi=>if_pos hi;have hi':∀{i},p+1+j<=i->nE p j k t i=t+1:=fun hi=>if_neg (by omega);refine⟨hp,by omega,fun i hi=>?_,fun i hi=>?_,fun i h1 h2=>?_,fun i h1 h2=>?_⟩
 ·by_cases h1:i+1<p+1+j
  ·rw[lo h1,lo (by omega)];exact h.sorted i (by omega)
  ·rw[hi' (i:=i+1) (by omega)];by_cases h2:i<p+1+j
   ·rw[lo h2];have:=h.le_top (i:=i) (by omega);grind
   ·rw[hi' (by omega)];exact Rat.le_refl
 ·rw[lo (i:=i) (by omega),lo (i:=0) (by omega)];exact h.first i hi
 ·rw[hi' (i:=i) (by omega),hi' (i:=2*p+2+j-1) (by omega)]
 ·by_cases h3:i+p<p+1+j
  ·rw[lo (by omega),lo h3];exact h.mult i h1 (by omega)
  ·rw[hi' (i:=i+p) (by omega),lo (i:=i) (by omega)];have:=h.le_top (i:=i) (by omega);grind
theorem KG.HZ (h:KG p j k t) (i:Nat):∃z:Int,nE p j k t i=(z:Rat)/2/\-4<=z/\z<=4+6*(j:Int):=by
 unfold nE;split
 ·rename_i hi;obtain⟨z,e1,e2,e3⟩:=h.half i (by omega);exact⟨z,e1,e2,by omega⟩
 ·obtain⟨z,e1,e2,e3⟩:=h.half (p+j) (by omega);rw[h.top]at e1;refine⟨z+2,?_,by omega,by omega⟩;have:((z+2:Int):Rat)=(z:Rat)+2:=by simp
  rw[e1,this];grind
open AV
def aF:AV->Rat
 |.rat q _=>q
 |_=>0
def bh (f:Nat->AV) (n s:Nat):Prop:=∀i,i<n->bV (f i) (.rat (aF (f i)) s)
abbrev bu (k:Nat->Rat) (n s:Nat):AV:=.ak 3 n (fun i=>.rat (k i) s)
theorem bL (h:s<=s'):bh (fun i=>.rat (k i) s) n s':=fun _ _=>dU h
theorem yo {f:Nat->AV} (h:bh f n s):bV (.ak 3 n f) (bu (fun i=>aF (f i)) n s):=fI h
def By:AV->Option (Nat×(Nat->AV))
 |.ak 3 n f=>some (n,f)
 |.nil=>some (0,fun _=>.rat 0 1)
 |_=>none
theorem aiP {v:AV} {f:Nat->AV} (h:By v=some (n,f)) (ha:bh f n s):bV v (bu (fun i=>aF (f i)) n s):=by
 unfold By at h;split at h
 ·simp only[az,Prod.mk.injEq]at h;obtain⟨rfl,rfl⟩:=h;exact yo ha
 ·simp only[az,Prod.mk.injEq]at h;obtain⟨rfl,rfl⟩:=h;exact iT aa
 ·simp at h
open Go Go.Am.N AV Proofs.Tryz
theorem Ue:aU 11 f11:=aS func11
def Nv:aX:=[(11,iR T (sG::(59,MI)::oT) [] 60 f11)]
theorem Vn:bn P Nv:=aH (je hT (kq (aH aaQ qv)) hm Ue _ _) bw
def kL (s:Nat):Kind (Nat×(Nat->Rat)):=⟨fun v=>match By v with
 |some (n,f)=>some ((n,fun i=>aF (f i)),[bh f n s])
 |none=>none,fun a=>bu a.2 a.1 s,fun {v a q} h hq=>by
  split at h
  ·rename_i h1;simp only[az,Prod.mk.injEq]at h;obtain⟨rfl,rfl⟩:=h;exact aiP h1 hq
  ·simp at h⟩
def gv (s:Nat):Kind Rat:=⟨fun v=>match jS v with
 |some (q,n)=>some (q,[n<=s])
 |none=>none,fun a=>.rat a s,fun {v a q} h hq=>by
  split at h
  ·rename_i h1;simp only[az,Prod.mk.injEq]at h;obtain⟨rfl,rfl⟩:=h;exact(lz h1).trans (dU hq)
  ·simp at h⟩
structure rY (α:Type) where
 read:List AV->Option (α×List Prop)
 make:α->List AV
 ok:∀{l:List AV} {a:α} {q:List Prop},read l=some (a,q)->ay q->fP l (make a)
def kN:rY Unit:=⟨fun l=>match l with
 |[]=>some ((),[])
 |_=>none,fun _=>[],fun {l a q} h _=>by
  split at h
  ·trivial
  ·simp at h⟩
def kC {α β:Type} (k:Kind α) (kl:rY β):rY (α×β):=⟨fun l=>match l with
 |v::l=>match k.read v,kl.read l with
  |some (a,p),some (b,q)=>some ((a,b),p++q)
  |_,_=>none
 |[]=>none,fun a=>k.make a.1::kl.make a.2,fun {l a q} h hq=>by
  split at h
  ·split at h
   ·rename_i h1 h2;simp only[az,Prod.mk.injEq]at h;obtain⟨rfl,rfl⟩:=h;obtain⟨q1,q2⟩:=dS.1 hq;exact⟨k.ok h1 q1,kl.ok h2 q2⟩
   ·simp at h
  ·simp at h⟩
def cz {α:Type} (k:rY α) (g:α->AV) (need:α->List Prop):Spec:=ck fun l=>match k.read l with
 |some (a,p)=>some (aJ (g a) (p++need a))
 |none=>none
theorem cr {α:Type} {f:FuncId} {k:rY α} {g:α->AV} {need:α->List Prop} (h:∀a K,ay (need a)->aQ P f K (k.make a) [] (aJ (g a) [])):aW P (cz k g need) f:=by
 refine cK fun K args r hk hs _=>?_;split at hs
 ·rename_i h1;simp only[az]at hs;subst hs;intro hn;obtain⟨n1,hn⟩:=dS.1 hn;exact gW (h _ K hn) hk (k.ok h1 n1) [] trivial
 ·simp at hs
open Go Go.Am.N AV ag au IntKind Proofs.Tryz
theorem aki:aU 195 f195:=aS func195
theorem aaw:aU 118 f118:=aS func118
def g9:aX:=nG::qV
def mT:aX:=nG::oT
abbrev sK:Nat:=4096
abbrev ls (k:Nat->Rat) (n:Nat):AV:=bu k n sK
abbrev tP (t:Rat) (s:Nat):aq:=⟨false,true,3,1,fun _=>.rat t s⟩
abbrev wO:List Nat:=[0,5,8,9,6,7]
abbrev F6 (n:Nat) (k:Nat->Rat) (l i:Nat):List AV:=[ls k n,.ptr 0 0 3 0 [],.int .i64 l,.int .i64 i,.int .i64 0,.int .i64 0]
abbrev zw:Code:=aE f195
theorem aaZ {p:Int}:aI T g9 [200013,21,31] 60 wO (before zw [1,1,1,0,1]) ⟨aN 0 [ls k n,.int .i64 p,.rat t sK],[],0⟩=
  let b:=((↑n:Int)==0)=false;let a:=0<1;let q:=ak 3 n fun i=>rat (k i) 4096;let o:=Int.toNat (0:Int);let m:=ptr 0 0 (bp (rat t sK)).size 0 [];let f:=int i64 0;let l:Nat×aq:=(0,aq.mk false true (bp (rat t sK)).size 1 fun x=>rat t 4096);let e:=(↑n:Int)-1;let d:=(0:Int)<=0/\o<n;let g:=bif false then true else decide (fQ t (k o)<0);let j:ag (List AV×aC):=leaf ret ([q,m,tuple [],tuple [],f,int i64 7],[l]);let h:ag (List AV×aC):=leaf normal ([q,m,f,f,f,f],[l]);some (fork g (aj [b,a,d,g=true] (fork true j h)) (aj [b,a,d,g=false,a,-(2:Int)^63<=e/\e<2^63,(0:Int)<=e/\e.toNat<n] (fork (bif false then true else decide (fQ t (k e.toNat)>0)) j h))):=ah
theorem amF:aI T g9 [36,49,58] 60 wO [part zw [1,1,1,0,1,0,0]] ⟨aA wO (F6 n k l i),[(0,tP t sK)],1⟩=
  let d:=(↑i:Int);let j:=[int i64 0,int i64 0];let h:=ptr 0 0 3 0 [];let g:=ak 3 n fun i=>rat (k i) 4096;let e:Nat×aq:=((0:Nat),bG fun x=>rat t 4096);let b:=int i64 d;let a:=d+1;let o:=fQ (k d.toNat) (k a.toNat);let f:=-(2:Int)^63<=a/\a<2^63;let m:=[f,(0:Int)<=a/\a.toNat<n];some (aj [f] (fork (decide (a<(↑n:Int))) (aj (((0:Int)<=d/\d.toNat<n)::m) (fork (decide (o>=0)) (aj [f] (leaf normal (g::h::int i64 (↑l:Int)::int i64 a::j,[e]))) (aj (((0:Nat)<1)::m) (fork (decide (fQ t (k a.toNat)<0)) (leaf (exit 0) (g::h::b::b::j,[e])) (aj [f] (leaf normal (g::h::b::int i64 a::j,[e]))))))) (leaf (exit 0) (g::h::int i64 (↑l:Int)::b::j,[e])))):=ah
theorem aeV:ct T g9 [] 60 f195 [part zw [1,1,1,1]] ⟨aA wO (F6 n k l i),[(0,tP t sK)],1⟩=
  some (leaf ret [int i64 (↑l:Int),int i64 0]):=ah
abbrev xP:List Nat:=[0,5,9,6,7]
abbrev zR (n:Nat) (k:Nat->Rat) (i:Nat):List AV:=[ls k n,.ptr 0 0 3 0 [],.int .i64 i,.int .i64 0,.int .i64 0]
abbrev Ab:Code:=aE f118
theorem ak4:aI T mT [19,27] 60 xP (before Ab [1,1,1,1,0]) ⟨aN 0 [ls k n,.int .i64 p,.rat t sK],[],0⟩=
  let d:=int i64 0;let b:=0<1;let h:=(0:Int)<=0/\Int.toNat (0:Int)<n;let r:=ak 3 n fun i=>rat (k i) 4096;let q:=ptr 0 0 (bp (rat t sK)).size 0 [];let o:Nat×aq:=(0,aq.mk false true (bp (rat t sK)).size 1 fun x=>rat t 4096);let g:=(2:Int)^63;let s:=fQ t (k (Int.toNat (0:Int)));let f:=(↑n:Int)-1;let e:=f-(↑p:Int);let a:=decide (s<0);let m:ag (List AV×aC):=leaf ret ([r,q,tuple [],d,int i64 7],[o]);let j:=e-1;let l:ag (List AV×aC):=aj [-g<=e/\e<g,-g<=j/\j<g] (leaf normal ([r,q,int i64 j,d,d],[o]));some (aj [-g<=f/\f<g] (fork a (aj [b,h,a=true] (fork true m l)) (aj [b,h,a=false,b,(0:Int)<=f/\f.toNat<n] (fork (bif false then true else decide (fQ t (k f.toNat)>0)) m l)))):=ah
theorem WQ:aI T mT [34,42] 60 xP [part Ab [1,1,1,1,0,0,0]] ⟨aA xP (zR n k i),[(0,tP t sK)],1⟩=
  let b:=int i64 0;let l:=ptr 0 0 3 0 [];let j:=ak 3 n fun i=>rat (k i) 4096;let h:Nat×aq:=((0:Nat),bG fun x=>rat t 4096);let a:=(↑i:Int);let e:=a-1;let d:=decide (a>0);let g:ag (List AV×aC):=leaf (exit 0) ([j,l,int i64 a,b,b],[h]);let f:ag (List AV×aC):=aj [-(2:Int)^63<=e/\e<2^63] (leaf normal ([j,l,int i64 e,b,b],[h]));some (fork d (aj [d=true,(0:Nat)<1,(0:Int)<=a/\a.toNat<n] (fork (bif true then decide (fQ t (k a.toNat)<0)else false) f g)) (aj [d=false] (fork false f g))):=ah
theorem acV:ct T mT [] 60 f118 [part Ab [1,1,1,1,1]] ⟨aA xP (zR n k i),[(0,tP t sK)],1⟩=
  some (leaf ret [int i64 (↑i:Int),int i64 0]):=ah
theorem lK:bn P g9:=cB tV
theorem Em:bn P mT:=cB qv
theorem mE {q:Rat}:aF (.rat q n)=q:=rfl
theorem Ob:max 1 (bT (Int.natAbs 1))=1:=by decide
theorem zG {a b:Rat}:fQ a b>=0↔b<=a:=by
 have:=@oI a b;constructor
 ·intro h;have:¬a<b:=fun h'=>by have:=oI.2 h';omega
  grind
 ·intro h;have:¬fQ a b<0:=fun h'=>by have:=oI.1 h';grind
  omega
theorem rD {rl:List (Nat×Nat)} {s2:Nat} (hx:∀i,i<l->x i=y i) (ht:t=y l) (h1:s<=s2) (h2:s'<=s2) (hi:i<l+1):gD rl (if i<l then .rat (x i) s else nth [.rat t s'] (.rat 0 1) (i-l+0)) (.rat (y i) s2):=by
 by_cases h:i<l
 ·rw[if_pos h,hx i h];exact .inr ⟨rfl,cm rfl h1⟩
 ·have:i=l:=aa;subst this;rw[if_neg h,Nat.sub_self,ht];exact .inr ⟨rfl,cm rfl h2⟩
theorem WW {rl:List (Nat×Nat)} {s2:Nat} (ht:t=y 0) (h2:s'<=s2) (hi:i<1):gD rl (nth [.rat t s'] (.rat 0 1) (i+0)) (.rat (y i) s2):=by
 have:i=0:=aa;subst this;rw[ht];exact .inr ⟨rfl,cm rfl h2⟩
def bf (n:Nat) (k:Nat->Rat) (t:Rat):Prop:=t<k 0\/k (n-1)<t
instance {n:Nat} {k:Nat->Rat} {t:Rat}:Decidable (bf n k t):=inferInstanceAs (Decidable (t<k 0\/k (n-1)<t))
def fY (n:Nat) (k:Nat->Rat) (t:Rat):Nat:=if bf n k t then 0 else bJ n k t
def cA (n:Nat) (k:Nat->Rat) (t:Rat):Int:=if bf n k t then 7 else 0
abbrev tJ (n:Nat) (k:Nat->Rat) (t:Rat):AV:=.tuple [.int .i64 (fY n k t),.int .i64 (cA n k t)]
theorem Bn (h:bf n k t):fF [.int .i64 0,.int .i64 7] (tJ n k t):=
 ⟨bP (by unfold fY;rw[if_pos h];rfl),bP (by unfold cA;rw[if_pos h]),trivial⟩
theorem Pg (h:¬bf n k t) (hi:i=bJ n k t):fF [.int .i64 i,.int .i64 0] (tJ n k t):=
 ⟨bP (by unfold fY;rw[if_neg h,hi]),bP (by unfold cA;rw[if_neg h]),trivial⟩
abbrev wq (k:Nat->Rat) (t:Rat) (i:Nat):Nat:=mw (fun i=>decide (k i<k (i+1))&&decide (k i<=t)) i
theorem Rg {g:Nat->Bool}:mw g (m+1)=if g m then m else mw g m:=rfl
theorem aeb {p0:Nat} {p:Int} (h:Kn n p0 k) (hn:n<2^40) (K:Nat):aQ P 195 K [ls k n,.int .i64 p,.rat t sK] [] (aJ (tJ n k t) []):=by
 have hp:=h.p1;have hl:=h.len;refine gP (r:=aJ (tJ n k t) []) hT lK hm aki rfl aV rfl [1,1,1,0,1] (i:=0) (y:=part zw [1,1,1,0,1,0,0]) (z:=part zw [1,1,1,1]) ah ah ah (f1:=[200013,21,31]) (f2:=[36,49,58]) (f3:=[]) 60 wO 1
  (fun a:Nat×Nat=>F6 n k a.2 a.1) (fun _=>[(0,tP t sK)]) (fun a=>a.1+1<=n/\a.2=wq k t a.1/\k a.1<=t/\¬bf n k t) (fun a=>a.2=bJ n k t/\¬bf n k t) (fun a=>n-a.1) (fun _=>⟨⟨_,aaZ,?_⟩,fun⟨i,l⟩ ⟨h1,h2,h3,h4⟩=>⟨_,amF,?_⟩,fun⟨i,l⟩ ⟨h1,h2⟩=>⟨_,aeV,Pg h2 h1⟩⟩) K []
 ·simp only[ag.all,ay,br,bC,oI,uP,cond_false,Int.toNat_zero,beq_eq_false_iff_ne,ne_eq,show((n:Int)-1).toNat=n-1 by omega]
  (repeat' with_reducible first|refine And.intro ?_ ?_|intro _)
  all_goals first|omega|assumption|skip
  ·exact⟨_,ah,Bn (.inl ‹_›)⟩
  ·exact absurd ‹true=false› (by decide)
  ·exact⟨_,ah,Bn (.inr ‹_›)⟩
  ·rename_i a b;have hin:¬bf n k t:=fun h=>h.elim (fun h=>a h) fun h=>b h;exact⟨(0,0),⟨aa,rfl,by show k 0<=t;grind,hin⟩,[(0,0)],rfl,rfl,rfl,aL trivial⟩
 ·have hs:∀i,i+1<n->k i<=k (i+1):=h.sorted;simp only at h1 h2 h3;simp only[ag.all,ay,br,bC,oI,zG,bg,show((i:Int)+1).toNat=i+1 by omega]
  (repeat' with_reducible first|refine And.intro ?_ ?_|intro _)
  all_goals first|omega|assumption|skip
  ·rename_i hi hge;have:=hs i aa;have e:wq k t (i+1)=wq k t i:=by
    have:¬k i<k (i+1):=by grind
    rw[wq,Rg,if_neg (by simp[this])]
   exact⟨(i+1,l),⟨aa,h2.trans e.symm,by show k (i+1)<=t;grind,h4⟩,by dsimp only;omega,[(0,0)],rfl,rfl,rfl,aL trivial⟩
  ·rename_i hi hlt hb;have:k i<k (i+1):=by grind
   have hiv:bJ n k t=i:=wU ⟨⟨aa,hs,this⟩,h3,by grind,.inl hb⟩;exact⟨rfl,(i,i),⟨hiv.symm,h4⟩,[(0,0)],rfl,rfl,rfl,aL trivial⟩
  ·rename_i hi hlt hb;have:k i<k (i+1):=by grind
   have e:wq k t (i+1)=i:=by
    rw[wq,Rg,if_pos (by simp[this,h3])]
   exact⟨(i+1,i),⟨aa,e.symm,by show k (i+1)<=t;grind,h4⟩,by dsimp only;omega,[(0,0)],rfl,rfl,rfl,aL trivial⟩
  ·have hin:i=n-1:=aa;subst hin;exact⟨rfl,(n-1,l),⟨h2,h4⟩,[(0,0)],rfl,rfl,rfl,aL trivial⟩
theorem agu (h:Kn n p k) (hn:n<2^40) (K:Nat):aQ P 118 K [ls k n,.int .i64 p,.rat t sK] [] (aJ (tJ n k t) []):=by
 have hp:=h.p1;have hl:=h.len;refine gP (r:=aJ (tJ n k t) []) hT Em hm aaw rfl aV rfl [1,1,1,1,0] (i:=0) (y:=part Ab [1,1,1,1,0,0,0]) (z:=part Ab [1,1,1,1,1]) ah ah ah (f1:=[19,27]) (f2:=[34,42]) (f3:=[]) 60 xP 1
  (fun i:Nat=>zR n k i) (fun _=>[(0,tP t sK)]) (fun i=>i+p+2<=n/\(∀j,i<j->j+p+2<=n->t<k j)/\¬bf n k t) (fun i=>i=bJ n k t/\¬bf n k t) (fun i=>i) (fun _=>⟨⟨_,ak4,?_⟩,fun i ⟨h1,h2,h4⟩=>⟨_,WQ,?_⟩,fun i ⟨h1,h2⟩=>⟨_,acV,Pg h2 h1⟩⟩) K []
 ·simp only[ag.all,ay,br,bC,oI,uP,cond_false,Int.toNat_zero,show((n:Int)-1).toNat=n-1 by omega]
  (repeat' with_reducible first|refine And.intro ?_ ?_|intro _)
  all_goals first|omega|assumption|skip
  ·exact⟨_,ah,Bn (.inl ‹_›)⟩
  ·exact absurd ‹true=false› (by decide)
  ·exact⟨_,ah,Bn (.inr ‹_›)⟩
  ·rename_i a b;have hin:¬bf n k t:=fun h=>h.elim (fun h=>a h) fun h=>b h;refine⟨n-p-2,⟨aa,fun j h1 h2=>aa,hin⟩,[(0,0)],rfl,?_,rfl,aL trivial⟩;rw[show(n:Int)-1-(p:Int)-1=((n-p-2:Nat):Int) by omega];rfl
 ·simp only[ag.all,ay,br,bC,oI,bg,cond_true];have hin:k 0<=t/\t<=k (n-1):=by
   constructor
   ·have:¬t<k 0:=fun h=>h4 (.inl h);grind
   ·have:¬k (n-1)<t:=fun h=>h4 (.inr h);grind
  have fin:k i<=t->i=bJ n k t:=fun h3=>by
   by_cases hi:i+p+2<n
   ·have h5:=h2 (i+1) aa aa;exact(wU ⟨⟨aa,h.sorted,by grind⟩,h3,by grind,.inl h5⟩).symm
   ·have e1:=h.last (i+1) aa aa;have e2:=h.last (i+p) aa aa;have e3:=h.mult i aa aa;exact(wU ⟨⟨aa,h.sorted,by rw[e1,<-e2];exact e3⟩,h3,by rw[e1];exact hin.2,.inr e1⟩).symm
  (repeat' with_reducible first|refine And.intro ?_ ?_|intro _)
  all_goals first|omega|assumption|skip
  ·rename_i a b;refine⟨i-1,⟨aa,fun j h5 h6=>?_,h4⟩,by dsimp only;omega,[(0,0)],rfl,?_,rfl,aL trivial⟩
   ·by_cases hj:j=i
    ·subst hj;exact b
    ·exact h2 j aa h6
   ·rw[show(i:Int)-1=((i-1:Nat):Int) by omega];rfl
  ·rename_i a b;exact⟨rfl,i,⟨fin (by grind),h4⟩,[(0,0)],rfl,rfl,rfl,aL trivial⟩
  ·exact absurd ‹false=true› (by decide)
  ·have hi:i=0:=aa;subst hi;exact⟨rfl,0,⟨fin hin.1,h4⟩,[(0,0)],rfl,rfl,rfl,aL trivial⟩
abbrev MR:rY ((Nat×(Nat->Rat))×Int×Rat×Unit):=kC (kL sK) (kC kI (kC (gv sK) kN))
def r5:Spec:=cz MR (fun a=>tJ a.1.1 a.1.2 a.2.2.1) fun a=>[Kn a.1.1 a.2.1.toNat a.1.2,0<=a.2.1,a.1.1<2^40]
theorem H9:aW P r5 195:=cr fun _ K hn=>aeb hn.1 hn.2.2 K
theorem Qr:aW P r5 118:=cr fun⟨⟨n,k⟩,p,t,_⟩ K hn=>by
 have:=agu hn.1 hn.2.2 K (t:=t);rw[Int.toNat_of_nonneg hn.2.1]at this;exact this
theorem VW:aU 222 f222:=aS func222
theorem Lu:aU 172 f172:=aS func172
def O7:aX:=(174,j4 kR kR zP s6)::iZ
theorem aiT {a b:Rat}:bX T O7 [] 60 f222 (aE f222) ⟨aN 0 [.rat a n,.rat b n,.rat t n],[],0⟩=
  let f:=n+n+1;let e:=2^42;let d:=0<1;some (aj [d,d,n<e,n<e,d,d,n<e,n<e,f<e,f<e,d] (aj [d,d] (aj [d] (leaf ret [rat ((t-a)/(b-a)) (f+f)])))):=ah
abbrev sF:Nat:=16386
def HQ:Spec:=cz (kC (gv sK) (kC (gv sK) (kC (gv sK) kN))) (fun a=>.rat (fr a.1 a.2.1 a.2.2.1) sF) fun _=>[]
theorem YR:bn P O7:=aH (kS fun _ _ K hn=>EK hn.1 hn.2 K) jA
theorem JA:aW P HQ 222:=cr fun⟨a,b,t,_⟩ K _=>by
 refine b9 (r:=aJ (.rat (fr a b t) sF) []) hT YR hm VW rfl aV rfl 60 aiT (fun _=>?_) K [];simp only[ag.all,ay];have h1:sK=4096:=rfl
 (repeat' with_reducible refine And.intro ?_ ?_)
 all_goals first|omega|exact(cm rfl (show sK+sK+1+(sK+sK+1)<=sF by decide))
def tA:aX:=nG::(195,r5)::(222,HQ)::(221,sZ)::iZ
def SB (d:Nat):Nat:=65536*4^d
abbrev HB (d:Nat):Nat:=1+(sF+SB d)+1
abbrev oq:List Nat:=[0,1,5,9,11,12,6,7,8]
abbrev vM (n:Nat) (k:Nat->Rat) (p i d:Nat):List AV:=[ls k n,.int .i64 p,.ptr 0 0 3 0 [],.int .i64 i,.own 2 3 0 (d+1),.int .i64 ((d+1:Nat):Int),.int .i64 0,.nil,.int .i64 0]
abbrev j0 (m:Nat) (x:Nat->Rat) (s:Nat->Nat):aq:=⟨true,true,3,m,fun i=>.rat (x i) (s i)⟩
abbrev CH:Code:=aE f172
abbrev vS:Code:=part CH [1,1,1,1,1,0,1,0,0]
abbrev tv:Code:=part vS [1,0,0]
abbrev zm:List Nat:=[0,1,5,9,12,13,54,55,56,6,7,8]
abbrev Eh (n:Nat) (k:Nat->Rat) (p i d j:Nat):List AV:=[ls k n,.int .i64 p,.ptr 0 0 3 0 [],.int .i64 i,.int .i64 ((d+1:Nat):Int),.own 3 3 0 (d+2),.own 2 3 0 (d+1),.int .i64 ((d+1:Nat):Int),.int .i64 j,.int .i64 0,.nil,.int .i64 0]
theorem X0:aI T tA [26,30,36,43] 60 oq (before CH [1,1,1,1,1,0,1]) ⟨aN 0 [ls k n,.int .i64 p,.rat t sK],[],0⟩=
  let g:=cA n (fun i=>aF (rat (k i) sK)) t;let d:=int i64 0;let u:=ak 3 n fun i=>rat (k i) 4096;let r:=ptr 0 0 (bp (rat t sK)).size 0 [];let o:=(2:Int)^63;let q:Nat×aq:=(0,aq.mk false true (bp (rat t sK)).size 1 fun x=>rat t 4096);let a:=(↑p:Int);let e:=(↑(fY n (fun i=>aF (rat (k i) sK)) t):Int);let j:=-o<=e-a/\e-a<o;let h:=-o<=e+a/\e+a<o;let f:=bif false then true else decide (e+a>=(↑n:Int));let b:=decide (a<0);let s:=bif false then true else decide (e-a<0);let m:ag (List AV×aC):=leaf ret ([u,int i64 a,r,int i64 e,tuple [],tuple [],d,nil,int i64 7],[q]);let l:ag (List AV×aC):=aj [(1:Nat)*3<=2^24] (leaf normal ([u,int i64 a,r,int i64 e,own 131072 3 0 1,int i64 1,d,nil,d],[(131072,aq.mk true true 3 1 fun i=>nth [rat (↑(1:Int):Rat) (Max.max 1 (bT (Int.natAbs (1:Int))))] (rat 0 1) i),q]));some (aj [(0:Nat)<1,bh (fun i=>rat (k i) sK) n sK,sK<=sK,Kn n a.toNat fun i=>aF (rat (k i) sK),(0:Int)<=a,n<2^40] (fork (g !=(0:Int)) (leaf ret ([u,int i64 a,r,int i64 e,tuple [],tuple [],d,nil,int i64 g],[q])) (fork false (fork true (aj [b=true,true=true] (fork true m l)) (aj [b=true,true=false,h] (fork f m l))) (fork s (aj [b=false,j,s=true] (fork true m l)) (aj [b=false,j,s=false,h] (fork f m l)))))):=ah
theorem XX:aI T tA [48] 60 oq (before vS [1,0]) ⟨aA oq (vM n k p i d),[(2,j0 (d+1) x fun _=>SB d),(0,tP t sK)],3⟩=
  let b:=(↑(d+1):Int);let a:List AV×aC:=([ak 3 n fun i=>rat (k i) 4096,int i64 (↑p:Int),ptr 0 0 3 0 [],int i64 (↑i:Int),own 2 3 0 (d+1),int i64 b,int i64 0,nil,int i64 0],[(2,aq.mk true true 3 (d+1) fun i=>rat (x i) (SB d)),((0:Nat),bG fun x=>rat t 4096)]);some (fork (decide (b<=(↑p:Int))) (leaf normal a) (leaf (exit 0) a)):=ah
theorem W5:aI T tA [] 60 zm (before tv [1,0,1]) ⟨aA oq (vM n k p i d),[(2,j0 (d+1) x fun _=>SB d),(0,tP t sK)],3⟩=
  let e:=int i64 0;let b:=(↑(d+1):Int);let a:=b+1;some (aj [-(2:Int)^63<=a/\a<2^63,(0:Int)<=a/\a<=a/\a<=2^47/\a*(↑(56:Nat):Int)<=2^47] (leaf normal ([ak 3 n fun i=>rat (k i) 4096,int i64 (↑p:Int),ptr 0 0 3 0 [],int i64 (↑i:Int),int i64 b,own 8195 3 0 a.toNat,own 2 3 0 (d+1),int i64 b,e,e,nil,e],[(2,aq.mk true true 3 (d+1) fun i=>rat (x i) (SB d)),(8195,aq.mk true true 3 a.toNat fun x=>rat 0 1),((0:Nat),bG fun x=>rat t 4096)]))):=ah
theorem UL {s:Nat->Nat}:aI T tA [57] 60 zm [part tv [1,0,1,0,0]] ⟨aA zm (Eh n k p i d j),[(3,j0 (d+2) y s),(2,j0 (d+1) x fun _=>SB d),(0,tP t sK)],4⟩=
  let o:=int i64 0;let H:=ptr 0 0 3 0 [];let G:=ak 3 n fun i=>rat (k i) 4096;let f:=d+1;let E:Nat×aq:=((0:Nat),bG fun x=>rat t 4096);let a:=(↑j:Int);let b:=0<1;let r:=d+2;let N:=Max.max 1 (bT (Int.natAbs (1:Int)));let m:=2^42;let l:=(2:Int)^63;let K:=(0:Int)<=a/\a.toNat<r;let z:=N+sF+1;let J:=own 3 3 0 r;let I:=own 2 3 0 f;let D:Nat×aq:=(2,aq.mk true true 3 f fun i=>rat (x i) (SB d));let C:=a+1;let e:=a.toNat+0;let u:=(↑f:Int);let q:=int i64 u;let M:=(0:Int)<=C/\C.toNat<r;let A:=-l<=C/\C<l;let w:=(↑i:Int)-u;let h:=C.toNat+0;let B:=w+1;let L:=s h+(sF+SB d)+1;let F:=bif e==h then L else s e;let g:=B+a;let v:=fr (k g.toNat) (k (g+u).toNat) t;some (fork (decide (a<u)) (aj [(0:Int)<=a/\a.toNat<f,e<f,b] (aj [-l<=w/\w<l,-l<=B/\B<l,-l<=g/\g<l] (aj [(0:Int)<=g/\g.toNat<n,-l<=g+u/\g+u<l,(0:Int)<=g+u/\(g+u).toNat<n,b,sK<=sK,sK<=sK,sK<=sK,b] (aj [A,A,M,h<r,b,b,sF<m,SB d<m,s h<m,sF+SB d<m,M,h<r] (aj [K,e<r,b,N<m,sF<m,b,z<m,SB d<m,F<m,z+SB d<m,K,e<r] (aj [A] (leaf normal ([G,int i64 (↑p:Int),H,int i64 (↑i:Int),q,J,I,q,int i64 C,o,nil,o],[D,(3,aq.mk true true 3 r fun j=>rat (bif j==e then(bif e==h then y h+v*x e else y e)+((↑(1:Int):Rat)-v)*x e else bif j==h then y h+v*x e else y j) (bif j==e then F+(z+SB d)+1 else bif j==h then L else s j)),E])))))))) (leaf (exit 2) ([G,int i64 (↑p:Int),H,int i64 (↑i:Int),q,J,I,q,int i64 a,o,nil,o],[D,(3,aq.mk true true 3 r fun i=>rat (y i) (s i)),E]))):=ah
theorem YJ {s:Nat->Nat}:aI T tA [] 60 oq [part tv [1,1],part vS [1,1]] ⟨aA zm (Eh n k p i d j),[(3,j0 (d+2) y s),(2,j0 (d+1) x fun _=>SB d),(0,tP t sK)],4⟩=
  let a:=(↑(d+1):Int)+1;some (aj [-(2:Int)^63<=a/\a<2^63] (leaf normal ([ak 3 n fun i=>rat (k i) 4096,int i64 (↑p:Int),ptr 0 0 3 0 [],int i64 (↑i:Int),own 3 3 0 (d+2),int i64 a,int i64 0,nil,int i64 0],[(3,aq.mk true true 3 (d+2) fun i=>rat (y i) (s i)),((0:Nat),bG fun x=>rat t 4096)]))):=ah
theorem afj:ct T tA [] 60 f172 [part CH [1,1,1,1,1,1]] ⟨aA oq (vM n k p i d),[(2,j0 (d+1) x fun _=>SB d),(0,tP t sK)],3⟩=
  let a:=(↑i:Int)-(↑p:Int);some (aj [-(2:Int)^63<=a/\a<2^63] (leaf ret [int i64 a,ak 3 (d+1) fun i=>rat (x (i+0)) (SB d),int i64 0])):=ah
theorem x5:SB (d+1)=4*SB d:=by unfold SB;rw[Nat.pow_succ];omega
theorem s4:∀{d:Nat},65536<=SB d
 |0=>by unfold SB;omega
 |d+1=>by rw[x5];have:=s4 (d:=d);omega
theorem xy:sF=16386:=rfl
theorem af7 {e:Nat} (h:d<=e):SB d<=SB e:=Nat.mul_le_mul_left _ (Nat.pow_le_pow_right aa h)
abbrev sV:Nat:=268435456
theorem sO (h:d<=6):SB d<=sV:=Nat.le_trans (af7 h) (by decide)
def zg (n:Nat) (k:Nat->Rat) (p:Nat) (t:Rat) (f:Nat->Rat):AV:=.tuple [.int .i64 (if bf n k t then 0 else(bJ n k t:Int)-p),.ak 3 (if bf n k t then 0 else p+1) (fun j=>.rat (f j) sV),.int .i64 (cA n k t)]
abbrev vq (n:Nat) (k:Nat->Rat) (p:Nat) (t:Rat):AV:=zg n k p t (vB k (bJ n k t) t p)
theorem JT (h:bf n k t):fF [.int .i64 0,.nil,.int .i64 7] (zg n k p t f):=by
 unfold zg cA;rw[if_pos h,if_pos h,if_pos h];exact⟨.refl _,iT aa,.refl _,trivial⟩
theorem Lt {g:Nat->AV} (h:¬bf n k t) (hg:∀j,j<p+1->bV (g j) (.rat (f j) sV)):fF [.int .i64 ((bJ n k t:Int)-p),.ak 3 (p+1) g,.int .i64 0] (zg n k p t f):=by
 unfold zg cA;rw[if_neg h,if_neg h,if_neg h];exact⟨.refl _,fI hg,.refl _,trivial⟩
theorem xU:bn P tA:=cB (aH H9 (aH JA (aH (zf EG) jA)))
def yp (k:Nat->Rat) (i:Nat) (t:Rat) (d j:Nat):Rat:=if j=0 then 0 else fr (k (i-d+(j-1))) (k (i-d+(j-1)+(d+1))) t*vB k i t d (j-1)
def nJ (k:Nat->Rat) (i:Nat) (t:Rat) (d j x:Nat):Rat:=if x<j then vB k i t (d+1) x else if x=j then yp k i t d j else 0
def kr (d j x:Nat):Nat:=if x<j then SB (d+1)else if x=j then HB d else 1
theorem X3 {rl:List (Nat×Nat)} {x:Nat} (hj:j<=d):
  gD rl (.rat (bif x==j then(bif j==j+1 then nJ k i t d j (j+1)+fr (k (i-d+j)) (k (i-d+j+(d+1))) t*vB k i t d j else nJ k i t d j j)+(((1:Int):Rat)-fr (k (i-d+j)) (k (i-d+j+(d+1))) t)*vB k i t d j
   else bif x==j+1 then nJ k i t d j (j+1)+fr (k (i-d+j)) (k (i-d+j+(d+1))) t*vB k i t d j else nJ k i t d j x)
   (bif x==j then(bif j==j+1 then kr d j (j+1)+(sF+SB d)+1 else kr d j j)+(1+sF+1+SB d)+1 else bif x==j+1 then kr d j (j+1)+(sF+SB d)+1 else kr d j x))
   (.rat (nJ k i t d (j+1) x) (kr d (j+1) x)):=by
 have h1:=x5 (d:=d);have h2:=s4 (d:=d);have h3:=xy;have hjj:(j==j+1)=false:=by simp
 rw[hjj];refine .inr ⟨rfl,?_⟩;by_cases hx:x=j
 ·subst hx;simp only[beq_self_eq_true,cond_true,cond_false];refine cm ?_ ?_
  ·unfold nJ;rw[if_neg aa,if_pos rfl,if_pos aa,vB,if_pos hj];have:((1:Int):Rat)=1:=rfl;rw[this];rfl
  ·unfold kr HB;rw[if_neg aa,if_pos rfl,if_pos aa];omega
 ·have hb:(x==j)=false:=by simpa using hx
  rw[hb];by_cases hx2:x=j+1
  ·subst hx2;simp only[beq_self_eq_true,cond_true,cond_false];refine cm ?_ ?_
   ·unfold nJ yp;rw[if_neg aa,if_neg aa,if_neg aa,if_pos rfl,if_neg aa,Nat.add_sub_cancel,Rat.zero_add]
   ·unfold kr HB;rw[if_neg aa,if_neg aa,if_neg aa,if_pos rfl];omega
  ·have hb2:(x==j+1)=false:=by simpa using hx2
   rw[hb2];simp only[cond_false];refine cm ?_ ?_
   ·unfold nJ;by_cases hlt:x<j
    ·rw[if_pos hlt,if_pos aa]
    ·rw[if_neg hlt,if_neg hx,if_neg aa,if_neg hx2]
   ·unfold kr;by_cases hlt:x<j
    ·rw[if_pos hlt,if_pos aa];omega
    ·rw[if_neg hlt,if_neg hx,if_neg aa,if_neg hx2];omega
theorem adj (h:Kn n p k) (hp6:p<=6) (hn:n<2^40) (K:Nat):aQ P 172 K [ls k n,.int .i64 p,.rat t sK] [] (aJ (vq n k p t) []):=by
 refine fV (r:=aJ (vq n k p t) []) hT Lu rfl aV rfl (fun _ c h0=>?_) K [];have hk:=iL h0;have hiv:¬bf n k t->p<=bJ n k t/\bJ n k t+p+1<n:=fun hin=>by
  have h1:¬t<k 0:=fun h=>hin (.inl h);have h2:¬k (n-1)<t:=fun h=>hin (.inr h);exact(h.yg (by grind) (by grind)).2
 have hp1:=h.p1;have hl:=h.len;refine ax.ym hT xU hm [1,1,1,1,1,0,1] (i:=0) (y:=vS) (z:=part CH [1,1,1,1,1,1]) ah ah ah Lu.dst hk (f1:=[26,30,36,43]) 60 oq 3 (fun d:Nat=>vM n k p (bJ n k t) d) (fun d=>[(2,j0 (d+1) (vB k (bJ n k t) t d) fun _=>SB d),(0,tP t sK)])
  (fun d=>d<=p/\¬bf n k t) (fun d=>d=p/\¬bf n k t) (fun d=>p-d) (lU f172 oq (vq n k p t)) ⟨_,X0,?_⟩ (fun d ⟨hd,hin⟩=>?_) (fun d ⟨hd,hin⟩=>?_) (fun v s' hv hs'=>hv.fin hs')
 ·simp only[ag.all,ay,mE,bne_iff_ne,ne_eq,bne_eq_false_iff_eq,br,bC,cond_false,bg];refine⟨⟨aa,bL bq,bq,h,aa,hn⟩,fun hout=>?_,fun hin=>?_⟩
  ·have hout:bf n k t:=by
    unfold cA at hout;by_cases ho:bf n k t
    ·exact ho
    ·rw[if_neg ho]at hout;exact absurd rfl hout
   refine⟨[.int .i64 0,.nil,.int .i64 7],?_,JT hout⟩;unfold cA;rw[if_pos hout];kernel_rfl
  ·have hin:¬bf n k t:=fun ho=>by unfold cA at hin;rw[if_pos ho]at hin;omega
   have hii:fY n k t=bJ n k t:=by unfold fY;rw[if_neg hin]
   have hv:=hiv hin;simp only[hii,br,bC]
   (repeat' with_reducible first|refine And.intro ?_ ?_|intro _)
   all_goals first|omega|(exfalso;omega)|exact absurd ‹false=true› (by decide)|exact absurd ‹true=false› (by decide)|skip
   refine⟨0,⟨aa,hin⟩,[(0,0),(2,131072)],rfl,rfl,rfl,cj rfl rfl rfl (fun i hi=>?_) (aL trivial)⟩;have:i=0:=aa;subst this;exact .inr ⟨rfl,cm rfl (by have:=s4 (d:=0);exact Nat.le_trans (by decide) this)⟩
 ·have hv:=hiv hin;refine ax.su hT xU hm (y:=vS) (x1:=tv) (zb:=part vS [1,1]) [1,0] (j:=1) ah ah ah ah hk (f1:=[48]) 60 oq 3 (fun _:Unit=>vM n k p (bJ n k t) d) (fun _=>[(2,j0 (d+1) (vB k (bJ n k t) t d) fun _=>SB d),(0,tP t sK)]) (fun _=>d+1<=p) ⟨_,XX,?_⟩ (fun _ hd'=>?_)
  ·simp only[ag.all,ay,br,bC];have re:cT [] ([ak 3 n fun i=>rat (k i) sK,int i64 p,ptr 0 0 3 0 [],int i64 (bJ n k t),own 2 3 0 (d+1),int i64 ((d+1:Nat):Int),int i64 0,nil,int i64 0],[(2,aq.mk true true 3 (d+1) fun i=>rat (vB k (bJ n k t) t d i) (SB d)),((0:Nat),bG fun x=>rat t sK)]) (vM n k p (bJ n k t) d) [(2,j0 (d+1) (vB k (bJ n k t) t d) fun _=>SB d),(0,tP t sK)] 3:=
    ⟨[(0,0),(2,2)],rfl,rfl,rfl,cj rfl rfl rfl (fun i hi=>cW rfl rfl) (aL trivial)⟩
   exact⟨fun h1=>⟨(),aa,re⟩,fun h1 s' hs'=>⟨rfl,d,⟨aa,hin⟩,re.le hs' hk⟩⟩
  refine ax.mY hT xU hm (x:=tv) (z:=part tv [1,1]) [1,0,1] (i:=2) (y:=part tv [1,0,1,0,0]) ah ah ah ah hk (f1:=[]) (f2:=[57]) 60 zm 4 (fun j:Nat=>Eh n k p (bJ n k t) d j)
   (fun j=>[(3,j0 (d+2) (nJ k (bJ n k t) t d j) (kr d j)),(2,j0 (d+1) (vB k (bJ n k t) t d) fun _=>SB d),(0,tP t sK)]) (fun j=>j<=d+1) (fun j=>j=d+1) (fun j=>d+1-j) (fun _=>False) ⟨_,W5,?_⟩ (fun j hj=>⟨_,UL,?_⟩) (fun j hj=>?_) (fun _ _ h=>h.elim)
  ·simp only[ag.all,ay];rw[show(((d+1:Nat):Int)+1).toNat=d+2 by omega];refine⟨⟨aa,aa⟩,0,aa,[(0,0),(2,2),(3,8195)],rfl,rfl,rfl,cj rfl rfl rfl (fun i hi=>?_) (cj rfl rfl rfl (fun i hi=>cW rfl rfl) (aL trivial))⟩;refine .inr ⟨rfl,cm ?_ ?_⟩
   ·unfold nJ yp;rw[if_neg aa];split<;>rfl
   ·unfold kr HB;rw[if_neg aa];split<;>omega
  ·have hF:=xy;have h1:=s4 (d:=d);have h2:=sO (d:=d) aa;have h3:=sO (d:=d+1) aa;have h5:sV=268435456:=rfl;have s0:kr d j j=HB d:=by unfold kr;rw[if_neg aa,if_pos rfl]
   have s1:kr d j (j+1)=1:=by unfold kr;rw[if_neg aa,if_neg aa]
   have e0:((bJ n k t:Int)-((d+1:Nat):Int)+1+(j:Int)).toNat=bJ n k t-d+j:=aa;have e1:((bJ n k t:Int)-((d+1:Nat):Int)+1+(j:Int)+((d+1:Nat):Int)).toNat=bJ n k t-d+j+(d+1):=aa;have e2:((j:Int)+1).toNat=j+1:=aa;simp only[ag.all,ay,br,bC,bg,Nat.add_zero,e0,e1,e2,Ob];have hjj:(j==j+1)=false:=by simp
   refine⟨fun h4=>?_,fun h4=>⟨rfl,j,aa,[(0,0),(2,2),(3,3)],rfl,rfl,rfl,cj rfl rfl rfl (fun i hi=>cW rfl rfl) (cj rfl rfl rfl (fun i hi=>cW rfl rfl) (aL trivial))⟩⟩
   (repeat' with_reducible refine And.intro ?_ ?_)
   all_goals first|omega|(rw[s1];omega)|(rw[hjj,cond_false,s0];unfold HB;omega)|skip
   refine⟨j+1,aa,by dsimp only;omega,[(0,0),(2,2),(3,3)],rfl,rfl,rfl,cj rfl rfl rfl (fun x hx=>X3 aa) (cj rfl rfl rfl (fun i hi=>cW rfl rfl) (aL trivial))⟩
  ·subst hj;refine ax.tail (fun s' hh=>by have:=hh.1;omega) (aG.bE hT xU hm 60 oq YJ ah ?_);simp only[ag.all,ay];refine⟨aa,fun s' hs'=>⟨d+1,⟨hd',hin⟩,by dsimp only;omega,cT.le ⟨[(0,0),(2,3)],rfl,rfl,rfl,cj rfl rfl rfl (fun x hx=>?_) (aL trivial)⟩ hs' hk⟩⟩;refine .inr ⟨rfl,cm ?_ ?_⟩
   ·unfold nJ;by_cases hlt:x<d+1
    ·rw[if_pos hlt]
    ·have:x=d+1:=aa;subst this;rw[if_neg aa,if_pos rfl,vB,if_neg (show¬d+1<=d by omega),Rat.add_zero];rfl
   ·have h1:=x5 (d:=d);have h2:=s4 (d:=d);have hF:=xy;show _<=SB (d+1);unfold kr HB;split
    ·omega
    ·split<;>omega
 ·subst hd;refine ax.hH ((aG.fin hT xU hm 60 afj ah ?_).mono fun _ _ h=>.inl h);simp only[ag.all,ay];exact⟨by have:=hiv hin;omega,Lt hin fun j _=>dU (sO hp6)⟩
theorem S3:aU 152 f152:=aS func152
theorem adl:aU 178 f178:=aS func178
def Cb:Spec:=cz MR (fun a=>vq a.1.1 a.1.2 a.2.1.toNat a.2.2.1) fun a=>[Kn a.1.1 a.2.1.toNat a.1.2,0<=a.2.1,a.2.1<=6,a.1.1<2^40]
theorem af9:aW P Cb 172:=cr fun⟨⟨n,k⟩,p,t,_⟩ K hn=>by
 obtain⟨h1,h2,h3,h4⟩:=hn;have h3:p<=6:=h3;have:=adj h1 (by simp only;omega) h4 K (t:=t);rw[Int.toNat_of_nonneg h2]at this;exact this
def pB:Spec:=cz (kC (kL sK) (kC kI kN)) (fun a=>.int .i64 ((a.1.1:Int)-a.2.1-1)) fun a=>[a.1.1<2^40,-2^40<a.2.1,a.2.1<2^40]
theorem XW {p:Int}:bX T [nG] [] 60 f152 (aE f152) ⟨aN 0 [ls k n,.int .i64 p],[],0⟩=
  let d:=(↑n:Int)-p;let a:=(2:Int)^63;let b:=d-1;some (aj [-a<=d/\d<a,-a<=b/\b<a] (leaf ret [int i64 b])):=ah
theorem abj {p:Int}:bX T [nG] [] 60 f178 (aE f178) ⟨aN 0 [ls k n,.int .i64 p],[],0⟩=
  let d:=(↑n:Int)-p;let a:=(2:Int)^63;let b:=d-1;some (aj [-a<=d/\d<a,-a<=b/\b<a] (leaf ret [int i64 b])):=ah
theorem y9:aW P pB 152:=cr fun⟨⟨n,k⟩,p,_⟩ K hn=>by
 obtain⟨h1,h2,h3⟩:=hn;have h3:p<2^40:=h3;simp only at h1 h2;refine b9 (r:=aJ (.int .i64 ((n:Int)-p-1)) []) hT (cB bw) hm S3 rfl aV rfl 60 XW (fun _=>?_) K [];simp only[ag.all,ay];exact⟨aa,.refl _⟩
theorem Nf:aW P pB 178:=cr fun⟨⟨n,k⟩,p,_⟩ K hn=>by
 obtain⟨h1,h2,h3⟩:=hn;have h3:p<2^40:=h3;simp only at h1 h2;refine b9 (r:=aJ (.int .i64 ((n:Int)-p-1)) []) hT (cB bw) hm adl rfl aV rfl 60 abj (fun _=>?_) K [];simp only[ag.all,ay];exact⟨aa,.refl _⟩
abbrev zO:aq:=⟨false,true,3,1,fun _=>.rat 0 1⟩
theorem zK (h:cA n k t≠0):bf n k t:=by
 unfold cA at h;by_cases ho:bf n k t
 ·exact ho
 ·rw[if_neg ho]at h;exact absurd rfl h
theorem uB (h:cA n k t=0):¬bf n k t:=fun ho=>by unfold cA at h;rw[if_pos ho]at h;omega
theorem Kn.lf (h:Kn n p k) (hin:¬bf n k t):p<=bJ n k t/\bJ n k t+p+1<n:=by
 have h1:¬t<k 0:=fun h=>hin (.inl h);have h2:¬k (n-1)<t:=fun h=>hin (.inr h);exact(h.yg (by grind) (by grind)).2
def cJ (k:Nat->Rat) (t:Rat):Nat->Nat
 |0=>0
 |i+1=>cJ k t i+if k i=t then 1 else 0
def fU (k:Nat->Rat) (i:Nat):Prop:=i=0\/k i≠k (i-1)
instance {k:Nat->Rat} {i:Nat}:Decidable (fU k i):=inferInstanceAs (Decidable (i=0\/k i≠k (i-1)))
def bF (k:Nat->Rat):Nat->Nat
 |0=>0
 |i+1=>bF k i+if fU k i then 1 else 0
def cw (k:Nat->Rat):Nat->Nat->Rat
 |0=>fun _=>0
 |i+1=>if fU k i then jO (cw k i) (bF k i) (k i)else cw k i
theorem IE {k:Nat->Rat} {t:Rat}:∀{n:Nat},cJ k t n<=n
 |0=>Nat.le_refl _
 |n+1=>by
  have:=IE (k:=k) (t:=t) (n:=n);unfold cJ;split<;>omega
theorem o7 {k:Nat->Rat}:∀{n:Nat},bF k n<=n
 |0=>Nat.le_refl _
 |n+1=>by
  have:=o7 (k:=k) (n:=n);unfold bF;split<;>omega
theorem vD {k:Nat->Rat}:∀{n:Nat},0<bF k (n+1)/\cw k (n+1) 0=k 0/\cw k (n+1) (bF k (n+1)-1)=k n
 |0=>by simp[bF,cw,fU,jO]
 |n+1=>by
  obtain⟨h1,h2,h3⟩:=vD (k:=k) (n:=n);rw[bF,cw];by_cases h:fU k (n+1)
  ·rw[if_pos h,if_pos h];refine⟨by omega,by rw[jT (by omega)];exact h2,?_⟩;rw[show bF k (n+1)+1-1=bF k (n+1) by omega,oS]
  ·rw[if_neg h,if_neg h];refine⟨by omega,h2,?_⟩;show cw k (n+1) (bF k (n+1)-1)=_;rw[h3];unfold fU at h;have:k (n+1)=k (n+1-1):=by
    by_cases e:k (n+1)=k (n+1-1)
    ·exact e
    ·exact absurd (.inr e) h
   rw[this];rfl
theorem Gn {k:Nat->Rat}:∀{n j:Nat},j<bF k n->∃i,i<n/\cw k n j=k i
 |0,j,h=>by simp[bF]at h
 |n+1,j,h=>by
  rw[cw];rw[bF]at h;by_cases hn:fU k n
  ·rw[if_pos hn]at h ⊢;by_cases he:j=bF k n
   ·subst he;exact⟨n,by omega,oS⟩
   ·obtain⟨i,h1,h2⟩:=Gn (k:=k) (n:=n) (j:=j) (by omega);exact⟨i,by omega,by rw[jT he];exact h2⟩
  ·rw[if_neg hn]at h ⊢;obtain⟨i,h1,h2⟩:=Gn (k:=k) (n:=n) (j:=j) (by omega);exact⟨i,by omega,h2⟩
theorem RX {k:Nat->Rat}:∀{n:Nat},(∀i,i+1<n->k i<=k (i+1))->∀{j:Nat},j+1<bF k n->cw k n j<cw k n (j+1)
 |0,_,j,h=>by simp[bF]at h
 |n+1,hs,j,h=>by
  have ih:∀{j:Nat},j+1<bF k n->cw k n j<cw k n (j+1):=fun {j} hj=>RX (k:=k) (n:=n) (fun i hi=>hs i (by omega)) hj;rw[cw];rw[bF]at h;by_cases hn:fU k n
  ·rw[if_pos hn]at h ⊢;by_cases he:j+1=bF k n
   ·rw[he,oS,jT (by omega)];cases n with
    |zero=>simp[bF]at he
    |succ m=>
     have:=(vD (k:=k) (n:=m)).2.2;rw[show j=bF k (m+1)-1 by omega,this];have h1:=hs m (by omega);unfold fU at hn;have h2:k (m+1)≠k m:=by rcases hn with hn|hn;omega;exact hn
     grind
   ·rw[jT (by omega),jT (by omega)];exact ih (by omega)
  ·rw[if_neg hn]at h ⊢;exact ih (by omega)
theorem Df {k:Nat->Rat} {n:Nat} (hs:∀i,i+1<n->k i<=k (i+1)) {i:Nat}:∀{j:Nat},i<j->j<bF k n->cw k n i<cw k n j
 |0,h,_=>by omega
 |j+1,h,hj=>by
  have h1:=RX hs (j:=j) hj;by_cases he:i=j
  ·subst he;exact h1
  ·have:=Df hs (i:=i) (j:=j) (by omega) (by omega);grind
def oA (n:Nat) (k:Nat->Rat):Prop:=∀i,i+1<n->k i<=k (i+1)
def jV (n:Nat) (k:Nat->Rat) (p:Nat) (t:Rat):Prop:=((t=k 0\/t=k (n-1))/\cJ k t n≠p+1)\/(¬(t=k 0\/t=k (n-1))/\p<cJ k t n)
instance {n:Nat} {k:Nat->Rat} {p:Nat} {t:Rat}:Decidable (jV n k p t):=inferInstanceAs (Decidable (((t=k 0\/t=k (n-1))/\cJ k t n≠p+1)\/(¬(t=k 0\/t=k (n-1))/\p<cJ k t n)))
def r8 (n:Nat) (k:Nat->Rat) (p:Nat):Prop:=oA n k/\k 0≠k (n-1)/\∀j,j<bF k n->¬jV n k p (cw k n j)
def rN (n:Nat) (k:Nat->Rat) (p j:Nat):Prop:=((j=0\/j+1=bF k n)/\cJ k (cw k n j) n≠p+1)\/p+1<cJ k (cw k n j) n\/(0<j/\j+1<bF k n/\p<cJ k (cw k n j) n)
theorem ahv (hn:0<n) (hs:oA n k):bF k n<2↔k 0=k (n-1):=by
 obtain⟨m,rfl⟩:∃m,n=m+1:=⟨n-1,by omega⟩
 obtain⟨h1,h2,h3⟩:=vD (k:=k) (n:=m);simp only[Nat.add_sub_cancel];constructor
 ·intro h;rw[show bF k (m+1)=1 by omega]at h3;rw[<-h2,<-h3]
 ·intro h;have key:¬(0<bF k (m+1)-1):=fun hlt=>by
   have:=Df hs hlt (by omega);rw[h2,h3]at this;grind
  omega
theorem OY (hn:0<n) (hs:oA n k) (hj:j<bF k n):rN n k p j↔jV n k p (cw k n j):=by
 obtain⟨m,rfl⟩:∃m,n=m+1:=⟨n-1,by omega⟩
 obtain⟨h1,h2,h3⟩:=vD (k:=k) (n:=m);have e0:j=0↔cw k (m+1) j=k 0:=by
  constructor
  ·intro h;rw[h,h2]
  ·intro h;by_cases hj0:j=0
   ·exact hj0
   ·have:=Df hs (i:=0) (j:=j) (by omega) hj;rw[h2,h]at this;grind
 have e1:j+1=bF k (m+1)↔cw k (m+1) j=k m:=by
  constructor
  ·intro h;rw[<-h3,<-h];rfl
  ·intro h;by_cases hj0:j+1=bF k (m+1)
   ·exact hj0
   ·have:=Df hs (i:=j) (j:=bF k (m+1)-1) (by omega) (by omega);rw[h3,h]at this;grind
 unfold rN jV;simp only[Nat.add_sub_cancel];rw[<-e0,<-e1];generalize cJ k (cw k (m+1) j) (m+1)=c;omega
open Classical in
def fq (n:Nat) (k:Nat->Rat) (p:Int):Int:=
 if p<1\/6<p then 1 else if(n:Int)<2*p+2 then 5 else if 40<(n:Int)-p-1 then 2 else if r8 n k p.toNat then 0 else 5
theorem Oa {k:Nat->Rat} {t:Rat} {a b:Nat} (hab:a<=b):∀{n:Nat},(∀i,i<n->k i=t->a<=i/\i<b)->cJ k t n<=min n b-min n a
 |0,_=>by simp[cJ]
 |n+1,h=>by
  have ih:=Oa (k:=k) (t:=t) hab (n:=n) fun i hi=>h i (by omega);rw[cJ];split
  ·rename_i e;have:=h n (by omega) e;omega
  ·omega
theorem Eg {k:Nat->Rat} {t:Rat} {a b:Nat} (hab:a<=b):∀{n:Nat},(∀i,i<n->(k i=t↔a<=i/\i<b))->cJ k t n=min n b-min n a
 |0,_=>by simp[cJ]
 |n+1,h=>by
  have ih:=Eg (k:=k) (t:=t) hab (n:=n) fun i hi=>h i (by omega);rw[cJ];have:=h n (by omega);split
  ·rename_i e;have:=this.1 e;omega
  ·rename_i e;have:¬(a<=n/\n<b):=fun h=>e (this.2 h);omega
theorem least {q:Nat->Prop} [DecidablePred q]:∀{n:Nat},q n->∃a,a<=n/\q a/\∀i,i<a->¬q i
 |0,h=>⟨0,Nat.le_refl _,h,fun i hi=>by omega⟩
 |n+1,h=>by
  by_cases h2:∃i,i<n+1/\q i
  ·obtain⟨i,hi,hq⟩:=h2;obtain⟨a,h3,h4,h5⟩:=least_lt hi hq;exact⟨a,by omega,h4,h5⟩
  ·exact⟨n+1,Nat.le_refl _,h,fun i hi hq=>h2 ⟨i,hi,hq⟩⟩
where
 least_lt {q:Nat->Prop} [DecidablePred q]:∀{n i:Nat},i<n->q i->∃a,a<n/\q a/\∀i,i<a->¬q i
 |0,i,h,_=>by omega
 |n+1,i,h,hq=>by
  by_cases h2:∃j,j<n/\q j
  ·obtain⟨j,hj,hq⟩:=h2;obtain⟨a,h3,h4,h5⟩:=least_lt hj hq;exact⟨a,by omega,h4,h5⟩
  ·have:i=n:=by
    by_cases e:i=n
    ·exact e
    ·exact absurd ⟨i,by omega,hq⟩ h2
   subst this;exact⟨i,h,hq,fun j hj hq=>h2 ⟨j,hj,hq⟩⟩
theorem Kn.r8 (h:Kn n p k):r8 n k p:=by
 have hp:=h.p1;have hl:=h.len;have hw:k p<k (p+1):=by
  have:=h.mult 1 (by omega) (by omega);rw[h.first 1 (by omega),show 1+p=p+1 by omega]at this;rw[h.first p (by omega)];exact this
 have hw2:k (n-p-2)<k (n-p-1):=by
  by_cases he:n=2*p+2
  ·have e1:n-p-2=p:=by omega
   have e2:n-p-1=p+1:=by omega
   rw[e1,e2];exact hw
  ·have:=h.mult (n-p-2) (by omega) (by omega);rw[h.last (n-p-2+p) (by omega) (by omega),<-h.last (n-p-1) (by omega) (by omega)]at this;exact this
 have m:∀{i j},i<=j->j<n->k i<=k j:=fun hi hj=>fT h.sorted hi hj;have h0l:k 0<k (n-1):=by
  have a:=m (i:=p+1) (j:=n-1) (by omega) (by omega);have b:=h.first p (Nat.le_refl _);grind
 refine⟨h.sorted,by grind,fun j hj=>?_⟩;obtain⟨i,hi,e⟩:=Gn hj;rw[e];unfold jV;by_cases h0:k i=k 0
 ·have:cJ k (k i) n=p+1:=by
   rw[Eg (a:=0) (b:=p+1) (by omega) (n:=n) fun x hx=>?_]
   ·omega
   ·rw[h0];constructor
    ·intro ex;refine⟨by omega,?_⟩;by_cases hx2:x<p+1
     ·exact hx2
     ·have:=m (i:=p+1) (j:=x) (by omega) hx;have b:=h.first p (Nat.le_refl _);grind
    ·intro hx2;exact h.first x (by omega)
  rw[this];simp[h0]
 ·by_cases h1:k i=k (n-1)
  ·have:cJ k (k i) n=p+1:=by
    rw[Eg (a:=n-p-1) (b:=n) (by omega) (n:=n) fun x hx=>?_]
    ·omega
    ·rw[h1];constructor
     ·intro ex;refine⟨?_,hx⟩;by_cases hx2:n-p-1<=x
      ·exact hx2
      ·have:=m (i:=x) (j:=n-p-2) (by omega) (by omega);have b:=h.last (n-p-1) (by omega) (by omega);grind
     ·intro hx2;exact h.last x (by omega) hx
   rw[this];simp[h1]
  ·obtain⟨a,ha,e,hlt⟩:=least (q:=fun x=>k x=k i) (n:=i) rfl;have ha0:p<a:=by
    by_cases hx:p<a
    ·exact hx
    ·have:=h.first a (by omega);rw[this]at e;exact absurd e.symm h0
   have hal:a+p+1<n:=by
    by_cases hx:a+p+1<n
    ·exact hx
    ·have:=h.last a (by omega) (by omega);rw[this]at e;exact absurd e.symm h1
   have hm:=h.mult a (by omega) hal;have:cJ k (k i) n<=min n (a+p)-min n a:=by
    refine Oa (by omega) fun x hx ex=>⟨?_,?_⟩
    ·by_cases hx2:a<=x
     ·exact hx2
     ·exact absurd ex (hlt x (by omega))
    ·by_cases hx2:x<a+p
     ·exact hx2
     ·have:=m (i:=a+p) (j:=x) (by omega) hx;grind
   intro hb;rcases hb with⟨h2,_⟩|⟨_,h2⟩
   ·exact h2.elim h0 h1
   ·omega
theorem Kn.uM (h:Kn n p k) (hp6:p<=6) (hn:n<=p+41):fq n k p=0:=by
 have hp:=h.p1;have hl:=h.len;unfold fq;rw[if_neg (by omega),if_neg (by omega),if_neg (by omega),if_pos (by rw[Int.toNat_natCast];exact h.r8)]
def jz (k:Nat->Rat) (l i:Nat):Rat:=if i<bF k l then cw k l i else k i
theorem FL {k:Nat->Rat}:∀{b:Nat},(∀i,i<b->fU k i)->bF k b=b/\∀i,i<b->cw k b i=k i
 |0,_=>⟨rfl,fun i hi=>by omega⟩
 |b+1,h=>by
  obtain⟨h1,h2⟩:=FL (k:=k) (b:=b) fun i hi=>h i (by omega);rw[bF,cw,if_pos (h b (by omega)),if_pos (h b (by omega)),h1];refine⟨rfl,fun i hi=>?_⟩;unfold jO;split
  ·rename_i e;rw[e]
  ·exact h2 i (by omega)
theorem Y1 (h:∀i,i<b->fU k i) (hb:¬fU k b):bF k (b+1)=b/\∀i,jz k (b+1) i=k i:=by
 obtain⟨h1,h2⟩:=FL h;have e:bF k (b+1)=b:=by rw[bF,if_neg hb,h1];rfl
 refine⟨e,fun i=>?_⟩;unfold jz;rw[e,cw,if_neg hb];split
 ·exact h2 i ‹_›
 ·rfl
theorem IU (h:∀i,i<n->fU k i):bF k n=n/\∀i,i<n->cw k n i=k i:=FL h
theorem VG (h:fU k l) (hl:bF k l<=l):jz k (l+1) i=if i=bF k l then k l else jz k l i:=by
 unfold jz;rw[bF,cw,if_pos h,if_pos h];unfold jO;by_cases h1:i=bF k l
 ·subst h1;rw[if_pos (by omega),if_pos rfl,if_pos rfl]
 ·rw[if_neg h1];by_cases h2:i<bF k l
  ·rw[if_pos (by omega),if_pos h2,if_neg h1]
  ·rw[if_neg (by omega),if_neg h2,if_neg h1]
theorem akD (h:¬fU k l):bF k (l+1)=bF k l/\jz k (l+1) i=jz k l i:=by
 unfold jz;rw[bF,cw,if_neg h,if_neg h];exact⟨rfl,rfl⟩
theorem QN (h:fU k l):bF k (l+1)=bF k l+1:=by rw[bF,if_pos h]
theorem GJ (h:¬fU k l):bF k (l+1)=bF k l:=by rw[bF,if_neg h];rfl
theorem So (h:bF k l<=i):jz k l i=k i:=by unfold jz;rw[if_neg (by omega)]
theorem OO {k:Nat->Rat} {b:Nat} (hb:¬fU k b):∀{l:Nat},b<l->bF k l<l
 |0,h=>by omega
 |l+1,h=>by
  by_cases he:l=b
  ·subst he;rw[GJ hb];have:=o7 (k:=k) (n:=l);omega
  ·have:=OO hb (l:=l) (by omega);have h2:=o7 (k:=k) (n:=l);rw[bF];split<;>omega
theorem QY:fU k (i+1)↔k (i+1)≠k i:=by
 unfold fU;simp
open Classical in
theorem PD {p:Int} (h:p<1\/6<p):fq n k p=1:=if_pos h
theorem P0 {p:Int} (h:¬(p<1\/6<p)) (h2:(n:Int)<2*p+2):fq n k p=5:=by unfold fq;rw[if_neg h,if_pos h2]
theorem Ni {p:Int} (h:¬(p<1\/6<p)) (h2:¬(n:Int)<2*p+2) (h3:40<(n:Int)-p-1):fq n k p=2:=by unfold fq;rw[if_neg h,if_neg h2,if_pos h3]
theorem Jb {p:Int} (h:¬(p<1\/6<p)) (h2:¬(n:Int)<2*p+2) (h3:¬40<(n:Int)-p-1) (h4:r8 n k p.toNat):fq n k p=0:=by unfold fq;rw[if_neg h,if_neg h2,if_neg h3,if_pos h4]
theorem vQ {p:Int} (h:¬(p<1\/6<p)) (h2:¬(n:Int)<2*p+2) (h3:¬40<(n:Int)-p-1) (h4:¬r8 n k p.toNat):fq n k p=5:=by unfold fq;rw[if_neg h,if_neg h2,if_neg h3,if_neg h4]
open Go Go.Am.N AV ag au IntKind Proofs.Tryz
theorem akB:aU 109 f109:=aS func109
theorem XI:aU 223 f223:=aS func223
theorem D0:aU 144 f144:=aS func144
abbrev xA:List Nat:=[3,5,8,9,10]
abbrev xk (n:Nat) (k:Nat->Rat) (c i:Nat):List AV:=[.ptr 0 0 3 0 [],.int .i64 c,ls k n,.int .i64 n,.int .i64 i]
abbrev y6:Code:=aE f109
abbrev sJ:Nat:=4000
abbrev gU (m:Nat) (k:Nat->Rat):aq:=⟨true,true,3,m,fun i=>.rat (k i) sK⟩
abbrev zq:List Nat:=[3,9,10,11]
abbrev Io (n:Nat) (k:Nat->Rat) (i:Nat):List AV:=[.own 0 3 0 i,bu k n sJ,.int .i64 n,.int .i64 i]
abbrev oJ:Code:=aE f144
abbrev zX:List Nat:=[0,3,5,6]
abbrev zY (n:Nat) (k:Nat->Rat) (c i:Nat):List AV:=[ls k n,.ptr 0 0 3 0 [],.int .i64 c,.int .i64 i]
abbrev yI:Code:=aE f223
theorem ai3:aI T g9 [] 60 xA (before y6 [1,1,0,1]) ⟨aN 0 [ls k n,.rat t sK],[],0⟩=
  some (leaf normal ([ptr 0 0 (bp (rat t sK)).size 0 [],int i64 0,ak 3 n fun i=>rat (k i) 4096,int i64 (↑n:Int),int i64 0],[(0,aq.mk false true (bp (rat t sK)).size 1 fun x=>rat t 4096)])):=ah
theorem alC:aI T g9 [11,16] 60 xA [part y6 [1,1,0,1,0,0]] ⟨aA xA (xk n k c i),[(0,tP t sK)],1⟩=
  let a:=(↑n:Int);let j:=0<1;let h:=(↑c:Int)+1;let m:=ak 3 n fun i=>rat (k i) 4096;let d:=(↑i:Int);let g:=ptr 0 0 3 0 [];let b:=(2:Int)^63;let f:Nat×aq:=((0:Nat),bG fun x=>rat t 4096);let e:=d+1;let l:=[m,int i64 a,int i64 e];some (fork (decide (d<a)) (aj [(0:Int)<=d/\d.toNat<n,j] (aj [j,j] (fork (decide (k d.toNat=t)) (aj [-b<=h/\h<b] (aj [-b<=e/\e<b] (leaf normal (g::int i64 h::l,[f])))) (aj [-b<=e/\e<b] (leaf normal (g::int i64 (↑c:Int)::l,[f])))))) (leaf (exit 0) ([g,int i64 (↑c:Int),m,int i64 a,int i64 d],[f]))):=ah
theorem akX:ct T g9 [] 60 f109 [part y6 [1,1,1]] ⟨aA xA (xk n k c i),[(0,tP t sK)],1⟩=
  some (leaf ret [int i64 (↑c:Int)]):=ah
theorem acM:aI T mT [] 60 zX (before yI [1,1,0,1]) ⟨aN 0 [ls k n,.rat t sK],[],0⟩=
  some (leaf normal ([ak 3 n fun i=>rat (k i) 4096,ptr 0 0 (bp (rat t sK)).size 0 [],int i64 0,int i64 0],[(0,aq.mk false true (bp (rat t sK)).size 1 fun x=>rat t 4096)])):=ah
theorem agl:aI T mT [10,18] 60 zX [part yI [1,1,0,1,0,0]] ⟨aA zX (zY n k c i),[(0,tP t sK)],1⟩=
  let h:=(↑c:Int)+1;let d:=(↑i:Int);let g:=ptr 0 0 3 0 [];let f:=ak 3 n fun i=>rat (k i) 4096;let b:=(2:Int)^63;let e:Nat×aq:=((0:Nat),bG fun x=>rat t 4096);let a:=d+1;some (fork (decide (d<(↑n:Int))) (aj [(0:Int)<=d/\d.toNat<n,(0:Nat)<1] (fork (decide (k d.toNat=t)) (aj [-b<=h/\h<b] (aj [-b<=a/\a<b] (leaf normal ([f,g,int i64 h,int i64 a],[e])))) (aj [-b<=a/\a<b] (leaf normal ([f,g,int i64 (↑c:Int),int i64 a],[e]))))) (leaf (exit 0) ([f,g,int i64 (↑c:Int),int i64 d],[e]))):=ah
theorem acG:ct T mT [] 60 f223 [part yI [1,1,1]] ⟨aA zX (zY n k c i),[(0,tP t sK)],1⟩=
  some (leaf ret [int i64 (↑c:Int)]):=ah
theorem adS:aI T g9 [] 60 zq (before oJ [1,1,0,1]) ⟨aN 0 [bu k n sJ],[],0⟩=
  let a:=(↑n:Int);some (aj [(0:Int)<=0/\(0:Int)<=a/\a<=2^47/\a*(↑(56:Nat):Int)<=2^47] (leaf normal ([own 12288 3 0 0,ak 3 n fun i=>rat (k i) 4000,int i64 a,int i64 0],[(12288,aq.mk true true 3 0 fun x=>rat 0 1)]))):=ah
theorem aex:aI T g9 [12] 60 zq [part oJ [1,1,0,1,0,0]] ⟨aA zq (Io n k i),[(0,gU i k)],1⟩=
  let d:=(↑n:Int);let e:=ak 3 n fun i=>rat (k i) 4000;let a:=(↑i:Int);let b:=a+1;some (fork (decide (a<d)) (aj [(0:Int)<=a/\a.toNat<n,(0:Nat)<1] (aj [(0:Nat)<1,(1:Nat)*3<=2^24,(i+1)*((56:Nat)+1)*2<=2^47] (aj [-(2:Int)^63<=b/\b<2^63] (leaf normal ([own 40961 3 0 (i+1),e,int i64 d,int i64 b],[(40961,aq.mk true true 3 (i+1) fun i_1=>if i_1<i then rat (k i_1) sK else nth [rat (k a.toNat+0) (sJ+1+1)] (rat 0 1) (i_1-i+0))]))))) (leaf (exit 0) ([own 0 3 0 i,e,int i64 d,int i64 a],[(0,aq.mk true true 3 i fun i=>rat (k i) 4096)]))):=ah
theorem aes:aI T g9 [] 60 [2] [part oJ [1,1,1]] ⟨aA zq (Io n k i),[(0,gU i k)],1⟩=
  some (leaf ret ([own 0 3 0 i],[(0,aq.mk true true 3 i fun i=>rat (k i) 4096)])):=ah
theorem Mj (h:k i=t):cJ k t (i+1)=cJ k t i+1:=by rw[cJ,if_pos h]
theorem PG (h:¬k i=t):cJ k t (i+1)=cJ k t i:=by rw[cJ,if_neg h];rfl
theorem Wr (hn:n<2^40) (K:Nat):aQ P 109 K [ls k n,.rat t sK] [] (aJ (.int .i64 (cJ k t n)) []):=by
 refine gP (r:=aJ (.int .i64 (cJ k t n)) []) hT lK hm akB rfl aV rfl [1,1,0,1] (i:=0) (y:=part y6 [1,1,0,1,0,0]) (z:=part y6 [1,1,1]) ah ah ah (f1:=[]) (f2:=[11,16]) (f3:=[]) 60 xA 1
  (fun i:Nat=>xk n k (cJ k t i) i) (fun _=>[(0,tP t sK)]) (fun i=>i<=n) (fun i=>i=n) (fun i=>n-i) (fun _=>⟨⟨_,ai3,?_⟩,fun i hi=>⟨_,alC,?_⟩,fun i hi=>⟨_,akX,?_⟩⟩) K []
 ·simp only[ag.all,ay];exact⟨0,Nat.zero_le _,[(0,0)],rfl,rfl,rfl,aL trivial⟩
 ·have h1:=IE (k:=k) (t:=t) (n:=i);simp only[ag.all,ay,br,bC,bg,Nat.add_zero];refine⟨fun h2=>⟨aa,aa,fun h3=>⟨aa,aa,i+1,aa,by dsimp only;omega,[(0,0)],rfl,?_,rfl,aL trivial⟩,fun h3=>⟨aa,i+1,aa,by dsimp only;omega,[(0,0)],rfl,?_,rfl,aL trivial⟩⟩,fun h2=>⟨rfl,i,aa,[(0,0)],rfl,rfl,rfl,aL trivial⟩⟩
  ·show _=(xk n k (cJ k t (i+1)) (i+1)).map _;rw[Mj h3];rfl
  ·show _=(xk n k (cJ k t (i+1)) (i+1)).map _;rw[PG h3];rfl
 ·subst hi;simp only[ag.all,ay];exact .refl _
theorem ako (hn:n<2^40) (K:Nat):aQ P 223 K [ls k n,.rat t sK] [] (aJ (.int .i64 (cJ k t n)) []):=by
 refine gP (r:=aJ (.int .i64 (cJ k t n)) []) hT Em hm XI rfl aV rfl [1,1,0,1] (i:=0) (y:=part yI [1,1,0,1,0,0]) (z:=part yI [1,1,1]) ah ah ah (f1:=[]) (f2:=[10,18]) (f3:=[]) 60 zX 1
  (fun i:Nat=>zY n k (cJ k t i) i) (fun _=>[(0,tP t sK)]) (fun i=>i<=n) (fun i=>i=n) (fun i=>n-i) (fun _=>⟨⟨_,acM,?_⟩,fun i hi=>⟨_,agl,?_⟩,fun i hi=>⟨_,acG,?_⟩⟩) K []
 ·simp only[ag.all,ay];exact⟨0,Nat.zero_le _,[(0,0)],rfl,rfl,rfl,aL trivial⟩
 ·have h1:=IE (k:=k) (t:=t) (n:=i);simp only[ag.all,ay,br,bC,bg,Nat.add_zero];refine⟨fun h2=>⟨aa,fun h3=>⟨aa,aa,i+1,aa,by dsimp only;omega,[(0,0)],rfl,?_,rfl,aL trivial⟩,fun h3=>⟨aa,i+1,aa,by dsimp only;omega,[(0,0)],rfl,?_,rfl,aL trivial⟩⟩,fun h2=>⟨rfl,i,aa,[(0,0)],rfl,rfl,rfl,aL trivial⟩⟩
  ·show _=(zY n k (cJ k t (i+1)) (i+1)).map _;rw[Mj h3];rfl
  ·show _=(zY n k (cJ k t (i+1)) (i+1)).map _;rw[PG h3];rfl
 ·subst hi;simp only[ag.all,ay];exact .refl _
abbrev ahs:rY ((Nat×(Nat->Rat))×Rat×Unit):=kC (kL sK) (kC (gv sK) kN)
def Ao:Spec:=cz ahs (fun a=>.int .i64 (cJ a.1.2 a.2.1 a.1.1)) fun a=>[a.1.1<2^40]
theorem O4:aW P Ao 109:=cr fun⟨⟨n,k⟩,t,_⟩ K hn=>Wr hn K
theorem aee:aW P Ao 223:=cr fun⟨⟨n,k⟩,t,_⟩ K hn=>ako hn K
theorem VS {args:List AV} {l:List Prop} (ha:ay l->fZ (bk []) args [bu k n sJ]) (hn:ay l->n<2^40) (K:Nat):aQ P 144 K args [] ⟨iK [.own K 3 0 n],[(K,gU n k)],l⟩:=by
 refine Cz hT D0 ha aV fun need c hk=>?_;have hn:=hn need;refine ax.mY hT lK hm [1,1,0,1] (i:=0) (y:=part oJ [1,1,0,1,0,0]) (z:=part oJ [1,1,1]) ah ah ah D0.dst hk (f1:=[]) (f2:=[12]) 60 zq 1 (fun i:Nat=>Io n k i) (fun i=>[(0,gU i k)])
  (fun i=>i<=n) (fun i=>i=n) (fun i=>n-i) (fun _=>False) ⟨_,adS,?_⟩ (fun i hi=>⟨_,aex,?_⟩) (fun i hi=>?_) (fun _ _ h=>h.elim)
 ·simp only[ag.all,ay];exact⟨aa,0,Nat.zero_le _,[(0,12288)],rfl,rfl,rfl,cj rfl rfl rfl (fun i hi=>absurd hi (Nat.not_lt_zero i)) trivial⟩
 ·simp only[ag.all,ay,br,bC,bg,Nat.add_zero];exact⟨fun h2=>⟨aa,aa,aa,i+1,aa,by dsimp only;omega,[(0,40961)],rfl,rfl,rfl,cj rfl rfl rfl (fun j hj=>rD (fun _ _=>rfl) (Rat.add_zero _) bq (by decide) hj) trivial⟩,fun h2=>⟨rfl,i,aa,[(0,0)],rfl,rfl,rfl,cj rfl rfl rfl (fun j hj=>cW rfl rfl) trivial⟩⟩
 ·subst hi;refine ax.bE hT lK hm 60 [2] aes ah fun s' hs'=>⟨.inr rfl,[2],_,[.own 0 3 0 i],_,0,_,hs',ah,⟨⟨rfl,cN (by simp[bk,look]) rfl rfl⟩,trivial⟩,rfl,ji rfl fun i hi=>gm rfl⟩
def Qo:Spec:=o6 fun K l=>match l with
 |[v]=>match(kL sJ).read v with
  |some ((n,k),q)=>some ⟨.own K 3 0 n,[(K,gU n k)],q++[n<2^40]⟩
  |none=>none
 |_=>none
theorem acR:aW P Qo 144:=by
 refine sA fun K args r hk hs=>?_;split at hs
 ·rename_i v;split at hs
  ·rename_i n k q hv;simp only[az]at hs;subst hs;exact VS (fun hn=>uu hk (by cases v<;>first|rfl|simp[kL,By]at hv) ⟨(kL sJ).ok hv (dS.1 hn).1,trivial⟩) (fun hn=>(dS (a:=q) (b:=[n<2^40]).1 hn).2) K
  ·simp at hs
 ·simp at hs
theorem Rd:aU 143 f143:=aS func143
theorem Vu:aU 68 f68:=aS func68
abbrev uQ:Func:=f143
abbrev yS:Code:=aE uQ
abbrev vj:Code:=part yS [1,1,0,1,0,0]
abbrev u7:Code:=part vj [1,0,0]
abbrev qO:Code:=part u7 [1,0]
abbrev lH:List Nat:=[4,0,1,5]
abbrev xx (n i:Nat):List AV:=[.nil,.own 0 3 0 n,.func 63 [],.int .i64 i]
abbrev CY:List Nat:=[4,0,1,5,28]
abbrev Ih (n i:Nat) (b:Bool):List AV:=[.nil,.own 0 3 0 n,.func 63 [],.int .i64 i,.bool b]
abbrev ye:List Nat:=[4,0,1,5,6,7]
abbrev vl (n m b j:Nat):List AV:=[.nil,.own 0 3 0 n,.func 63 [],.int .i64 m,.own 0 3 b (n-b),.int .i64 j]
theorem ZE:aI T g9 [10] 60 lH (before yS [1,1,0,1]) ⟨aN 0 [.own 0 3 0 n,.func 63 []],[(0,gU n k)],1⟩=
  let b:Nat×aq:=(0,aq.mk true true 3 n fun i=>rat (k i) 4096);let a:=own 0 3 0 n;some (fork (decide ((↑n:Int)<2)) (leaf ret ([a,a,func 63 [],tuple []],[b])) (leaf normal ([nil,a,func 63 [],int i64 1],[b]))):=ah
theorem ag1:aI T g9 [15] 60 lH (before vj [1,0]) ⟨aA lH (xx n i),[(0,gU n k)],1⟩=
  let a:List AV×aC:=([nil,own 0 3 0 n,func 63 [],int i64 (↑i:Int)],[(0,aq.mk true true 3 n fun i=>rat (k i) 4096)]);some (fork (decide ((↑i:Int)<(↑n:Int))) (leaf normal a) (leaf (exit 0) a)):=ah
theorem aj2:aI T g9 [] 60 CY (before u7 [1]) ⟨aA lH (xx n i),[(0,gU n k)],1⟩=
  let b:=(↑i:Int);let d:=b.toNat+0;let a:=b-1;let e:=a.toNat+0;some (aj [(0:Int)<=b/\b.toNat<n,d<n,-(2:Int)^63<=a/\a<2^63,(0:Int)<=a/\a.toNat<n,e<n] (leaf normal ([nil,own 0 3 0 n,func 63 [],int i64 b,AV.bool (decide (k d=k e))],[(0,aq.mk true true 3 n fun i=>rat (k i) 4096)]))):=ah
theorem Ua {b:Bool}:aI T g9 [] 60 ye (before qO [1,0,1]) ⟨aA CY (Ih n i b),[(0,gU n k)],1⟩=
  let d:=(↑i:Int);let a:=(↑n:Int);some (aj [(0:Int)<=d/\d<=a/\a<=a/\a<=a] (leaf normal ([nil,own 0 3 0 n,func 63 [],int i64 d,own 0 3 ((0:Nat)+d.toNat) (a.toNat-d.toNat),int i64 1],[(0,aq.mk true true 3 n fun i=>rat (k i) 4096)]))):=ah
theorem S1:aI T g9 [35,49] 60 ye [part qO [1,0,1,0,0]] ⟨aA ye (vl n m b j),[(0,gU n k)],1⟩=
  let f:=func 63 [];let s:=own 0 3 b (n-b);let t:Nat×aq:=(0,aq.mk true true 3 n fun i=>rat (k i) 4096);let l:=(↑m:Int);let r:=own 0 3 0 n;let a:=(2:Int)^63;let d:=(↑j:Int);let g:=l+1;let p:=(0:Int)<=d/\d.toNat<n-b;let e:=l.toNat+0;let q:=d.toNat+b;let o:=d+1;let h:=d-1;some (fork (decide (d<(↑(n-b):Int))) (aj [p,q<n,-a<=h/\h<a,(0:Int)<=h/\h.toNat<n-b,h.toNat+b<n] (fork (!decide (k q=k (h.toNat+b))) (aj [p,q<n,(0:Int)<=l/\l.toNat<n,e<n] (aj [-a<=g/\g<a] (aj [-a<=o/\o<a] (leaf normal ([nil,r,f,int i64 g,s,int i64 o],[(0,aq.mk true true 3 n fun j=>rat (bif j==e then k q else k j) (bif j==e then sK else sK))]))))) (aj [-a<=o/\o<a] (leaf normal ([nil,r,f,int i64 l,s,int i64 o],[t]))))) (leaf (exit 2) ([nil,r,f,int i64 l,s,int i64 d],[t]))):=ah
theorem XJ:aI T g9 [] 60 lH [part qO [1,1]] ⟨aA ye (vl n m b j),[(0,gU n k)],1⟩=
  let d:=(↑n:Int);let a:=(↑m:Int);let e:=0+a.toNat;let f:=e+(d.toNat-a.toNat);some (aj [(0:Int)<=a/\a<=d/\d<=d/\d<=d] (aj [(0:Int)<=0/\(0:Int)<=a/\a<=a/\a<=d] (leaf ret ([own 0 3 0 (a.toNat-Int.toNat (0:Int)),own 0 3 0 n,func 63 [],int i64 a],[(0,aq.mk true true 3 n fun i=>if e<=i/\i<f then rat 0 1 else rat (k i) sK)])))):=ah
theorem alx {b:Bool}:aI T g9 [] 60 lH [part u7 [1,1],part vj [1,1]] ⟨aA CY (Ih n i b),[(0,gU n k)],1⟩=
  let a:=(↑i:Int)+1;some (aj [-(2:Int)^63<=a/\a<2^63] (leaf normal ([nil,own 0 3 0 n,func 63 [],int i64 a],[(0,aq.mk true true 3 n fun i=>rat (k i) 4096)]))):=ah
theorem ag3:aI T g9 [] 60 lH [part yS [1,1,1]] ⟨aA lH (xx n i),[(0,gU n k)],1⟩=
  let a:=own 0 3 0 n;some (leaf ret ([a,a,func 63 [],int i64 (↑i:Int)],[(0,aq.mk true true 3 n fun i=>rat (k i) 4096)])):=ah
def mO (k:Nat->Rat) (n i:Nat):Rat:=if i<bF k n then cw k n i else 0
theorem Xr (h:∀j,j<n->fU k j) (hi:i<n):bF k n=n/\mO k n i=k i:=by
 obtain⟨h1,h2⟩:=IU h;unfold mO;rw[h1,if_pos hi];exact⟨rfl,h2 i hi⟩
theorem aiM {kk:Nat} (hn:n<2^40) (c:Ctx) (hk:Kept [0] c):ax P c uQ.ntmps yS ⟨aN 0 [.own 0 3 0 n,.func 63 []],[(0,gU n k)],1⟩ (C3 uQ kk [.own kk 3 0 (bF k n)] (gU n (mO k n))):=by
 have hall:∀{L:List Nat} {us:List AV},(∀j,j<n->fU k j)->mZ (aA L us) uQ.results.toList=some [.own 0 3 0 n]->Db uQ kk [.own kk 3 0 (bF k n)] (gU n (mO k n)) L (us,[(0,gU n k)]):=fun h1 h2=>
  ⟨_,_,h2,⟨⟨rfl,cN (by simp[bk,look]) rfl (IU h1).1.symm⟩,trivial⟩,qa,rfl,rfl,rfl,rfl,fun i hi=>by
   show gq _ (.rat (k i) sK) (.rat (mO k n i) sK);rw[(Xr h1 hi).2];exact gm rfl⟩
 refine ax.ym hT lK hm [1,1,0,1] (i:=0) (y:=vj) (z:=part yS [1,1,1]) ah ah ah Rd.dst hk (f1:=[10]) 60 lH 1 (fun i:Nat=>xx n i) (fun _=>[(0,gU n k)]) (fun i=>1<=i/\i<=n/\∀j,j<i->fU k j) (fun i=>i=n/\∀j,j<n->fU k j) (fun i=>n-i)
  (Db uQ kk [.own kk 3 0 (bF k n)] (gU n (mO k n)) lH) ⟨_,ZE,?_⟩ (fun i ⟨h1,h2,h3⟩=>?_) (fun i ⟨h1,h2⟩=>?_) (fun v s' hv hs'=>hv.fin hs')
 ·simp only[ag.all,ay,br,bC];exact⟨fun h=>hall (fun j hj=>.inl aa) ah,fun h=>⟨1,⟨aa,aa,fun j hj=>.inl aa⟩,[(0,0)],rfl,rfl,rfl,cj rfl rfl rfl (fun x hx=>cW rfl rfl) trivial⟩⟩
 ·refine ax.su hT lK hm (y:=vj) (x1:=u7) (zb:=part vj [1,1]) [1,0] (j:=1) ah ah ah ah hk (f1:=[15]) 60 lH 1 (fun _:Unit=>xx n i) (fun _=>[(0,gU n k)]) (fun _=>i<n) ⟨_,ag1,?_⟩ (fun _ hlt=>?_)
  ·simp only[ag.all,ay,br,bC];exact⟨fun h=>⟨(),aa,[(0,0)],rfl,rfl,rfl,cj rfl rfl rfl (fun x hx=>cW rfl rfl) trivial⟩,fun h s' hs'=>⟨rfl,i,⟨aa,fun j hj=>h3 j aa⟩,cT.le ⟨[(0,0)],rfl,rfl,rfl,cj rfl rfl rfl (fun x hx=>cW rfl rfl) trivial⟩ hs' hk⟩⟩
  refine ax.branch hT lK hm (x:=u7) (u:=qO) (v:=part u7 [1,1]) (b:=.tmp 28) [1] ah ah ah ah hk (f1:=[]) 60 CY 1 (fun _:Unit=>Ih n i (decide (k i=k (i-1)))) (fun _=>[(0,gU n k)]) (fun _=>True) ⟨_,aj2,?_⟩ (fun _ _=>⟨decide (k i=k (i-1)),rfl,fun hb=>?_,fun hb=>?_⟩)
  ·simp only[ag.all,ay];simp only[bg,Nat.add_zero,show((i:Int)-1).toNat=i-1 by omega];exact⟨⟨⟨aa,aa⟩,aa,aa,⟨aa,aa⟩,aa⟩,(),trivial,[(0,0)],rfl,rfl,rfl,cj rfl rfl rfl (fun x hx=>cW rfl rfl) trivial⟩
  ·have hold:¬fU k i:=fun h=>by
    rcases h with h|h
    ·omega
    ·exact h (of_decide_eq_true hb)
   obtain⟨s1,s2⟩:=Y1 h3 hold;refine ax.oy hT lK hm (x:=qO) [1,0,1] (i:=2) (y:=part qO [1,0,1,0,0]) ah ah ah hk (f1:=[]) (f2:=[35,49]) 60 ye 1 (fun j:Nat=>vl n (bF k (i+j)) i j) (fun j=>[(0,gU n (jz k (i+j)))]) (fun j=>1<=j/\i+j<=n) (fun j=>i+j=n) (fun j=>n-j) (fun _=>False) ⟨_,Ua,?_⟩ (fun j ⟨j1,j2⟩=>⟨_,S1,?_⟩) (fun j s' hj hle=>?_) (fun _ _ h=>h.elim)
   ·simp only[ag.all,ay];simp only[bg,Nat.zero_add];refine⟨aa,1,⟨aa,aa⟩,[(0,0)],rfl,?_,rfl,cj rfl rfl rfl (fun x hx=>cW rfl ?_) trivial⟩
    ·show _=(vl n (bF k (i+1)) i 1).map _;rw[s1];rfl
    ·rw[s2]
   ·simp only[ag.all,ay,br,bC];have hd:=OO hold (l:=i+j) aa;have e1:jz k (i+j) (j+i)=k (i+j):=by rw[Nat.add_comm j i];exact So aa
    have e2:jz k (i+j) (((j:Int)-1).toNat+i)=k (i+j-1):=by rw[show((j:Int)-1).toNat+i=i+j-1 by omega];exact So aa
    simp only[bg,Nat.add_zero,e1,e2,Bool.not_eq_true',Bool.not_eq_false',br,bC];refine⟨fun h=>⟨aa,fun hne=>⟨aa,aa,aa,j+1,aa,by dsimp only;omega,[(0,0)],rfl,?_,rfl,cj rfl rfl rfl (fun x hx=>?_) trivial⟩,fun heq=>⟨aa,j+1,aa,by dsimp only;omega,[(0,0)],rfl,?_,rfl,cj rfl rfl rfl (fun x hx=>?_) trivial⟩⟩,fun h=>⟨rfl,j,aa,[(0,0)],rfl,rfl,rfl,cj rfl rfl rfl (fun x hx=>cW rfl rfl) trivial⟩⟩
    ·show _=(vl n (bF k (i+j+1)) i (j+1)).map _;rw[QN (l:=i+j) (.inr hne)];rfl
    ·refine .inr ⟨rfl,cm ?_ (by cases (x==bF k (i+j))<;>exact Nat.le_refl _)⟩;show _=jz k (i+j+1) x;rw[VG (.inr hne) aa];by_cases hx2:x=bF k (i+j)
     ·subst hx2;simp
     ·have:(x==bF k (i+j))=false:=by simpa using hx2
      rw[this,if_neg hx2];rfl
    ·have hold2:¬fU k (i+j):=fun h=>by
      rcases h with h|h
      ·omega
      ·exact h heq
     show _=(vl n (bF k (i+j+1)) i (j+1)).map _;rw[GJ hold2];rfl
    ·have hold2:¬fU k (i+j):=fun h=>by
      rcases h with h|h
      ·omega
      ·exact h heq
     exact cW rfl (by show _=AV.rat (jz k (i+j+1) x) sK;rw[(akD hold2).2])
   ·rw[show behind qO [1,0,1]=[part qO [1,1]]from by kernel_rfl];refine aG.weak rfl hle (aG.bE hT lK hm 60 lH XJ ah ?_);simp only[ag.all,ay];rw[hj];have hd:=o7 (k:=k) (n:=n);simp only[bg,Nat.zero_add];refine⟨aa,aa,fun s' hs'=>⟨_,⟨[.own 0 3 0 (bF k n)],⟨true,true,3,n,fun i=>if bF k n<=i/\i<bF k n+(n-bF k n)then .rat 0 1 else .rat (jz k n i) sK⟩,ah,⟨⟨rfl,cN (by simp[bk,look]) rfl rfl⟩,trivial⟩,rfl,⟨rfl,rfl,rfl,rfl,fun x hx=>?_⟩⟩,hs'⟩⟩;have hx:x<n:=hx;refine mR (qX rfl rfl) ?_;show bV (if _ then _ else _) (.rat (mO k n x) sK);unfold mO;by_cases h:x<bF k n
    ·rw[if_neg aa,if_pos h];exact dY (by unfold jz;rw[if_pos h])
    ·rw[if_pos aa,if_neg h];exact dU (by decide)
  ·have hnew:fU k i:=.inr (of_decide_eq_false hb);refine ax.tail (fun s' hh=>by have:=hh.1;omega) (aG.bE hT lK hm 60 lH alx ah ?_);simp only[ag.all,ay];refine⟨aa,fun s' hs'=>⟨i+1,⟨aa,aa,fun j hj=>?_⟩,by dsimp only;omega,cT.le ⟨[(0,0)],rfl,rfl,rfl,cj rfl rfl rfl (fun x hx=>cW rfl rfl) trivial⟩ hs' hk⟩⟩;by_cases he:j=i
   ·subst he;exact hnew
   ·exact h3 j aa
 ·subst h1;refine ax.bE hT lK hm 60 lH ag3 ah ?_;simp only[ag.all,ay];exact fun s' hs'=>(hall h2 ah).fin hs'
def G4 (f:Nat->AV) (n s:Nat):Prop:=∀i,i<n->keys (f i)=[]/\bV (f i) (.rat (aF (f i)) s)
theorem amm (h:s<=s'):G4 (fun i=>.rat (k i) s) n s':=fun _ _=>⟨rfl,dU h⟩
def IG:Spec:=fun _ args pre=>match args,pre with
 |[.own k 3 0 n,.func g []],[(k',⟨true,true,3,m,f⟩)]=>match Nat.beq g 63&&k'==k with
  |true=>some ⟨iK [.own k 3 0 (bF (fun i=>aF (f i)) n)],[(k,gU n (mO (fun i=>aF (f i)) n))],[m=n,G4 f n sK,n<2^40]⟩
  |false=>none
 |_,_=>none
theorem Yx:aW P IG 143:=by
 intro K args pre r h;unfold IG at h;split at h
 ·rename_i k n g k' m f;split at h
  ·rename_i hc;simp only[Bool.and_eq_true,beq_iff_eq]at hc;obtain⟨h1,h2⟩:=hc;have h1:=Nat.eq_of_beq_eq_true h1;subst h1 h2;simp only[az]at h;subst h;intro need;have h0:=need;obtain⟨rfl,n1,n2⟩:=need;exact Oo hT Rd (rest:=[.func 63 []]) (o2:=⟨true,true,3,m,f⟩) (o:=gU m fun i=>aF (f i)) rfl rfl aV (fun ρ=>⟨rfl,rfl,rfl,rfl,fun i hi=>mR (n1 i hi).1 (n1 i hi).2⟩) (fun _ c hk=>aiM n2 c hk) K h0
  ·simp at h
 ·simp at h
theorem ahj:aU 19 f19:=aS func19
theorem als:aU 151 f151:=aS func151
abbrev th:Code:=aE f19
abbrev rP:List Nat:=[0,3,4]
abbrev pL (n:Nat) (k:Nat->Rat) (v:AV) (i:Int):List AV:=[bu k n sJ,v,.int .i64 i]
abbrev DD (m:Nat) (k:Nat->Rat):aq:=⟨true,true,3,m,fun i=>.rat (k i) sJ⟩
abbrev yb:Code:=aE f151
abbrev xV:List Nat:=[4,0,1,5]
abbrev E8 (n:Nat) (k:Nat->Rat) (i:Nat):List AV:=[.bool false,ls k n,.func 108 [],.int .i64 ((i:Int)-1)]
def Rj:aX:=[(144,Qo),(143,IG)]
theorem ZH:aI T mT [] 60 rP (before th [1,1,0,1]) ⟨aN 0 [bu k n sJ],[],0⟩=
  some (leaf normal ([ak 3 n fun i=>rat (k i) 4000,nil,int i64 0],[])):=ah
theorem af5:aI T mT [8,13,25] 60 rP [part th [1,1,0,1,0,0]] ⟨aA rP (pL n k .nil 0),[],1⟩=
  let b:=(2:Int)^63;let e:=Int.toNat (0:Int);let a:=(0:Int)-1;let d:=ak 3 n fun i=>rat (k i) 4000;let j:=(0:Int)<=0/\e<n;let g:=-b<=0+(1:Int)/\(0:Int)+1<b;let h:ag (List AV×aC):=aj [g] (leaf normal ([d,nil,int i64 1],[]));let f:ag (List AV×aC):=aj [j,(1:Nat)*3<=2^24,(0:Nat)<1/\1*((56:Nat)+1)*2<=2^47] (aj [g] (leaf normal ([d,own 102401 3 0 1,int i64 1],[(102401,aq.mk true true 3 1 fun i=>nth [rat (k e) sJ] (rat 0 1) (i+0))])));some (fork (decide ((0:Int)<(↑n:Int))) (fork true (aj [((0:Int)==0)=true] (fork true f h)) (aj [((0:Int)==0)=false,j,-b<=a/\a<b,(0:Int)<=a/\a.toNat<n] (fork (bif false then true else !decide (k e=k a.toNat)) f h))) (leaf (exit 0) ([d,nil,int i64 0],[]))):=ah
theorem afm:aI T mT [8,13,25] 60 rP [part th [1,1,0,1,0,0]] ⟨aA rP (pL n k (.own 0 3 0 (l+1)) ((i+1:Nat):Int)),[(0,DD (l+1) x)],1⟩=
  let m:=ak 3 n fun i=>rat (k i) 4000;let h:=l+1;let d:=(2:Int)^63;let a:=(↑(i+1):Int);let b:=h+1;let g:=(0:Int)<=a/\a.toNat<n;let f:=own 0 3 0 h;let e:=a+1;let j:=a-1;let q:Nat×aq:=(0,aq.mk true true 3 h fun i=>rat (x i) 4000);let p:ag (List AV×aC):=aj [-d<=e/\e<d] (leaf normal ([m,f,int i64 e],[q]));let o:ag (List AV×aC):=aj [g,(1:Nat)*3<=2^24,b*((56:Nat)+1)*2<=2^47] (aj [-d<=e/\e<d] (leaf normal ([m,own 102401 3 0 b,int i64 e],[(102401,aq.mk true true 3 b fun i=>if i<h then rat (x i) sJ else nth [rat (k a.toNat) sJ] (rat 0 1) (i-h+0))])));some (fork (decide (a<(↑n:Int))) (fork false (aj [(a==0)=true] (fork true o p)) (aj [(a==0)=false,g,-d<=j/\j<d,(0:Int)<=j/\j.toNat<n] (fork (bif false then true else !decide (k a.toNat=k j.toNat)) o p))) (leaf (exit 0) ([m,f,int i64 a],[q]))):=ah
theorem ama:ct T mT [] 60 f19 [part th [1,1,1]] ⟨aA rP (pL n k .nil 0),[],1⟩=
  some (leaf ret [nil]):=ah
theorem alE:ct T mT [] 60 f19 [part th [1,1,1]] ⟨aA rP (pL n k (.own 0 3 0 (l+1)) ((i+1:Nat):Int)),[(0,DD (l+1) x)],1⟩=
  some (leaf ret [ak 3 (l+1) fun i=>rat (x (i+0)) 4000]):=ah
theorem UN:aI T g9 [] 60 xV (before yb [1,0,1]) ⟨aN 0 [ls k n,.func 108 []],[],0⟩=
  let a:=(↑n:Int)-1;some (aj [-(2:Int)^63<=a/\a<2^63] (leaf normal ([AV.bool false,ak 3 n fun i=>rat (k i) 4096,func 108 [],int i64 a],[]))):=ah
theorem VV:aI T g9 [10,24] 60 xV [part yb [1,0,1,0,0]] ⟨aA xV (E8 n k i),[],1⟩=
  let f:=ak 3 n fun i=>rat (k i) 4096;let d:=(2:Int)^63;let b:=(↑i:Int)-1;let e:=[AV.bool false,f,func 108 [],int i64 b];let a:=b-1;let g:=fQ (k b.toNat) (k a.toNat);some (fork (decide (b>0)) (aj [(0:Int)<=b/\b.toNat<n,-d<=a/\a<d,(0:Int)<=a/\a.toNat<n] (fork (decide (g<0)) (leaf ret (e,[])) (aj [-d<=a/\a<d] (leaf normal ([AV.bool false,f,func 108 [],int i64 a],[]))))) (leaf (exit 0) (e,[]))):=ah
theorem ai5:ct T g9 [] 60 f151 [part yb [1,1]] ⟨aA xV (E8 n k i),[],1⟩=
  some (leaf ret [AV.bool true]):=ah
theorem Vz:bX T Rj [] 60 f68 (aE f68) ⟨aN 0 [bu k n sJ],[],0⟩=
  let a:=n<2^40;some (aj [bh (fun i=>rat (k i) sJ) n sJ,a,n=n,G4 (fun i=>rat (aF (rat (k i) sJ)) sK) n sK,a] (leaf ret [ak 3 (bF (fun i=>aF (rat (aF (rat (k i) sJ)) sK)) n) fun i=>rat (mO (fun i=>aF (rat (aF (rat (k i) sJ)) sK)) n (i+0)) 4096])):=ah
def kF (g:FuncId):Kind Unit:=⟨fun v=>match v with
 |.func f []=>match Nat.beq f g with
  |true=>some ((),[])
  |false=>none
 |_=>none,fun _=>.func g [],fun {v a q} h _=>by
  split at h
  ·split at h
   ·rename_i hb;rw[Nat.eq_of_beq_eq_true hb];exact .refl _
   ·simp at h
  ·simp at h⟩
def qd (p:Prop):Bool:=@decide p (Classical.propDecidable p)
theorem XV {p:Prop} (h:p):qd p=true:=@decide_eq_true p (Classical.propDecidable p) h
theorem afx {p:Prop} (h:¬p):qd p=false:=@decide_eq_false p (Classical.propDecidable p) h
theorem aiY {p:Prop} (h:qd p=true):p:=@of_decide_eq_true p (Classical.propDecidable p) h
theorem alf {p:Prop} (h:qd p=false):¬p:=@of_decide_eq_false p (Classical.propDecidable p) h
theorem ae1 (hn:n<2^40) (K:Nat):aQ P 151 K [ls k n,.func 108 []] [] (aJ (.bool (qd (oA n k))) []):=by
 refine gP (r:=aJ (.bool (qd (oA n k))) []) hT lK hm als rfl aV rfl [1,0,1] (i:=0) (y:=part yb [1,0,1,0,0]) (z:=part yb [1,1]) ah ah ah (f1:=[]) (f2:=[10,24]) (f3:=[]) 60 xV 1
  (fun i:Nat=>E8 n k i) (fun _=>[]) (fun i=>i<=n/\∀j,i<=j+1->j+1<n->k j<=k (j+1)) (fun _=>oA n k) (fun i=>i) (fun _=>⟨⟨_,UN,?_⟩,fun i ⟨h1,h2⟩=>⟨_,VV,?_⟩,fun i hi=>⟨_,ai5,?_⟩⟩) K []
 ·simp only[ag.all,ay];exact⟨aa,n,⟨bq,fun j h1 h2=>aa⟩,cT.vals rfl⟩
 ·simp only[ag.all,ay,br,bC,oI];refine⟨fun h=>⟨aa,fun hlt=>⟨[.bool false],ah,gQ ?_⟩,fun hle=>⟨aa,i-1,⟨aa,fun j g1 g2=>?_⟩,by dsimp only;omega,[],rfl,?_,rfl,trivial⟩⟩,fun h=>⟨rfl,i,fun j hj=>h2 j aa hj,[],rfl,rfl,rfl,trivial⟩⟩
  ·refine(afx fun hs=>?_).symm;have:=hs (i-2) aa;rw[show((i:Int)-1).toNat=i-2+1 by omega,show((i:Int)-1-1).toNat=i-2 by omega]at hlt;grind
  ·by_cases he:j+2=i
   ·rw[show((i:Int)-1).toNat=j+1 by omega,show((i:Int)-1-1).toNat=j by omega]at hle;grind
   ·exact h2 j aa g2
  ·show _=[_,_,_,AV.int .i64 (((i-1:Nat):Int)-1)]
   rw[show((i-1:Nat):Int)-1=(i:Int)-1-1 by omega];rfl
 ·simp only[ag.all,ay];exact gQ (XV hi).symm
def Mo:Spec:=cz (kC (kL sK) (kC (kF 108) kN)) (fun a=>.bool (qd (oA a.1.1 a.1.2))) fun a=>[a.1.1<2^40]
theorem Ys:aW P Mo 151:=cr fun⟨⟨n,k⟩,_,_⟩ K hn=>ae1 hn K
def xg:Spec:=cz (kC (kL sJ) kN) (fun a=>ls (cw a.1.2 a.1.1) (bF a.1.2 a.1.1)) fun a=>[a.1.1<2^40]
theorem Yu:bn P Rj:=aH acR (aH Yx bw)
theorem Na:aW P xg 68:=cr fun⟨⟨n,k⟩,_⟩ K hn=>by
 have hn:n<2^40:=hn;refine b9 (r:=aJ (ls (cw k n) (bF k n)) []) hT Yu hm Vu rfl aV rfl 60 Vz (fun _=>?_) K [];simp only[ag.all,ay];exact⟨⟨bL bq,hn,trivial,amm bq,hn⟩,tw rfl fun i hi=>by
  show AV.rat (mO k n (i+0)) sK=_;have hi:i<bF k n:=hi;rw[Nat.add_zero];unfold mO;rw[if_pos hi]⟩
theorem amE:aW P xg 19:=cr fun⟨⟨n,k⟩,_⟩ K hn=>by
 have hn:n<2^40:=hn;refine gP (r:=aJ (ls (cw k n) (bF k n)) []) hT Em hm ahj rfl aV rfl [1,1,0,1] (i:=0) (y:=part th [1,1,0,1,0,0]) (z:=part th [1,1,1]) ah ah ah (f1:=[]) (f2:=[8,13,25]) (f3:=[]) 60 rP 1
  (fun i:Nat=>pL n k (match i with
   |0=>.nil
   |_+1=>.own 0 3 0 (bF k i)) i) (fun i=>match i with
   |0=>[]
   |_+1=>[(0,DD (bF k i) (cw k i))]) (fun i=>i<=n) (fun i=>i=n) (fun i=>n-i) (fun _=>⟨⟨_,ZH,?_⟩,fun i hi=>?_,fun i hi=>?_⟩) K []
 ·simp only[ag.all,ay];exact⟨0,Nat.zero_le _,cT.vals rfl⟩
 ·cases i with
  |zero=>
   refine⟨_,af5,?_⟩;simp only[ag.all,ay,br,bC];have e1:bF k 1=1:=by simp[bF,fU]
   have e2:cw k 1 0=k 0:=by simp[cw,bF,fU,jO]
   (repeat' with_reducible first|refine And.intro ?_ ?_|intro _)
   all_goals first|omega|decide|exact absurd ‹true=false› (by decide)|skip
   ·refine⟨1,aa,by dsimp only;omega,[(0,102401)],rfl,?_,rfl,cj rfl rfl e1.symm (fun j hj=>?_) trivial⟩
    ·show _=(pL n k (.own 0 3 0 (bF k 1)) 1).map _;rw[e1];rfl
    ·have hj:j=0:=by rw[e1]at hj;omega
     subst hj;exact cW rfl (by rw[e2];rfl)
   ·exact⟨rfl,0,aa,cT.vals rfl⟩
  |succ i=>
   obtain⟨l,hl⟩:∃l,bF k (i+1)=l+1:=⟨bF k (i+1)-1,by have:=(vD (k:=k) (n:=i)).1;omega⟩
   dsimp only;rw[hl];refine⟨_,afm,?_⟩;simp only[ag.all,ay,br,bC];have e3:((i+1:Nat):Int).toNat=i+1:=aa;have e4:(((i+1:Nat):Int)-1).toNat=i:=aa;have hle:=o7 (k:=k) (n:=i+1)
   (repeat' with_reducible first|refine And.intro ?_ ?_|intro _)
   all_goals first|omega|exact absurd ‹false=true› (by decide)|exact absurd ‹true=false› (by decide)|skip
   ·simp;omega
   ·rename_i hne;rw[e3,e4,cond_false,Bool.not_eq_true',bC]at hne;have hnew:fU k (i+1):=QY.2 hne;have e5:bF k (i+1+1)=l+1+1:=by rw[QN hnew,hl]
    refine⟨i+2,aa,by dsimp only;omega,[(0,102401)],rfl,?_,rfl,cj rfl rfl e5.symm (fun j hj=>?_) trivial⟩
    ·show _=(pL n k (.own 0 3 0 (bF k (i+1+1))) ((i+1+1:Nat):Int)).map _;rw[e5];rfl
    ·rw[e5]at hj;refine rD (y:=cw k (i+1+1)) (fun x hx=>?_) ?_ bq bq hj
     ·rw[show cw k (i+1+1)=jO (cw k (i+1)) (bF k (i+1)) (k (i+1))from if_pos hnew,hl,jT aa]
     ·rw[show cw k (i+1+1)=jO (cw k (i+1)) (bF k (i+1)) (k (i+1))from if_pos hnew,hl,oS,e3]
   ·rename_i heq;rw[e3,e4,cond_false,Bool.not_eq_false',br]at heq;have hold:¬fU k (i+1):=fun h=>QY.1 h heq;have e5:bF k (i+1+1)=l+1:=by rw[GJ hold,hl]
    refine⟨i+2,aa,by dsimp only;omega,[(0,0)],rfl,?_,rfl,cj rfl rfl e5.symm (fun j hj=>cW rfl ?_) trivial⟩
    ·show _=(pL n k (.own 0 3 0 (bF k (i+1+1))) ((i+1+1:Nat):Int)).map _;rw[e5];rfl
    ·show _=AV.rat (cw k (i+1+1) j) sJ;rw[show cw k (i+1+1)=cw k (i+1)from if_neg hold]
   ·refine⟨rfl,i+1,aa,[(0,0)],rfl,?_,rfl,cj rfl rfl hl.symm (fun j hj=>cW rfl rfl) trivial⟩;show _=(pL n k (.own 0 3 0 (bF k (i+1))) ((i+1:Nat):Int)).map _;rw[hl];rfl
 ·cases i with
  |zero=>
   refine⟨_,ama,?_⟩;simp only[ag.all,ay];subst hi;exact iT aa
  |succ i=>
   obtain⟨l,hl⟩:∃l,bF k (i+1)=l+1:=⟨bF k (i+1)-1,by have:=(vD (k:=k) (n:=i)).1;omega⟩
   dsimp only;rw[hl];refine⟨_,alE,?_⟩;simp only[ag.all,ay];subst hi;exact(tw (g:=fun j=>.rat (cw k (i+1) j) sJ) hl.symm fun j hj=>rfl).trans (fI fun j hj=>dU (by decide))
theorem aaH:aU 75 f75:=aS func75
theorem PI:aU 177 f177:=aS func177
def Dr:aX:=(151,Mo)::(68,xg)::(109,Ao)::qV
abbrev zC:Code:=aE f75
abbrev tZ:List Nat:=[0,1,4,48,49,50]
abbrev H8 (n:Nat) (k:Nat->Rat) (p:Int) (d:Nat) (f:Nat->Rat) (i:Nat):List AV:=[bu k n sJ,.int .i64 p,.int .i64 0,bu f d sK,.int .i64 d,.int .i64 i]
def wz:aX:=(178,pB)::(19,xg)::(223,Ao)::oT
abbrev Aq:Code:=aE f177
abbrev s5:List Nat:=[4,0,1,5]
abbrev DL (n:Nat) (k:Nat->Rat) (p:Int) (i:Nat):List AV:=[.int .i64 0,bu k n sJ,.int .i64 p,.int .i64 i]
abbrev um:List Nat:=[4,0,1,6,7]
abbrev FP (n:Nat) (k:Nat->Rat) (p:Int) (d:Nat) (f:Nat->Rat) (i:Nat):List AV:=[.int .i64 0,bu k n sJ,.int .i64 p,bu f d sK,.int .i64 i]
abbrev qU:Code:=part Aq [1,1,1,1,1]
theorem ajj {p:Int}:aI T wz [11,14,20,24] 60 s5 (before Aq [1,1,1,1,0,1]) ⟨aN 0 [bu k n sJ,.int .i64 p],[],0⟩=
  let h:=(↑n:Int)-p-1;let d:=int i64 1;let b:=decide (p<1);let g:=i64.wrap (i64.wrap ((2:Int)*p)+2);let f:=ak 3 n fun i=>rat (k i) 4000;let a:=[f,int i64 p,tuple []];let e:ag (List AV×aC):=fork (decide ((↑n:Int)<g)) (leaf ret (int i64 5::a,[])) (aj [bh (fun i=>rat (k i) sJ) n sK,n<2^40,-(2:Int)^40<p,p<2^40] (fork (decide (h>40)) (leaf ret (int i64 2::a,[])) (leaf normal ([int i64 0,f,int i64 p,d],[]))));some (fork b (aj [b=true] (fork true (leaf ret (d::a,[])) e)) (aj [b=false] (fork (bif false then true else decide (p>6)) (leaf ret (d::a,[])) e))):=ah
theorem adC {p:Int}:aI T wz [28,41] 60 s5 [part Aq [1,1,1,1,0,1,0,0]] ⟨aA s5 (DL n k p i),[],1⟩=
  let a:=(↑i:Int);let d:=ak 3 n fun i=>rat (k i) 4000;let b:=i64.wrap (a-1);let e:=fQ (k a.toNat) (k b.toNat);some (fork (decide (a<(↑n:Int))) (aj [(0:Int)<=a/\a.toNat<n,(0:Int)<=b/\b.toNat<n] (fork (decide (e<0)) (leaf ret ([int i64 5,d,int i64 p,int i64 a],[])) (leaf normal ([int i64 0,d,int i64 p,int i64 (i64.wrap (a+1))],[])))) (leaf (exit 0) ([int i64 0,d,int i64 p,int i64 a],[]))):=ah
theorem aip {p:Int}:aI T wz [] 60 um (before qU [1,0,1]) ⟨aA s5 (DL n k p i),[],1⟩=
  some (aj [bh (fun i=>rat (k i) sJ) n sJ,n<2^40] (leaf normal ([int i64 0,ak 3 n fun i=>rat (k i) 4000,int i64 p,ak 3 (bF (fun i=>aF (rat (k i) sJ)) n) fun i=>rat (cw (fun i=>aF (rat (k i) sJ)) n i) 4096,int i64 0],[]))):=ah
theorem aiK {p:Int}:aI T wz [47,58,65,71,77,80,87,92] 60 um [part qU [1,0,1,0,0]] ⟨aA um (FP n k p d f i),[],1⟩=
  let K:=ak 3 n fun i=>rat (k i) 4000;let J:=ak 3 d fun i=>rat (f i) 4096;let m:=false=true;let h:=true=true;let l:=false=false;let a:=true=false;let z:=(↑i:Int);let N:=i64.wrap (p+1);let M:=i64.wrap ((↑d:Int)-1);let I:=[K,int i64 p,J,int i64 z];let G:ag (List AV×aC):=leaf normal ([int i64 0,K,int i64 p,J,int i64 (i64.wrap (z+1))],[]);let F:=z==0;let E:=bif false then true else z==M;let j:=decide (z>0);let A:=bif true then decide (z<M)else false;let L:=(↑(cJ (fun i=>aF (rat (k i) sJ)) (f z.toNat) n):Int);let H:ag (List AV×aC):=leaf ret (int i64 5::I,[]);let r:=E=true;let q:=E=false;let w:=[j=false,l];let e:=F=true;let v:=[j=true,A=true];let u:=[j=true,A=false];let b:=F=false;let t:=[j=false,m];let B:=bif true then L !=N else false;let C:=bif false then true else decide (L>N);let s:=B=true;let o:=B=false;let g:=C=false;let D:ag (List AV×aC):=fork true H G;let y:ag (List AV×aC):=fork false H G;let x:ag (List AV×aC):=fork (bif false then true else bif true then decide (L>p)else false) H G;some (fork (decide (z<(↑d:Int))) (aj [(0:Int)<=z/\z.toNat<d,bh (fun i=>rat (k i) sJ) n sK,sK<=sK,n<2^40] (fork F (fork true (fork B (fork true (aj [e,h,s,h] D) (fork j (fork A (aj (e::h::s::a::v) x) (aj (e::h::s::a::u) y)) (fork false (aj (e::h::s::a::t) x) (aj (e::h::s::a::w) y)))) (fork C (aj [e,h,o,C=true] D) (fork j (fork A (aj (e::h::o::g::v) x) (aj (e::h::o::g::u) y)) (fork false (aj (e::h::o::g::t) x) (aj (e::h::o::g::w) y))))) (fork false (fork true (aj [e,a,m,h] D) (fork j (fork A (aj (e::a::m::a::v) x) (aj (e::a::m::a::u) y)) (fork false (aj (e::a::m::a::t) x) (aj (e::a::m::a::w) y)))) (fork C (aj [e,a,l,C=true] D) (fork j (fork A (aj (e::a::l::g::v) x) (aj (e::a::l::g::u) y)) (fork false (aj (e::a::l::g::t) x) (aj (e::a::l::g::w) y)))))) (fork E (fork B (fork true (aj [b,r,s,h] D) (fork j (fork A (aj (b::r::s::a::v) x) (aj (b::r::s::a::u) y)) (fork false (aj (b::r::s::a::t) x) (aj (b::r::s::a::w) y)))) (fork C (aj [b,r,o,C=true] D) (fork j (fork A (aj (b::r::o::g::v) x) (aj (b::r::o::g::u) y)) (fork false (aj (b::r::o::g::t) x) (aj (b::r::o::g::w) y))))) (fork false (fork true (aj [b,q,m,h] D) (fork j (fork A (aj (b::q::m::a::v) x) (aj (b::q::m::a::u) y)) (fork false (aj (b::q::m::a::t) x) (aj (b::q::m::a::w) y)))) (fork C (aj [b,q,l,C=true] D) (fork j (fork A (aj (b::q::l::g::v) x) (aj (b::q::l::g::u) y)) (fork false (aj (b::q::l::g::t) x) (aj (b::q::l::g::w) y)))))))) (leaf (exit 2) (int i64 0::I,[]))):=ah
theorem U3 {p:Int}:ct T wz [95] 60 f177 [part qU [1,1]] ⟨aA um (FP n k p d f i),[],1⟩=
  some (fork (decide ((↑d:Int)<2)) (leaf ret [int i64 5]) (leaf ret [int i64 0])):=ah
theorem ahQ {p:Int}:aI T Dr [18,15,22,29,35,46] 60 tZ (before zC [1,1,1,0,1]) ⟨aN 0 [bu k n sJ,.int .i64 p],[],0⟩=
  let b:=(↑n:Int);let g:=bh (fun i=>rat (k i) sJ) n sK;let f:=Int.toNat (0:Int);let e:=bF (fun i=>aF (rat (k i) sJ)) n;let a:=decide (p<1);let j:=i64.wrap (i64.wrap ((2:Int)*p)+2);let r:=n<2^40;let q:=[tuple [],tuple [],tuple []];let o:=!qd (oA n fun i=>aF (rat (k i) sJ));let h:=ak 3 n fun i=>rat (k i) 4000;let d:=h::int i64 p::int i64 1::q;let u:=i64.wrap (i64.wrap (b-p)-1);let m:=i64.wrap (b-1);let l:ag (List AV×aC):=leaf ret (h::int i64 p::int i64 5::q,[]);let t:ag (List AV×aC):=aj [bh (fun i=>rat (k i) sJ) n sJ,r] (leaf normal ([h,int i64 p,int i64 0,ak 3 e fun i=>rat (cw (fun i=>aF (rat (k i) sJ)) n i) 4096,int i64 (↑e:Int),int i64 0],[]));let s:ag (List AV×aC):=fork (decide (b<j)) l (fork (decide (u>40)) (leaf ret (h::int i64 p::int i64 2::q,[])) (fork o (aj [g,r,o=true] (fork true l t)) (aj [g,r,o=false,(0:Int)<=0/\f<n,(0:Int)<=m/\m.toNat<n] (fork (bif false then true else decide (k f=k m.toNat)) l t))));some (fork a (aj [a=true] (fork true (leaf ret (d,[])) s)) (aj [a=false] (fork (bif false then true else decide (p>6)) (leaf ret (d,[])) s))):=ah
theorem YN {p:Int}:aI T Dr [51,62,73,79,82,87] 60 tZ [part zC [1,1,1,0,1,0,0]] ⟨aA tZ (H8 n k p d f i),[],1⟩=
  let q:=(↑d:Int);let h:=false=false;let a:=(↑i:Int);let e:=0<1;let r:=ak 3 d fun i=>rat (f i) 4096;let m:=ak 3 n fun i=>rat (k i) 4000;let w:=i64.wrap ((↑n:Int)-1);let y:=Int.toNat (0:Int);let t:=(0:Int)<=0/\y<n;let s:=[r,int i64 q,int i64 a];let v:=f a.toNat;let g:ag (List AV×aC):=leaf normal ([m,int i64 p,int i64 0,r,int i64 q,int i64 (i64.wrap (a+1))],[]);let o:=decide (v=k y);let x:=(↑(cJ (fun i=>aF (rat (k i) sJ)) v n):Int);let b:=bif false then true else decide (v=k w.toNat);let j:ag (List AV×aC):=leaf ret (m::int i64 p::int i64 5::s,[]);let u:ag (List AV×aC):=fork (bif false then true else bif true then decide (x>p)else false) j g;let l:=bif true then x !=i64.wrap (p+1)else false;some (fork (decide (a<q)) (aj [(0:Int)<=a/\a.toNat<d,e] (aj [e,bh (fun i=>rat (k i) sJ) n sK,sK<=sK,n<2^40] (fork o (aj [e,t,o=true] (fork true (fork l (aj [true=true,l=true] (fork true j g)) (fork false (aj [true=true,l=false,(!true)=true] u) (aj [true=true,l=false,(!true)=false] (fork false j g)))) (fork false (aj [true=false,false=true] (fork true j g)) (fork false (aj [true=false,h,(!true)=true] u) (aj [true=false,h,(!true)=false] (fork false j g)))))) (aj [e,t,o=false,e,(0:Int)<=w/\w.toNat<n] (fork b (fork l (aj [b=true,l=true] (fork true j g)) (fork (!b) (aj [b=true,l=false,(!b)=true] u) (aj [b=true,l=false,(!b)=false] (fork false j g)))) (fork false (aj [b=false,false=true] (fork true j g)) (fork (!b) (aj [b=false,h,(!b)=true] u) (aj [b=false,h,(!b)=false] (fork false j g))))))))) (leaf (exit 1) (m::int i64 p::int i64 0::s,[]))):=ah
theorem afF {p:Int}:ct T Dr [] 60 f75 [part zC [1,1,1,1]] ⟨aA tZ (H8 n k p d f i),[],1⟩=
  some (leaf ret [int i64 0]):=ah
theorem ahq:bn P Dr:=aH Ys (aH Na (aH O4 tV))
theorem DW:bn P wz:=aH Nf (aH amE (aH aee qv))
def nB (n:Nat) (p:Int):Prop:=1<=p/\p<=6/\2*p+2<=(n:Int)/\(n:Int)-p-1<=40
theorem aj0 {p:Int} (hn:n<2^40) (K:Nat):aQ P 75 K [bu k n sJ,.int .i64 p] [] (aJ (.int .i64 (fq n k p)) []):=by
 refine gP (r:=aJ (.int .i64 (fq n k p)) []) hT ahq hm aaH rfl aV rfl [1,1,1,0,1] (i:=1) (y:=part zC [1,1,1,0,1,0,0]) (z:=part zC [1,1,1,1]) ah ah ah (f1:=[18,15,22,29,35,46]) (f2:=[51,62,73,79,82,87]) (f3:=[]) 60 tZ 1
  (fun i:Nat=>H8 n k p (bF k n) (cw k n) i) (fun _=>[]) (fun i=>i<=bF k n/\nB n p/\oA n k/\k 0≠k (n-1)/\∀j,j<i->¬jV n k p.toNat (cw k n j)) (fun _=>nB n p/\r8 n k p.toNat) (fun i=>bF k n-i) (fun _=>⟨⟨_,ahQ,?_⟩,fun i ⟨h1,h2,h3,h4,h5⟩=>⟨_,YN,?_⟩,fun i ⟨h1,h2⟩=>⟨_,afF,?_⟩⟩) K []
 ·have r:∀{e:Int} {u:AV},fq n k p=e->lU f75 tZ (.int .i64 (fq n k p)) ([u,.int .i64 p,.int .i64 e,.tuple [],.tuple [],.tuple []],[]):=fun h=>⟨[.int .i64 _],ah,bP h.symm⟩
  by_cases hp:1<=p/\p<=6
  ·have e1:i64.wrap (i64.wrap (2*p)+2)=2*p+2:=by rw[wrap_i64 (show-2^63<=2*p by omega) aa];exact wrap_i64 aa aa
   have e2:i64.wrap (i64.wrap ((n:Int)-p)-1)=(n:Int)-p-1:=by rw[wrap_i64 (show-2^63<=(n:Int)-p by omega) aa];exact wrap_i64 aa aa
   have e3:i64.wrap ((n:Int)-1)=(n:Int)-1:=wrap_i64 aa aa;have e5:((n:Int)-1).toNat=n-1:=aa;simp only[ag.all,ay,decide_eq_true_eq,decide_eq_false_iff_not,Bool.not_eq_true',Bool.not_eq_false',cond_true,cond_false,Int.toNat_natCast,Int.toNat_zero,mE,e1,e2,e3,e5]
   (repeat' with_reducible first|refine And.intro ?_ ?_|intro _)
   all_goals first|exact absurd ‹true=false› (by decide)|exact absurd ‹false=true› (by decide)|omega|(exfalso;omega)|exact bL (by decide)|assumption|exact r (P0 aa aa)|exact r (Ni aa aa aa)|exact r (vQ aa aa aa fun h=>alf ‹_› h.1)|exact r (vQ aa aa aa fun h=>h.2.1 ‹_›)|exact⟨0,⟨Nat.zero_le _,⟨aa,aa,aa,aa⟩,aiY ‹_›,‹_›,fun j hj=>absurd hj (Nat.not_lt_zero j)⟩,cT.vals rfl⟩|skip
   skip
  ·simp only[ag.all,ay,decide_eq_true_eq,decide_eq_false_iff_not,Bool.not_eq_true',Bool.not_eq_false',cond_true,cond_false,Int.toNat_natCast]
   (repeat' with_reducible first|refine And.intro ?_ ?_|intro _)
   all_goals first|exact absurd ‹true=false› (by decide)|exact absurd ‹false=true› (by decide)|omega|(exfalso;omega)|exact r (PD aa)|skip
   skip
 ·obtain⟨q,rfl⟩:∃q:Nat,p=(q:Int):=⟨p.toNat,by have:=h2.1;omega⟩
  have hq:=h2;unfold nB at hq;have e1:i64.wrap ((q:Int)+1)=((q+1:Nat):Int):=by rw[wrap_i64 aa aa];rfl
  have e2:i64.wrap ((i:Int)+1)=((i+1:Nat):Int):=by rw[wrap_i64 aa (by have:=o7 (k:=k) (n:=n);omega)];rfl
  have e3:i64.wrap ((n:Int)-1)=(n:Int)-1:=wrap_i64 aa aa;have e5:((n:Int)-1).toNat=n-1:=aa;simp only[Int.toNat_natCast]at h5;have hd:=o7 (k:=k) (n:=n);have r:∀{u v w x y:AV},jV n k q (cw k n i)->i<bF k n->lU f75 tZ (.int .i64 (fq n k q)) ([u,v,.int .i64 5,w,x,y],[]):=fun h hi=>⟨[.int .i64 5],ah,bP (vQ aa aa aa fun hk=>hk.2.2 i hi (by rw[Int.toNat_natCast];exact h)).symm⟩
  have nx:¬jV n k q (cw k n i)->i<bF k n->∀j,j<i+1->¬jV n k q (cw k n j):=fun h hi j hj=>by
   by_cases he:j=i
   ·subst he;exact h
   ·exact h5 j aa
  simp only[ag.all,ay,decide_eq_true_eq,decide_eq_false_iff_not,Bool.not_eq_true',Bool.not_eq_false',cond_true,cond_false,Int.toNat_natCast,Int.toNat_zero,mE,e1,e2,e3,e5,bne_iff_ne,bne_eq_false_iff_eq,ne_eq];obtain⟨c,hc⟩:∃c,cJ k (cw k n i) n=c:=⟨_,rfl⟩
  have hc':cJ (fun i=>k i) (cw k n i) n=c:=hc;simp only[hc'];have b1:cw k n i=k 0->c≠q+1->jV n k q (cw k n i):=fun h1 h2=>.inl ⟨.inl h1,by rw[hc];exact h2⟩;have b2:cw k n i=k (n-1)->c≠q+1->jV n k q (cw k n i):=fun h1 h2=>.inl ⟨.inr h1,by rw[hc];exact h2⟩;have b3:¬cw k n i=k 0->¬cw k n i=k (n-1)->q<c->jV n k q (cw k n i):=fun h1 h2 h3=>.inr ⟨fun h=>h.elim h1 h2,by rw[hc];exact h3⟩;have g1:cw k n i=k 0->c=q+1->¬jV n k q (cw k n i):=by
   rintro h1 h2 (⟨_,h3⟩|⟨h3,_⟩)
   ·exact h3 (by rw[hc];exact h2)
   ·exact h3 (.inl h1)
  have g2:cw k n i=k (n-1)->c=q+1->¬jV n k q (cw k n i):=by
   rintro h1 h2 (⟨_,h3⟩|⟨h3,_⟩)
   ·exact h3 (by rw[hc];exact h2)
   ·exact h3 (.inr h1)
  have g3:¬cw k n i=k 0->¬cw k n i=k (n-1)->c<=q->¬jV n k q (cw k n i):=by
   rintro h1 h2 h3 (⟨h4,_⟩|⟨_,h4⟩)
   ·exact h4.elim h1 h2
   ·rw[hc]at h4;omega
  clear hc hc'
  (repeat' with_reducible first|refine And.intro ?_ ?_|intro _)
  all_goals first|exact absurd ‹true=false› (by decide)|exact absurd ‹false=true› (by decide)|omega|(exfalso;omega)|exact bL (by decide)|assumption|skip
  all_goals first
   |exact absurd ‹cw k n i=k (n-1)› ‹_›
   |exact⟨rfl,i,⟨h2,h3,h4,fun j hj=>h5 j aa⟩,cT.vals rfl⟩
   |exact r (b1 ‹_› aa) aa
   |exact r (b2 ‹_› aa) aa
   |exact r (b3 ‹¬_=k 0› ‹_› (by have:=of_decide_eq_true ‹decide _=true›;omega)) aa
   |exact⟨i+1,⟨aa,h2,h3,h4,nx (g1 ‹_› aa) aa⟩,by dsimp only;omega,cT.vals rfl⟩
   |exact⟨i+1,⟨aa,h2,h3,h4,nx (g2 ‹_› aa) aa⟩,by dsimp only;omega,cT.vals rfl⟩
   |exact⟨i+1,⟨aa,h2,h3,h4,nx (g3 ‹¬_=k 0› ‹_› (by have:=of_decide_eq_false ‹decide _=false›;omega)) aa⟩,by dsimp only;omega,cT.vals rfl⟩
 ·simp only[ag.all,ay];exact bP (Jb (by have:=h1;unfold nB at this;omega) (by have:=h1;unfold nB at this;omega) (by have:=h1;unfold nB at this;omega) h2).symm
theorem ajf {p:Int} (hn:n<2^40) (K:Nat):aQ P 177 K [bu k n sJ,.int .i64 p] [] (aJ (.int .i64 (fq n k p)) []):=by
 refine fV (r:=aJ (.int .i64 (fq n k p)) []) hT PI rfl aV rfl (fun _ cx h0=>?_) K [];have hk:=iL h0;refine ax.oy hT DW hm [1,1,1,1,0,1] (i:=0) (y:=part Aq [1,1,1,1,0,1,0,0]) ah ah PI.dst hk (f1:=[11,14,20,24]) (f2:=[28,41]) 60 s5 1 (fun i:Nat=>DL n k p i) (fun _=>[]) (fun i=>1<=i/\i<=n/\nB n p/\∀j,j+1<i->k j<=k (j+1)) (fun _=>nB n p/\oA n k) (fun i=>n-i) (lU f177 s5 (.int .i64 (fq n k p))) ⟨_,ajj,?_⟩ (fun i ⟨h1,h2,h3,h4⟩=>⟨_,adC,?_⟩) (fun i s' ⟨h1,h2⟩ hle=>?_) (fun v s' hv hs'=>hv.fin hs')
 ·have r:∀{e:Int},fq n k p=e->lU f177 s5 (.int .i64 (fq n k p)) ([.int .i64 e,bu k n sJ,.int .i64 p,.tuple []],[]):=fun h=>⟨[.int .i64 _],ah,bP h.symm⟩
  by_cases hp:1<=p/\p<=6
  ·have e1:i64.wrap (i64.wrap (2*p)+2)=2*p+2:=by rw[wrap_i64 (show-2^63<=2*p by omega) aa];exact wrap_i64 aa aa
   simp only[ag.all,ay,decide_eq_true_eq,decide_eq_false_iff_not,Bool.not_eq_true',Bool.not_eq_false',cond_true,cond_false,Int.toNat_natCast,Int.toNat_zero,mE,e1]
   (repeat' with_reducible first|refine And.intro ?_ ?_|intro _)
   all_goals first|exact absurd ‹true=false› (by decide)|exact absurd ‹false=true› (by decide)|omega|(exfalso;omega)|exact bL (by decide)|assumption|exact r (P0 aa aa)|exact r (Ni aa aa aa)|exact⟨1,⟨bq,aa,⟨aa,aa,aa,aa⟩,fun j hj=>aa⟩,cT.vals rfl⟩|skip
   skip
  ·simp only[ag.all,ay,decide_eq_true_eq,decide_eq_false_iff_not,Bool.not_eq_true',Bool.not_eq_false',cond_true,cond_false,Int.toNat_natCast]
   (repeat' with_reducible first|refine And.intro ?_ ?_|intro _)
   all_goals first|exact absurd ‹true=false› (by decide)|exact absurd ‹false=true› (by decide)|omega|(exfalso;omega)|exact r (PD aa)|skip
   skip
 ·have hq:=h3;unfold nB at hq;have e1:i64.wrap ((i:Int)+1)=((i+1:Nat):Int):=by rw[wrap_i64 aa aa];rfl
  have e2:i64.wrap ((i:Int)-1)=(i:Int)-1:=wrap_i64 aa aa;have e3:((i:Int)-1).toNat=i-1:=aa;simp only[ag.all,ay,decide_eq_true_eq,decide_eq_false_iff_not,Int.toNat_natCast,oI,e1,e2,e3];refine⟨fun hi=>⟨aa,fun hlt=>⟨[.int .i64 5],ah,bP (vQ aa aa aa fun h=>?_).symm⟩,fun hge=>⟨i+1,⟨aa,aa,h3,fun j hj=>?_⟩,by dsimp only;omega,cT.vals rfl⟩⟩,fun hi=>⟨rfl,i,⟨h3,fun j hj=>h4 j aa⟩,cT.vals rfl⟩⟩
  ·have:=h.1 (i-1) aa;rw[show i-1+1=i by omega]at this;grind
  ·by_cases he:j+1=i
   ·subst he;rw[Nat.add_sub_cancel]at hge;grind
   ·exact h4 j aa
 rw[show behind Aq [1,1,1,1,0,1]=[qU]from by kernel_rfl];refine aG.weak rfl hle (aG.one ?_);refine ax.oy hT DW hm (x:=qU) [1,0,1] (i:=2) (y:=part qU [1,0,1,0,0]) ah ah ah hk (f1:=[]) (f2:=[47,58,65,71,77,80,87,92]) 60 um 1 (fun i:Nat=>FP n k p (bF k n) (cw k n) i) (fun _=>[]) (fun i=>i<=bF k n/\∀j,j<i->¬rN n k p.toNat j) (fun _=>∀j,j<bF k n->¬rN n k p.toNat j) (fun i=>bF k n-i) (lU f177 um (.int .i64 (fq n k p))) ⟨_,aip,?_⟩ (fun i ⟨h3,h4⟩=>⟨_,aiK,?_⟩) (fun i s' h3 hle=>?_) (fun v s' hv hs'=>hv.fin hs')
 ·simp only[ag.all,ay];exact⟨⟨bL bq,hn⟩,0,⟨Nat.zero_le _,fun j hj=>absurd hj (Nat.not_lt_zero j)⟩,cT.vals rfl⟩
 ·obtain⟨q,rfl⟩:∃q:Nat,p=(q:Int):=⟨p.toNat,by have:=h1.1;omega⟩
  have hq:=h1;unfold nB at hq;have hd:=o7 (k:=k) (n:=n);have e1:i64.wrap ((q:Int)+1)=((q+1:Nat):Int):=by rw[wrap_i64 aa aa];rfl
  have e2:i64.wrap ((i:Int)+1)=((i+1:Nat):Int):=by rw[wrap_i64 aa aa];rfl
  have e3:i64.wrap ((bF k n:Int)-1)=(bF k n:Int)-1:=wrap_i64 aa aa;have h4:∀j,j<i->¬rN n k q j:=fun j hj=>by have:=h4 j hj;rwa [Int.toNat_natCast]at this
  obtain⟨c,hc⟩:∃c,cJ k (cw k n i) n=c:=⟨_,rfl⟩
  have hc':cJ (fun i=>aF (rat (k i) sJ)) (cw k n i) n=c:=hc;have r:∀{v w x:AV},(i=0\/i+1=bF k n)/\c≠q+1\/q+1<c\/0<i/\i+1<bF k n/\q<c->i<bF k n->lU f177 um (.int .i64 (fq n k q)) ([.int .i64 5,v,w,x,.int .i64 i],[]):=fun h hi=>⟨[.int .i64 5],ah,bP (vQ aa aa aa fun hk=>hk.2.2 i hi ((OY aa h2 hi).1 (by rw[Int.toNat_natCast];unfold rN;rw[hc];exact h))).symm⟩
  have nx:¬((i=0\/i+1=bF k n)/\c≠q+1\/q+1<c\/0<i/\i+1<bF k n/\q<c)->∀j,j<i+1->¬rN n k ((q:Int)).toNat j:=fun h j hj=>by
   rw[Int.toNat_natCast];by_cases he:j=i
   ·subst he;unfold rN;rw[hc];exact h
   ·exact h4 j aa
  simp only[ag.all,ay,decide_eq_true_eq,decide_eq_false_iff_not,Bool.not_eq_true',Bool.not_eq_false',cond_true,cond_false,Int.toNat_natCast,hc',e1,e2,e3,bne_iff_ne,bne_eq_false_iff_eq,ne_eq,beq_iff_eq,beq_eq_false_iff_ne];clear hc hc'
  (repeat' with_reducible first|refine And.intro ?_ ?_|intro _)
  all_goals first
   |exact absurd ‹true=false› (by decide)
   |exact absurd ‹false=true› (by decide)
   |omega
   |(exfalso;omega)
   |exact bL (by decide)
   |assumption
   |exact⟨rfl,i,fun j hj=>h4 j aa,cT.vals rfl⟩
   |exact r aa aa
   |exact⟨i+1,⟨aa,nx aa⟩,by dsimp only;omega,cT.vals rfl⟩
   |skip
  skip
 ·rw[show behind qU [1,0,1]=[part qU [1,1]]from by kernel_rfl];refine aG.weak rfl hle ((aG.fin hT DW hm 60 U3 ah ?_).mono fun _ _ h=>.inl h);have hq:=h1;unfold nB at hq;have e:∀j,j<bF k n->¬jV n k p.toNat (cw k n j):=fun j hj h=>h3 j hj ((OY aa h2 hj).2 h);have e2:=ahv (k:=k) (n:=n) aa h2;simp only[ag.all,ay,decide_eq_true_eq,decide_eq_false_iff_not];refine⟨fun h=>bP (vQ aa aa aa fun hk=>hk.2.1 (e2.1 aa)).symm,fun h=>bP (Jb aa aa aa ⟨h2,fun h4=>h (by have:=e2.2 h4;omega),e⟩).symm⟩
def vg:Spec:=cz (kC (kL sJ) (kC kI kN)) (fun a=>.int .i64 (fq a.1.1 a.1.2 a.2.1)) fun a=>[a.1.1<2^40]
theorem D3:aW P vg 75:=cr fun⟨⟨n,k⟩,p,_⟩ K hn=>aj0 hn K
theorem aep:aW P vg 177:=cr fun⟨⟨n,k⟩,p,_⟩ K hn=>ajf hn K
end Go.Am.B
