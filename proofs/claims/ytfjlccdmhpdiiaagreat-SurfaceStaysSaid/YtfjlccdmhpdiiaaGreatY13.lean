/- Polar forms of neighbouring pieces say the same of lists that hold the knot between them (plain). -/
import Derived.Test.YtfjlccdmhpdiiaaGreatY11
import Derived.Test.YtfjlccdmhpdiiaaGreatY12
import Derived.Test.YtfjlccdmhpdiiaaGreatY9
set_option linter.unusedVariables false
variable {i j n na nb u v:Nat}{X k ku kv x:Nat->Rat}{z:Nat->Int}{f t:Rat}{a d:Int}{b:Bool}
noncomputable section
namespace Go.Am.B
def ot (k:Nat->Rat) (P m i:Nat):Rat:=if i<=P then k i else k (i+m)
theorem Du {k:Nat->Rat} {v:Rat}:∀{l a:Nat},(∀i,a<=i->i<a+l->k i=v)->aZ k a l=List.replicate l v
 |0,_,_=>rfl
 |l+1,a,h=>by
  rw[aZ,h a (Nat.le_refl _) (by omega),Du fun i h1 h2=>h i (by omega) (by omega)];rfl
theorem qJ {f g:Nat->Rat}:∀{l a b:Nat},(∀i,i<l->f (a+i)=g (b+i))->aZ f a l=aZ g b l
 |0,_,_,_=>rfl
 |l+1,a,b,h=>by
  rw[aZ,aZ,qJ (l:=l) (a:=a+1) (b:=b+1) fun i hi=>by
   have:=h (i+1) (by omega);rw[show a+1+i=a+(i+1) by omega,show b+1+i=b+(i+1) by omega];exact this]
  have:=h 0 (by omega);rw[Nat.add_zero,Nat.add_zero]at this;rw[this]
theorem qy {p P:Nat} (h:At n k P) (w1:p<=P) (w2:P+p<n) {l m:List Rat} (hp:l.Perm m) (hl:l.length=p):b7 k p x P l=b7 k p x P m:=
 o8 (show At n k (P-p+p) by rwa [show P-p+p=P by omega]) (by omega) hp (by omega)
theorem IK {p P:Nat} (h:At n k P) (w1:p<=P) (w2:P+p<n) {u v:Rat} {r l:List Rat} (hl:r.length+l.length+1=p):b7 k p x P (r++(u+f*(v-u))::l)=b7 k p x P (r++u::l)+f*(b7 k p x P (r++v::l)-b7 k p x P (r++u::l)):=by
 have e:∀w,b7 k p x P (r++w::l)=b7 k p x P (w::(r++l)):=fun w=>qy h w1 w2 List.perm_middle (by rw[List.length_append,List.length_cons];omega);rw[e,e,e];exact AP (by rw[List.length_append];exact hl)
theorem agX {p P m:Nat} {v:Rat} (h:At n k P) (h':At n k (P+m)) (w1:p<=P) (w2:P+m+p+1<n) (hm:m<=p) (hv:∀i,P+1<=i->i<=P+m->k i=v) {l:List Rat} (hl:l.length=p-m):
  b7 k p x P (List.replicate m v++l)=b7 k p x (P+m) (List.replicate m v++l):=by
 have hκ:At (n-m) (ot k P m) (P-(p-m)+(p-m)):=by
  rw[show P-(p-m)+(p-m)=P by omega];refine⟨by omega,fun i hi=>?_,?_⟩
  ·unfold ot;by_cases c:i+1<=P
   ·rw[if_pos (by omega),if_pos c];exact h.sorted i (by omega)
   ·by_cases c2:i<=P
    ·rw[if_pos c2,if_neg c];exact fT h.sorted (by omega) (by omega)
    ·rw[if_neg c2,if_neg c];exact fT h.sorted (by omega) (by omega)
  ·unfold ot;rw[if_pos (Nat.le_refl _),if_neg (by omega)];exact h.around (Nat.le_refl _) (by omega) (by omega)
 have win:∀j,j<=p-m->(List.replicate m v++aZ (ot k P m) (P-(p-m)+j+1) (p-m)).Perm (aZ k (P-(p-m)+j+1) p):=fun j hj=>by
  have e1:aZ (ot k P m) (P-(p-m)+j+1) (p-m)=aZ k (P-(p-m)+j+1) (p-m-j)++aZ k (P+m+1) j:=by
   rw[show p-m=(p-m-j)+j by omega,nT,show p-m-j+j=p-m by omega];congr 1
   ·exact qJ fun i hi=>by unfold ot;rw[if_pos (by omega)]
   ·exact qJ fun i hi=>by unfold ot;rw[if_neg (by omega)];congr 1;omega
  have e2:aZ k (P-(p-m)+j+1) p=aZ k (P-(p-m)+j+1) (p-m-j)++(List.replicate m v++aZ k (P+m+1) j):=by
   rw[show p=(p-m-j)+(m+j) by omega,nT,nT,show p-m-j+(m+j)=p by omega,show P-(p-m)+j+1+(p-m-j)=P+1 by omega,Du (a:=P+1) (l:=m) (v:=v) fun i h1 h2=>hv i h1 (by omega),show P+1+m=P+m+1 by omega]
  rw[e1,e2,<-List.append_assoc,<-List.append_assoc];exact List.perm_append_comm.append_right _
 have hlen:(List.replicate m v).length=m:=List.length_replicate;have key:∀{R:Nat},At n k R->p<=R->R+p<n->P<=R->R<=P+m->bl (ot k P m) (P-(p-m)) (p-m) 0 (fun j=>x (P-(p-m)+j)) l (p-m)=b7 k p x R (List.replicate m v++l):=fun {R} hR r1 r2 r3 r4=>by
  have:=xh (k:=ot k P m) (b:=P-(p-m)) (p:=p-m) (n:=n-m) (G:=fun l=>b7 k p x R (List.replicate m v++l)) (fun {a b} hab hl=>qy hR r1 r2 (hab.append_left _) (by rw[List.length_append,hlen];omega)) (fun {u w f a} ha=>IK hR r1 r2 (by omega)) hκ (by omega) (l:=l) (d:=[]) (r:=0) (y:=fun j=>x (P-(p-m)+j)) rfl (by omega) fun j _ hj=>by
   show _=b7 k p x R (List.replicate m v++([]++aZ (ot k P m) (P-(p-m)+j+1) (p-m-0)));rw[List.nil_append,Nat.sub_zero,qy hR r1 r2 (win j hj) (by rw[List.length_append,hlen,iy];omega)];exact(tY hR r1 r2 (by omega) (by omega)).symm
  exact this
 rw[<-key h w1 (by omega) (Nat.le_refl _) (by omega),<-key h' (by omega) (by omega) (by omega) (Nat.le_refl _)]
def fA (G:List Rat->Rat):List Rat->List Rat->Rat
 |_,[]=>0
 |a,t::l=>G (a++l)+fA G (t::a) l
def kV (g:Nat->Rat):Nat->Nat->Rat
 |_,0=>0
 |i,n+1=>g i+kV g (i+1) n
theorem Gu {g h:Nat->Rat}:∀{n i:Nat},(∀j,i<=j->j<i+n->g j=h j)->kV g i n=kV h i n
 |0,_,_=>rfl
 |n+1,i,e=>by rw[kV,kV,e i (Nat.le_refl _) (by omega),Gu fun j h1 h2=>e j (by omega) (by omega)]
section
variable {p:Nat} {G:List Rat->Rat} (hsym:∀{l m:List Rat},l.Perm m->l.length=p->G l=G m)
include hsym
theorem Sb:∀{l a b:List Rat},a.Perm b->a.length+l.length=p+1->fA G a l=fA G b l
 |[],_,_,_,_=>rfl
 |t::l,a,b,h,hl=>by
  rw[List.length_cons]at hl;rw[fA,fA,hsym (h.append_right l) (by rw[List.length_append];omega),Sb (h.cons t) (by rw[List.length_cons];omega)]
theorem T9 {l m:List Rat} (h:l.Perm m):∀{a:List Rat},a.length+l.length=p+1->fA G a l=fA G a m:=by
 induction h with
 |nil=>intro a _;rfl
 |@cons t l m h ih=>
  intro a hl;rw[List.length_cons]at hl;rw[fA,fA,hsym (h.append_left a) (by rw[List.length_append];omega),ih (by rw[List.length_cons];omega)]
 |swap x y l=>
  intro a hl;rw[List.length_cons,List.length_cons]at hl;have e1:G (a++x::l)=G (x::a++l):=hsym List.perm_middle (by rw[List.length_append,List.length_cons];omega);have e2:G (a++y::l)=G (y::a++l):=hsym List.perm_middle (by rw[List.length_append,List.length_cons];omega);have e3:fA G (x::y::a) l=fA G (y::x::a) l:=Sb hsym (List.Perm.swap _ _ _) (by rw[List.length_cons,List.length_cons];omega);rw[fA,fA,fA,fA,e1,e2,e3];grind
 |trans h1 _ ih1 ih2=>
  intro a hl;rw[ih1 hl,ih2 (by rw[<-h1.length_eq];exact hl)]
theorem Ky {w:Nat->Rat}:∀{n i:Nat},i+n=p+1->fA G (jc w 0 i) (aZ w i n)=kV (fun i=>G (aZ (fun r=>if r<i then w r else w (r+1)) 0 p)) i n
 |0,_,_=>rfl
 |n+1,i,h=>by
  have e:(jc w 0 i++aZ w (i+1) n).Perm (aZ (fun r=>if r<i then w r else w (r+1)) 0 p):=by
   rw[show p=i+n by omega,nT,qJ (f:=fun r=>if r<i then w r else w (r+1)) (g:=w) (a:=0) (b:=0) (l:=i) fun q hq=>by rw[Nat.zero_add];exact if_pos hq,qJ (f:=fun r=>if r<i then w r else w (r+1)) (g:=w) (a:=0+i) (b:=i+1) (l:=n) fun q hq=>by
    show(if 0+i+q<i then w (0+i+q)else w (0+i+q+1))=_;rw[if_neg (by omega)];congr 1;omega]
   exact oe.append_right _
  have ih:=Ky (w:=w) (n:=n) (i:=i+1) (by omega);rw[jc,Nat.zero_add]at ih;rw[aZ,fA,kV,hsym e (by rw[List.length_append,oe.length_eq,iy,iy];omega),ih]
end
theorem LH {p:Nat} {G:List Rat->Rat} (haff:∀{u v f:Rat} {r l:List Rat},r.length+l.length+1=p->G (r++(u+f*(v-u))::l)=G (r++u::l)+f*(G (r++v::l)-G (r++u::l))) {u v f:Rat}:
  ∀{l a:List Rat},a.length+1+l.length=p+1->fA G (a++[u+f*(v-u)]) l=fA G (a++[u]) l+f*(fA G (a++[v]) l-fA G (a++[u]) l)
 |[],_,_=>by show(0:Rat)=0+f*(0-0);grind
 |t::l,a,h=>by
  rw[List.length_cons]at h;have ih:=LH haff (u:=u) (v:=v) (f:=f) (l:=l) (a:=t::a) (by rw[List.length_cons];omega);have e:=haff (u:=u) (v:=v) (f:=f) (r:=a) (l:=l) (by omega);have x:∀w,fA G (a++[w]) (t::l)=G (a++w::l)+fA G (t::a++[w]) l:=fun w=>by
   rw[fA,List.append_assoc];rfl
  rw[x,x,x,ih,e];grind
theorem LM {G:List Rat->Rat} {t:Rat}:∀{n i p:Nat},i+n=p+1->fA G (List.replicate i t) (List.replicate n t)=n*G (List.replicate p t)
 |0,_,_,_=>by show(0:Rat)=((0:Nat):Rat)*_;rw[show((0:Nat):Rat)=0 from rfl,Rat.zero_mul]
 |n+1,i,p,h=>by
  have ih:=LM (G:=G) (t:=t) (n:=n) (i:=i+1) (p:=p) (by omega);rw[List.replicate_succ,fA,<-List.replicate_succ,ih,List.replicate_append_replicate,show i+n=p by omega,show((n+1:Nat):Rat)=(n:Rat)+1 by exact_mod_cast rfl];grind
def dD (k:Nat->Rat) (n P:Nat):Nat:=P+bS k n (P+1)
theorem xu {p P:Nat} (h:Kn n p k) (hA:At n k P):Src k n (dD k n P) P/\At (n+bS k n n) (bt k n n) (dD k n P):=by
 have hlt:=hA.lt;have hw:=hA.wide;have e:=rW (k:=k) (n:=n) (i:=P) (.inr (fun e=>by rw[e]at hw;exact Rat.lt_irrefl hw));have hs:Src k n (dD k n P) P:=⟨by omega,by unfold dD;omega,by unfold dD;omega⟩
 have hm2:=pF (k:=k) (n:=n) (show P+1<=n by omega);have hst:=(nY (k:=k) (n:=n) (i:=P+1)).1;refine⟨hs,by unfold dD;omega,(oB h).sorted,?_⟩;rw[hs.val,k7 (k:=k) (n:=n) (i:=P+1) (q:=dD k n P+1) (m:=n) hlt (by unfold dD;omega) (by unfold dD;omega)];exact hw
theorem Vf {p P s:Nat} (h:Kn n p k) (hs:Src k n s P) (hA:At (n+bS k n n) (bt k n n) s):At n k P/\s=dD k n P:=by
 have hw:=hA.wide;have hlt:=hA.lt;rcases hs.next hlt with g|⟨g,e⟩
 ·rw[g.val,hs.val]at hw;exact absurd hw Rat.lt_irrefl
 ·have hv:=hw;rw[g.val,hs.val]at hv;exact⟨⟨g.1,h.sorted,hv⟩,by unfold dD;omega⟩
theorem K3 {n P:Nat} {k:Nat->Rat} (hA:At n k P):∀{d q:Nat},q+d=P->∃P2,q<=P2/\P2<=P/\At n k P2/\∀i,q<=i->i<=P2->k i=k q
 |0,q,h=>⟨P,by omega,Nat.le_refl _,hA,fun i h1 h2=>by rw[show i=q by omega]⟩
 |d+1,q,h=>by
  have hlt:=hA.lt;have hle:=hA.sorted q (by omega);by_cases c:k q<k (q+1)
  ·exact⟨q,Nat.le_refl _,by omega,⟨by omega,hA.sorted,c⟩,fun i h1 h2=>by rw[show i=q by omega]⟩
  ·have e:k (q+1)=k q:=by grind
   obtain⟨P2,h1,h2,h3,h4⟩:=K3 hA (d:=d) (q:=q+1) (by omega);refine⟨P2,by omega,h2,h3,fun i g1 g2=>?_⟩;by_cases e2:i=q
   ·rw[e2]
   ·rw[h4 i (by omega) g2,e]
theorem ahh {P P2:Nat} (h1:P<P2) (hA:At n k P2) (he:∀i,P+1<=i->i<=P2->k i=k (P+1)):dD k n P2=dD k n P+(P2-P)+1:=by
 have hlt:=hA.lt;have hw:=hA.wide;have e:=rW (k:=k) (n:=n) (i:=P2) (.inr (fun e=>by rw[e]at hw;exact Rat.lt_irrefl hw));have f:=CO (k:=k) (n:=n) (i:=P+1) (j:=P2) (by omega) fun q g1 g2=>by
  rintro(g|g)
  ·omega
  ·exact g (by rw[he q g1 (by omega),he (q+1) (by omega) (by omega)])
 unfold dD;omega
theorem QO {n p j i:Nat} {k x:Nat->Rat} (hK:Kn n p k) (hi:i<=p):∀{d P P':Nat},P'=P+d->At n k P->At n k P'->j<=dD k n P->dD k n P'<=j+p+1->b7 k p x P (aZ (ey (bt k n n) j i) 0 p)=b7 k p x P' (aZ (ey (bt k n n) j i) 0 p)
 |d,P,P',hd,hP,hP',h1,h2=>by
  by_cases c:P=P'
  ·rw[c]
  ·obtain⟨P2,g1,g2,g3,g4⟩:=K3 hP' (d:=P'-(P+1)) (q:=P+1) (by omega);have s1:=ahh (show P<P2 by omega) g3 g4;obtain⟨w1,w2⟩:=hK.nu hP;obtain⟨v1,v2⟩:=hK.nu g3;obtain⟨q1,q2⟩:=xu hK hP;obtain⟨r1,r2⟩:=xu hK g3;have hle:dD k n P2<=dD k n P':=by
    unfold dD;have:=pF (k:=k) (n:=n) (show P2+1<=P'+1 by omega);omega
   have hF:=oB hK;have hFv:∀Q,dD k n P+1<=Q->Q<=dD k n P2->bt k n n Q=k (P+1):=fun Q a1 a2=>by
    have b1:bt k n n (dD k n P2)=k (P+1):=by rw[r1.val];exact g4 P2 g1 (Nat.le_refl _)
    have b2:bt k n n (dD k n P+1)=k (P+1):=by
     rcases q1.next q2.lt with g|⟨g,_⟩
     ·have:=q2.wide;rw[g.val,q1.val]at this;exact absurd this Rat.lt_irrefl
     ·exact g.val
    have m1:=hF.mono a1 (by have:=r2.lt;omega);have m2:=hF.mono a2 (by have:=r2.lt;omega);rw[b2]at m1;rw[b1]at m2;exact Rat.le_antisymm m2 m1
   obtain⟨m,hm⟩:∃m,m=P2-P:=⟨_,rfl⟩
   obtain⟨a,ha⟩:∃a,a=dD k n P-j:=⟨_,rfl⟩
   have ham:a+m<=p:=by omega
   have hrep:aZ (ey (bt k n n) j i) a m=List.replicate m (k (P+1)):=Du fun r b1 b2=>by
    unfold ey;split
    ·exact hFv _ (by omega) (by omega)
    ·exact hFv _ (by omega) (by omega)
   have hsplit:(aZ (ey (bt k n n) j i) 0 p).Perm (List.replicate m (k (P+1))++(aZ (ey (bt k n n) j i) 0 a++aZ (ey (bt k n n) j i) (a+m) (p-a-m))):=by
    have e:aZ (ey (bt k n n) j i) 0 p=aZ (ey (bt k n n) j i) 0 a++(List.replicate m (k (P+1))++aZ (ey (bt k n n) j i) (a+m) (p-a-m)):=by
     rw[<-hrep]
     conv=>lhs;rw[show p=a+(m+(p-a-m)) by omega]
     rw[nT,nT,Nat.zero_add]
    rw[e,<-List.append_assoc,<-List.append_assoc];exact List.perm_append_comm.append_right _
   have hlen:(aZ (ey (bt k n n) j i) 0 a++aZ (ey (bt k n n) j i) (a+m) (p-a-m)).length=p-m:=by
    rw[List.length_append,iy,iy];omega
   have nb:=agX (x:=x) hP (m:=m) (v:=k (P+1)) (by rw[hm,show P+(P2-P)=P2 by omega];exact g3) w1 (by omega) (by omega) (fun q b1 b2=>g4 q b1 (by omega)) hlen;have step:b7 k p x P (aZ (ey (bt k n n) j i) 0 p)=b7 k p x P2 (aZ (ey (bt k n n) j i) 0 p):=by
    rw[qy hP w1 (by omega) hsplit (by rw[iy]),qy g3 v1 (by omega) hsplit (by rw[iy]),nb,hm,show P+(P2-P)=P2 by omega]
   rw[step];exact QO hK hi (d:=P'-P2) (by omega) g3 hP' (by omega) h2
 termination_by d P P'=>P'-P
end Go.Am.B
namespace Go.Am.B
theorem af4 {p P:Nat} (hK:Kn n p k) (hP:At n k P)
  (hX:∀j,j<=dD k n P->dD k n P<=j+p+1->∃P1,P1<=P/\At n k P1/\j<=dD k n P1/\X j=f*kV (fun i=>b7 k p x P1 (aZ (ey (bt k n n) j i) 0 p)) 0 (p+1)) {l:List Rat} (hl:l.length=p+1):
  b7 (bt k n n) (p+1) X (dD k n P) l=f*fA (b7 k p x P) [] l:=by
 obtain⟨w1,w2⟩:=hK.nu hP;obtain⟨q1,q2⟩:=xu hK hP;have hF:=oB hK;obtain⟨v1,v2⟩:=hF.nu q2;have hsym:∀{l m:List Rat},l.Perm m->l.length=p->b7 k p x P l=b7 k p x P m:=fun h hl=>qy hP w1 (by omega) h hl;have haff:∀{u v g:Rat} {r l:List Rat},r.length+l.length+1=p->b7 k p x P (r++(u+g*(v-u))::l)=b7 k p x P (r++u::l)+g*(b7 k p x P (r++v::l)-b7 k p x P (r++u::l)):=fun h=>IK hP w1 (by omega) h;have:=xh (k:=bt k n n) (b:=dD k n P-(p+1)) (p:=p+1) (n:=n+bS k n n) (G:=fun l=>f*fA (b7 k p x P) [] l) (fun {a b} hab ha=>by
  show f*_=f*_;rw[T9 hsym hab (by show 0+a.length=p+1;omega)]) (fun {u v g a} ha=>by
  have e:=LH haff (u:=u) (v:=v) (f:=g) (l:=a) (a:=[]) (by show 0+1+a.length=p+1;omega);have s:∀w,fA (b7 k p x P) [] (w::a)=b7 k p x P a+fA (b7 k p x P) ([]++[w]) a:=fun w=>rfl;show f*_=f*_+g*(f*_-f*_);rw[s,s,s,e];grind) (by rwa [show dD k n P-(p+1)+(p+1)=dD k n P by omega]) (by omega) (l:=l) (d:=[]) (r:=0) (y:=fun j=>X (dD k n P-(p+1)+j)) rfl (by omega) fun j _ hj=>by
  obtain⟨P1,a1,a2,a3,a4⟩:=hX (dD k n P-(p+1)+j) (by omega) (by omega);show X (dD k n P-(p+1)+j)=f*fA (b7 k p x P) [] ([]++aZ (bt k n n) (dD k n P-(p+1)+j+1) (p+1-0));obtain⟨J,hJ⟩:∃J,J=dD k n P-(p+1)+j:=⟨_,rfl⟩
  rw[<-hJ]at a3 a4 ⊢;rw[a4,List.nil_append,Nat.sub_zero];have e1:aZ (bt k n n) (J+1) (p+1)=aZ (fun r=>bt k n n (J+1+r)) 0 (p+1):=qJ fun i _=>by rw[Nat.zero_add]
  have e2:=Ky hsym (w:=fun r=>bt k n n (J+1+r)) (n:=p+1) (i:=0) (by omega);rw[e1];have e3:fA (b7 k p x P) [] (aZ (fun r=>bt k n n (J+1+r)) 0 (p+1))=kV (fun i=>b7 k p x P1 (aZ (ey (bt k n n) J i) 0 p)) 0 (p+1):=by
   refine Eq.trans (show _=fA (b7 k p x P) (jc (fun r=>bt k n n (J+1+r)) 0 0) (aZ (fun r=>bt k n n (J+1+r)) 0 (p+1))from rfl) (e2.trans (Gu fun i _ hi=>?_));rw[QO (x:=x) hK (i:=i) (by omega) (d:=P-P1) (by omega) a2 hP a3 (by omega)];congr 1;exact qJ fun r _=>by
    show(if 0+r<i then bt k n n (J+1+(0+r))else bt k n n (J+1+(0+r+1)))=ey (bt k n n) J i (0+r);unfold ey;by_cases c:0+r<i
    ·rw[if_pos c,if_pos c]
    ·rw[if_neg c,if_neg c,show J+1+(0+r+1)=J+2+(0+r) by omega]
  rw[e3]
 exact this
theorem ace {p P:Nat} (hf:f*((p+1:Nat):Rat)=1) (hK:Kn n p k) (hP:At n k P)
  (hX:∀j,j<=dD k n P->dD k n P<=j+p+1->∃P1,P1<=P/\At n k P1/\j<=dD k n P1/\X j=f*kV (fun i=>b7 k p x P1 (aZ (ey (bt k n n) j i) 0 p)) 0 (p+1)):
  b7 (bt k n n) (p+1) X (dD k n P) (List.replicate (p+1) t)=b7 k p x P (List.replicate p t):=by
 rw[af4 hK hP hX (by rw[List.length_replicate])];have e:=LM (G:=b7 k p x P) (t:=t) (n:=p+1) (i:=0) (p:=p) (by omega);have e2:fA (b7 k p x P) [] (List.replicate (p+1) t)=((p+1:Nat):Rat)*b7 k p x P (List.replicate p t):=e;rw[e2,<-Rat.mul_assoc,hf,Rat.one_mul]
theorem RV {f:Rat->Rat} {k:Nat->Rat}:∀{l a:Nat},(aZ k a l).map f=aZ (fun i=>f (k i)) a l
 |0,_=>rfl
 |l+1,a=>by rw[aZ,List.map_cons,RV,aZ]
theorem Oi {k:Nat->Rat} {c:Nat}:∀{l a:Nat},a+l<=c+1->aZ (fun i=>k (c-i)) a l=jc k (c+1-a-l) l
 |0,_,_=>rfl
 |l+1,a,h=>by
  rw[aZ,Oi (l:=l) (a:=a+1) (by omega),jc];congr 1
  ·congr 1;omega
  ·congr 1;omega
theorem XG {p P:Nat} {k' x':Nat->Rat} {σ:Rat} (h:At n k P) (w1:p<=P) (w2:P+p+1<n) (hk:∀i,i<n->k' i=σ-k (n-1-i)) (hx:∀j,j+p+1<n->x' j=x (n-p-2-j)) {l:List Rat} (hl:l.length=p):
  b7 k' p x' (n-2-P) l=b7 k p x P (l.map fun t=>σ-t):=by
 have hA:At n k' (n-2-P):=⟨by omega,fun i hi=>by
  rw[hk i (by omega),hk (i+1) hi];have:=h.sorted (n-1-(i+1)) (by omega);rw[show n-1-(i+1)+1=n-1-i by omega]at this;grind,by
  rw[hk _ (by omega),hk _ (by omega),show n-1-(n-2-P)=P+1 by omega,show n-1-(n-2-P+1)=P by omega];have:=h.wide;grind⟩
 have:=xh (k:=k') (b:=n-2-P-p) (p:=p) (n:=n) (G:=fun l=>b7 k p x P (l.map fun t=>σ-t)) (fun {a b} hab ha=>qy h w1 (by omega) (hab.map _) (by rw[List.length_map];exact ha)) (fun {u v f a} ha=>by
  show b7 k p x P ((σ-(u+f*(v-u)))::a.map _)=b7 k p x P ((σ-u)::a.map _)+f*(b7 k p x P ((σ-v)::a.map _)-b7 k p x P ((σ-u)::a.map _));rw[show σ-(u+f*(v-u))=(σ-u)+f*((σ-v)-(σ-u)) by grind];exact IK (r:=[]) h w1 (by omega) (by show 0+_+1=p;rw[List.length_map];omega)) (by rwa [show n-2-P-p+p=n-2-P by omega]) (by omega) (l:=l) (d:=[]) (r:=0) (y:=fun j=>x' (n-2-P-p+j)) rfl (by omega) fun j _ hj=>by
  show x' (n-2-P-p+j)=b7 k p x P (([]++aZ k' (n-2-P-p+j+1) (p-0)).map fun t=>σ-t);rw[List.nil_append,Nat.sub_zero,hx _ (by omega),RV];have e:aZ (fun i=>σ-k' i) (n-2-P-p+j+1) p=aZ (fun i=>k (n-1-i)) (n-2-P-p+j+1) p:=qJ fun i hi=>by
   show σ-k' (n-2-P-p+j+1+i)=_;rw[hk _ (by omega)];grind
  rw[e,Oi (by omega),qy h w1 (by omega) oe (by rw[oe.length_eq,iy])];rw[show n-1+1-(n-2-P-p+j+1)-p=n-p-2-(n-2-P-p+j)+1 by omega];exact(tY h w1 (by omega) (by omega) (by omega)).symm
 exact this
open Go Go.Am.N AV ag au IntKind Proofs.Tryz
theorem ai1 {y:Nat->Rat} {p P:Nat} {l:List Rat} (hl:l.length=p) (h:∀q,q<=p->x (P-p+q)=y (P-p+q)):b7 k p x P l=b7 k p y P l:=
 Bw aa fun j _ hj=>h j hj
theorem xW {f g:Nat->Rat}:∀{n:Nat},(∀j,j<n->f j=g j)->bU n f=bU n g
 |0,_=>rfl
 |n+1,h=>by rw[bU,bU,xW fun j hj=>h j aa,h n aa]
theorem BA {p P:Nat} (w1:p<=P):b7 k p x P (List.replicate p t)=bU (p+1) fun j=>x (P-p+j)*vB k P t p j:=by
 have e:=adk (k:=k) (b:=P-p) (p:=p) P aa t (x:=fun q=>x (P-p+q));rw[BL,Du fun _ _ _=>rfl]at e;exact e
theorem Fs {p P:Nat} (h:Kn n p k) (hA:At n k P) (h0:k P<=t) (h1:t<=k (P+1)) (hin:¬bf n k t):b7 k p x P (List.replicate p t)=b7 k p x (bJ n k t) (List.replicate p t):=by
 obtain⟨w1,w2⟩:=h.nu hA;have hi:=h.xp hin;have hv:=h.lf hin;rw[BA w1,BA hv.1];exact ae2 h w1 w2 hA.wide h0 h1 hi hv.1 hv.2
theorem qK {c:Cu} (h:Kn c.n c.p.toNat c.k) (hin:¬bf c.n c.k t) (e:Nat):bY (cL c t) e=b7 c.k c.p.toNat (fun i=>bY (cy (c.f i)) e) (bJ c.n c.k t) (List.replicate c.p.toNat t):=by
 have hv:=h.lf hin;rw[BA hv.1]
 match e with
 |0=>exact xW fun j _=>Rat.mul_comm _ _
 |1=>exact xW fun j _=>Rat.mul_comm _ _
 |2=>exact xW fun j _=>Rat.mul_comm _ _
 |e+3=>exact xW fun j _=>Rat.mul_comm _ _
theorem VR {c d:Cu} {u:Rat} (hc:¬bf c.n c.k t) (hd:¬bf d.n d.k u) (h:∀e,bY (cL d u) e=bY (cL c t) e):kU d u=kU c t:=by
 have e1:kU d u=lQ (cL d u):=if_neg hd;have e2:kU c t=lQ (cL c t):=if_neg hc;have e3:cL d u=cL c t:=by
  show(⟨⟨bY (cL d u) 0,bY (cL d u) 1,bY (cL d u) 2⟩,bY (cL d u) 3⟩:Pl)=⟨⟨bY (cL c t) 0,bY (cL c t) 1,bY (cL c t) 2⟩,bY (cL c t) 3⟩
  rw[h 0,h 1,h 2,h 3]
 rw[e1,e2,e3]
theorem alM {c d:Cu} (hc:Kn c.n c.p.toNat c.k) (hd:Kn d.n c.p.toNat d.k) (hp:d.p=c.p) (hs:pT c.p.toNat c.n c.k (fun e i=>bY (cy (c.f i)) e) d.n d.k (fun e i=>bY (cy (d.f i)) e)) (h1:¬bf c.n c.k t) (h2:¬bf d.n d.k t) (e:Nat):bY (cL d t) e=bY (cL c t) e:=by
 have hd':Kn d.n d.p.toNat d.k:=by rw[hp];exact hd
 rw[qK hc h1,qK hd' h2,hp];have hi:=hd.xp h2;obtain⟨P,p1,p2,p3,p4⟩:=hs _ hi.at_;rw[p4 e _ List.length_replicate];exact Fs hc p1 (Rat.le_trans p2 hi.lo) (Rat.le_trans hi.hi p3) h1
theorem air {c:Cu} (h:jM c) (hw:∀i,0<(c.f i).d) (he:ig c t=0):Kn (gx c t).n c.p.toNat (gx c t).k/\pT c.p.toNat c.n c.k (fun e i=>bY (cy (c.f i)) e) (gx c t).n (gx c t).k (fun e i=>bY (cy ((gx c t).f i)) e):=by
 obtain⟨e1,e2,e3,e4⟩:=CN he;obtain⟨k1,k2,k3,k4,k5⟩:=id h;obtain⟨i1,i2,i3⟩:=B1 k1 e1 e2;rw[show gx c t=vr c t (bJ c.n c.k t)from if_pos he];have hpos:∀i,0<(nj c t (bJ c.n c.k t) i).d:=fun i=>N7 h hw e1 e2 i1 i2 i3;refine⟨k1.dO e1 e2 i1 i2 i3 e3,?_⟩;have key:=pT.ins (x:=fun e i=>bY (cy (c.f i)) e) (t:=t) pT.refl k1 e1 e2 i1 i2 i3 e3;have ef:(fun e i=>bY (cy ((vr c t (bJ c.n c.k t)).f i)) e)=fun e=>kY c.k c.p.toNat (fun i=>bY (cy (c.f i)) e) t (bJ c.n c.k t):=by
  funext e i;show bY (cy (dG (nj c t (bJ c.n c.k t) i))) e=_;rw[Ey (zN (hpos i))]
  match e with
  |0=>rfl
  |1=>rfl
  |2=>rfl
  |e+3=>rfl
 rw[ef];exact key
theorem akM {c:Cu} {u:Rat} (h:jM c) (hw:∀i,0<(c.f i).d) (he:ig c u=0) (hin:¬bf c.n c.k t):¬bf (gx c u).n (gx c u).k t/\∀e,bY (cL (gx c u) t) e=bY (cL c t) e:=by
 obtain⟨s1,s2⟩:=air h hw he;obtain⟨b1,b2,b3,b4,b5,b6⟩:=afM h he;have hi:¬bf (gx c u).n (gx c u).k t:=by
  unfold bf;rw[b5,b6];exact hin
 exact⟨hi,alM h.1 s1 b1 s2 hin hi⟩
theorem PE {f:Rat} {x:Nat->Pl} {e:Nat}:∀{n i:Nat},bY (ja f x (i+n)) e=bY (ja f x i) e+f*kV (fun j=>bY (x j) e) i n
 |0,i=>by rw[kV,Rat.mul_zero,Rat.add_zero];rfl
 |n+1,i=>by
  have s:bY (ja f x (i+1)) e=bY (ja f x i) e+f*bY (x i) e:=by
   match e with
   |0=>rfl
   |1=>rfl
   |2=>rfl
   |e+3=>rfl
  rw[show i+(n+1)=i+1+n by omega,PE (n:=n) (i:=i+1),s,kV];grind
theorem UW {c:Cu} (hc:jM c) (hj:j<(gJ (eR c)).m) (e:Nat):∃P1,At c.n c.k P1/\j<=dD c.k c.n P1/\(∀Q,At c.n c.k Q->j<=dD c.k c.n Q->P1<=Q)/\bY ((gJ (eR c)).f j) e=((1:Int):Rat)/((c.p+1:Int):Rat)*kV (fun i=>b7 c.k c.p.toNat (fun i=>bY (cy (c.f i)) e) P1 (aZ (ey (bt c.k c.n c.n) j i) 0 c.p.toNat)) 0 (c.p.toNat+1):=by
 obtain⟨k1,k2,k3,k4,k5⟩:=id hc;have hj:j<oR (eR c)-(c.p.toNat+1)-1:=hj;have hN:oR (eR c)=c.n+bS c.k c.n c.n:=rfl;have hK:=oB k1;rw[hN]at hj;have hsup:=hK.Bb (j:=j) aa;obtain⟨g1,g2,g3,g4⟩:=Gl hK.sorted hsup aa;obtain⟨s,hs⟩:∃s,s=fj (bt c.k c.n c.n) (c.n+bS c.k c.n c.n) j:=⟨_,rfl⟩
 rw[<-hs]at g1 g2 g3 g4;have hFA:At (c.n+bS c.k c.n c.n) (bt c.k c.n c.n) s:=⟨aa,hK.sorted,g3⟩
 obtain⟨P,a1,a2,a3⟩:=yN (k:=c.k) (n:=c.n) (Q:=s) (m:=c.n) aa;have hP:Src c.k c.n s P:=⟨a1,a2,a3⟩
 obtain⟨hA,es⟩:=Vf k1 hP hFA;have hI:fY c.n c.k (bt c.k c.n c.n s)=P:=by
  rw[hP.val];unfold fY;rw[if_neg,yQ hA];have:=hA.lt;rintro(h|h)
  ·exact absurd (k1.mono (Nat.zero_le P) aa) (Rat.not_le.2 h)
  ·exact absurd (k1.mono (show P<=c.n-1 by omega) aa) (Rat.not_le.2 h)
 refine⟨P,hA,aa,fun Q hQ hjQ=>?_,?_⟩
 ·by_cases c1:P<=Q
  ·exact c1
  ·exfalso;obtain⟨r1,r2⟩:=xu k1 hQ;have hlt:dD c.k c.n Q<s:=by
    rw[es];unfold dD;have:=pF (k:=c.k) (n:=c.n) (show Q+1<=P+1 by omega);omega
   have m1:=g4 _ hjQ aa;have m2:=g4 (dD c.k c.n Q+1) aa aa;have:=r2.wide;rw[m1,m2]at this;exact Rat.lt_irrefl this
 ·have ef:(gJ (eR c)).f j=ja (((1:Int):Rat)/((c.p+1:Int):Rat)) (nL (eR c) (P:Nat) (c.p.toNat+1) (bt c.k c.n c.n) j) (c.p.toNat+1):=by
   rw[<-hI,hs];rfl
  have e0:=PE (f:=((1:Int):Rat)/((c.p+1:Int):Rat)) (x:=nL (eR c) (P:Nat) (c.p.toNat+1) (bt c.k c.n c.n) j) (e:=e) (n:=c.p.toNat+1) (i:=0);rw[Nat.zero_add]at e0;have z:∀e,bY (ja (((1:Int):Rat)/((c.p+1:Int):Rat)) (nL (eR c) (P:Nat) (c.p.toNat+1) (bt c.k c.n c.n) j) 0) e=0:=fun e=>match e with
   |0=>rfl
   |1=>rfl
   |2=>rfl
   |_+3=>rfl
  rw[ef,e0,z,Rat.zero_add];congr 1;refine Gu fun i _ hi=>?_;have key:∀e,gO (eR c) (P:Nat) c.p.toNat (fun u=>jH (fun v=>bt c.k c.n c.n (v+(j+1))) i (c.p.toNat+1) u) e=b7 c.k c.p.toNat (fun i=>bY (cy (c.f i)) e) P (aZ (ey (bt c.k c.n c.n) j i) 0 c.p.toNat):=fun e=>by
   rw[KS (c:=eR c) k1 k2 k5 hA];have e1:aZ (fun u=>jH (fun v=>bt c.k c.n c.n (v+(j+1))) i (c.p.toNat+1) u) 0 c.p.toNat=aZ (ey (bt c.k c.n c.n) j i) 0 c.p.toNat:=uW fun u h1 h2=>by
    unfold jH ey;rw[if_neg aa];by_cases c:u<i
    ·rw[if_neg aa,if_pos c,<-Nat.add_comm u (j+1)]
    ·rw[if_pos aa,if_neg c,<-show u+1+(j+1)=j+2+u by omega]
   show b7 c.k c.p.toNat (fun i=>bY (cy (c.f i)) e) P (aZ (fun u=>jH (fun v=>bt c.k c.n c.n (v+(j+1))) i (c.p.toNat+1) u) 0 c.p.toNat)=_;rw[e1]
  match e with
  |0=>exact key 0
  |1=>exact key 1
  |2=>exact key 2
  |e+3=>exact key 3
theorem KM {p:Nat} (h:Kn n p k) (hin:¬bf n k t):k 0<=t/\t<=k (n-1):=by
 unfold bf at hin;constructor
 ·exact Rat.not_lt.1 fun h=>hin (.inl h)
 ·exact Rat.not_lt.1 fun h=>hin (.inr h)
theorem JY (h0:k 0<=t) (h1:t<=k (n-1)):¬bf n k t:=fun h=>h.elim (fun g=>absurd h0 (Rat.not_le.2 g)) fun g=>absurd h1 (Rat.not_le.2 g)
theorem aag {p:Nat} (h:Kn n p k):bt k n n 0=k 0/\bt k n n (n+bS k n n-1)=k (n-1):=by
 have hl:=h.len;refine⟨k7 (k:=k) (n:=n) (i:=0) (q:=0) aa bq aa,k7 (k:=k) (n:=n) (i:=n-1) aa ?_ ?_⟩
 ·have:=pF (k:=k) (n:=n) (show n-1<=n by omega);omega
 ·rw[show n-1+1=n by omega];omega
theorem Uj {c:Cu} (hc:jM c) (hw:∀i,0<(c.f i).d) (hp:¬6<=c.p) (hin:¬bf c.n c.k t):jM (fC c)->¬bf (fC c).n (fC c).k t/\∀e,bY (cL (fC c) t) e=bY (cL c t) e:=by
 intro hE;obtain⟨k1,k2,k3,k4,k5⟩:=id hc;rw[show fC c=qu (gJ (eR c))from if_neg hp]at hE ⊢;have hF:=oB k1;obtain⟨f0,f1⟩:=aag k1;obtain⟨b0,b1⟩:=KM k1 hin;have hd:¬bf (qu (gJ (eR c))).n (qu (gJ (eR c))).k t:=JY (by show bt c.k c.n c.n 0<=t;rw[f0];exact b0) (by show t<=bt c.k c.n c.n (c.n+bS c.k c.n c.n-1);rw[f1];exact b1);refine⟨hd,fun e=>?_⟩;have hp1:(c.p+1).toNat=c.p.toNat+1:=aa;rw[qK k1 hin,qK hE.1 hd];have hi:=k1.xp hin;obtain⟨q1,q2⟩:=xu k1 hi.at_;obtain⟨v1,v2⟩:=hF.nu q2;generalize hPP:bJ c.n c.k t=P at*;have hs1:bt c.k c.n c.n (dD c.k c.n P)=c.k P:=q1.val;have hs2:bt c.k c.n c.n (dD c.k c.n P+1)=c.k (P+1):=by
  rcases q1.next q2.lt with g|⟨g,_⟩
  ·have:=q2.wide;rw[g.val,q1.val]at this;exact absurd this Rat.lt_irrefl
  ·exact g.val
 show b7 (bt c.k c.n c.n) (c.p+1).toNat (fun j=>bY (cy (dG ((gJ (eR c)).f j))) e) (bJ (c.n+bS c.k c.n c.n) (bt c.k c.n c.n) t) (List.replicate (c.p+1).toNat t)=_;rw[hp1,<-Fs hF q2 (by rw[hs1];exact hi.lo) (by rw[hs2];exact hi.hi) hd];have eM:(gJ (eR c)).m=c.n+bS c.k c.n c.n-(c.p.toNat+1)-1:=rfl;rw[ai1 (y:=fun j=>bY ((gJ (eR c)).f j) e) List.length_replicate fun q hq=>by
  show bY (cy (dG ((gJ (eR c)).f (dD c.k c.n P-(c.p.toNat+1)+q)))) e=_;rw[Ey (zN (Ld hc hw (by rw[eM];omega)))]]
 have hf:((1:Int):Rat)/((c.p+1:Int):Rat)*((c.p.toNat+1:Nat):Rat)=1:=by
  have e1:((c.p+1:Int):Rat)=((c.p.toNat+1:Nat):Rat):=by
   rw[show c.p+1=((c.p.toNat+1:Nat):Int) by omega];rfl
  rw[e1];refine Rat.div_mul_cancel fun h=>?_;have:((c.p.toNat+1:Nat):Rat)=((0:Nat):Rat):=h;have:=Rat.natCast_inj.1 this;omega
 exact ace hf k1 hi.at_ fun j h1 h2=>by
  obtain⟨P1,a1,a2,a3,a4⟩:=UW hc (j:=j) (by rw[eM];omega) e;exact⟨P1,a3 P hi.at_ h1,a1,a2,a4⟩
theorem SJ {c:Cu} (hc:jM c) (hin:¬bf c.n c.k t):¬bf (qS c).n (qS c).k (c.k 0+c.k (c.n-1)-t)/\∀e,bY (cL (qS c) (c.k 0+c.k (c.n-1)-t)) e=bY (cL c t) e:=by
 obtain⟨k1,k2,k3,k4,k5⟩:=id hc;have hl:=k1.len;obtain⟨b0,b1⟩:=KM k1 hin;have hM:=k1.Ln;have hd:¬bf (qS c).n (qS c).k (c.k 0+c.k (c.n-1)-t):=JY (by show c.k 0+c.k (c.n-1)-c.k (c.n-1-0)<=_;rw[Nat.sub_zero];grind) (by show _<=c.k 0+c.k (c.n-1)-c.k (c.n-1-(c.n-1));rw[Nat.sub_self];grind);refine⟨hd,fun e=>?_⟩;have hM':Kn (qS c).n (qS c).p.toNat (qS c).k:=hM;rw[qK k1 hin,qK hM' hd];have hi:=k1.xp hin;have hv:=k1.lf hin;generalize bJ c.n c.k t=P at*;have hlt:=hi.at_.lt;have ek:∀i,iJ c.n c.k i=c.k 0+c.k (c.n-1)-c.k (c.n-1-i):=fun i=>rfl;have hA:At c.n (iJ c.n c.k) (c.n-2-P):=⟨aa,hM.sorted,by
  rw[ek,ek,show c.n-1-(c.n-2-P)=P+1 by omega,show c.n-1-(c.n-2-P+1)=P by omega];have:=hi.at_.wide;grind⟩
 show b7 (iJ c.n c.k) c.p.toNat (fun i=>bY (cy (c.f (c.m-1-i))) e) (bJ c.n (iJ c.n c.k) (c.k 0+c.k (c.n-1)-t)) (List.replicate c.p.toNat (c.k 0+c.k (c.n-1)-t))=_;have h1:=hi.lo;have h2:=hi.hi;rw[<-Fs hM hA (by rw[ek,show c.n-1-(c.n-2-P)=P+1 by omega];grind) (by rw[ek,show c.n-1-(c.n-2-P+1)=P by omega];grind) hd];rw[XG (k:=c.k) (x:=fun i=>bY (cy (c.f i)) e) (σ:=c.k 0+c.k (c.n-1)) hi.at_ hv.1 hv.2 (fun i _=>ek i) (fun j hj=>by show bY (cy (c.f (c.m-1-j))) e=bY (cy (c.f (c.n-c.p.toNat-2-j))) e;rw[show c.m-1-j=c.n-c.p.toNat-2-j by omega]) List.length_replicate,List.map_replicate];rw[show c.k 0+c.k (c.n-1)-(c.k 0+c.k (c.n-1)-t)=t by grind]
theorem Uf {c:Cu} (hc:jM c) (hp:c.p<=5) (hn:c.n<=20):jM (fC c):=by
 obtain⟨k1,k2,k3,k4,k5⟩:=hc;have hl:=k1.len;have hg:=yB (k:=c.k) (n:=c.n) (i:=c.n);have hK:=oB k1;have hKl:=hK.len;rw[show fC c=qu (gJ (eR c))from if_neg aa];refine⟨?_,show 1<=c.p+1 by omega,show c.p+1<=6 by omega,show c.n+bS c.k c.n c.n<=(c.p+1).toNat+41 by omega,show((c.n+bS c.k c.n c.n-(c.p.toNat+1)-1:Nat):Int)=((c.n+bS c.k c.n c.n:Nat):Int)-(c.p+1)-1 by omega⟩;show Kn (c.n+bS c.k c.n c.n) (c.p+1).toNat (bt c.k c.n c.n);rw[show(c.p+1).toNat=c.p.toNat+1 by omega];exact hK
theorem j5.rows {F:Cu->Cu} {s:Sf} {x y:Nat} (h:j5 F b t (dc s)) (hs:fc s):bV (bM (wrS s s.n fun i=>F (RC s i)) x y) (bM (dc (gp F (dc s))) 2000 2000):=(h.S hs.swap.z).swap.up
theorem OV:aU 22 f22:=aS func22
def rH:aX:=nG::(85,jL uT)::(86,jL F7)::(87,jL GB)::(45,uA)::l6
abbrev pZ:List Nat:=[0,6,7,8,9]
abbrev vC (b:Bool) (i:Nat):List AV:=[.ptr 0 0 2 0 [],.ptr 1 0 5 0 [],.ptr 2 0 5 0 [],.bool b,.int .i64 i]
abbrev zl:List Nat:=[0,6,7,8,9,10,11]
abbrev HY (b:Bool) (i j:Nat):List AV:=[.ptr 0 0 2 0 [],.ptr 1 0 5 0 [],.ptr 2 0 5 0 [],.bool b,.int .i64 i,.own 4 12 0 j,.int .i64 j]
abbrev rZ (n:Nat) (z:Nat->Int) (a:Int) (u v:Nat) (na nb:Nat) (ku kv:Nat->Rat) (f:Nat->Nat->Pl) (m i:Nat):aC:=
 [(3,⟨true,true,1,i,fun i=>aT (f i) m 200⟩),(2,⟨false,true,5,1,fun _=>.agg [.int .i64 u,.int .i64 v,bu ku na 64,bu kv nb 64,.own 3 1 0 i]⟩),(1,⟨false,true,5,1,fun _=>.agg [.int .i64 0,.int .i64 0,.nil,.nil,.nil]⟩),(0,mC n z a)]
abbrev HO (n:Nat) (z:Nat->Int) (a:Int) (u v:Nat) (na nb:Nat) (ku kv:Nat->Rat) (f:Nat->Nat->Pl) (m i j:Nat):aC:=(4,⟨true,true,12,j,fun j=>bH (f i j) 200⟩)::rZ n z a u v na nb ku kv f m i
abbrev qf:Code:=aE f22
abbrev x6:Code:=part qf [1,1,1,1,0,1,0,0]
abbrev ze:Code:=part x6 [1,0,0]
theorem Th {m:Int}:aI T rH [] 60 pZ (before qf [1,1,1,1,0,1]) ⟨aN 0 [.ptr 0 0 2 0 [],.int .i64 d,.int .i64 m],[(0,mC n z a)],1⟩=
  let k:=int i64 0;let h:=(2:Int)^62;let e:=aR n (aR n a);let b:=(2:Int)^63;let o:=0<1;let u:=0==0;let g:=(1:Int)+cQ n (fun i=>int i64 (z i)) (aR n a) d;let f:=(1:Int)+cQ n (fun i=>int i64 (z i)) a d;let q:=agg [k,k,nil,nil,nil];let p:=fX n (fun i=>int i64 (z i)) e f.toNat m.toNat;let r:=fX n (fun i=>int i64 (z i)) p g.toNat m.toNat;let s:=bp (agg ((q.kids.set 0 (bp (int i64 f))).set 1 (bp (int i64 g))));let l:=if u=true then s else q;let t:=agg (l.kids.set 2 (bp (bu (jD n (fun i=>int i64 (z i)) e f.toNat m.toNat) (jw n (fun i=>int i64 (z i)) e f.toNat m.toNat) 64)));some (aj [dz n (fun i=>int i64 (z i)) a,(0:Int)<d,d<h,-b<=f/\f<b,dz n (fun i=>int i64 (z i)) (aR n a),(0:Int)<d,d<h,-b<=g/\g<b,o] (aj [o,dz n (fun i=>int i64 (z i)) e,(1:Int)<=f,f<1000,(0:Int)<=m,m<1000,o,dz n (fun i=>int i64 (z i)) p,(1:Int)<=g,g<1000,(0:Int)<=m,m<1000,o,o] (aj [dz n (fun i=>int i64 (z i)) r,(0:Int)<3,(3:Int)<h] (leaf normal ([ptr 0 0 2 0 [],ptr 1 0 5 0 [],ptr 40961 0 5 0 [],AV.bool (cQ n (fun i=>int i64 (z i)) r (3:Int)==2),k],[(40961,aq.mk false true 5 1 fun j=>if(j==0)=true then agg ((if u=true then t else l).kids.set 3 (bp (bu (jD n (fun i=>int i64 (z i)) p g.toNat m.toNat) (jw n (fun i=>int i64 (z i)) p g.toNat m.toNat) 64)))else if(j==0)=true then t else if(j==0)=true then s else q),(1,aq.mk false true 5 1 fun x=>q),(0,aq.mk false true 2 1 fun x=>agg [ak 1 n fun i=>int i64 (z i),int i64 (aR n r)])]))))):=ah
theorem aa2 {m:Nat} {f:Nat->Nat->Pl}:aI T rH [45] 60 pZ (before x6 [1,0]) ⟨aA pZ (vC b i),rZ n z a u v na nb ku kv f m i,4⟩=
  let d:=(2:Int)^63;let e:=(↑na:Int)-(↑u:Int);let h:List AV×aC:=([ptr 0 0 2 0 [],ptr 1 0 5 0 [],ptr 2 0 5 0 [],AV.bool b,int i64 (↑i:Int)],[(3,aq.mk true true 1 i fun i=>ak 12 m fun i_1=>bH (f i i_1) 200),(2,aq.mk false true 5 1 fun x=>agg [int i64 (↑u:Int),int i64 (↑v:Int),ak 3 na fun i=>rat (ku i) 64,ak 3 nb fun i=>rat (kv i) 64,own 3 1 0 i]),(1,aq.mk false true 5 1 fun x=>agg [int i64 0,int i64 0,nil,nil,nil]),(0,aq.mk false true 2 1 fun x=>agg [ak 1 n fun i=>int i64 (z i),int i64 a])]);let g:=e-1;some (aj [(0:Nat)<1,(0:Nat)<1,-d<=e/\e<d,-d<=g/\g<d] (fork (decide ((↑i:Int)<g)) (leaf normal h) (leaf (exit 0) h))):=ah
theorem ajI {m:Nat} {f:Nat->Nat->Pl}:aI T rH [] 60 zl (before ze [1,0,1]) ⟨aA pZ (vC b i),rZ n z a u v na nb ku kv f m i,4⟩=
  let d:=int i64 0;some (leaf normal ([ptr 0 0 2 0 [],ptr 1 0 5 0 [],ptr 2 0 5 0 [],AV.bool b,int i64 (↑i:Int),nil,d],[(3,aq.mk true true 1 i fun i=>ak 12 m fun i_1=>bH (f i i_1) 200),(2,aq.mk false true 5 1 fun x=>agg [int i64 (↑u:Int),int i64 (↑v:Int),ak 3 na fun i=>rat (ku i) 64,ak 3 nb fun i=>rat (kv i) 64,own 3 1 0 i]),(1,aq.mk false true 5 1 fun x=>agg [d,d,nil,nil,nil]),(0,aq.mk false true 2 1 fun x=>agg [ak 1 n fun i=>int i64 (z i),int i64 a])])):=ah
theorem aix {m:Nat} {f:Nat->Nat->Pl}:aI T rH [56,62] 60 zl [part ze [1,0,1,0,0]] ⟨aA zl (HY b i j),HO n z a u v na nb ku kv f m i j,5⟩=
  let q:=(↑j:Int);let P:=gZ n (fun i=>int i64 (z i)) a;let O:=gG n (fun i=>int i64 (z i)) a;let B:=int i64 (↑i:Int);let L:=ak 1 n fun i=>int i64 (z i);let H:=(↑(1:Int):Rat)/(↑(8:Int):Rat);let o:=j+1;let y:=(↑(3:Nat):Int);let l:=64+64;let w:=ptr 0 0 2 0 [];let t:=ptr 1 0 5 0 [];let s:=ptr 2 0 5 0 [];let r:=(↑nb:Int)-(↑v:Int);let F:Nat×aq:=(1,aq.mk false true 5 1 fun x=>agg [int i64 0,int i64 0,nil,nil,nil]);let E:=rat (↑((1:Int)+cQ n (fun i=>int i64 (z i)) (jv n (fun i=>int i64 (z i)) a) (3:Int)):Rat) 64;let e:=(2:Int)*(↑i:Int);let S:=rat 0 1;let R:=2^41;let p:=0<1;let W:Nat×aq:=(2,aq.mk false true 5 1 fun x=>agg [int i64 (↑u:Int),int i64 (↑v:Int),ak 3 na fun i=>rat (ku i) 64,ak 3 nb fun i=>rat (kv i) 64,own 3 1 0 i]);let U:Nat×aq:=(3,aq.mk true true 1 i fun i=>ak 12 m fun i_1=>bH (f i i_1) 200);let d:=(2:Int)^63;let D:=(1:Int)<d;let C:=-d<=1;let Q:=agg [agg [S,S,S],S];let M:=Max.max 1 (bT e.natAbs);let K:=(0:Int)<=0/\(0:Int)<y;let J:=(0:Int)<=1/\(1:Int)<y;let I:=(0:Int)<=2/\(2:Int)<y;let A:=r-1;let k:=64<R;let G:=gG n (fun i=>int i64 (z i)) P;let h:=q+1;let g:=(2:Int)*q;let Y:=[p,(1:Nat)*12<=2^24,o*((224:Nat)+1)*2<=2^47];let X:=if false=true then 0 else gG n (fun i=>int i64 (z i)) (gZ n (fun i=>int i64 (z i)) P);let V:List (Nat×aq):=[W,F,(0,aq.mk false true 2 1 fun x=>agg [L,int i64 (Hu n (fun i=>int i64 (z i)) a)])];let N:=Max.max 1 (bT g.natAbs);some (aj [p,p,-d<=r/\r<d,-d<=A/\A<d] (fork (decide (q<A)) (aj [dz n (fun i=>int i64 (z i)) a,p] (fork (!b) (aj [-d<=e/\e<d,-d<=e,e<d,K,p,C,D,-d<=8,(8:Int)<d,k,k,M<R,l<R,K,p] (aj [-d<=g/\g<d,-d<=g,g<d,J,p,C,D,-d<=8,(8:Int)<d,k,k,N<R,l<R,J,p] (aj [I,p,C,D,-d<=4,(4:Int)<d,k,k,I,p] (aj Y (aj [-d<=h/\h<d] (leaf normal ([w,t,s,AV.bool b,B,own 204805 12 0 o,int i64 h],U::(204805,aq.mk true true 12 o fun i_1=>if i_1<j then bH (f i i_1) 200 else nth [agg [agg [rat ((↑e:Rat)+O*H) (M+l+1),rat ((↑g:Rat)+G*H) (N+l+1),rat (X*((↑(1:Int):Rat)/(↑(4:Int):Rat))) l],E]] Q (i_1-j+0))::V))))))) (aj Y (aj [-d<=h/\h<d] (leaf normal ([w,t,s,AV.bool b,B,own 73733 12 0 o,int i64 h],U::(73733,aq.mk true true 12 o fun i_1=>if i_1<j then bH (f i i_1) 200 else nth [agg [agg [rat O 64,rat G 64,rat X 64],E]] Q (i_1-j+0))::V)))))) (leaf (exit 2) ([w,t,s,AV.bool b,B,own 4 12 0 j,int i64 q],[U,(4,aq.mk true true 12 j fun j=>bH (f i j) 200),W,F,(0,aq.mk false true 2 1 fun x=>agg [L,int i64 a])])))):=ah
theorem aih {m:Nat} {f:Nat->Nat->Pl}:aI T rH [] 60 pZ (behind ze [1,0,1]++[part x6 [1,1]]) ⟨aA zl (HY b i j),HO n z a u v na nb ku kv f m i j,5⟩=
  let d:=(↑i:Int)+1;let e:=agg [int i64 (↑u:Int),int i64 (↑v:Int),bu ku na 64,bu kv nb 64,own 3 1 0 i];some (aj [(0:Nat)<1,(1:Nat)*1<=2^24,(i+1)*((24:Nat)+1)*2<=2^47,(0:Nat)<1] (aj [-(2:Int)^63<=d/\d<2^63] (leaf normal ([ptr 0 0 2 0 [],ptr 1 0 5 0 [],ptr 2 0 5 0 [],AV.bool b,int i64 d],[(16389,aq.mk true true 1 (i+1) fun i_1=>if i_1<i then aT (f i_1) m 200 else nth [ak 12 j fun i_2=>bH (f i (i_2+0)) 200] nil (i_1-i+0)),(2,aq.mk false true 5 1 fun j=>if(j==0)=true then agg (e.kids.set 4 (bp (own (nat_lit 16388+1) 1 0 (i+1))))else e),(1,aq.mk false true 5 1 fun x=>agg [int i64 0,int i64 0,nil,nil,nil]),(0,aq.mk false true 2 1 fun x=>agg [ak 1 n fun i=>int i64 (z i),int i64 a])])))):=ah
theorem YA {m:Nat} {f:Nat->Nat->Pl}:BT T rH [] 60 f22 [part qf [1,1,1,1,1]] ⟨aA pZ (vC b i),rZ n z a u v na nb ku kv f m i,4⟩=
  let d:=0<1;some (aj [d,d] (aj [d] (leaf ret ([agg [int i64 (↑u:Int),int i64 (↑v:Int),ak 3 na fun i=>rat (ku i) 64,ak 3 nb fun i=>rat (kv i) 64,ak 1 i fun i=>ak 12 m fun i_1=>bH (f (i+0) i_1) 200]],some (aq.mk false true 2 1 fun x=>agg [ak 1 n fun i=>int i64 (z i),int i64 a]))))):=ah
def lO (b:Bool) (n:Nat) (f:Nat->AV) (a:Int) (i j:Nat):Pl:=
 if b=true then oW n f a false else⟨⟨((2*(i:Int):Int):Rat)+(oW n f a false).n.x*(((1:Int):Rat)/((8:Int):Rat)),((2*(j:Int):Int):Rat)+(oW n f a false).n.y*(((1:Int):Rat)/((8:Int):Rat)),(oW n f a false).n.z*(((1:Int):Rat)/((4:Int):Rat))⟩,(oW n f a false).d⟩
theorem Ng:bn P rH:=cB (aH Di (aH afA (aH ab4 (aH yx ng))))
theorem adZ {m mm:Nat} {B:Int} {cx:Ctx} {s0:aK} {Q:au->aK->Prop} {d M:Int} {a0:Int} (hk:Kept [0] cx) (hB:dz n (fun i=>.int .i64 (z i)) B) (hu:(mm:Int)=(na:Int)-u-1) (hv:(m:Int)=(nb:Int)-v-1) (h1:mm<2^20) (h2:m<2^20) (hna:na<2^20) (hnb:nb<2^20) (hu2:u<2^20) (hv2:v<2^20)
  (hp:∃t,aI T rH [] 60 pZ (before qf [1,1,1,1,0,1]) s0=some t/\t.all (Start [0] (fun i:Nat=>vC b i) (fun i=>rZ n z (jU n (fun i=>.int .i64 (z i)) B (i*m)) u v na nb ku kv (fun i j=>lO b n (fun i=>.int .i64 (z i)) (jU n (fun i=>.int .i64 (z i)) B (i*m+j)) i j) m i) 4 (fun i=>i<=mm) (fun _=>False)))
  (hD:ax P cx f22.ntmps (part qf [1,1,1,1,1]) ⟨aA pZ (vC b mm),rZ n z (jU n (fun i=>.int .i64 (z i)) B (mm*m)) u v na nb ku kv (fun i j=>lO b n (fun i=>.int .i64 (z i)) (jU n (fun i=>.int .i64 (z i)) B (i*m+j)) i j) m mm,4⟩ Q):
  ax P cx f22.ntmps qf s0 Q:=by
 have hv3:∀{rl:List (Nat×Nat)} {l:Nat} {w:AV},w.isTuple=false->gq (bk rl) w (.own 3 1 0 l)->gD rl (.agg [.int .i64 u,.int .i64 v,bu ku na 64,bu kv nb 64,w]) (.agg [.int .i64 u,.int .i64 v,bu ku na 64,bu kv nb 64,.own 3 1 0 l]):=
  fun h5 h6=>lP ⟨aM,aM,aM,aM,⟨h5,h6⟩,trivial⟩
 refine ax.vP hT Ng hm (x:=qf) [1,1,1,1,0,1] (i:=0) (y:=x6) (z:=part qf [1,1,1,1,1]) ah ah ah OV.dst [1,0] (j:=1) (x1:=ze) (zb:=part x6 [1,1]) ah ah ah [1,0,1] (i2:=2) (y2:=part ze [1,0,1,0,0]) ah ah rfl
  hk (f1:=[]) (f2:=[45]) (f3:=[]) (f4:=[56,62]) (f5:=[]) 60 pZ zl 4 5 (fun i:Nat=>vC b i) (fun i=>rZ n z (jU n (fun i=>.int .i64 (z i)) B (i*m)) u v na nb ku kv (fun i j=>lO b n (fun i=>.int .i64 (z i)) (jU n (fun i=>.int .i64 (z i)) B (i*m+j)) i j) m i) (fun i=>i<=mm) (fun i=>i=mm) (fun i=>mm-i) (fun i=>i<mm) (fun _=>False) (fun _=>False)
  (fun i (j:Nat)=>HY b i j) (fun i j=>HO n z (jU n (fun i=>.int .i64 (z i)) B (i*m+j)) u v na nb ku kv (fun i j=>lO b n (fun i=>.int .i64 (z i)) (jU n (fun i=>.int .i64 (z i)) B (i*m+j)) i j) m i j) (fun _ j=>j<=m) (fun _ j=>j=m) (fun _ j=>m-j) hp (fun i hi=>⟨_,aa2,?_⟩) (fun i hi hg=>⟨_,ajI,?_⟩) (fun i hi hg j hj=>⟨_,aix,?_⟩) (fun i hi hg j hj=>⟨_,aih,?_⟩) (fun i hi=>by rw[hi];exact hD) (fun _ _ h=>h.elim) (fun _ _ h=>h.elim)
 all_goals try simp only[ag.all,ay,br,bC,bg,Nat.add_zero]
 ·exact⟨⟨aa,aa,aa,aa⟩,fun h=>⟨aa,[(0,0),(1,1),(2,2),(3,3)],rfl,rfl,rfl,cX (cP rfl rfl (hv3 rfl (cN rfl rfl rfl)) (aL (aL trivial)))⟩,
   fun h=>⟨rfl,i,aa,[(0,0),(1,1),(2,2),(3,3)],rfl,rfl,rfl,cX (cP rfl rfl (hv3 rfl (cN rfl rfl rfl)) (aL (aL trivial)))⟩⟩
 ·exact⟨0,Nat.zero_le _,[(0,0),(1,1),(2,2),(3,3)],rfl,rfl,rfl,jP rfl aa aa (cX (cP rfl rfl (hv3 rfl (cN rfl rfl rfl)) (aL (aL trivial))))⟩
 ·have hd:=hB.zJ (i*m+j);have b1:bT (2*(i:Int)).natAbs<=64:=iS.2 aa;have b2:bT (2*(j:Int)).natAbs<=64:=iS.2 aa;refine⟨⟨aa,aa,aa,aa⟩,fun h=>⟨⟨hd,aa⟩,fun hb=>?_,fun hb=>?_⟩,fun h=>⟨rfl,j,aa,[(0,0),(1,1),(2,2),(3,3),(4,4)],rfl,rfl,rfl,cX (cX (cP rfl rfl (hv3 rfl (cN rfl rfl rfl)) (aL (aL trivial))))⟩⟩
  ·have hb:b=false:=by cases b<;>simp_all
   subst hb;refine⟨⟨aa,aa,aa,aa,aa,aa,aa,aa,aa,aa,aa,aa,aa,aa,aa⟩,⟨aa,aa,aa,aa,aa,aa,aa,aa,aa,aa,aa,aa,aa,aa,aa⟩,⟨aa,aa,aa,aa,aa,aa,aa,aa,aa,aa⟩,⟨aa,aa,aa⟩,aa,j+1,aa,by dsimp only;omega,[(0,0),(1,1),(2,2),(3,3),(4,204805)],rfl,rfl,rfl,cj rfl rfl rfl (fun k hk=>qe (g:=fun k=>bH (lO false n (fun i=>.int .i64 (z i)) (jU n (fun i=>.int .i64 (z i)) B (i*m+k)) i k) 200) (fun _ _=>⟨rfl,rfl⟩) rfl (cM ⟨cM ⟨cm rfl aa,cm rfl aa,cm rfl aa,trivial⟩,cm rfl aa,trivial⟩) hk) (cX (cP rfl rfl (hv3 rfl (cN rfl rfl rfl)) (aL (aL trivial))))⟩
  ·have hb:b=true:=by cases b<;>simp_all
   subst hb;refine⟨⟨aa,aa,aa⟩,aa,j+1,aa,by dsimp only;omega,[(0,0),(1,1),(2,2),(3,3),(4,73733)],rfl,rfl,rfl,cj rfl rfl rfl (fun k hk=>qe (g:=fun k=>bH (lO true n (fun i=>.int .i64 (z i)) (jU n (fun i=>.int .i64 (z i)) B (i*m+k)) i k) 200) (fun _ _=>⟨rfl,rfl⟩) rfl (cM ⟨cM ⟨cm rfl aa,cm rfl aa,cm rfl aa,trivial⟩,cm rfl aa,trivial⟩) hk) (cX (cP rfl rfl (hv3 rfl (cN rfl rfl rfl)) (aL (aL trivial))))⟩
 ·subst hj;exact⟨⟨aa,aa,aa,aa⟩,aa,i+1,aa,by dsimp only;omega,[(0,0),(1,1),(2,2),(3,16389)],rfl,rfl,rfl,cj rfl rfl rfl (fun k hk=>rowAt (g:=fun i=>aT (fun k=>lO b n (fun i=>.int .i64 (z i)) (jU n (fun i=>.int .i64 (z i)) B (i*j+k)) i k) j 200) hk rfl rfl) (cP rfl rfl (hv3 rfl (cN rfl rfl rfl)) (aL (cP rfl rfl (cW rfl (by rw[Nat.succ_mul])) trivial)))⟩
def dM (n:Nat) (f:Nat->AV) (a d:Int):Nat:=(1+cQ n f a d).toNat
def xO (n:Nat) (f:Nat->AV) (a d:Int) (m:Nat):Int:=fX n f (fX n f (aR n (aR n a)) (dM n f a d) m) (dM n f (aR n a) d) m
def iG (n:Nat) (f:Nat->AV) (a d:Int) (m:Nat):Sf:=
 ⟨(dM n f a d:Nat),(dM n f (aR n a) d:Nat),jw n f (aR n (aR n a)) (dM n f a d) m,jD n f (aR n (aR n a)) (dM n f a d) m,
  jw n f (fX n f (aR n (aR n a)) (dM n f a d) m) (dM n f (aR n a) d) m,jD n f (fX n f (aR n (aR n a)) (dM n f a d) m) (dM n f (aR n a) d) m,
  dM n f a d+1+iA n f (aR n (aR n a)) m,dM n f (aR n a) d+1+iA n f (fX n f (aR n (aR n a)) (dM n f a d) m) m,
  fun i j=>lO (cQ n f (xO n f a d m) 3==2) n f (jU n f (aR n (xO n f a d m)) (i*(dM n f (aR n a) d+1+iA n f (fX n f (aR n (aR n a)) (dM n f a d) m) m)+j)) i j⟩
def FH (n:Nat) (f:Nat->AV) (a d:Int) (m:Nat):Int:=jU n f (aR n (xO n f a d m)) ((iG n f a d m).n*(iG n f a d m).m)
def DG (n:Nat) (f:Nat->AV) (a:Int) (l:List AV):Option (AV×Int×List Prop):=match l with
 |[.int .i64 d,.int .i64 m]=>some (bM (iG n f a d m.toNat) 64 200,FH n f a d m.toNat,[1<=d,d<900,0<=m,m<900])
 |_=>none
theorem ahK {k m:Nat} {o:aq} (ho:∀ρ,dH ρ o (mC n z a)) (h:dz n (fun i=>.int .i64 (z i)) a) (hd1:1<=d) (hd2:d<900) (hm2:m<900) (K:Nat):
  aQ P 22 K [.ptr k 0 2 0 [],.int .i64 d,.int .i64 m] [(k,o)] ⟨bM (iG n (fun i=>.int .i64 (z i)) a d m) 64 200,[(k,mC n z (FH n (fun i=>.int .i64 (z i)) a d m))],[]⟩:=by
 refine JF hT OV rfl rfl aV ho (fun _ c hk=>?_) K;have a1:=gM (n:=n) (f:=fun i=>.int .i64 (z i)) (a:=a) (m:=d) aa;have a2:=gR (n:=n) (f:=fun i=>.int .i64 (z i)) (a:=a) (m:=d) aa;have a3:=gM (n:=n) (f:=fun i=>.int .i64 (z i)) (a:=aR n a) (m:=d) aa;have a4:=gR (n:=n) (f:=fun i=>.int .i64 (z i)) (a:=aR n a) (m:=d) aa;have hJ1:=wu (n:=n) (f:=fun i=>.int .i64 (z i)) (a:=aR n (aR n a)) (m:=m);obtain⟨u,eu⟩:∃u,u=dM n (fun i=>.int .i64 (z i)) a d:=⟨_,rfl⟩
 obtain⟨v,ev⟩:∃v,v=dM n (fun i=>.int .i64 (z i)) (aR n a) d:=⟨_,rfl⟩
 have hu:1+cQ n (fun i=>.int .i64 (z i)) a d=(u:Int):=by rw[eu];unfold dM;omega
 have hv:1+cQ n (fun i=>.int .i64 (z i)) (aR n a) d=(v:Int):=by rw[ev];unfold dM;omega
 have k1:=h.next.next;have k2:=k1.gb (p:=u) (m:=m) aa;have k3:=k2.gb (p:=v) (m:=m) aa;have k4:=k3.next;have hJ2:=wu (n:=n) (f:=fun i=>.int .i64 (z i)) (a:=fX n (fun i=>.int .i64 (z i)) (aR n (aR n a)) u m) (m:=m);have n1:jw n (fun i=>.int .i64 (z i)) (aR n (aR n a)) u m=2*u+2+iA n (fun i=>.int .i64 (z i)) (aR n (aR n a)) m:=rfl;have n2:jw n (fun i=>.int .i64 (z i)) (fX n (fun i=>.int .i64 (z i)) (aR n (aR n a)) u m) v m=2*v+2+iA n (fun i=>.int .i64 (z i)) (fX n (fun i=>.int .i64 (z i)) (aR n (aR n a)) u m) m:=rfl;unfold FH iG xO;rw[<-eu,<-ev];dsimp only;refine adZ (B:=aR n (fX n (fun i=>.int .i64 (z i)) (fX n (fun i=>.int .i64 (z i)) (aR n (aR n a)) u m) v m)) (b:=cQ n (fun i=>.int .i64 (z i)) (fX n (fun i=>.int .i64 (z i)) (fX n (fun i=>.int .i64 (z i)) (aR n (aR n a)) u m) v m) 3==2)
  (mm:=u+1+iA n (fun i=>.int .i64 (z i)) (aR n (aR n a)) m) (m:=v+1+iA n (fun i=>.int .i64 (z i)) (fX n (fun i=>.int .i64 (z i)) (aR n (aR n a)) u m) m) (ku:=jD n (fun i=>.int .i64 (z i)) (aR n (aR n a)) u m) (kv:=jD n (fun i=>.int .i64 (z i)) (fX n (fun i=>.int .i64 (z i)) (aR n (aR n a)) u m) v m)
  (na:=jw n (fun i=>.int .i64 (z i)) (aR n (aR n a)) u m) (nb:=jw n (fun i=>.int .i64 (z i)) (fX n (fun i=>.int .i64 (z i)) (aR n (aR n a)) u m) v m) (u:=u) (v:=v) (d:=d) (M:=d) (a0:=a) hk k4 aa aa aa aa aa aa aa aa ⟨_,Th,?_⟩ ?_
 ·simp only[ag.all,ay,hu,hv,bg];exact⟨⟨h,aa,aa,aa,h.next,aa,aa,aa,aa⟩,⟨aa,k1,aa,aa,aa,aa,aa,k2,aa,aa,aa,aa,aa,aa⟩,⟨k3,aa,aa⟩,0,Nat.zero_le _,[(0,0),(1,1),(2,40961)],rfl,rfl,rfl,jP rfl aa aa (cP rfl rfl (lP ⟨aM,aM,aM,aM,⟨rfl,pY aa⟩,trivial⟩) (aL (cP rfl rfl (cW rfl (by rw[Nat.zero_mul];rfl)) trivial)))⟩
 ·refine ax.hH (aG.RF hT Ng hm 60 YA ah ?_);simp only[ag.all,ay];exact⟨⟨aa,aa⟩,aa,.refl _,_,rfl,rfl,pD rfl rfl⟩
theorem akG:aW P (jL DG) 22:=by
 refine vX fun {k n z a l v b q o} K hg ho hd hq=>?_;unfold DG at hg;split at hg
 ·rename_i d m;simp only[az,Prod.mk.injEq]at hg;obtain⟨rfl,rfl,rfl⟩:=hg;obtain⟨h1,h2,h3,h4⟩:1<=d/\d<900/\0<=m/\m<900:=hq;have:=ahK (k:=k) (m:=m.toNat) ho hd h1 h2 aa K;rw[Int.toNat_of_nonneg h3]at this;exact this
 ·simp at hg
theorem Qq {f:Nat->AV}:0<(lO b n f a i j).d:=by
 have c1:=gM (n:=n) (f:=f) (a:=jv n f a) (m:=3) aa;have key:0<(oW n f a false).d:=by
  unfold oW;dsimp only;generalize cQ n f (jv n f a) 3=x at*
  exact_mod_cast (show 0<1+x by omega)
 unfold lO;split
 ·exact key
 ·exact key
theorem TJ {m:Nat} {f:Nat->AV} (h:dz n f a) (hd:1<=d) (hd2:d<=6) (hm2:m<=20):cO (iG n f a d m):=by
 have a1:=gM (n:=n) (f:=f) (a:=a) (m:=d) aa;have a2:=gR (n:=n) (f:=f) (a:=a) (m:=d) aa;have a3:=gM (n:=n) (f:=f) (a:=aR n a) (m:=d) aa;have a4:=gR (n:=n) (f:=f) (a:=aR n a) (m:=d) aa;have hJ1:=wu (n:=n) (f:=f) (a:=aR n (aR n a)) (m:=m);unfold iG;obtain⟨u,eu⟩:∃u,u=dM n f a d:=⟨_,rfl⟩
 obtain⟨v,ev⟩:∃v,v=dM n f (aR n a) d:=⟨_,rfl⟩
 have hu:1+cQ n f a d=(u:Int):=by rw[eu];unfold dM;omega
 have hv:1+cQ n f (aR n a) d=(v:Int):=by rw[ev];unfold dM;omega
 have k1:=h.next.next;have k2:=k1.gb (p:=u) (m:=m) aa;have hJ2:=wu (n:=n) (f:=f) (a:=fX n f (aR n (aR n a)) u m) (m:=m);have n1:jw n f (aR n (aR n a)) u m=2*u+2+iA n f (aR n (aR n a)) m:=rfl;have n2:jw n f (fX n f (aR n (aR n a)) u m) v m=2*v+2+iA n f (fX n f (aR n (aR n a)) u m) m:=rfl;rw[<-eu,<-ev];refine⟨?_,?_,by dsimp only;omega,by dsimp only;omega,by dsimp only;omega,by dsimp only;omega,by dsimp only;rw[bg];omega,by dsimp only;rw[bg];omega,by dsimp only;omega,by dsimp only;omega,fun i j _ _=>Qq⟩
 ·dsimp only;rw[bg];exact(tr k1 aa _).1.done
 ·dsimp only;rw[bg];exact(tr k2 aa _).1.done
structure rB (p:Pl):Prop where
 d:0<p.d
 x:Sz (cy p).n.x 20
 y:Sz (cy p).n.y 20
 z:Sz (cy p).n.z 20
 w:Sz p.d 20
 q:∀e,eO 0 (bY (cy p) e)
theorem rB.Ko {p:Pl} (h:0<p.d) (hx:Sz (cy p).n.x 5) (hy:Sz (cy p).n.y 5) (hz:Sz (cy p).n.z 5) (hw:Sz p.d 5):rB p:=
 ⟨h,hx.more (by decide),hy.more (by decide),hz.more (by decide),hw.more (by decide),fun e=>match e with
  |0=>eO.p7 hx
  |1=>eO.p7 hy
  |2=>eO.p7 hz
  |_+3=>eO.p7 hw⟩
theorem SA {f:Nat->AV}:∃N q:Int,gG n f a*(q:Rat)=(N:Rat)/\N.natAbs<=6/\1<=q/\q<=4:=by
 have a1:=gM (n:=n) (f:=f) (a:=a) (m:=13) aa;have a2:=gR (n:=n) (f:=f) (a:=a) (m:=13) aa;have b1:=gM (n:=n) (f:=f) (a:=aR n (aR n a)) (m:=4) aa;have b2:=gR (n:=n) (f:=f) (a:=aR n (aR n a)) (m:=4) aa;unfold gG;split
 ·refine⟨cQ n f a 13-6,1+cQ n f (aR n (aR n a)) 4,Rat.div_mul_cancel (fun h=>?_),aa,aa,aa⟩;have h:((1+cQ n f (aR n (aR n a)) 4:Int):Rat)=((0:Int):Rat):=h;have:=Rat.intCast_inj.1 h;omega
 ·exact⟨cQ n f a 13-6,1,by rw[show((1:Int):Rat)=1 from rfl,Rat.mul_one],aa,aa,aa⟩
theorem Fx {f:Nat->AV} {D I e:Int} (hD:1<=D) (hD3:D<=3) (hI:0<=I) (hI2:I<=10) (he:e=4\/e=8):eO 0 ((D:Rat)*((I:Rat)+gG n f a*(((1:Int):Rat)/(e:Rat))))/\Sz ((D:Rat)*((I:Rat)+gG n f a*(((1:Int):Rat)/(e:Rat)))) 20:=by
 obtain⟨N,q,h1,h2,h3,h4⟩:=SA (n:=n) (f:=f) (a:=a);have he0:(e:Rat)≠0:=fun h=>by
  have h:(e:Rat)=((0:Int):Rat):=h;have:=Rat.intCast_inj.1 h;omega
 constructor
 ·obtain⟨w,ew,hw⟩:=Bv (v:=e*q) (by rcases he with rfl|rfl<;>omega) (by rcases he with rfl|rfl<;>omega);refine⟨D*(I*LQ+N*w),?_,?_⟩
  ·rw[show LQ^(0+1)=LQ by rfl];have e1:(LQ:Rat)=(e:Rat)*(q:Rat)*(w:Rat):=by rw[ew,Rat.intCast_mul,Rat.intCast_mul]
   have e2:gG n f a*(((1:Int):Rat)/(e:Rat))*(LQ:Rat)=(N:Rat)*(w:Rat):=by
    rw[e1,<-h1,Rat.div_def,show((1:Int):Rat)=1 from rfl,Rat.one_mul];have:=Rat.inv_mul_cancel (e:Rat) he0;grind
   rw[Rat.intCast_mul,Rat.intCast_add,Rat.intCast_mul,Rat.intCast_mul];grind
  ·have hL:LQ=144403552893600:=rfl;have hNw:(N*w).natAbs<=6*36100888223400:=by
    rw[Int.natAbs_mul];refine Nat.mul_le_mul h2 ?_;have h5:(e*q).natAbs*w.natAbs=144403552893600:=by rw[<-Int.natAbs_mul,<-ew];rfl
    have h6:4<=(e*q).natAbs:=by rcases he with rfl|rfl<;>omega
    have:=Nat.mul_le_mul_right w.natAbs h6;omega
   rw[Int.natAbs_mul];refine Nat.le_trans (Nat.mul_le_mul (show D.natAbs<=3 by omega) (show(I*LQ+N*w).natAbs<=1444035528936000+216605329340400 by rw[hL];omega)) (by decide)
 ·have s1:Sz (I:Rat) 4:=ko aa (by decide);have s2:Sz (gG n f a*(((1:Int):Rat)/(e:Rat))) (3+5):=BX.mul (Q6 aa aa aa);exact((ko (x:=D) (n:=2) aa (by decide)).mul (s1.add s2)).more (by decide)
theorem amz {f:Nat->AV} (hi:i<=5) (hj:j<=5):rB (lO b n f a i j):=by
 have b1:=gM (n:=n) (f:=f) (a:=jv n f a) (m:=3) aa;have b2:=gR (n:=n) (f:=f) (a:=jv n f a) (m:=3) aa;have hw:Sz ((1+cQ n f (jv n f a) 3:Int):Rat) 2:=ko (x:=1+cQ n f (jv n f a) 3) (n:=2) aa (by decide);have hp:=Qq (b:=b) (n:=n) (f:=f) (a:=a) (i:=i) (j:=j);cases b
 ·have w5:Sz (lO false n f a i j).d 5:=hw.more (by decide);obtain⟨x1,x2⟩:=Fx (n:=n) (f:=f) (a:=a) (D:=1+cQ n f (jv n f a) 3) (I:=2*(i:Int)) (e:=8) aa aa aa aa (.inr rfl);obtain⟨y1,y2⟩:=Fx (n:=n) (f:=f) (a:=gZ n f a) (D:=1+cQ n f (jv n f a) 3) (I:=2*(j:Int)) (e:=8) aa aa aa aa (.inr rfl);obtain⟨z1,z2⟩:=Fx (n:=n) (f:=f) (a:=gZ n f (gZ n f a)) (D:=1+cQ n f (jv n f a) 3) (I:=0) (e:=4) aa aa aa aa (.inl rfl);rw[show((0:Int):Rat)=0 from rfl,Rat.zero_add]at z1 z2;exact⟨hp,x2,y2,z2,w5.more (by decide),fun e=>match e with
   |0=>x1
   |1=>y1
   |2=>z1
   |_+3=>eO.p7 w5⟩
 ·exact .Ko hp (hw.mul BX) (hw.mul BX) (hw.mul BX) (hw.more (by decide))
def BS (s:Sf):Sf:=⟨s.u,s.v,s.a,s.ku,s.b,s.kv,s.n,s.m,fun i j=>if i<s.n/\j<s.m then s.f i j else⟨⟨0,0,0⟩,1⟩⟩
theorem alc {s:Sf} {x y:Nat}:bV (bM s x y) (bM (BS s) x y):=
 cM ⟨.refl _,.refl _,.refl _,.refl _,fI fun i hi=>fI fun j hj=>yE (show s.f i j=if i<s.n/\j<s.m then s.f i j else _ from(if_pos ⟨hi,hj⟩).symm) bq,trivial⟩
theorem rB.sfD {s:Sf} (hs:cO s) (u1:1<=s.u) (v1:1<=s.v) (kQ:s.a<=20) (lI:s.b<=20) (hu:∀i,m7 (s.ku i)) (hv:∀i,m7 (s.kv i)) (hp:∀i j,rB (s.f i j)):fc s:=by
 have d:∀i j,Sz (s.f i j).n.x 2000/\Sz (s.f i j).n.y 2000/\Sz (s.f i j).n.z 2000:=fun i j=>by
  have e:=JP (zN (hp i j).d);have hd:(cy (s.f i j)).d=(s.f i j).d:=rfl;rw[<-e];exact⟨((hp i j).x.div (hd▸(hp i j).w)).more (by decide),((hp i j).y.div (hd▸(hp i j).w)).more (by decide),((hp i j).z.div (hd▸(hp i j).w)).more (by decide)⟩
 refine⟨hs,⟨fun i _=>(hu i).zn.sz.more (by decide),fun i _=>(hv i).zn.sz.more (by decide),fun i j _ _=>(d i j).1,fun i j _ _=>(d i j).2.1,fun i j _ _=>(d i j).2.2,fun i j _ _=>(hp i j).w.more (by decide)⟩,fun j=>?_,fun i=>?_,kQ,lI⟩
 ·exact⟨⟨⟨hs.ku,u1,hs.u6,hs.a,hs.n⟩,fun i=>(hp i j).d,fun i=>(hu i).zn,fun i=>(hp i j).x,fun i=>(hp i j).y,fun i=>(hp i j).z,fun i=>(hp i j).w⟩,hu,fun i e=>(hp i j).q e⟩
 ·exact⟨⟨⟨hs.kv,v1,hs.v6,hs.b,hs.m⟩,fun j=>(hp i j).d,fun j=>(hv j).zn,fun j=>(hp i j).x,fun j=>(hp i j).y,fun j=>(hp i j).z,fun j=>(hp i j).w⟩,hv,fun j e=>(hp i j).q e⟩
theorem ae9 {m:Nat} {f:Nat->AV} (h:dz n f a) (hd:1<=d) (hd3:d<=3) (hm2:m<=2):fc (BS (iG n f a d m)):=by
 have hs:=TJ (m:=m) h hd aa aa;have a1:=gM (n:=n) (f:=f) (a:=a) (m:=d) aa;have a2:=gR (n:=n) (f:=f) (a:=a) (m:=d) aa;have a3:=gM (n:=n) (f:=f) (a:=aR n a) (m:=d) aa;have a4:=gR (n:=n) (f:=f) (a:=aR n a) (m:=d) aa;have hJ1:=wu (n:=n) (f:=f) (a:=aR n (aR n a)) (m:=m);have hJ2:=wu (n:=n) (f:=f) (a:=fX n f (aR n (aR n a)) (dM n f a d) m) (m:=m);have hu:(dM n f a d:Int)=1+cQ n f a d:=by unfold dM;omega
 have hv:(dM n f (aR n a) d:Int)=1+cQ n f (aR n a) d:=by unfold dM;omega
 have k1:=h.next.next;have k2:=k1.gb (p:=dM n f a d) (m:=m) aa;have eu:(iG n f a d m).u=(dM n f a d:Nat):=rfl;have ev:(iG n f a d m).v=(dM n f (aR n a) d:Nat):=rfl;have en:(iG n f a d m).n=dM n f a d+1+iA n f (aR n (aR n a)) m:=rfl;have em:(iG n f a d m).m=dM n f (aR n a) d+1+iA n f (fX n f (aR n (aR n a)) (dM n f a d) m) m:=rfl;have qn:=hs.n;have qm:=hs.m;have hP:∀i j,rB ((BS (iG n f a d m)).f i j):=fun i j=>by
  show rB (if i<(iG n f a d m).n/\j<(iG n f a d m).m then(iG n f a d m).f i j else⟨⟨0,0,0⟩,1⟩);split
  ·rename_i g;exact amz aa aa
  ·exact .Ko (by decide) ⟨by decide+kernel,by decide+kernel⟩ ⟨by decide+kernel,by decide+kernel⟩ ⟨by decide+kernel,by decide+kernel⟩ ⟨by decide+kernel,by decide+kernel⟩
 refine rB.sfD ⟨hs.ku,hs.kv,hs.u0,hs.u6,hs.v0,hs.v6,hs.a,hs.b,hs.n,hs.m,fun i j _ _=>(hP i j).d⟩ (show 1<=(iG n f a d m).u by omega) (show 1<=(iG n f a d m).v by omega) (show(iG n f a d m).a<=20 by omega) (show(iG n f a d m).b<=20 by omega) (fun i=>?_) (fun i=>?_) hP
 ·obtain⟨z,e,h1,h2⟩:=(tr (p:=dM n f a d) k1 aa (iA n f (aR n (aR n a)) m)).1.HZ i;exact⟨z,e,h1,aa⟩
 ·obtain⟨z,e,h1,h2⟩:=(tr (p:=dM n f (aR n a) d) k2 aa (iA n f (fX n f (aR n (aR n a)) (dM n f a d) m) m)).1.HZ i;exact⟨z,e,h1,aa⟩
end Go.Am.B
