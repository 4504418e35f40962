/- Polar forms of neighbouring pieces say the same of lists that hold the knot between them (plain). -/
import Derived.Test.YtnniljlepppdpaaGreatY40
import Derived.Test.YtnniljlepppdpaaGreatY41
import Derived.Test.YtnniljlepppdpaaGreatY39
import Derived.Test.YtnniljlepppdpaaGreatY38
import Derived.Test.YtnniljlepppdpaaGreatY37
import Derived.Test.YtnniljlepppdpaaGreatZ2
set_option linter.unusedVariables false
noncomputable section
namespace Go.Am.B
def oH (k:Nat->Rat) (P m i:Nat):Rat:=if i<=P then k i else k (i+m)
theorem C9 {k:Nat->Rat} {v:Rat}:∀{l a:Nat},(∀i,a<=i->i<a+l->k i=v)->aT k a l=List.replicate l v
 |0,_,_=>rfl
 |l+1,a,h=>by
  rw[aT,h a (Nat.le_refl _) (by omega),C9 fun i h1 h2=>h i (by omega) (by omega)];rfl
theorem qR {f g:Nat->Rat}:∀{l a b:Nat},(∀i,i<l->f (a+i)=g (b+i))->aT f a l=aT g b l
 |0,_,_,_=>rfl
 |l+1,a,b,h=>by
  rw[aT,aT,qR (l:=l) (a:=a+1) (b:=b+1) fun i hi=>by
   have:=h (i+1) (by omega)
   rw[show a+1+i=a+(i+1) by omega,show b+1+i=b+(i+1) by omega];exact this]
  have:=h 0 (by omega)
  rw[Nat.add_zero,Nat.add_zero]at this
  rw[this]
theorem qV {n p P:Nat} {k x:Nat->Rat} (h:At n k P) (w1:p<=P) (w2:P+p<n) {l m:List Rat} (hp:l.Perm m) (hl:l.length=p):bO k p x P l=bO k p x P m:=
 pz (show At n k (P-p+p) by rwa [show P-p+p=P by omega]) (by omega) hp (by omega)
theorem IZ {n p P:Nat} {k x:Nat->Rat} (h:At n k P) (w1:p<=P) (w2:P+p<n) {u v f:Rat} {r l:List Rat} (hl:r.length+l.length+1=p):bO k p x P (r++(u+f*(v-u))::l)=bO k p x P (r++u::l)+f*(bO k p x P (r++v::l)-bO k p x P (r++u::l)):=by
 have e:∀w,bO k p x P (r++w::l)=bO k p x P (w::(r++l)):=fun w=>qV h w1 w2 List.perm_middle (by rw[List.length_append,List.length_cons];omega)
 rw[e,e,e]
 exact EU (by rw[List.length_append];exact hl)
theorem Uz {n p P m:Nat} {k x:Nat->Rat} {v:Rat} (h:At n k P) (h':At n k (P+m)) (w1:p<=P) (w2:P+m+p+1<n) (hm:m<=p) (hv:∀i,P+1<=i->i<=P+m->k i=v) {l:List Rat} (hl:l.length=p-m):
  bO k p x P (List.replicate m v++l)=bO k p x (P+m) (List.replicate m v++l):=by
 have hκ:At (n-m) (oH k P m) (P-(p-m)+(p-m)):=by
  rw[show P-(p-m)+(p-m)=P by omega]
  refine⟨by omega,fun i hi=>?_,?_⟩
  ·unfold oH
   by_cases c:i+1<=P
   ·rw[if_pos (by omega),if_pos c];exact h.sorted i (by omega)
   ·by_cases c2:i<=P
    ·rw[if_pos c2,if_neg c];exact fK h.sorted (by omega) (by omega)
    ·rw[if_neg c2,if_neg c];exact fK h.sorted (by omega) (by omega)
  ·unfold oH
   rw[if_pos (Nat.le_refl _),if_neg (by omega)]
   exact h.around (Nat.le_refl _) (by omega) (by omega)
 have win:∀j,j<=p-m->(List.replicate m v++aT (oH k P m) (P-(p-m)+j+1) (p-m)).Perm (aT k (P-(p-m)+j+1) p):=fun j hj=>by
  have e1:aT (oH k P m) (P-(p-m)+j+1) (p-m)=aT k (P-(p-m)+j+1) (p-m-j)++aT k (P+m+1) j:=by
   rw[show p-m=(p-m-j)+j by omega,oG,show p-m-j+j=p-m by omega]
   congr 1
   ·exact qR fun i hi=>by unfold oH;rw[if_pos (by omega)]
   ·exact qR fun i hi=>by unfold oH;rw[if_neg (by omega)];congr 1;omega
  have e2:aT k (P-(p-m)+j+1) p=aT k (P-(p-m)+j+1) (p-m-j)++(List.replicate m v++aT k (P+m+1) j):=by
   rw[show p=(p-m-j)+(m+j) by omega,oG,oG,show p-m-j+(m+j)=p by omega,show P-(p-m)+j+1+(p-m-j)=P+1 by omega,C9 (a:=P+1) (l:=m) (v:=v) fun i h1 h2=>hv i h1 (by omega),show P+1+m=P+m+1 by omega]
  rw[e1,e2,<-List.append_assoc,<-List.append_assoc]
  exact List.perm_append_comm.append_right _
 have hlen:(List.replicate m v).length=m:=List.length_replicate
 have key:∀{R:Nat},At n k R->p<=R->R+p<n->P<=R->R<=P+m->bl (oH k P m) (P-(p-m)) (p-m) 0 (fun j=>x (P-(p-m)+j)) l (p-m)=bO k p x R (List.replicate m v++l):=fun {R} hR r1 r2 r3 r4=>by
  have:=AF (k:=oH k P m) (b:=P-(p-m)) (p:=p-m) (n:=n-m) (G:=fun l=>bO k p x R (List.replicate m v++l)) (fun {a b} hab hl=>qV hR r1 r2 (hab.append_left _) (by rw[List.length_append,hlen];omega)) (fun {u w f a} ha=>IZ hR r1 r2 (by omega)) hκ (by omega) (l:=l) (d:=[]) (r:=0) (y:=fun j=>x (P-(p-m)+j)) rfl (by omega) fun j _ hj=>by
   show _=bO k p x R (List.replicate m v++([]++aT (oH k P m) (P-(p-m)+j+1) (p-m-0)))
   rw[List.nil_append,Nat.sub_zero,qV hR r1 r2 (win j hj) (by rw[List.length_append,hlen,gy];omega)]
   exact(qH hR r1 r2 (by omega) (by omega)).symm
  exact this
 rw[<-key h w1 (by omega) (Nat.le_refl _) (by omega),<-key h' (by omega) (by omega) (by omega) (Nat.le_refl _)]
def eU (G:List Rat->Rat):List Rat->List Rat->Rat
 |_,[]=>0
 |a,t::l=>G (a++l)+eU G (t::a) l
def kW (g:Nat->Rat):Nat->Nat->Rat
 |_,0=>0
 |i,n+1=>g i+kW g (i+1) n
theorem Kh {g h:Nat->Rat}:∀{n i:Nat},(∀j,i<=j->j<i+n->g j=h j)->kW g i n=kW h i n
 |0,_,_=>rfl
 |n+1,i,e=>by rw[kW,kW,e i (Nat.le_refl _) (by omega),Kh fun j h1 h2=>e j (by omega) (by omega)]
section
variable {p:Nat} {G:List Rat->Rat} (hsym:∀{l m:List Rat},l.Perm m->l.length=p->G l=G m)
include hsym
theorem Rj:∀{l a b:List Rat},a.Perm b->a.length+l.length=p+1->eU G a l=eU G b l
 |[],_,_,_,_=>rfl
 |t::l,a,b,h,hl=>by
  rw[List.length_cons]at hl
  rw[eU,eU,hsym (h.append_right l) (by rw[List.length_append];omega),Rj (h.cons t) (by rw[List.length_cons];omega)]
theorem XS {l m:List Rat} (h:l.Perm m):∀{a:List Rat},a.length+l.length=p+1->eU G a l=eU G a m:=by
 induction h with
 |nil=>intro a _;rfl
 |@cons t l m h ih=>
  intro a hl
  rw[List.length_cons]at hl
  rw[eU,eU,hsym (h.append_left a) (by rw[List.length_append];omega),ih (by rw[List.length_cons];omega)]
 |swap x y l=>
  intro a hl
  rw[List.length_cons,List.length_cons]at hl
  have e1:G (a++x::l)=G (x::a++l):=hsym List.perm_middle (by rw[List.length_append,List.length_cons];omega)
  have e2:G (a++y::l)=G (y::a++l):=hsym List.perm_middle (by rw[List.length_append,List.length_cons];omega)
  have e3:eU G (x::y::a) l=eU G (y::x::a) l:=Rj hsym (List.Perm.swap _ _ _) (by rw[List.length_cons,List.length_cons];omega)
  rw[eU,eU,eU,eU,e1,e2,e3];grind
 |trans h1 _ ih1 ih2=>
  intro a hl
  rw[ih1 hl,ih2 (by rw[<-h1.length_eq];exact hl)]
theorem Rt {w:Nat->Rat}:∀{n i:Nat},i+n=p+1->eU G (iB w 0 i) (aT w i n)=kW (fun i=>G (aT (fun r=>if r<i then w r else w (r+1)) 0 p)) i n
 |0,_,_=>rfl
 |n+1,i,h=>by
  have e:(iB w 0 i++aT w (i+1) n).Perm (aT (fun r=>if r<i then w r else w (r+1)) 0 p):=by
   rw[show p=i+n by omega,oG,qR (f:=fun r=>if r<i then w r else w (r+1)) (g:=w) (a:=0) (b:=0) (l:=i) fun q hq=>by rw[Nat.zero_add];exact if_pos hq,qR (f:=fun r=>if r<i then w r else w (r+1)) (g:=w) (a:=0+i) (b:=i+1) (l:=n) fun q hq=>by
    show(if 0+i+q<i then w (0+i+q)else w (0+i+q+1))=_
    rw[if_neg (by omega)];congr 1;omega]
   exact oE.append_right _
  have ih:=Rt (w:=w) (n:=n) (i:=i+1) (by omega)
  rw[iB,Nat.zero_add]at ih
  rw[aT,eU,kW,hsym e (by rw[List.length_append,oE.length_eq,gy,gy];omega),ih]
end
theorem Rw {p:Nat} {G:List Rat->Rat} (haff:∀{u v f:Rat} {r l:List Rat},r.length+l.length+1=p->G (r++(u+f*(v-u))::l)=G (r++u::l)+f*(G (r++v::l)-G (r++u::l))) {u v f:Rat}:
  ∀{l a:List Rat},a.length+1+l.length=p+1->eU G (a++[u+f*(v-u)]) l=eU G (a++[u]) l+f*(eU G (a++[v]) l-eU G (a++[u]) l)
 |[],_,_=>by show(0:Rat)=0+f*(0-0);grind
 |t::l,a,h=>by
  rw[List.length_cons]at h
  have ih:=Rw haff (u:=u) (v:=v) (f:=f) (l:=l) (a:=t::a) (by rw[List.length_cons];omega)
  have e:=haff (u:=u) (v:=v) (f:=f) (r:=a) (l:=l) (by omega)
  have x:∀w,eU G (a++[w]) (t::l)=G (a++w::l)+eU G (t::a++[w]) l:=fun w=>by
   rw[eU,List.append_assoc];rfl
  rw[x,x,x,ih,e];grind
theorem Lv {G:List Rat->Rat} {t:Rat}:∀{n i p:Nat},i+n=p+1->eU G (List.replicate i t) (List.replicate n t)=n*G (List.replicate p t)
 |0,_,_,_=>by show(0:Rat)=((0:Nat):Rat)*_;rw[show((0:Nat):Rat)=0 from rfl,Rat.zero_mul]
 |n+1,i,p,h=>by
  have ih:=Lv (G:=G) (t:=t) (n:=n) (i:=i+1) (p:=p) (by omega)
  rw[List.replicate_succ,eU,<-List.replicate_succ,ih,List.replicate_append_replicate,show i+n=p by omega,show((n+1:Nat):Rat)=(n:Rat)+1 by exact_mod_cast rfl]
  grind
def dh (k:Nat->Rat) (n P:Nat):Nat:=P+bK k n (P+1)
theorem Aa {n p P:Nat} {k:Nat->Rat} (h:Kn n p k) (hA:At n k P):Src k n (dh k n P) P/\At (n+bK k n n) (bg k n n) (dh k n P):=by
 have hlt:=hA.lt
 have hw:=hA.wide
 have e:=tL (k:=k) (n:=n) (i:=P) (.inr (fun e=>by rw[e]at hw;exact Rat.lt_irrefl hw))
 have hs:Src k n (dh k n P) P:=⟨by omega,by unfold dh;omega,by unfold dh;omega⟩
 have hm2:=pH (k:=k) (n:=n) (show P+1<=n by omega)
 have hst:=(oc (k:=k) (n:=n) (i:=P+1)).1
 refine⟨hs,by unfold dh;omega,(oW h).sorted,?_⟩
 rw[hs.val,lf (k:=k) (n:=n) (i:=P+1) (q:=dh k n P+1) (m:=n) hlt (by unfold dh;omega) (by unfold dh;omega)]
 exact hw
theorem akf {n p P s:Nat} {k:Nat->Rat} (h:Kn n p k) (hs:Src k n s P) (hA:At (n+bK k n n) (bg k n n) s):At n k P/\s=dh k n P:=by
 have hw:=hA.wide
 have hlt:=hA.lt
 rcases hs.next hlt with g|⟨g,e⟩
 ·rw[g.val,hs.val]at hw;exact absurd hw Rat.lt_irrefl
 ·have hv:=hw
  rw[g.val,hs.val]at hv
  exact⟨⟨g.1,h.sorted,hv⟩,by unfold dh;omega⟩
theorem OU {n P:Nat} {k:Nat->Rat} (hA:At n k P):∀{d q:Nat},q+d=P->∃P2,q<=P2/\P2<=P/\At n k P2/\∀i,q<=i->i<=P2->k i=k q
 |0,q,h=>⟨P,by omega,Nat.le_refl _,hA,fun i h1 h2=>by rw[show i=q by omega]⟩
 |d+1,q,h=>by
  have hlt:=hA.lt
  have hle:=hA.sorted q (by omega)
  by_cases c:k q<k (q+1)
  ·exact⟨q,Nat.le_refl _,by omega,⟨by omega,hA.sorted,c⟩,fun i h1 h2=>by rw[show i=q by omega]⟩
  ·have e:k (q+1)=k q:=by grind
   obtain⟨P2,h1,h2,h3,h4⟩:=OU hA (d:=d) (q:=q+1) (by omega)
   refine⟨P2,by omega,h2,h3,fun i g1 g2=>?_⟩
   by_cases e2:i=q
   ·rw[e2]
   ·rw[h4 i (by omega) g2,e]
theorem akW {n P P2:Nat} {k:Nat->Rat} (h1:P<P2) (hA:At n k P2) (he:∀i,P+1<=i->i<=P2->k i=k (P+1)):dh k n P2=dh k n P+(P2-P)+1:=by
 have hlt:=hA.lt
 have hw:=hA.wide
 have e:=tL (k:=k) (n:=n) (i:=P2) (.inr (fun e=>by rw[e]at hw;exact Rat.lt_irrefl hw))
 have f:=BD (k:=k) (n:=n) (i:=P+1) (j:=P2) (by omega) fun q g1 g2=>by
  rintro(g|g)
  ·omega
  ·exact g (by rw[he q g1 (by omega),he (q+1) (by omega) (by omega)])
 unfold dh
 omega
theorem TT {n p j i:Nat} {k x:Nat->Rat} (hK:Kn n p k) (hi:i<=p):∀{d P P':Nat},P'=P+d->At n k P->At n k P'->j<=dh k n P->dh k n P'<=j+p+1->bO k p x P (aT (dY (bg k n n) j i) 0 p)=bO k p x P' (aT (dY (bg k n n) j i) 0 p)
 |d,P,P',hd,hP,hP',h1,h2=>by
  by_cases c:P=P'
  ·rw[c]
  ·obtain⟨P2,g1,g2,g3,g4⟩:=OU hP' (d:=P'-(P+1)) (q:=P+1) (by omega)
   have s1:=akW (show P<P2 by omega) g3 g4
   obtain⟨w1,w2⟩:=hK.jZ hP
   obtain⟨v1,v2⟩:=hK.jZ g3
   obtain⟨q1,q2⟩:=Aa hK hP
   obtain⟨r1,r2⟩:=Aa hK g3
   have hle:dh k n P2<=dh k n P':=by
    unfold dh
    have:=pH (k:=k) (n:=n) (show P2+1<=P'+1 by omega)
    omega
   have hF:=oW hK
   have hFv:∀Q,dh k n P+1<=Q->Q<=dh k n P2->bg k n n Q=k (P+1):=fun Q a1 a2=>by
    have b1:bg k n n (dh k n P2)=k (P+1):=by rw[r1.val];exact g4 P2 g1 (Nat.le_refl _)
    have b2:bg k n n (dh k n P+1)=k (P+1):=by
     rcases q1.next q2.lt with g|⟨g,_⟩
     ·have:=q2.wide;rw[g.val,q1.val]at this;exact absurd this Rat.lt_irrefl
     ·exact g.val
    have m1:=hF.mono a1 (by have:=r2.lt;omega)
    have m2:=hF.mono a2 (by have:=r2.lt;omega)
    rw[b2]at m1
    rw[b1]at m2
    exact Rat.le_antisymm m2 m1
   obtain⟨m,hm⟩:∃m,m=P2-P:=⟨_,rfl⟩
   obtain⟨a,ha⟩:∃a,a=dh k n P-j:=⟨_,rfl⟩
   have ham:a+m<=p:=by omega
   have hrep:aT (dY (bg k n n) j i) a m=List.replicate m (k (P+1)):=C9 fun r b1 b2=>by
    unfold dY
    split
    ·exact hFv _ (by omega) (by omega)
    ·exact hFv _ (by omega) (by omega)
   have hsplit:(aT (dY (bg k n n) j i) 0 p).Perm (List.replicate m (k (P+1))++(aT (dY (bg k n n) j i) 0 a++aT (dY (bg k n n) j i) (a+m) (p-a-m))):=by
    have e:aT (dY (bg k n n) j i) 0 p=aT (dY (bg k n n) j i) 0 a++(List.replicate m (k (P+1))++aT (dY (bg k n n) j i) (a+m) (p-a-m)):=by
     rw[<-hrep]
     conv=>lhs;rw[show p=a+(m+(p-a-m)) by omega]
     rw[oG,oG,Nat.zero_add]
    rw[e,<-List.append_assoc,<-List.append_assoc]
    exact List.perm_append_comm.append_right _
   have hlen:(aT (dY (bg k n n) j i) 0 a++aT (dY (bg k n n) j i) (a+m) (p-a-m)).length=p-m:=by
    rw[List.length_append,gy,gy];omega
   have nb:=Uz (x:=x) hP (m:=m) (v:=k (P+1)) (by rw[hm,show P+(P2-P)=P2 by omega];exact g3) w1 (by omega) (by omega) (fun q b1 b2=>g4 q b1 (by omega)) hlen
   have step:bO k p x P (aT (dY (bg k n n) j i) 0 p)=bO k p x P2 (aT (dY (bg k n n) j i) 0 p):=by
    rw[qV hP w1 (by omega) hsplit (by rw[gy]),qV g3 v1 (by omega) hsplit (by rw[gy]),nb,hm,show P+(P2-P)=P2 by omega]
   rw[step]
   exact TT hK hi (d:=P'-P2) (by omega) g3 hP' (by omega) h2
 termination_by d P P'=>P'-P
end Go.Am.B
namespace Go.Am.B
theorem ab7 {n p P:Nat} {k x X:Nat->Rat} {f:Rat} (hK:Kn n p k) (hP:At n k P)
  (hX:∀j,j<=dh k n P->dh k n P<=j+p+1->∃P1,P1<=P/\At n k P1/\j<=dh k n P1/\X j=f*kW (fun i=>bO k p x P1 (aT (dY (bg k n n) j i) 0 p)) 0 (p+1)) {l:List Rat} (hl:l.length=p+1):
  bO (bg k n n) (p+1) X (dh k n P) l=f*eU (bO k p x P) [] l:=by
 obtain⟨w1,w2⟩:=hK.jZ hP
 obtain⟨q1,q2⟩:=Aa hK hP
 have hF:=oW hK
 obtain⟨v1,v2⟩:=hF.jZ q2
 have hsym:∀{l m:List Rat},l.Perm m->l.length=p->bO k p x P l=bO k p x P m:=fun h hl=>qV hP w1 (by omega) h hl
 have haff:∀{u v g:Rat} {r l:List Rat},r.length+l.length+1=p->bO k p x P (r++(u+g*(v-u))::l)=bO k p x P (r++u::l)+g*(bO k p x P (r++v::l)-bO k p x P (r++u::l)):=fun h=>IZ hP w1 (by omega) h
 have:=AF (k:=bg k n n) (b:=dh k n P-(p+1)) (p:=p+1) (n:=n+bK k n n) (G:=fun l=>f*eU (bO k p x P) [] l) (fun {a b} hab ha=>by
  show f*_=f*_
  rw[XS hsym hab (by show 0+a.length=p+1;omega)]) (fun {u v g a} ha=>by
  have e:=Rw haff (u:=u) (v:=v) (f:=g) (l:=a) (a:=[]) (by show 0+1+a.length=p+1;omega)
  have s:∀w,eU (bO k p x P) [] (w::a)=bO k p x P a+eU (bO k p x P) ([]++[w]) a:=fun w=>rfl
  show f*_=f*_+g*(f*_-f*_)
  rw[s,s,s,e];grind) (by rwa [show dh k n P-(p+1)+(p+1)=dh k n P by omega]) (by omega) (l:=l) (d:=[]) (r:=0) (y:=fun j=>X (dh k n P-(p+1)+j)) rfl (by omega) fun j _ hj=>by
  obtain⟨P1,a1,a2,a3,a4⟩:=hX (dh k n P-(p+1)+j) (by omega) (by omega)
  show X (dh k n P-(p+1)+j)=f*eU (bO k p x P) [] ([]++aT (bg k n n) (dh k n P-(p+1)+j+1) (p+1-0))
  obtain⟨J,hJ⟩:∃J,J=dh k n P-(p+1)+j:=⟨_,rfl⟩
  rw[<-hJ]at a3 a4 ⊢
  rw[a4,List.nil_append,Nat.sub_zero]
  have e1:aT (bg k n n) (J+1) (p+1)=aT (fun r=>bg k n n (J+1+r)) 0 (p+1):=qR fun i _=>by rw[Nat.zero_add]
  have e2:=Rt hsym (w:=fun r=>bg k n n (J+1+r)) (n:=p+1) (i:=0) (by omega)
  rw[e1]
  have e3:eU (bO k p x P) [] (aT (fun r=>bg k n n (J+1+r)) 0 (p+1))=kW (fun i=>bO k p x P1 (aT (dY (bg k n n) J i) 0 p)) 0 (p+1):=by
   refine Eq.trans (show _=eU (bO k p x P) (iB (fun r=>bg k n n (J+1+r)) 0 0) (aT (fun r=>bg k n n (J+1+r)) 0 (p+1))from rfl) (e2.trans (Kh fun i _ hi=>?_))
   rw[TT (x:=x) hK (i:=i) (by omega) (d:=P-P1) (by omega) a2 hP a3 (by omega)]
   congr 1
   exact qR fun r _=>by
    show(if 0+r<i then bg k n n (J+1+(0+r))else bg k n n (J+1+(0+r+1)))=dY (bg k n n) J i (0+r)
    unfold dY
    by_cases c:0+r<i
    ·rw[if_pos c,if_pos c]
    ·rw[if_neg c,if_neg c,show J+1+(0+r+1)=J+2+(0+r) by omega]
  rw[e3]
 exact this
theorem aj3 {n p P:Nat} {k x X:Nat->Rat} {f t:Rat} (hf:f*((p+1:Nat):Rat)=1) (hK:Kn n p k) (hP:At n k P)
  (hX:∀j,j<=dh k n P->dh k n P<=j+p+1->∃P1,P1<=P/\At n k P1/\j<=dh k n P1/\X j=f*kW (fun i=>bO k p x P1 (aT (dY (bg k n n) j i) 0 p)) 0 (p+1)):
  bO (bg k n n) (p+1) X (dh k n P) (List.replicate (p+1) t)=bO k p x P (List.replicate p t):=by
 rw[ab7 hK hP hX (by rw[List.length_replicate])]
 have e:=Lv (G:=bO k p x P) (t:=t) (n:=p+1) (i:=0) (p:=p) (by omega)
 have e2:eU (bO k p x P) [] (List.replicate (p+1) t)=((p+1:Nat):Rat)*bO k p x P (List.replicate p t):=e
 rw[e2,<-Rat.mul_assoc,hf,Rat.one_mul]
theorem af3 {a b t α β:Rat} (hα:α≠0):fr (α*a+β) (α*b+β) (α*t+β)=fr a b t:=by
 unfold fr
 rw[show α*t+β-(α*a+β)=α*(t-a) by grind,show α*b+β-(α*a+β)=α*(b-a) by grind]
 by_cases h:b-a=0
 ·rw[h,Rat.mul_zero,Rat.div_def,Rat.div_def,Rat.inv_zero,Rat.mul_zero,Rat.mul_zero]
 ·have hne:α*(b-a)≠0:=fun e=>(Rat.mul_eq_zero.1 e).elim hα h
  have e1:α*(t-a)/(α*(b-a))*(α*(b-a))=α*(t-a):=Rat.div_mul_cancel hne
  have e2:(t-a)/(b-a)*(b-a)=t-a:=Rat.div_mul_cancel h
  generalize α*(t-a)/(α*(b-a))=q at*
  generalize (t-a)/(b-a)=r at*
  have:(q-r)*(α*(b-a))=0:=by grind
  rcases Rat.mul_eq_zero.1 this with g|g
  ·grind
  ·exact absurd g hne
theorem Pd {k k':Nat->Rat} {α β:Rat} (hα:α≠0) {b p:Nat} (hk:∀i,b<i->i<=b+p+p->k' i=α*k i+β):∀{l:List Rat} {r:Nat} {x y:Nat->Rat},r+l.length=p->(∀j,r<=j->j<=p->x j=y j)->bl k' b p r x (l.map fun t=>α*t+β) p=bl k b p r y l p
 |[],r,x,y,hl,h=>h p (by simp at hl;omega) (Nat.le_refl _)
 |t::l,r,x,y,hl,h=>by
  rw[List.map_cons,bl,bl]
  rw[List.length_cons]at hl
  refine Pd hα hk (by omega) fun j h1 h2=>?_
  unfold gD
  rw[if_pos (by omega),if_pos (by omega),hk _ (by omega) (by omega),hk _ (by omega) (by omega),af3 hα,h j (by omega) h2,h (j-1) (by omega) (by omega)]
theorem MC {k k' x:Nat->Rat} {α β:Rat} {p P:Nat} (hα:α≠0) (w1:p<=P) (hk:∀i,P<i+p->i<=P+p->k' i=α*k i+β) {l:List Rat} (hl:l.length=p):bO k' p x P (l.map fun t=>α*t+β)=bO k p x P l:=
 Pd hα (fun i h1 h2=>hk i (by omega) (by omega)) (by omega) fun _ _ _=>rfl
theorem SP {f:Rat->Rat} {k:Nat->Rat}:∀{l a:Nat},(aT k a l).map f=aT (fun i=>f (k i)) a l
 |0,_=>rfl
 |l+1,a=>by rw[aT,List.map_cons,SP,aT]
theorem Mh {k:Nat->Rat} {c:Nat}:∀{l a:Nat},a+l<=c+1->aT (fun i=>k (c-i)) a l=iB k (c+1-a-l) l
 |0,_,_=>rfl
 |l+1,a,h=>by
  rw[aT,Mh (l:=l) (a:=a+1) (by omega),iB]
  congr 1
  ·congr 1;omega
  ·congr 1;omega
theorem Wv {n p P:Nat} {k k' x x':Nat->Rat} {σ:Rat} (h:At n k P) (w1:p<=P) (w2:P+p+1<n) (hk:∀i,i<n->k' i=σ-k (n-1-i)) (hx:∀j,j+p+1<n->x' j=x (n-p-2-j)) {l:List Rat} (hl:l.length=p):
  bO k' p x' (n-2-P) l=bO k p x P (l.map fun t=>σ-t):=by
 have hA:At n k' (n-2-P):=⟨by omega,fun i hi=>by
  rw[hk i (by omega),hk (i+1) hi]
  have:=h.sorted (n-1-(i+1)) (by omega)
  rw[show n-1-(i+1)+1=n-1-i by omega]at this
  grind,by
  rw[hk _ (by omega),hk _ (by omega),show n-1-(n-2-P)=P+1 by omega,show n-1-(n-2-P+1)=P by omega]
  have:=h.wide
  grind⟩
 have:=AF (k:=k') (b:=n-2-P-p) (p:=p) (n:=n) (G:=fun l=>bO k p x P (l.map fun t=>σ-t)) (fun {a b} hab ha=>qV h w1 (by omega) (hab.map _) (by rw[List.length_map];exact ha)) (fun {u v f a} ha=>by
  show bO k p x P ((σ-(u+f*(v-u)))::a.map _)=bO k p x P ((σ-u)::a.map _)+f*(bO k p x P ((σ-v)::a.map _)-bO k p x P ((σ-u)::a.map _))
  rw[show σ-(u+f*(v-u))=(σ-u)+f*((σ-v)-(σ-u)) by grind]
  exact IZ (r:=[]) h w1 (by omega) (by show 0+_+1=p;rw[List.length_map];omega)) (by rwa [show n-2-P-p+p=n-2-P by omega]) (by omega) (l:=l) (d:=[]) (r:=0) (y:=fun j=>x' (n-2-P-p+j)) rfl (by omega) fun j _ hj=>by
  show x' (n-2-P-p+j)=bO k p x P (([]++aT k' (n-2-P-p+j+1) (p-0)).map fun t=>σ-t)
  rw[List.nil_append,Nat.sub_zero,hx _ (by omega),SP]
  have e:aT (fun i=>σ-k' i) (n-2-P-p+j+1) p=aT (fun i=>k (n-1-i)) (n-2-P-p+j+1) p:=qR fun i hi=>by
   show σ-k' (n-2-P-p+j+1+i)=_
   rw[hk _ (by omega)];grind
  rw[e,Mh (by omega),qV h w1 (by omega) oE (by rw[oE.length_eq,gy])]
  rw[show n-1+1-(n-2-P-p+j+1)-p=n-p-2-(n-2-P-p+j)+1 by omega]
  exact(qH h w1 (by omega) (by omega) (by omega)).symm
 exact this
open Go Go.Am.N AV ah aq IntKind
theorem afg {k x y:Nat->Rat} {p P:Nat} {l:List Rat} (hl:l.length=p) (h:∀q,q<=p->x (P-p+q)=y (P-p+q)):bO k p x P l=bO k p y P l:=
 Ck aa fun j _ hj=>h j hj
theorem yt {f g:Nat->Rat}:∀{n:Nat},(∀j,j<n->f j=g j)->cO n f=cO n g
 |0,_=>rfl
 |n+1,h=>by rw[cO,cO,yt fun j hj=>h j aa,h n aa]
theorem Jn {k x:Nat->Rat} {p P:Nat} {t:Rat} (w1:p<=P):bO k p x P (List.replicate p t)=cO (p+1) fun j=>x (P-p+j)*vB k P t p j:=by
 have e:=ZC (k:=k) (b:=P-p) (p:=p) P aa t (x:=fun q=>x (P-p+q))
 rw[yw,C9 fun _ _ _=>rfl]at e
 exact e
theorem D0 {n p P:Nat} {k x:Nat->Rat} {t:Rat} (h:Kn n p k) (hA:At n k P) (h0:k P<=t) (h1:t<=k (P+1)) (hin:¬cw n k t):bO k p x P (List.replicate p t)=bO k p x (bJ n k t) (List.replicate p t):=by
 obtain⟨w1,w2⟩:=h.jZ hA
 have hi:=h.vS hin
 have hv:=h.qN hin
 rw[Jn w1,Jn hv.1]
 exact YM h w1 w2 hA.wide h0 h1 hi hv.1 hv.2
theorem qf {c:Cu} {t:Rat} (h:Kn c.n c.p.toNat c.k) (hin:¬cw c.n c.k t) (e:Nat):bW (jD c t) e=bO c.k c.p.toNat (fun i=>bW (bV (c.f i)) e) (bJ c.n c.k t) (List.replicate c.p.toNat t):=by
 have hv:=h.qN hin
 rw[Jn hv.1]
 match e with
 |0=>exact yt fun j _=>Rat.mul_comm _ _
 |1=>exact yt fun j _=>Rat.mul_comm _ _
 |2=>exact yt fun j _=>Rat.mul_comm _ _
 |e+3=>exact yt fun j _=>Rat.mul_comm _ _
theorem Fz {c d:Cu} {t u:Rat} (hc:¬cw c.n c.k t) (hd:¬cw d.n d.k u) (h:∀e,bW (jD d u) e=bW (jD c t) e):fu d u=fu c t:=by
 have e1:fu d u=EZ (jD d u):=if_neg hd
 have e2:fu c t=EZ (jD c t):=if_neg hc
 have e3:jD d u=jD c t:=by
  show(⟨⟨bW (jD d u) 0,bW (jD d u) 1,bW (jD d u) 2⟩,bW (jD d u) 3⟩:Pl)=⟨⟨bW (jD c t) 0,bW (jD c t) 1,bW (jD c t) 2⟩,bW (jD c t) 3⟩
  rw[h 0,h 1,h 2,h 3]
 rw[e1,e2,e3]
theorem PA {c d:Cu} {t:Rat} (hc:Kn c.n c.p.toNat c.k) (hd:Kn d.n c.p.toNat d.k) (hp:d.p=c.p) (hs:jj c.p.toNat c.n c.k (fun e i=>bW (bV (c.f i)) e) d.n d.k (fun e i=>bW (bV (d.f i)) e)) (h1:¬cw c.n c.k t) (h2:¬cw d.n d.k t):fu d t=fu c t:=by
 refine Fz h1 h2 fun e=>?_
 have hd':Kn d.n d.p.toNat d.k:=by rw[hp];exact hd
 rw[qf hc h1,qf hd' h2,hp]
 have hi:=hd.vS h2
 obtain⟨P,p1,p2,p3,p4⟩:=hs _ hi.at_
 rw[p4 e _ List.length_replicate]
 exact D0 hc p1 (Rat.le_trans p2 hi.lo) (Rat.le_trans hi.hi p3) h1
theorem afm {c:Cu} {t:Rat} (h:dx c) (hw:∀i,0<(c.f i).d) (he:dM c t=0):Kn (fA c t).n c.p.toNat (fA c t).k/\jj c.p.toNat c.n c.k (fun e i=>bW (bV (c.f i)) e) (fA c t).n (fA c t).k (fun e i=>bW (bV ((fA c t).f i)) e):=by
 obtain⟨e1,e2,e3,e4⟩:=yl he
 obtain⟨k1,k2,k3,k4,k5⟩:=id h
 obtain⟨i1,i2,i3⟩:=mX k1 e1 e2
 rw[show fA c t=nw c t (bJ c.n c.k t)from if_pos he]
 have hpos:∀i,0<(kS c t (bJ c.n c.k t) i).d:=fun i=>AU h hw e1 e2 i1 i2 i3
 refine⟨k1.cW e1 e2 i1 i2 i3 e3,?_⟩
 have key:=jj.ins (x:=fun e i=>bW (bV (c.f i)) e) (t:=t) jj.refl k1 e1 e2 i1 i2 i3 e3
 have ef:(fun e i=>bW (bV ((nw c t (bJ c.n c.k t)).f i)) e)=fun e=>jJ c.k c.p.toNat (fun i=>bW (bV (c.f i)) e) t (bJ c.n c.k t):=by
  funext e i
  show bW (bV (dX (kS c t (bJ c.n c.k t) i))) e=_
  rw[Ac (o5 (hpos i))]
  match e with
  |0=>rfl
  |1=>rfl
  |2=>rfl
  |e+3=>rfl
 rw[ef]
 exact key
theorem akh {c:Cu} {t u:Rat} (h:dx c) (hw:∀i,0<(c.f i).d) (he:dM c u=0) (hin:¬cw c.n c.k t):fu (fA c u) t=fu c t:=by
 obtain⟨s1,s2⟩:=afm h hw he
 obtain⟨b1,b2,b3,b4,b5,b6⟩:=Gb h he
 refine PA h.1 s1 b1 s2 hin ?_
 unfold cw
 rw[b5,b6]
 exact hin
theorem Lh {f:Rat} {x:Nat->Pl} {e:Nat}:∀{n i:Nat},bW (iH f x (i+n)) e=bW (iH f x i) e+f*kW (fun j=>bW (x j) e) i n
 |0,i=>by rw[kW,Rat.mul_zero,Rat.add_zero];rfl
 |n+1,i=>by
  have s:bW (iH f x (i+1)) e=bW (iH f x i) e+f*bW (x i) e:=by
   match e with
   |0=>rfl
   |1=>rfl
   |2=>rfl
   |e+3=>rfl
  rw[show i+(n+1)=i+1+n by omega,Lh (n:=n) (i:=i+1),s,kW];grind
theorem XD {c:Cu} {j:Nat} (hc:dx c) (hj:j<(gr (b9 c)).m) (e:Nat):∃P1,At c.n c.k P1/\j<=dh c.k c.n P1/\(∀Q,At c.n c.k Q->j<=dh c.k c.n Q->P1<=Q)/\bW ((gr (b9 c)).f j) e=((1:Int):Rat)/((c.p+1:Int):Rat)*kW (fun i=>bO c.k c.p.toNat (fun i=>bW (bV (c.f i)) e) P1 (aT (dY (bg c.k c.n c.n) j i) 0 c.p.toNat)) 0 (c.p.toNat+1):=by
 obtain⟨k1,k2,k3,k4,k5⟩:=id hc
 have hj:j<pP (b9 c)-(c.p.toNat+1)-1:=hj
 have hN:pP (b9 c)=c.n+bK c.k c.n c.n:=rfl
 have hK:=oW k1
 rw[hN]at hj
 have hsup:=hK.yp (j:=j) aa
 obtain⟨g1,g2,g3,g4⟩:=K8 hK.sorted hsup aa
 obtain⟨s,hs⟩:∃s,s=er (bg c.k c.n c.n) (c.n+bK c.k c.n c.n) j:=⟨_,rfl⟩
 rw[<-hs]at g1 g2 g3 g4
 have hFA:At (c.n+bK c.k c.n c.n) (bg c.k c.n c.n) s:=⟨aa,hK.sorted,g3⟩
 obtain⟨P,a1,a2,a3⟩:=yT (k:=c.k) (n:=c.n) (Q:=s) (m:=c.n) aa
 have hP:Src c.k c.n s P:=⟨a1,a2,a3⟩
 obtain⟨hA,es⟩:=akf k1 hP hFA
 have hI:fH c.n c.k (bg c.k c.n c.n s)=P:=by
  rw[hP.val]
  unfold fH
  rw[if_neg,zY hA]
  have:=hA.lt
  rintro(h|h)
  ·exact absurd (k1.mono (Nat.zero_le P) aa) (Rat.not_le.2 h)
  ·exact absurd (k1.mono (show P<=c.n-1 by omega) aa) (Rat.not_le.2 h)
 refine⟨P,hA,aa,fun Q hQ hjQ=>?_,?_⟩
 ·by_cases c1:P<=Q
  ·exact c1
  ·exfalso
   obtain⟨r1,r2⟩:=Aa k1 hQ
   have hlt:dh c.k c.n Q<s:=by
    rw[es]
    unfold dh
    have:=pH (k:=c.k) (n:=c.n) (show Q+1<=P+1 by omega)
    omega
   have m1:=g4 _ hjQ aa
   have m2:=g4 (dh c.k c.n Q+1) aa aa
   have:=r2.wide
   rw[m1,m2]at this
   exact Rat.lt_irrefl this
 ·have ef:(gr (b9 c)).f j=iH (((1:Int):Rat)/((c.p+1:Int):Rat)) (nq (b9 c) (P:Nat) (c.p.toNat+1) (bg c.k c.n c.n) j) (c.p.toNat+1):=by
   rw[<-hI,hs];rfl
  have e0:=Lh (f:=((1:Int):Rat)/((c.p+1:Int):Rat)) (x:=nq (b9 c) (P:Nat) (c.p.toNat+1) (bg c.k c.n c.n) j) (e:=e) (n:=c.p.toNat+1) (i:=0)
  rw[Nat.zero_add]at e0
  have z:∀e,bW (iH (((1:Int):Rat)/((c.p+1:Int):Rat)) (nq (b9 c) (P:Nat) (c.p.toNat+1) (bg c.k c.n c.n) j) 0) e=0:=fun e=>match e with
   |0=>rfl
   |1=>rfl
   |2=>rfl
   |_+3=>rfl
  rw[ef,e0,z,Rat.zero_add]
  congr 1
  refine Kh fun i _ hi=>?_
  have key:∀e,ga (b9 c) (P:Nat) c.p.toNat (fun u=>ju (fun v=>bg c.k c.n c.n (v+(j+1))) i (c.p.toNat+1) u) e=bO c.k c.p.toNat (fun i=>bW (bV (c.f i)) e) P (aT (dY (bg c.k c.n c.n) j i) 0 c.p.toNat):=fun e=>by
   rw[Sb (c:=b9 c) k1 k2 k5 hA]
   have e1:aT (fun u=>ju (fun v=>bg c.k c.n c.n (v+(j+1))) i (c.p.toNat+1) u) 0 c.p.toNat=aT (dY (bg c.k c.n c.n) j i) 0 c.p.toNat:=r5 fun u h1 h2=>by
    unfold ju dY
    rw[if_neg aa]
    by_cases c:u<i
    ·rw[if_neg aa,if_pos c,<-Nat.add_comm u (j+1)]
    ·rw[if_pos aa,if_neg c,<-show u+1+(j+1)=j+2+u by omega]
   show bO c.k c.p.toNat (fun i=>bW (bV (c.f i)) e) P (aT (fun u=>ju (fun v=>bg c.k c.n c.n (v+(j+1))) i (c.p.toNat+1) u) 0 c.p.toNat)=_
   rw[e1]
  match e with
  |0=>exact key 0
  |1=>exact key 1
  |2=>exact key 2
  |e+3=>exact key 3
theorem EJ {n p:Nat} {k:Nat->Rat} (h:Kn n p k) {t:Rat} (hin:¬cw n k t):k 0<=t/\t<=k (n-1):=by
 unfold cw at hin
 constructor
 ·exact Rat.not_lt.1 fun h=>hin (.inl h)
 ·exact Rat.not_lt.1 fun h=>hin (.inr h)
theorem As {n:Nat} {k:Nat->Rat} {t:Rat} (h0:k 0<=t) (h1:t<=k (n-1)):¬cw n k t:=fun h=>h.elim (fun g=>absurd h0 (Rat.not_le.2 g)) fun g=>absurd h1 (Rat.not_le.2 g)
theorem ais {n p:Nat} {k:Nat->Rat} (h:Kn n p k):bg k n n 0=k 0/\bg k n n (n+bK k n n-1)=k (n-1):=by
 have hl:=h.len
 refine⟨lf (k:=k) (n:=n) (i:=0) (q:=0) aa aY aa,lf (k:=k) (n:=n) (i:=n-1) aa ?_ ?_⟩
 ·have:=pH (k:=k) (n:=n) (show n-1<=n by omega)
  omega
 ·rw[show n-1+1=n by omega];omega
theorem agB {c:Cu} {t:Rat} (hc:dx c) (hw:∀i,0<(c.f i).d) (hp:¬6<=c.p) (hin:¬cw c.n c.k t):dx (eP c)->¬cw (eP c).n (eP c).k t/\fu (eP c) t=fu c t:=by
 intro hE
 obtain⟨k1,k2,k3,k4,k5⟩:=id hc
 rw[show eP c=kJ (gr (b9 c))from if_neg hp]at hE ⊢
 have hF:=oW k1
 obtain⟨f0,f1⟩:=ais k1
 obtain⟨b0,b1⟩:=EJ k1 hin
 have hd:¬cw (kJ (gr (b9 c))).n (kJ (gr (b9 c))).k t:=As (by show bg c.k c.n c.n 0<=t;rw[f0];exact b0) (by show t<=bg c.k c.n c.n (c.n+bK c.k c.n c.n-1);rw[f1];exact b1)
 refine⟨hd,Fz hin hd fun e=>?_⟩
 have hp1:(c.p+1).toNat=c.p.toNat+1:=aa
 rw[qf k1 hin,qf hE.1 hd]
 have hi:=k1.vS hin
 obtain⟨q1,q2⟩:=Aa k1 hi.at_
 obtain⟨v1,v2⟩:=hF.jZ q2
 generalize hPP:bJ c.n c.k t=P at*
 have hs1:bg c.k c.n c.n (dh c.k c.n P)=c.k P:=q1.val
 have hs2:bg c.k c.n c.n (dh c.k c.n P+1)=c.k (P+1):=by
  rcases q1.next q2.lt with g|⟨g,_⟩
  ·have:=q2.wide;rw[g.val,q1.val]at this;exact absurd this Rat.lt_irrefl
  ·exact g.val
 show bO (bg c.k c.n c.n) (c.p+1).toNat (fun j=>bW (bV (dX ((gr (b9 c)).f j))) e) (bJ (c.n+bK c.k c.n c.n) (bg c.k c.n c.n) t) (List.replicate (c.p+1).toNat t)=_
 rw[hp1,<-D0 hF q2 (by rw[hs1];exact hi.lo) (by rw[hs2];exact hi.hi) hd]
 have eM:(gr (b9 c)).m=c.n+bK c.k c.n c.n-(c.p.toNat+1)-1:=rfl
 rw[afg (y:=fun j=>bW ((gr (b9 c)).f j) e) List.length_replicate fun q hq=>by
  show bW (bV (dX ((gr (b9 c)).f (dh c.k c.n P-(c.p.toNat+1)+q)))) e=_
  rw[Ac (o5 (LH hc hw (by rw[eM];omega)))]]
 have hf:((1:Int):Rat)/((c.p+1:Int):Rat)*((c.p.toNat+1:Nat):Rat)=1:=by
  have e1:((c.p+1:Int):Rat)=((c.p.toNat+1:Nat):Rat):=by
   rw[show c.p+1=((c.p.toNat+1:Nat):Int) by omega];rfl
  rw[e1]
  refine Rat.div_mul_cancel fun h=>?_
  have:((c.p.toNat+1:Nat):Rat)=((0:Nat):Rat):=h
  have:=Rat.natCast_inj.1 this
  omega
 exact aj3 hf k1 hi.at_ fun j h1 h2=>by
  obtain⟨P1,a1,a2,a3,a4⟩:=XD hc (j:=j) (by rw[eM];omega) e
  exact⟨P1,a3 P hi.at_ h1,a1,a2,a4⟩
theorem T6 {c:Cu} {t:Rat} (hc:dx c) (hin:¬cw c.n c.k t):¬cw (k7 c).n (k7 c).k (c.k 0+c.k (c.n-1)-t)/\fu (k7 c) (c.k 0+c.k (c.n-1)-t)=fu c t:=by
 obtain⟨k1,k2,k3,k4,k5⟩:=id hc
 have hl:=k1.len
 obtain⟨b0,b1⟩:=EJ k1 hin
 have hM:=k1.Oi
 have hd:¬cw (k7 c).n (k7 c).k (c.k 0+c.k (c.n-1)-t):=As (by show c.k 0+c.k (c.n-1)-c.k (c.n-1-0)<=_;rw[Nat.sub_zero];grind) (by show _<=c.k 0+c.k (c.n-1)-c.k (c.n-1-(c.n-1));rw[Nat.sub_self];grind)
 refine⟨hd,Fz hin hd fun e=>?_⟩
 have hM':Kn (k7 c).n (k7 c).p.toNat (k7 c).k:=hM
 rw[qf k1 hin,qf hM' hd]
 have hi:=k1.vS hin
 have hv:=k1.qN hin
 generalize bJ c.n c.k t=P at*
 have hlt:=hi.at_.lt
 have ek:∀i,fo c.n c.k i=c.k 0+c.k (c.n-1)-c.k (c.n-1-i):=fun i=>rfl
 have hA:At c.n (fo c.n c.k) (c.n-2-P):=⟨aa,hM.sorted,by
  rw[ek,ek,show c.n-1-(c.n-2-P)=P+1 by omega,show c.n-1-(c.n-2-P+1)=P by omega]
  have:=hi.at_.wide
  grind⟩
 show bO (fo c.n c.k) c.p.toNat (fun i=>bW (bV (c.f (c.m-1-i))) e) (bJ c.n (fo c.n c.k) (c.k 0+c.k (c.n-1)-t)) (List.replicate c.p.toNat (c.k 0+c.k (c.n-1)-t))=_
 have h1:=hi.lo
 have h2:=hi.hi
 rw[<-D0 hM hA (by rw[ek,show c.n-1-(c.n-2-P)=P+1 by omega];grind) (by rw[ek,show c.n-1-(c.n-2-P+1)=P by omega];grind) hd]
 rw[Wv (k:=c.k) (x:=fun i=>bW (bV (c.f i)) e) (σ:=c.k 0+c.k (c.n-1)) hi.at_ hv.1 hv.2 (fun i _=>ek i) (fun j hj=>by show bW (bV (c.f (c.m-1-j))) e=bW (bV (c.f (c.n-c.p.toNat-2-j))) e;rw[show c.m-1-j=c.n-c.p.toNat-2-j by omega]) List.length_replicate,List.map_replicate]
 rw[show c.k 0+c.k (c.n-1)-(c.k 0+c.k (c.n-1)-t)=t by grind]
theorem aiY {c:Cu} {a b t:Rat} (hc:dx c) (hab:a<b) (hin:¬cw c.n c.k t):¬cw (l6 c a b).n (l6 c a b).k (a+(t-c.k 0)*((c.k (c.n-1)-c.k 0)⁻¹*(b-a)))/\fu (l6 c a b) (a+(t-c.k 0)*((c.k (c.n-1)-c.k 0)⁻¹*(b-a)))=fu c t:=by
 obtain⟨k1,k2,k3,k4,k5⟩:=id hc
 have hl:=k1.len
 have hp1:=k1.p1
 obtain⟨b0,b1⟩:=EJ k1 hin
 have hA:=k1.Gj hab
 have eC:l6 c a b=⟨c.p,c.n,fY c.n c.k a b,c.m,c.f⟩:=(JL (show kj a b=0 from if_neg (Rat.not_le.2 hab))).1
 rw[eC]
 have hw:c.k 0<c.k (c.n-1):=by
  have i:=k1.vS hin
  have v:=k1.qN hin
  exact i.at_.around (Nat.zero_le _) (show bJ c.n c.k t<c.n-1 by omega) aa
 have hne:c.k (c.n-1)-c.k 0≠0:=fun e=>by grind
 obtain⟨α,hα⟩:∃α,α=(c.k (c.n-1)-c.k 0)⁻¹*(b-a):=⟨_,rfl⟩
 have hα0:0<α:=by
  rw[hα];exact Rat.mul_pos (Rat.inv_pos.2 (by grind)) (by grind)
 have ek:∀i,fY c.n c.k a b i=a+(c.k i-c.k 0)*α:=fun i=>by rw[xK,hα]
 rw[<-hα]
 have mono:∀{x y:Rat},x<=y->a+(x-c.k 0)*α<=a+(y-c.k 0)*α:=fun {x y} h=>by
  have:=Rat.mul_nonneg (show 0<=y-x by grind) (Rat.le_of_lt hα0)
  grind
 have hd:¬cw c.n (fY c.n c.k a b) (a+(t-c.k 0)*α):=As (by rw[ek];exact mono b0) (by rw[ek];exact mono b1)
 refine⟨hd,Fz (d:=⟨c.p,c.n,fY c.n c.k a b,c.m,c.f⟩) hin hd fun e=>?_⟩
 rw[qf k1 hin,qf (c:=⟨c.p,c.n,fY c.n c.k a b,c.m,c.f⟩) hA hd]
 have hi:=k1.vS hin
 have hv:=k1.qN hin
 generalize bJ c.n c.k t=P at*
 have hAt:At c.n (fY c.n c.k a b) P:=⟨hi.at_.lt,hA.sorted,by
  rw[ek,ek]
  have:=Rat.mul_pos (show 0<c.k (P+1)-c.k P by have:=hi.at_.wide;grind) hα0
  grind⟩
 show bO (fY c.n c.k a b) c.p.toNat (fun i=>bW (bV (c.f i)) e) (bJ c.n (fY c.n c.k a b) (a+(t-c.k 0)*α)) (List.replicate c.p.toNat (a+(t-c.k 0)*α))=_
 rw[<-D0 hA hAt (by rw[ek];exact mono hi.lo) (by rw[ek];exact mono hi.hi) hd]
 have key:=MC (k:=c.k) (k':=fY c.n c.k a b) (x:=fun i=>bW (bV (c.f i)) e) (α:=α) (β:=a-c.k 0*α) (o5 hα0) hv.1 (fun i _ _=>by rw[ek];grind) (l:=List.replicate c.p.toNat t) List.length_replicate
 rw[List.map_replicate,show α*t+(a-c.k 0*α)=a+(t-c.k 0)*α by grind]at key
 exact key
structure nE (c d:Cu):Prop where
 kn:dx d
 p:d.p=c.p
 pos:∀i,0<(d.f i).d
 sub:jj c.p.toNat c.n c.k (fun e i=>bW (bV (c.f i)) e) d.n d.k (fun e i=>bW (bV (d.f i)) e)
theorem aaF {k k' x:Nat->Rat} {p P:Nat} (w1:p<=P) (hk:∀i,P<i+p->i<=P+p->k' i=k i) {l:List Rat} (hl:l.length=p):bO k' p x P l=bO k p x P l:=by
 have:=MC (k:=k) (k':=k') (x:=x) (α:=1) (β:=0) (by decide) w1 (fun i h1 h2=>by rw[hk i h1 h2];grind) hl
 rwa [show(l.map fun t=>(1:Rat)*t+0)=l by
  conv=>rhs;rw[<-List.map_id l]
  exact List.map_congr_left fun t _=>by show(1:Rat)*t+0=t;grind]at this
theorem nE.right {c d:Cu} {t:Rat} {a:Nat} (h:nE c d) (h0:d.k 0<t) (h1:t<d.k (d.n-1)) (hlo:d.k a<=t) (hhi:t<d.k (a+1)) (ha:a+1<d.n) (ht:bu d.k t d.n=d.p.toNat):nE c (gx d t a)/\(gx d t a).k 0=t/\(gx d t a).k ((gx d t a).n-1)=d.k (d.n-1):=by
 obtain⟨k1,k2,k3,k4,k5⟩:=id h.kn
 obtain⟨r1,r2,r3⟩:=k1.split h0 h1 hlo hhi ha ht
 obtain⟨g1,g2⟩:=k1.l7 h0 h1 hlo hhi ha
 have hp:=h.p
 have hl:=k1.len
 have hp1:=k1.p1
 have hK:∀i,1<=i->(gx d t a).k i=d.k (a-d.p.toNat+i):=fun i hi=>by
  show(if i<1 then t else d.k (a+1-d.p.toNat+(i-1)))=_
  rw[if_neg aa];congr 1;omega
 have hK0:(gx d t a).k 0=t:=(if_pos aa:(if 0<1 then t else d.k (a+1-d.p.toNat+(0-1)))=t)
 have hN:(gx d t a).n=d.n-(a-d.p.toNat):=by show 1+(d.n-(a+1-d.p.toNat))=_;omega
 have hS:∀i,1<=i->i<=d.p.toNat->d.k (a-d.p.toNat+i)=t:=fun i h1 h2=>r1 _ aa aa
 have hkn:Kn (gx d t a).n d.p.toNat (gx d t a).k:=by
  rw[hN]
  refine⟨hp1,aa,fun i hi=>?_,fun i hi=>?_,fun i h1 h2=>?_,fun i h1 h2=>?_⟩
  ·by_cases e:i=0
   ·subst e
    rw[hK0,hK _ aa,hS _ aa aa];exact Rat.le_refl
   ·rw[hK _ aa,hK _ aa];exact k1.sorted _ aa
  ·by_cases e:i=0
   ·subst e;rfl
   ·rw[hK _ aa,hK0,hS _ aa hi]
  ·rw[hK _ aa,hK _ aa,k1.last _ aa aa,k1.last (a-d.p.toNat+(d.n-(a-d.p.toNat)-1)) aa aa]
  ·rw[hK _ aa,hK _ aa,<-Nat.add_assoc];exact k1.mult _ aa aa
 refine⟨⟨⟨hkn,k2,k3,show(gx d t a).n<=d.p.toNat+41 by omega,show((d.m-(a-d.p.toNat):Nat):Int)=((gx d t a).n:Int)-d.p-1 by omega⟩,hp,fun i=>h.pos _,fun Q hQ=>?_⟩,hK0,?_⟩
 ·obtain⟨v1,v2⟩:=hkn.jZ hQ
  have hw:=hQ.wide
  rw[hK _ aa,hK _ aa]at hw
  obtain⟨P,p1,p2,p3,p4⟩:=h.sub (a-d.p.toNat+Q) ⟨aa,k1.sorted,hw⟩
  refine⟨P,p1,by rw[hK _ aa];exact p2,by rw[hK _ aa];exact p3,fun e l hl=>?_⟩
  rw[<-p4 e l hl,<-hp]
  show bl (gx d t a).k (Q-d.p.toNat) d.p.toNat 0 (fun q=>bW (bV (d.f (a-d.p.toNat+(Q-d.p.toNat+q)))) e) l d.p.toNat=bl d.k (a-d.p.toNat+Q-d.p.toNat) d.p.toNat 0 (fun q=>bW (bV (d.f (a-d.p.toNat+Q-d.p.toNat+q))) e) l d.p.toNat
  rw[JE (k:=d.k) (b:=a-d.p.toNat+Q-d.p.toNat) fun i hi=>by rw[hK _ aa];congr 1;omega]
  congr 1
  funext q
  rw[show a-d.p.toNat+(Q-d.p.toNat+q)=a-d.p.toNat+Q-d.p.toNat+q by omega]
 ·rw[hN,hK _ aa];congr 1;omega
theorem nE.left {c d:Cu} {t:Rat} {a:Nat} (h:nE c d) (h0:d.k 0<t) (h1:t<d.k (d.n-1)) (hlo:d.k a<=t) (hhi:t<d.k (a+1)) (ha:a+1<d.n) (ht:bu d.k t d.n=d.p.toNat):nE c (lY d t a)/\(lY d t a).k 0=d.k 0/\(lY d t a).k ((lY d t a).n-1)=t:=by
 obtain⟨k1,k2,k3,k4,k5⟩:=id h.kn
 obtain⟨r1,r2,r3⟩:=k1.split h0 h1 hlo hhi ha ht
 obtain⟨g1,g2⟩:=k1.l7 h0 h1 hlo hhi ha
 have hp:=h.p
 have hl:=k1.len
 have hp1:=k1.p1
 have hK:∀i,i<a+1->(lY d t a).k i=d.k i:=fun i hi=>if_pos hi
 have hK1:(lY d t a).k (a+1)=t:=if_neg (Nat.lt_irrefl (a+1))
 have hN:(lY d t a).n=a+1+1:=rfl
 have hkn:Kn (lY d t a).n d.p.toNat (lY d t a).k:=by
  rw[hN]
  refine⟨hp1,aa,fun i hi=>?_,fun i hi=>?_,fun i h1 h2=>?_,fun i h1 h2=>?_⟩
  ·by_cases e:i+1<a+1
   ·rw[hK _ aa,hK _ e];exact k1.sorted _ aa
   ·rw[hK _ aa,show i+1=a+1 by omega,hK1,show i=a by omega];exact hlo
  ·rw[hK _ aa,hK _ aa];exact k1.first i hi
  ·rw[show a+1+1-1=a+1 by omega,hK1]
   by_cases e:i<a+1
   ·rw[hK _ e];exact r1 i aa aa
   ·rw[show i=a+1 by omega,hK1]
  ·rw[hK _ aa,hK _ aa];exact k1.mult i h1 aa
 refine⟨⟨⟨hkn,k2,k3,show a+1+1<=d.p.toNat+41 by omega,show((a+1-d.p.toNat:Nat):Int)=((a+1+1:Nat):Int)-d.p-1 by omega⟩,hp,h.pos,fun Q hQ=>?_⟩,hK 0 aa,hK1⟩
 obtain⟨v1,v2⟩:=hkn.jZ hQ
 rw[hN]at v2
 have hw:=hQ.wide
 rw[hK _ aa,hK _ aa]at hw
 obtain⟨P,p1,p2,p3,p4⟩:=h.sub Q ⟨aa,k1.sorted,hw⟩
 refine⟨P,p1,by rw[hK _ aa];exact p2,by rw[hK _ aa];exact p3,fun e l hl=>?_⟩
 rw[<-p4 e l hl,<-hp]
 exact aaF v1 (fun i _ h2=>hK i aa) (by rw[hl,hp])
theorem Xg {c:Cu} {u:Rat} (hc:dm c 5) (hu:dD u) (h40:c.m+c.p.toNat<=40) (he:m7 c u=0):nE c (ig c u)/\nE c (iw c u)/\(ig c u).k 0=c.k 0/\(ig c u).k ((ig c u).n-1)=u/\(iw c u).k 0=u/\(iw c u).k ((iw c u).n-1)=c.k (c.n-1):=by
 have hin:c.k 0<u/\u<c.k (c.n-1):=by
  by_cases g:c.k 0<u/\u<c.k (c.n-1)
  ·exact g
  ·rw[show m7 c u=7 from if_neg g]at he;exact absurd he (by decide)
 obtain⟨k1,k2,k3,k4,k5⟩:=id hc.kn
 have hle:=k1.yU hin.1 hin.2
 have hR:((bu c.k u c.n+(c.p.toNat-bu c.k u c.n):Nat):Int)<=c.p:=aa
 have hs:=lR.all hc hu hin.1 hin.2 h40 hR
 have hsub:=HU hc hu hin.1 hin.2 h40 hR
 have hd:=rO hc (fun _=>hu) hs.e
 have hW:nE c (cj c u (c.p.toNat-bu c.k u c.n)):=⟨hd.kn,hs.p,hd.pos,hsub⟩
 rw[show ig c u=lY (cj c u (c.p.toNat-bu c.k u c.n)) u (bJ (cj c u (c.p.toNat-bu c.k u c.n)).n (cj c u (c.p.toNat-bu c.k u c.n)).k u)from if_pos hin,show iw c u=gx (cj c u (c.p.toNat-bu c.k u c.n)) u (bJ (cj c u (c.p.toNat-bu c.k u c.n)).n (cj c u (c.p.toNat-bu c.k u c.n)).k u)from if_pos hin]
 have j0:(cj c u (c.p.toNat-bu c.k u c.n)).k 0<u:=by rw[hs.k0];exact hin.1
 have j1:u<(cj c u (c.p.toNat-bu c.k u c.n)).k ((cj c u (c.p.toNat-bu c.k u c.n)).n-1):=by rw[hs.k1];exact hin.2
 obtain⟨a1,a2,a3⟩:=mX hd.kn.1 j0 j1
 have hp:=hs.p
 have ht:bu (cj c u (c.p.toNat-bu c.k u c.n)).k u (cj c u (c.p.toNat-bu c.k u c.n)).n=(cj c u (c.p.toNat-bu c.k u c.n)).p.toNat:=by rw[hs.s,hp];omega
 obtain⟨l1,l2,l3⟩:=hW.left j0 j1 a1 a2 a3 ht
 obtain⟨m1,m2,m3⟩:=hW.right j0 j1 a1 a2 a3 ht
 exact⟨l1,m1,l2.trans hs.k0,l3,m2,m3.trans hs.k1⟩
theorem nE.ev {c d:Cu} {t:Rat} (hc:dx c) (h:nE c d) (h1:¬cw c.n c.k t) (h2:¬cw d.n d.k t):fu d t=fu c t:=
 PA hc.1 (by rw[<-h.p];exact h.kn.1) h.p h.sub h1 h2
theorem dm.abp {c:Cu} {s x y:Nat} (h:dm c s) (hs:s<=1000):bF (bQ c x y) (bQ c 2000 2000):=
 ct ⟨.refl _,fG fun i hi=>h.GB i hi,fG fun i hi=>h.QT hs i hi,trivial⟩
theorem Jc {x y z w:Nat}:bF (bQ jC x y) (bQ jC z w):=
 ct ⟨.refl _,fG fun i hi=>absurd hi (Nat.not_lt_zero i),fG fun i hi=>absurd hi (Nat.not_lt_zero i),trivial⟩
theorem dm.KZ {c:Cu} {s y i:Nat} (h:dm c s) (hs:s<=1000):bF (bH (c.f i) y) (bH (c.f i) 2000):=by
 obtain⟨a,b,d⟩:=h.x i
 exact ct ⟨ct ⟨dc rfl (a.more aa),dc rfl (b.more aa),dc rfl (d.more aa),trivial⟩,dc rfl ((h.sd i).more aa),trivial⟩
theorem ai4 {c:Cu} {t:Rat} {x y:Nat} (hc:dm c 5) (ht:dD t) (h40:c.m+c.p.toNat<=40) (hp4:c.p<=4):bF (bQ (ig c t) x y) (bQ (ig c t) 2000 2000)/\bF (bQ (iw c t) x y) (bQ (iw c t) 2000 2000):=by
 by_cases hin:c.k 0<t/\t<c.k (c.n-1)
 ·obtain⟨k1,k2,k3,k4,k5⟩:=id hc.kn
  have hle:=k1.yU hin.1 hin.2
  have hR:((bu c.k t c.n+(c.p.toNat-bu c.k t c.n):Nat):Int)<=c.p:=aa
  have hs:=lR.all hc ht hin.1 hin.2 h40 hR
  have hd:=rO hc (fun _=>ht) hs.e
  have hz:tT (c.p.toNat-bu c.k t c.n)<=1000:=ZY aa
  rw[show ig c t=lY (cj c t (c.p.toNat-bu c.k t c.n)) t (bJ (cj c t (c.p.toNat-bu c.k t c.n)).n (cj c t (c.p.toNat-bu c.k t c.n)).k t)from if_pos hin,show iw c t=gx (cj c t (c.p.toNat-bu c.k t c.n)) t (bJ (cj c t (c.p.toNat-bu c.k t c.n)).n (cj c t (c.p.toNat-bu c.k t c.n)).k t)from if_pos hin]
  refine⟨ct ⟨.refl _,fG fun i _=>dc rfl ?_,fG fun i _=>hd.KZ hz,trivial⟩,ct ⟨.refl _,fG fun i _=>dc rfl ?_,fG fun i _=>hd.KZ hz,trivial⟩⟩
  ·show Sz (if i<_ then _ else t) 2000
   split
   ·exact(hd.kd i).sz.more (by decide)
   ·exact ht.sz.more (by decide)
  ·show Sz (if i<1 then t else _) 2000
   split
   ·exact ht.sz.more (by decide)
   ·exact(hd.kd _).sz.more (by decide)
 ·rw[show ig c t=jC from if_neg hin,show iw c t=jC from if_neg hin]
  exact⟨Jc,Jc⟩
def Pc:Spec:=cI (kC (gY 2000 2000) (kC (fL 2000) kN)) (fun a=>.tuple [bQ (fA a.1 a.2.1) 2000 2000,.int .i64 (dM a.1 a.2.1)]) fun a=>[dm a.1 5,dD a.2.1]
def On:Spec:=cI (kC (gY 2000 2000) (kC (fL 2000) kN)) (fun a=>.tuple [bQ (ig a.1 a.2.1) 2000 2000,bQ (iw a.1 a.2.1) 2000 2000,.int .i64 (m7 a.1 a.2.1)]) fun a=>[dm a.1 5,dD a.2.1,a.1.m+a.1.p.toNat<=40,a.1.p<=4]
theorem ag0:∀K args pre q,Pc K args pre=some q->aD P vj K args pre q:=cL fun⟨c,t,_⟩ K hn=>by
 have hc:dm c 5:=hn.1
 have ht:dD t:=hn.2
 refine HE (us:=[bQ (fA c t) (sK+10) (sB+sB),.int .i64 (dM c t)]) (afI K [bQ c 2000 2000,.rat t 2000] [] _ rfl) (fun _=>⟨cz aY,ir aY,aY,hc.kn⟩) rfl ⟨?_,.refl _,trivial⟩
 by_cases h:dM c t=0
 ·exact(hc.ins ht h).abp (by decide)
 ·rw[show fA c t=jC from if_neg h];exact Jc
theorem akN:∀K args pre q,On K args pre=some q->aD P El K args pre q:=cL fun⟨c,t,_⟩ K hn=>by
 obtain⟨hc,ht,h40,hp4⟩:=hn
 have hc:dm c 5:=hc
 have ht:dD t:=ht
 have h40:c.m+c.p.toNat<=40:=h40
 have hp4:c.p<=4:=hp4
 obtain⟨u1,u2⟩:=ai4 (x:=2000) (y:=sE) hc ht h40 hp4
 exact HE (us:=[bQ (ig c t) 2000 sE,bQ (iw c t) 2000 sE,.int .i64 (m7 c t)]) (ZH K [bQ c 2000 2000,.rat t 2000] [] _ rfl) (fun _=>⟨cz aY,ir aY,aY,hc,ht,h40,show c.p<=5 by omega⟩) rfl ⟨u1,u2,.refl _,trivial⟩
theorem Xq {c:Cu} (hc:dx c) (hp:c.p<=5) (hn:c.n<=20):dx (eP c):=by
 obtain⟨k1,k2,k3,k4,k5⟩:=hc
 have hl:=k1.len
 have hg:=yI (k:=c.k) (n:=c.n) (i:=c.n)
 have hK:=oW k1
 have hKl:=hK.len
 rw[show eP c=kJ (gr (b9 c))from if_neg aa]
 refine⟨?_,show 1<=c.p+1 by omega,show c.p+1<=6 by omega,show c.n+bK c.k c.n c.n<=(c.p+1).toNat+41 by omega,show((c.n+bK c.k c.n c.n-(c.p.toNat+1)-1:Nat):Int)=((c.n+bK c.k c.n c.n:Nat):Int)-(c.p+1)-1 by omega⟩
 show Kn (c.n+bK c.k c.n c.n) (c.p+1).toNat (bg c.k c.n c.n)
 rw[show(c.p+1).toNat=c.p.toNat+1 by omega]
 exact hK
theorem amp {c:Cu}:FF (k7 (k7 c)) c:=
 ⟨rfl,rfl,fun _ hi=>UK hi,rfl,fun j hj=>by
  have hj:j<c.m:=hj
  show c.f (c.m-1-(c.m-1-j))=c.f j
  rw[show c.m-1-(c.m-1-j)=j by omega]⟩
structure jQ (c d:Cu) (t u:Rat):Prop where
 kc:dx c
 ic:¬cw c.n c.k t
 kd:dx d
 id:¬cw d.n d.k u
 ev:fu d u=fu c t
theorem Va {c:Cu} {t u:Rat} (hc:dm c 5) (hu:dD u) (hin:¬cw c.n c.k t) (he:dM c u=0):jQ c (fA c u) t t:=by
 obtain⟨b1,b2,b3,b4,b5,b6⟩:=Gb hc.kn he
 refine⟨hc.kn,hin,(hc.ins hu he).kn,?_,akh hc.kn hc.pos he hin⟩
 unfold cw
 rw[b5,b6]
 exact hin
theorem aiU {c:Cu} {t:Rat} (hc:dm c 5) (hp:c.p<=5) (hn:c.n<=20) (hin:¬cw c.n c.k t):jQ c (eP c) t t:=by
 have hk:=Xq hc.kn hp hn
 obtain⟨a,b⟩:=agB hc.kn hc.pos aa hin hk
 exact⟨hc.kn,hin,hk,a,b⟩
theorem amt {c:Cu} (hc:dm c 5) (hp:c.p<=5):∀j,j<(eP c).m->0<((eP c).f j).d:=fun j hj=>by
 rw[show eP c=kJ (gr (b9 c))from if_neg aa]at hj ⊢
 exact LH hc.kn hc.pos hj
theorem al4 {c:Cu} {t u:Rat} (hc:dm c 5) (hu:dD u) (h40:c.m+c.p.toNat<=40) (hin:¬cw c.n c.k t) (he:m7 c u=0):(t<=u->jQ c (ig c u) t t)/\(u<=t->jQ c (iw c u) t t):=by
 obtain⟨w1,w2,a1,a2,b1,b2⟩:=Xg hc hu h40 he
 obtain⟨l,r⟩:=EJ hc.kn.1 hin
 refine⟨fun h=>?_,fun h=>?_⟩
 ·have hi:¬cw (ig c u).n (ig c u).k t:=As (by rw[a1];exact l) (by rw[a2];exact h)
  exact⟨hc.kn,hin,w1.kn,hi,w1.ev hc.kn hin hi⟩
 ·have hi:¬cw (iw c u).n (iw c u).k t:=As (by rw[b1];exact h) (by rw[b2];exact r)
  exact⟨hc.kn,hin,w2.kn,hi,w2.ev hc.kn hin hi⟩
theorem V8 {c:Cu} {t:Rat} (hc:dx c) (hin:¬cw c.n c.k t):jQ c (l6 c 0 2) t ((t-c.k 0)/(c.k (c.n-1)-c.k 0)+(t-c.k 0)/(c.k (c.n-1)-c.k 0)):=by
 obtain⟨k1,k2,k3,k4,k5⟩:=id hc
 have hab:(0:Rat)<2:=by decide
 obtain⟨a,b⟩:=aiY hc hab hin
 have e:(0:Rat)+(t-c.k 0)*((c.k (c.n-1)-c.k 0)⁻¹*(2-0))=(t-c.k 0)/(c.k (c.n-1)-c.k 0)+(t-c.k 0)/(c.k (c.n-1)-c.k 0):=by
  rw[Rat.div_def];grind
 rw[e]at a b
 refine⟨hc,hin,?_,a,b⟩
 rw[(JL (show kj (0:Rat) 2=0 from if_neg (by decide))).1]
 exact⟨k1.Gj hab,k2,k3,k4,k5⟩
theorem aaI {c:Cu} {t:Rat} (hc:dx c) (hin:¬cw c.n c.k t):jQ c (k7 c) t (c.k 0+c.k (c.n-1)-t):=by
 obtain⟨k1,k2,k3,k4,k5⟩:=id hc
 obtain⟨a,b⟩:=T6 hc hin
 exact⟨hc,hin,⟨k1.Oi,k2,k3,k4,k5⟩,a,b⟩
theorem afc:aR P Ir BX (az BX):=aS Proofs.Tryz.func15 ag ag ag
def NN:aX:=[(ami,gX T (sG::vr) [100010,100017] 60 YO)]
def NQ:aX:=nG::(CJ,I7)::NN
def O8:Spec:=cI (kC (gY 2000 2000) (kC (gY 2000 2000) (kC (fL sK) (kC (fL sK) kN)))) (fun _=>.bool true) fun a=>[jQ a.1 a.2.1 a.2.2.1 a.2.2.2.1]
def NW:aX:=[(Ym,gX T (nG::(Hw,Ph)::(Cj,jm I4)::[]) [] 60 UB)]
def RE:aX:=[(amF,gX T (sG::tD) [] 60 ZR)]
def OT:aX:=[(ajB,gX T (nG::RE) [200006] 60 ame)]
def KK:Spec:=fun K args pre=>match args with
 |.agg [_,.ak _ _ f,_]::_=>(match f 0 with
  |.rat _ s=>bif Nat.ble s 64 then G5 64 64 200 100 K args pre else G5 200 100 1000 1000 K args pre
  |_=>none)
 |_=>none
theorem abJ {c d:Cu} {t u:Rat}:bS T NQ [100027,100031] 60 BX (az BX) ⟨aP 0 [bQ c 2000 2000,bQ d 2000 2000,.rat t sK,.rat u sK],[],0⟩=
  let c3:Prop:=0<1;let c2:Cu:=Cu.mk d.p d.n (fun i=>aV (rat (d.k i) 2000)) d.m fun i=>fF (bH (d.f i) 2000);let c1:Cu:=Cu.mk c.p c.n (fun i=>aV (rat (c.k i) 2000)) c.m fun i=>fF (bH (c.f i) 2000);let c5:V3:=fu c2 u;let c4:V3:=fu c1 t;some (aj [c3,c3,bT (fun i=>rat (c.k i) 2000) c.n sJ,fj (fun i=>bH (c.f i) 2000) c.m sJ,sK<=sK,dx c1,c3] (aj [c3,c3,bT (fun i=>rat (d.k i) 2000) d.n sJ,fj (fun i=>bH (d.f i) 2000) d.m sJ,sK<=sK,dx c2,c3] (aj [(fe c.n (fun i=>aV (rat (c.k i) 2000)) t==(0:Int))=true,(bif true then fe d.n (fun i=>aV (rat (d.k i) 2000)) u==(0:Int)else false)=true,c3,c3,decide (c4.x=c5.x)=true,(bif true then decide (c4.y=c5.y)else false)=true] (leaf ret [AV.bool (bif true then bif true then decide (c4.z=c5.z)else false else false)])))):=ag
theorem VD:bq P NN:=aH (iJ hT (kr xI) hm (aS Proofs.Tryz.func57 ag ag ag) _ _) bC
theorem Xv:bq P NW:=aH (iJ hT (dg (aH amR (aH aez bC))) hm (aS Proofs.Tryz.func11 ag ag ag) _ _) bC
theorem aay:bq P RE:=aH (iJ hT (kr v9) hm (aS Proofs.Tryz.func77 ag ag ag) _ _) bC
theorem aiN:bq P OT:=aH (iJ hT (dg aay) hm (aS Proofs.Tryz.func12 ag ag ag) _ _) bC
theorem ait:bq P NQ:=dg (aH LN VD)
theorem alo:∀K args pre r,O8 K args pre=some r->aD P Ir K args pre r:=cL fun⟨c,d,t,u,_⟩ K hn=>by
 obtain⟨kc,ic,kd,id,ev⟩:=hn
 refine bY (r:=aK (.bool true) []) hT ait hm afc rfl aW rfl 60 abJ (fun _=>?_) K []
 have hiv:(fe c.n c.k t==0)=true:=beq_iff_eq.2 (if_neg ic)
 have hid:(fe d.n d.k u==0)=true:=beq_iff_eq.2 (if_neg id)
 have hX:decide ((fu c t).x=(fu d u).x)=true:=decide_eq_true (congrArg V3.x ev.symm)
 have hY:decide ((fu c t).y=(fu d u).y)=true:=decide_eq_true (congrArg V3.y ev.symm)
 have hZ:decide ((fu c t).z=(fu d u).z)=true:=decide_eq_true (congrArg V3.z ev.symm)
 simp only[ah.all,aA]
 (repeat' with_reducible first|refine And.intro ?_ ?_|intro _)
 all_goals first|assumption|exact cz (by decide)|exact ir (by decide)|exact .refl _|exact trivial|decide|(show en [AV.bool (decide ((fu c t).z=(fu d u).z))] _;rw[hZ];exact bF.refl _)
theorem ag5:∀K args pre q,KK K args pre=some q->aD P wX K args pre q:=fun K args pre q h=>by
 unfold KK at h
 split at h
 ·split at h
  ·rename_i s _
   cases hb:Nat.ble s 64<;>rw[hb]at h
   ·exact Pj (by decide) (by decide) (by decide) (by decide) K _ pre q h
   ·exact Pj (by decide) (by decide) (by decide) (by decide) K _ pre q h
  ·exact absurd h (by simp)
 ·exact absurd h (by simp)
abbrev ee:Nat:=549755813888
abbrev GC:FuncId:=acf
abbrev IL:Func:=WM
abbrev u7:Code:=az IL
abbrev Kr (n m:Nat) (f g:Nat->Pl) (i:Nat):List AV:=[ja f n ee,ja g m ee,.func p9 [],.bool false,ja f n ee,.int .i64 n,.int .i64 i]
abbrev GK (n m:Nat) (f g:Nat->Rat) (i:Nat):List AV:=[bD f n ee,bD g m ee,.func gp [],.bool false,bD f n ee,.int .i64 n,.int .i64 i]
def Tn:aX:=[(Xh,gX T (sG::tD) [200016] 60 adK)]
def C7:aX:=nG::(p9,gX T (sG::(Tn++tD)) [100010] 60 IF)::[]
def RY:Spec:=cI (kC (kL ee) (kC (kL ee) (kC (kF gp) kN))) (fun _=>.bool true) fun a=>[a.1.1<2^40,a.1.1=a.2.1.1,∀i,i<a.1.1->a.1.2 i=a.2.1.2 i]
def TE:Spec:=cI (kC (wJ ee) (kC (wJ ee) (kC (kF p9) kN))) (fun _=>.bool true) fun a=>[a.1.1<2^40,a.1.1=a.2.1.1,∀i,i<a.1.1->a.1.2 i=a.2.1.2 i]
def RF:aX:=nG::(Ka,RY)::(GC,TE)::[]
def RR:Spec:=cI (kC (gY ee ee) (kC (gY ee ee) kN)) (fun _=>.bool true) fun a=>[FF a.1 a.2.1,a.1.n<2^40,a.1.m<2^40]
theorem ahd:aR P HO Co (az Co):=aS Proofs.Tryz.func26 ag ag ag
theorem aim:aR P p9 IF (az IF):=aS Proofs.Tryz.func119 ag ag ag
theorem aeo:aR P GC IL u7:=aS Proofs.Tryz.func118 ag ag ag
theorem agu {n m:Nat} {f g:Nat->Rat}:aI T gJ [200014] 60 oD (before yu [1,1,0,1]) ⟨aP 0 [bD f n ee,bD g m ee,.func gp []],[],0⟩=
  let c1:AV:=ak 3 n fun i=>rat (f i) 549755813888;some (aj [((↑n:Int)!=(↑m:Int))=false] (leaf normal ([c1,ak 3 m fun i=>rat (g i) 549755813888,func gp [],AV.bool false,c1,int i64 (↑n:Int),int i64 0],[]))):=ag
theorem agn {n m i:Nat} {f g:Nat->Rat}:aI T gJ [18,200030] 60 oD [part yu [1,1,0,1,0,0]] ⟨aE oD (GK n m f g i),[],0⟩=
  let c6:Int:=(↑n:Int);let c4:AV:=ak 3 m fun i=>rat (g i) 549755813888;let c3:Prop:=0<1;let c2:Int:=(↑i:Int);let c1:AV:=ak 3 n fun i=>rat (f i) 549755813888;let c5:Int:=c2+(1:Int);some (fork (decide (c2<c6)) (aj [(0:Int)<=c2/\c2.toNat<n,c3] (aj [(0:Int)<=c2/\c2.toNat<m,c3] (aj [c3,c3] (aj [(!decide (f c2.toNat=g c2.toNat))=false] (aj [-(2:Int)^63<=c5/\c5<(2:Int)^63] (leaf normal ([c1,c4,func gp [],AV.bool false,c1,int i64 c6,int i64 c5],[]))))))) (leaf (exit 0) ([c1,c4,func gp [],AV.bool false,c1,int i64 c6,int i64 c2],[]))):=ag
theorem akG {n m i:Nat} {f g:Nat->Rat}:cJ T gJ [] 60 Dm [part yu [1,1,1]] ⟨aE oD (GK n m f g i),[],0⟩=
  some (leaf ret [AV.bool true]):=ag
theorem ak4 {n m:Nat} {f g:Nat->Pl}:aI T C7 [200014] 60 oD (before u7 [1,1,0,1]) ⟨aP 0 [ja f n ee,ja g m ee,.func p9 []],[],0⟩=
  let c1:AV:=ak 12 n fun i=>agg [agg [rat (f i).n.x 549755813888,rat (f i).n.y 549755813888,rat (f i).n.z 549755813888],rat (f i).d 549755813888];some (aj [((↑n:Int)!=(↑m:Int))=false] (leaf normal ([c1,ak 12 m fun i=>agg [agg [rat (g i).n.x 549755813888,rat (g i).n.y 549755813888,rat (g i).n.z 549755813888],rat (g i).d 549755813888],func p9 [],AV.bool false,c1,int i64 (↑n:Int),int i64 0],[]))):=ag
theorem ama {n m i:Nat} {f g:Nat->Pl}:aI T C7 [18,200030] 60 oD [part u7 [1,1,0,1,0,0]] ⟨aE oD (Kr n m f g i),[],0⟩=
  let c9:Int:=(↑n:Int);let c5:Prop:=0<1;let c4:Int:=(↑i:Int);let c3:AV:=ak 12 m fun i=>agg [agg [rat (g i).n.x 549755813888,rat (g i).n.y 549755813888,rat (g i).n.z 549755813888],rat (g i).d 549755813888];let c1:AV:=ak 12 n fun i=>agg [agg [rat (f i).n.x 549755813888,rat (f i).n.y 549755813888,rat (f i).n.z 549755813888],rat (f i).d 549755813888];let c8:Int:=c4+(1:Int);let c2:Nat:=c4.toNat;let c7:V3:=(g c2).n;let c6:V3:=(f c2).n;some (fork (decide (c4<c9)) (aj [(0:Int)<=c4/\c2<n,c5] (aj [(0:Int)<=c4/\c2<m,c5] (aj [c5,c5,(!decide (c6.x=c7.x))=false,(!decide (c6.y=c7.y))=false,(!decide (c6.z=c7.z))=false,true=true] (aj [(!bif true then decide ((f c2).d=(g c2).d)else false)=false] (aj [-(2:Int)^63<=c8/\c8<(2:Int)^63] (leaf normal ([c1,c3,func p9 [],AV.bool false,c1,int i64 c9,int i64 c8],[]))))))) (leaf (exit 0) ([c1,c3,func p9 [],AV.bool false,c1,int i64 c9,int i64 c4],[]))):=ag
theorem WK {n m i:Nat} {f g:Nat->Pl}:cJ T C7 [] 60 IL [part u7 [1,1,1]] ⟨aE oD (Kr n m f g i),[],0⟩=
  some (leaf ret [AV.bool true]):=ag
theorem V4 {c d:Cu}:bS T RF [100010,100017] 60 Co (az Co) ⟨aP 0 [bQ c ee ee,bQ d ee ee],[],0⟩=
  let c1:Prop:=0<1;some (aj [c1,c1,(c.p==d.p)=true,c1,c1,bT (fun i=>rat (c.k i) ee) c.n ee,bT (fun i=>rat (d.k i) ee) d.n ee,c.n<2^40,c.n=d.n,∀(i:Nat),i<c.n->aV (rat (c.k i) ee)=aV (rat (d.k i) ee),(bif true then true else false)=true,c1,c1,fj (fun i=>bH (c.f i) ee) c.m ee,fj (fun i=>bH (d.f i) ee) d.m ee,c.m<2^40,c.m=d.m,∀(i:Nat),i<c.m->fF (bH (c.f i) ee)=fF (bH (d.f i) ee)] (leaf ret [AV.bool true])):=ag
theorem abU:bq P Tn:=aH (iJ hT (kr v9) hm (aS Proofs.Tryz.func120 ag ag ag) _ _) bC
theorem YN:bq P C7:=dg (aH (iJ hT (kr (ta abU v9)) hm aim _ _) bC)
theorem alH:∀K args pre r,RY K args pre=some r->aD P Ka K args pre r:=cL fun⟨⟨n,f⟩,⟨m,g⟩,_⟩ K hn=>by
 obtain⟨h1,h2,h3⟩:=hn
 have h1:n<2^40:=h1
 have h2:n=m:=h2
 have h3:∀i,i<n->f i=g i:=h3
 refine gV (r:=aK (.bool true) []) hT lK hm Vc rfl aW rfl [1,1,0,1] (i:=0) (y:=part yu [1,1,0,1,0,0]) (z:=part yu [1,1,1]) ag ag ag (f1:=[200014]) (f2:=[18,200030]) (f3:=[]) 60 oD 0
  (fun i:Nat=>GK n m f g i) (fun _=>[]) (fun i=>i<=n) (fun i=>i=n) (fun i=>n-i) (fun _=>⟨⟨_,agu,?_⟩,fun i h1=>⟨_,agn,?_⟩,fun i h1=>⟨_,akG,?_⟩⟩) K []
 all_goals try simp only[ah.all,aA,bh,bz,aZ]
 ·exact⟨bne_eq_false_iff_eq.2 aa,0,Nat.zero_le _,.vals rfl⟩
 ·refine⟨fun h=>?_,fun h=>⟨rfl,i,aa,.vals rfl⟩⟩
  have e:=h3 i aa
  (repeat' with_reducible refine And.intro ?_ ?_)
  all_goals first|omega|exact congrArg (!·) (decide_eq_true e)|skip
  exact⟨i+1,aa,by dsimp only;omega,.vals rfl⟩
 ·exact .refl _
theorem agI:∀K args pre r,TE K args pre=some r->aD P GC K args pre r:=cL fun⟨⟨n,f⟩,⟨m,g⟩,_⟩ K hn=>by
 obtain⟨h1,h2,h3⟩:=hn
 have h1:n<2^40:=h1
 have h2:n=m:=h2
 have h3:∀i,i<n->f i=g i:=h3
 refine gV (r:=aK (.bool true) []) hT YN hm aeo rfl aW rfl [1,1,0,1] (i:=0) (y:=part u7 [1,1,0,1,0,0]) (z:=part u7 [1,1,1]) ag ag ag (f1:=[200014]) (f2:=[18,200030]) (f3:=[]) 60 oD 0
  (fun i:Nat=>Kr n m f g i) (fun _=>[]) (fun i=>i<=n) (fun i=>i=n) (fun i=>n-i) (fun _=>⟨⟨_,ak4,?_⟩,fun i h1=>⟨_,ama,?_⟩,fun i h1=>⟨_,WK,?_⟩⟩) K []
 all_goals try simp only[ah.all,aA,bh,bz,aZ]
 ·exact⟨bne_eq_false_iff_eq.2 aa,0,Nat.zero_le _,.vals rfl⟩
 ·refine⟨fun h=>?_,fun h=>⟨rfl,i,aa,.vals rfl⟩⟩
  have e:=h3 i aa
  (repeat' with_reducible refine And.intro ?_ ?_)
  all_goals first|omega|exact congrArg (!·) (decide_eq_true (congrArg (fun p:Pl=>p.n.x) e))|exact congrArg (!·) (decide_eq_true (congrArg (fun p:Pl=>p.n.y) e))|exact congrArg (!·) (decide_eq_true (congrArg (fun p:Pl=>p.n.z) e))|exact congrArg (!·) (decide_eq_true (congrArg (fun p:Pl=>p.d) e))|exact trivial|exact⟨i+1,aa,by dsimp only;omega,.vals rfl⟩
 ·exact .refl _
theorem US:bq P RF:=dg (aH alH (aH agI bC))
theorem ag6:∀K args pre r,RR K args pre=some r->aD P HO K args pre r:=cL fun⟨c,d,_⟩ K hn=>by
 obtain⟨h1,h2,h3⟩:=hn
 have h1:FF c d:=h1
 have h2:c.n<2^40:=h2
 have h3:c.m<2^40:=h3
 refine bY (r:=aK (.bool true) []) hT US hm ahd rfl aW rfl 60 V4 (fun _=>?_) K []
 simp only[ah.all,aA]
 (repeat' with_reducible refine And.intro ?_ ?_)
 all_goals first|omega|exact beq_iff_eq.2 h1.p|exact cz aY|exact ir aY|exact h1.k|exact h1.f|exact h1.n|exact h1.m|exact .refl _|skip
end Go.Am.B
