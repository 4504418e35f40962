/- Plain laws of a knot that is inserted. -/
import Derived.Test.YtppeigelbecpbaaGreatY39
import Derived.Test.YtppeigelbecpbaaGreatY37
import Derived.Test.YtppeigelbecpbaaGreatY38
import Derived.Test.YtppeigelbecpbaaGreatZ2
set_option linter.unusedVariables false
noncomputable section
namespace Go.Am.B
variable {k:Nat->Rat} {b p:Nat}
theorem aej {a c u v f:Rat}:fr a c (u+f*(v-u))=fr a c u+f*(fr a c v-fr a c u):=by
 unfold fr
 rw[Rat.div_def,Rat.div_def (u-a),Rat.div_def (v-a)]
 generalize (c-a)⁻¹=q
 grind
theorem O6 {f:Rat}:∀{l:List Rat} {r:Nat} {x y:Nat->Rat} {j:Nat},bl k b p r (fun j=>x j+f*(y j-x j)) l j=bl k b p r x l j+f*(bl k b p r y l j-bl k b p r x l j)
 |[],_,_,_,_=>rfl
 |t::l,r,x,y,j=>by
  rw[bl,bl,bl,<-O6 (l:=l)]
  congr 1
  funext j
  unfold gz
  split<;>grind
theorem LY {u v f:Rat} {l:List Rat} {x:Nat->Rat} (hl:l.length+1=p):bl k b p 0 x ((u+f*(v-u))::l) p=bl k b p 0 x (u::l) p+f*(bl k b p 0 x (v::l) p-bl k b p 0 x (u::l) p):=by
 rw[bl,bl,bl,<-O6]
 refine JT (by omega) fun j h1 _=>?_
 simp only[gz]
 rw[if_pos (by omega),if_pos (by omega),if_pos (by omega),aej];grind
theorem H6 {a c t:Rat} (h:a<c):a+fr a c t*(c-a)=t:=by rw[nY h];grind
def dD (k:Nat->Rat) (t:Rat) (q j:Nat):Rat:=if j<q then k j else if j=q then t else k (j-1)
theorem iC {t:Rat} {q j:Nat} (h:j<q):dD k t q j=k j:=if_pos h
theorem nL {t:Rat} {q:Nat}:dD k t q q=t:=by unfold dD;rw[if_neg (by omega),if_pos rfl]
theorem iq {t:Rat} {q j:Nat} (h:q<j):dD k t q j=k (j-1):=by unfold dD;rw[if_neg (by omega),if_neg (by omega)]
theorem KC {f g:Nat->Rat}:∀{l a:Nat},(∀i,a+1<=i->i<a+1+l->f i=g (i-1))->b9 f (a+1) l=b9 g a l
 |0,_,_=>rfl
 |l+1,a,h=>by
  rw[b9,b9,h (a+1) (Nat.le_refl _) (by omega),KC (l:=l) (a:=a+1) fun i h1 h2=>h i (by omega) (by omega)];rfl
theorem zE {n:Nat} {P J:Nat} {x:Nat->Rat} (h:At n k P) (hP:p<=P) (hP2:P+p<n) (h1:P<=J+p) (h2:J<=P):bl k (P-p) p 0 (fun q=>x (P-p+q)) (b9 k (J+1) p) p=x J:=by
 have:=YX (k:=k) (b:=P-p) (p:=p) (n:=n) (by rwa [show P-p+p=P by omega]) (by omega) (J:=J-(P-p)) (by omega) (x:=fun q=>x (P-p+q))
 rw[show P-p+(J-(P-p))=J by omega]at this
 exact this
theorem Yh {n:Nat} {x:Nat->Rat} {t:Rat} {a j P:Nat} (hs:∀i,i+1<n->k i<=k (i+1)) (hp:1<=p) (hlo:k a<=t) (hhi:t<k (a+1)) (ha:p<=a) (h:At n k P) (hP:p<=P) (hP2:P+p<n)
  (h1:j+p<=a->j<=P/\P<=j+p) (h2:a<j->j<=P+1/\P+1<=j+p) (h3:a<j+p->j<=a->j<=P/\P+1<=j+p):
  bl k (P-p) p 0 (fun q=>x (P-p+q)) (b9 (dD k t (a+1)) (j+1) p) p=if j+p<=a then x j else if a<j then x (j-1)else x (j-1)+fr (k j) (k (j+p)) t*(x j-x (j-1)):=by
 by_cases c1:j+p<=a
 ·obtain⟨g1,g2⟩:=h1 c1
  rw[if_pos c1,yA (g:=k) fun i _ hi=>iC (by omega)]
  exact zE h hP hP2 g2 g1
 ·rw[if_neg c1]
  by_cases c2:a<j
  ·obtain⟨g1,g2⟩:=h2 c2
   rw[if_pos c2,KC (g:=k) fun i hi _=>iq (by omega)]
   have:=zE (x:=x) (J:=j-1) h hP hP2 (by omega) (by omega)
   rwa [show j-1+1=j by omega]at this
  ·obtain⟨g1,g2⟩:=h3 (by omega) (by omega)
   rw[if_neg c2]
   have hA:At n k (P-p+p):=by rwa [show P-p+p=P by omega]
   have e1:b9 (dD k t (a+1)) (j+1) p=b9 k (j+1) (a-j)++t::b9 k (a+1) (j+p-a-1):=by
    have:=Ch (t:=dD k t (a+1)) (l:=a-j) (a:=j+1) (m:=(j+p-a-1)+1)
    rw[show a-j+(j+p-a-1+1)=p by omega,show j+1+(a-j)=a+1 by omega]at this
    rw[this,yA (g:=k) (fun i _ hi=>iC (by omega)),b9,nL,KC (g:=k) fun i hi _=>iq (by omega)]
   have e2:b9 k (j+1) (p-1)=b9 k (j+1) (a-j)++b9 k (a+1) (j+p-a-1):=by
    have:=Ch (t:=k) (l:=a-j) (a:=j+1) (m:=j+p-a-1)
    rw[show a-j+(j+p-a-1)=p-1 by omega,show j+1+(a-j)=a+1 by omega]at this
    exact this
   have hw:k j<k (j+p):=by
    have m1:=gk hs (show j<=a by omega) (show a<n by omega)
    have m2:=gk hs (show a+1<=j+p by omega) (show j+p<n by omega)
    grind
   have q1:(b9 (dD k t (a+1)) (j+1) p).Perm (t::b9 k (j+1) (p-1)):=by rw[e1,e2];exact List.perm_middle
   rw[BU hA (by omega) q1 (by rw[kZ];omega),<-H6 (t:=t) hw,LY (by rw[kZ];omega)]
   have d1:=zE (x:=x) (J:=j-1) h hP hP2 (by omega) (by omega)
   rw[show j-1+1=j by omega,show p=p-1+1 by omega,b9]at d1
   have d2:=zE (x:=x) (J:=j) h hP hP2 (by omega) (by omega)
   have q2:(b9 k (j+1) p).Perm (k (j+p)::b9 k (j+1) (p-1)):=by
    have:=Fg (t:=k) (l:=p-1) (a:=j+1)
    rw[show p-1+1=p by omega,show j+1+(p-1)=j+p by omega]at this
    rw[this];exact List.perm_append_singleton _ _
   rw[BU hA (by omega) q2 (by rw[kZ];omega)]at d2
   rw[show p-1+1=p by omega]at d1
   rw[d1,d2,H6 hw]
theorem QH {n:Nat} {G:List Rat->Rat} (hsym:∀{l m:List Rat},l.Perm m->l.length=p->G l=G m) (haff:∀{u v f:Rat} {l:List Rat},l.length+1=p->G ((u+f*(v-u))::l)=G (u::l)+f*(G (v::l)-G (u::l)))
  (h:At n k (b+p)) (hn:b+p+p<n):∀{l d:List Rat} {r:Nat} {y:Nat->Rat},d.length=r->r+l.length=p->(∀j,r<=j->j<=p->y j=G (d++b9 k (b+j+1) (p-r)))->bl k b p r y l p=G (d++l)
 |[],d,r,y,hd,hl,hy=>by
  have:=hy p (by simp at hl;omega) (Nat.le_refl _)
  rw[show p-r=0 by simp at hl;omega]at this
  exact this
 |t::l,d,r,y,hd,hl,hy=>by
  simp only[List.length_cons]at hl
  have hdt:(d++[t]).length=r+1:=by simp[hd]
  have:=QH hsym haff h hn (l:=l) (d:=d++[t]) (r:=r+1) (y:=gz k b p r t y) hdt (by omega) fun j h1 h2=>by
   unfold gz
   rw[if_pos (by omega),hy j (by omega) h2,hy (j-1) (by omega) (by omega)]
   have hw:=h.around (a:=b+j) (b:=b+j+(p-r)) (by omega) (by omega) (by omega)
   have e1:(d++b9 k (b+(j-1)+1) (p-r)).Perm (k (b+j)::(d++b9 k (b+j+1) (p-(r+1)))):=by
    rw[show b+(j-1)+1=b+j by omega,show p-r=p-(r+1)+1 by omega,b9];exact List.perm_middle
   have e2:(d++b9 k (b+j+1) (p-r)).Perm (k (b+j+(p-r))::(d++b9 k (b+j+1) (p-(r+1)))):=by
    rw[show p-r=p-(r+1)+1 by omega,Fg,show b+j+1+(p-(r+1))=b+j+(p-(r+1)+1) by omega,<-List.append_assoc];exact List.perm_append_singleton _ _
   have e3:(d++[t]++b9 k (b+j+1) (p-(r+1))).Perm (t::(d++b9 k (b+j+1) (p-(r+1)))):=by
    rw[List.append_assoc];exact List.perm_middle
   have hlen:(d++b9 k (b+j+1) (p-(r+1))).length+1=p:=by rw[List.length_append,kZ,hd];omega
   rw[hsym e1 (by rw[List.length_append,kZ,hd];omega),hsym e2 (by rw[List.length_append,kZ,hd];omega),hsym e3 (by rw[List.length_append,kZ,hdt];omega),<-haff hlen,H6 hw]
  rw[bl,this,List.append_assoc];rfl
def jX (k:Nat->Rat) (p:Nat) (x:Nat->Rat) (P:Nat) (l:List Rat):Rat:=bl k (P-p) p 0 (fun q=>x (P-p+q)) l p
theorem acu {n N:Nat} {K X x:Nat->Rat} {P Q:Nat} (h:At n k P) (hP:p<=P) (hP2:P+p<n) (H:At N K Q) (hQ:p<=Q) (hQ2:Q+p<N) (hx:∀J,J<=Q->Q<=J+p->X J=jX k p x P (b9 K (J+1) p)) {l:List Rat} (hl:l.length=p):jX K p X Q l=jX k p x P l:=by
 have hA:At n k (P-p+p):=by rwa [show P-p+p=P by omega]
 have:=QH (k:=K) (b:=Q-p) (p:=p) (n:=N) (G:=jX k p x P) (fun {l m} hm hl=>BU hA (by omega) hm (by omega)) (fun {u v f l} hl=>LY hl) (by rwa [show Q-p+p=Q by omega]) (by omega) (l:=l) (d:=[]) (r:=0) (y:=fun q=>X (Q-p+q)) rfl (by omega) fun j _ h2=>by
  rw[hx (Q-p+j) (by omega) (by omega)];rfl
 exact this
def k8 (k:Nat->Rat) (p:Nat) (x:Nat->Rat) (t:Rat) (a j:Nat):Rat:=if j+p<=a then x j else if a<j then x (j-1)else x (j-1)+fr (k j) (k (j+p)) t*(x j-x (j-1))
def jT (a Q:Nat):Nat:=if Q<=a then Q else Q-1
theorem afm {n:Nat} {x:Nat->Rat} {t:Rat} {a j Q:Nat} (hs:∀i,i+1<n->k i<=k (i+1)) (hp:1<=p) (hlo:k a<=t) (hhi:t<k (a+1)) (ha:p<=a) (h:At n k (jT a Q)) (hP:p<=jT a Q) (hP2:jT a Q+p<n) (h1:j<=Q) (h2:Q<=j+p):
  jX k p x (jT a Q) (b9 (dD k t (a+1)) (j+1) p)=k8 k p x t a j:=by
 refine Yh hs hp hlo hhi ha h hP hP2 ?_ ?_ ?_<;>unfold jT<;>split<;>omega
theorem aaq {n:Nat} {x:Nat->Rat} {t:Rat} {a Q:Nat} (hs:∀i,i+1<n->k i<=k (i+1)) (hp:1<=p) (hlo:k a<=t) (hhi:t<k (a+1)) (ha:p<=a) (h:At n k (jT a Q)) (hP:p<=jT a Q) (hP2:jT a Q+p<n) (H:At (n+1) (dD k t (a+1)) Q) (hQ:p<=Q) (hQ2:Q+p<n+1) {l:List Rat} (hl:l.length=p):
  jX (dD k t (a+1)) p (k8 k p x t a) Q l=jX k p x (jT a Q) l:=
 acu h hP hP2 H hQ hQ2 (fun J h1 h2=>(afm hs hp hlo hhi ha h hP hP2 h1 h2).symm) hl
end Go.Am.B
namespace Go.Am.B
theorem kz {k:Nat->Rat} {t:Rat} {n:Nat}:bw k t (n+1)=bw k t n+if k n=t then 1 else 0:=rfl
theorem IG {k:Nat->Rat} {t:Rat} {n:Nat}:∀{m:Nat},bw k t n<=bw k t (n+m)
 |0=>Nat.le_refl _
 |m+1=>by
  have:=IG (k:=k) (t:=t) (n:=n) (m:=m)
  rw[<-Nat.add_assoc,kz];omega
theorem Lj {k:Nat->Rat} {t:Rat} {i:Nat}:∀{l:Nat},(∀j,i<=j->j<i+l->k j=t)->l<=bw k t (i+l)
 |0,_=>Nat.zero_le _
 |l+1,h=>by
  have:=Lj (k:=k) (t:=t) (i:=i) (l:=l) fun j h1 h2=>h j h1 (by omega)
  rw[<-Nat.add_assoc,kz,if_pos (h (i+l) (by omega) (by omega))];omega
theorem D7 {k:Nat->Rat} {t:Rat} {lo hi:Nat} (hlh:lo<=hi):∀{n:Nat},(∀j,j<n->k j=t->lo<=j/\j<hi)->bw k t n<=min n hi-lo
 |0,_=>by simp[bw]
 |n+1,h=>by
  have:=D7 (k:=k) (t:=t) hlh (n:=n) fun j hj=>h j (by omega)
  rw[kz]
  by_cases hn:k n=t
  ·rw[if_pos hn]
   have:=h n (by omega) hn
   omega
  ·rw[if_neg hn];omega
theorem JI {n a i:Nat} {k:Nat->Rat} {t:Rat} (hs:∀i,i+1<n->k i<=k (i+1)) (hhi:t<k (a+1)) (ha:a+1<n) (hlo:k a<=t) (hi:i<=a) (h:a<i+bw k t n):k i=t:=by
 by_cases he:k i=t
 ·exact he
 ·have h1:=gk hs hi (by omega)
  have hlt:k i<t:=by grind
  have:=D7 (k:=k) (t:=t) (lo:=i+1) (hi:=a+1) (by omega) (n:=n) fun j hj hjt=>by
   constructor
   ·by_cases c:j<=i
    ·have:=gk hs c (by omega)
     grind
    ·omega
   ·by_cases c:a+1<=j
    ·have:=gk hs c hj
     grind
    ·omega
  omega
theorem Kn.oD {n p a:Nat} {k:Nat->Rat} {t:Rat} (h:Kn n p k) (h0:k 0<t) (h1:t<k (n-1)) (hlo:k a<=t) (hhi:t<k (a+1)) (ha:a+1<n):p<=a/\a+p+1<n:=by
 have hl:=h.len
 constructor
 ·by_cases c:p<=a
  ·exact c
  ·have:=h.first (a+1) (by omega)
   grind
 ·by_cases c:a+p+1<n
  ·exact c
  ·have:=h.last a (by omega) (by omega)
   grind
theorem Kn.dD {n p a:Nat} {k:Nat->Rat} {t:Rat} (h:Kn n p k) (h0:k 0<t) (h1:t<k (n-1)) (hlo:k a<=t) (hhi:t<k (a+1)) (ha:a+1<n) (ht:bw k t n<p):Kn (n+1) p (dD k t (a+1)):=by
 obtain⟨g1,g2⟩:=h.oD h0 h1 hlo hhi ha
 have hp:=h.p1
 have hl:=h.len
 refine⟨hp,by omega,fun i hi=>?_,fun i hi=>?_,fun i h2 h3=>?_,fun i h2 h3=>?_⟩
 ·by_cases c1:i<a
  ·rw[iC (by omega),iC (by omega)];exact h.sorted i (by omega)
  ·by_cases c2:i=a
   ·subst c2;rw[iC (by omega),nL];exact hlo
   ·by_cases c3:i=a+1
    ·subst c3;rw[nL,iq (by omega)];exact Rat.le_of_lt hhi
    ·rw[iq (by omega),iq (by omega)]
     have:=h.sorted (i-1) (by omega)
     rwa [show i-1+1=i+1-1 by omega]at this
 ·rw[iC (by omega),iC (by omega)];exact h.first i hi
 ·rw[iq (by omega),iq (by omega),h.last (i-1) (by omega) (by omega),show n+1-1-1=n-1 by omega]
 ·by_cases c1:i+p<a+1
  ·rw[iC (by omega),iC (by omega)];exact h.mult i h2 (by omega)
  ·by_cases c2:i+p=a+1
   ·rw[c2,nL,iC (by omega)]
    have m:=h.mono (show i<=a by omega) (by omega)
    by_cases e:k i=t
    ·exfalso
     have hb:∀j,i<=j->j<i+p->k j=t:=fun j hj1 hj2=>by
      have a1:=h.mono hj1 (by omega)
      have a2:=h.mono (show j<=a by omega) (by omega)
      grind
     have b1:=Lj hb
     have b2:=IG (k:=k) (t:=t) (n:=i+p) (m:=n-(i+p))
     rw[show i+p+(n-(i+p))=n by omega]at b2
     omega
    ·grind
   ·by_cases c3:i<=a
    ·rw[iC (by omega),iq (by omega)]
     have m1:=h.mono c3 (by omega)
     have m2:=h.mono (show a+1<=i+p-1 by omega) (by omega)
     grind
    ·by_cases c4:i=a+1
     ·subst c4;rw[nL,iq (by omega)]
      have m2:=h.mono (show a+1<=a+1+p-1 by omega) (by omega)
      grind
     ·rw[iq (by omega),iq (by omega)]
      have:=h.mult (i-1) (by omega) (by omega)
      rwa [show i-1+p=i+p-1 by omega]at this
theorem aeY {k x:Nat->Rat} {p a j:Nat} {t:Rat} {n:Nat} (hs:∀i,i+1<n->k i<=k (i+1)) (hlo:k a<=t) (hhi:t<k (a+1)) (hn:a+p<n) (hx:∀j,0<x j):0<k8 k p x t a j:=by
 unfold k8
 split
 ·exact hx _
 ·split
  ·exact hx _
  ·have m1:=gk hs (show j<=a by omega) (by omega)
   have m2:=gk hs (show a+1<=j+p by omega) (by omega)
   have hw:k j<k (j+p):=by grind
   have f0:=YE (t:=t) hw (by grind)
   have f1:=XU (t:=t) hw (by grind)
   generalize fr (k j) (k (j+p)) t=f at*
   have x0:=hx (j-1)
   have x1:=hx j
   by_cases e:f=1
   ·subst e;grind
   ·have:=Rat.mul_pos (a:=1-f) (b:=x (j-1)) (by grind) x0
    have:=Rat.mul_nonneg (a:=f) (b:=x j) f0 (by grind)
    grind
theorem Lr {n:Nat} {k:Nat->Rat} {pc:Nat->Nat->Nat} (h0:∀i,pc 0 i=i) (h1:∀f i,pc (f+1) i=if i+1<n/\k (i+1)<=k i then pc f (i+1)else i):∀{f i l:Nat},k i<k (i+l)->i+l<n->l<=f->i<=pc f i/\pc f i<i+l/\k (pc f i)<k (pc f i+1)
 |0,i,l,hk,hn,hl=>by
  have:l=0:=by omega
  subst this;exact absurd hk (by rw[Nat.add_zero];exact Rat.lt_irrefl)
 |f+1,i,l,hk,hn,hl=>by
  have hl0:l≠0:=fun e=>by subst e;rw[Nat.add_zero]at hk;exact absurd hk Rat.lt_irrefl
  rw[h1]
  by_cases c:i+1<n/\k (i+1)<=k i
  ·rw[if_pos c]
   have:=Lr h0 h1 (f:=f) (i:=i+1) (l:=l-1) (by rw[show i+1+(l-1)=i+l by omega];have:=c.2;grind) (by omega) (by omega)
   obtain⟨a1,a2,a3⟩:=this
   exact⟨by omega,by omega,a3⟩
  ·rw[if_neg c]
   exact⟨Nat.le_refl _,by omega,Rat.not_le.1 fun e=>c ⟨by omega,e⟩⟩
theorem AZ {n i:Nat} {k:Nat->Rat} (h:At n k i):bT n k (k i)=i:=su ⟨h,Rat.le_refl,Rat.le_of_lt h.wide,.inl h.wide⟩
theorem ak6 {n a q:Nat} {k:Nat->Rat} {t:Rat} (hs:∀i,i+1<n->k i<=k (i+1)) (hlo:k a<=t) (hhi:t<k (a+1)) (ha:a+1<n) (hq:q+1<n+1) (hw:dD k t (a+1) q<dD k t (a+1) (q+1)):
  At n k (jT a q)/\bT n k (dD k t (a+1) q)=jT a q/\k 0<=dD k t (a+1) q/\dD k t (a+1) q<=k (n-1):=by
 have key:∀i,At n k i->k 0<=k i/\k i<=k (n-1):=fun i h=>⟨gk hs (Nat.zero_le _) (by have:=h.lt;omega),gk hs (by have:=h.lt;omega) (by omega)⟩
 by_cases c1:q<=a
 ·have e:jT a q=q:=if_pos c1
  rw[e,iC (by omega)]at*
  have hA:At n k q:=⟨by omega,hs,by
   by_cases c2:q=a
   ·subst c2;grind
   ·rwa [iC (by omega)]at hw⟩
  exact⟨hA,AZ hA,key q hA⟩
 ·have e:jT a q=q-1:=if_neg c1
  rw[e]
  by_cases c2:q=a+1
  ·subst c2
   rw[nL]
   have hA:At n k a:=⟨ha,hs,by grind⟩
   have:=key a hA
   have m:=gk hs (show a+1<=n-1 by omega) (by omega)
   exact⟨hA,su ⟨hA,hlo,Rat.le_of_lt hhi,.inl hhi⟩,by grind,by grind⟩
  ·rw[iq (by omega)]at hw ⊢
   rw[iq (by omega)]at hw
   have hA:At n k (q-1):=⟨by omega,hs,by rwa [show q-1+1=q+1-1 by omega]⟩
   exact⟨hA,AZ hA,key _ hA⟩
open Go Go.Am.N AV ah au IntKind
theorem YN:aT P Ck Dj (aA Dj):=aY Proofs.Tryz.func90 ag ag ag
abbrev adT (m:Nat) (f:Nat->Pl) (w:Nat):ak:=⟨true,true,12,m,fun j=>bE (f j) w⟩
def Pe:bg:=[(UK,ru T (sG::qk) [] 100 akI)]
def Cj:bg:=nG::(AN,r5)::(yI,rR)::(Dv,FX 2000 2002)::(vN,P5)::(HJ++(Pe++((yE,ja kR kR JB oV)::nI)))
def w8 (f:Rat) (a b:Pl):Pl:=⟨⟨a.n.x+f*(b.n.x-a.n.x),a.n.y+f*(b.n.y-a.n.y),a.n.z+f*(b.n.z-a.n.z)⟩,a.d+f*(b.d-a.d)⟩
def j7 (c:Cu) (t:Rat) (a s i:Nat):Pl:=
 if i+c.p.toNat<=a then c.f i else if a<i+s then c.f (i-1)else
  ⟨oU (w8 ((t-c.k i)/(c.k (i+c.p.toNat)-c.k i)) (cE (c.f (i-1))) (cE (c.f i))),(w8 ((t-c.k i)/(c.k (i+c.p.toNat)-c.k i)) (cE (c.f (i-1))) (cE (c.f i))).d⟩
abbrev yC:List Nat:=[2,3,4,5,6,8,9,10]
abbrev J0 (c:Cu) (a s i:Nat):List AV:=[.ptr 0 0 3 0 [],.ptr 1 0 3 0 [],.ptr 2 0 3 0 [],.int .i64 c.p,.int .i64 a,.int .i64 s,.ptr 3 0 3 0 [],.int .i64 i]
abbrev zF (c:Cu) (t:Rat) (N:Nat) (K:Nat->Rat) (f:Nat->Pl) (i:Nat):aF:=[(4,adT i f sE),(3,⟨false,true,3,1,fun _=>.agg [.int .i64 c.p,bq K N 2002,.own 4 12 0 i]⟩),(2,tT),(1,tP t 2000),(0,⟨false,true,3,1,fun _=>aS c 2000 2000⟩)]
abbrev Ac:Code:=aA Dj
theorem ads {c:Cu} {t:Rat}:aH T Cj [] 60 yC (before Ac [1,1,1,1,1,0,1]) ⟨aQ 0 [aS c 2000 2000,.rat t 2000],[],0⟩=
  let c6:AV:=rat t 2000;let c5:Nat:=(aV (aS c 2000 2000)).size;let c4:Prop:=bP (fun i=>rat (c.k i) 2000) c.n sK;let c3:Prop:=c.n<2^40;let c2:AV:=agg [int i64 0,nil,nil];let c1:Prop:=0<1;some (aj [c1] (aj [c1,c1,c4,(2000:Nat)<=sK,Kn c.n c.p.toNat fun i=>aR (rat (c.k i) 2000),(0:Int)<=c.p,c3] (aj [c1,c1,c4,(2000:Nat)<=sK,c3] (aj [c1,c1,bP (fun i=>rat (c.k i) 2000) c.n 2000,(2000:Nat)<=2000,c3,c1] (leaf normal ([ptr 0 0 c5 0 [],ptr 4096 0 (aV c6).size 0 [],ptr 8192 0 3 0 [],int i64 c.p,int i64 (↑(fj c.n (fun i=>aR (rat (c.k i) 2000)) t):Int),int i64 (↑(bw (fun i=>aR (rat (c.k i) 2000)) t c.n):Int),ptr 110592 0 3 0 [],int i64 0],[((110592:Nat),aJ fun j=>if(j==0)=true then aV (agg ((c2.kids.set 0 (aV (int i64 c.p))).set 1 (aV (bq (dr (fun i=>aR (rat (c.k i) 2000)) t (dc (fun i=>aR (rat (c.k i) 2000)) t c.n)) (c.n+1) 2002))))else c2),((8192:Nat),aJ fun x=>c2),(4096,ak.mk false true (aV c6).size 1 fun x=>c6),(0,ak.mk false true c5 1 fun x=>aS c 2000 2000)])))))):=ag
theorem YD {c:Cu} {t:Rat} {a s i N:Nat} {K:Nat->Rat} {f:Nat->Pl}:aH T Cj [36,81,97] 60 yC [part Ac [1,1,1,1,1,0,1,0,0]] ⟨aC yC (J0 c a s i),zF c t N K f i,5⟩=
  let c29:AV:=int i64 c.p;let c28:AV:=own 4 12 0 i;let c27:Nat:=2^41;let c25:AV:=ptr 2 0 3 0 [];let c24:AV:=ptr 3 0 3 0 [];let c23:AV:=ptr 1 0 3 0 [];let c22:AV:=ptr 0 0 3 0 [];let c20:Nat:=i+1;let c19:Int:=(↑a:Int);let c11:AV:=rat 0 1;let c9:Int:=(2:Int)^63;let c6:Prop:=0<1;let c5:Nat:=2000+2000;let c4:Int:=(↑i:Int);let c33:Int:=c4+(1:Int);let c30:Prop:=(0:Int)<=c4;let c26:Int:=c19-(↑s:Int);let c21:AV:=agg [agg [c11,c11,c11],c11];let c18:Nat:=c5+1;let c16:Int:=c4-(1:Int);let c14:Prop:=2000<c27;let c13:Pl:=c.f c4.toNat;let c10:List Prop:=[(1:Nat)*12<=2^24,c20*((224:Nat)+1)*2<=2^47,c6];let c8:Rat:=(t-c.k c4.toNat)/(c.k (c4+c.p).toNat-c.k c4.toNat);let c7:AV:=agg [c29,bq K N 2002,c28];let c1:List (Nat×ak):=[((2:Nat),aJ fun x=>agg [int i64 0,nil,nil]),((1:Nat),aJ fun x=>rat t 2000),((0:Nat),aJ fun x=>agg [c29,aq 3 c.n fun i=>rat (c.k i) 2000,aq 12 c.m fun i=>bE (c.f i) 2000])];let c31:Prop:=(0:Int)<=c16/\c16.toNat<c.m;let c17:Prop:=-c9<=c33/\c33<c9;let c12:Prop:=c5+(c18+c18+(c5+c5+1))+1<=sH;let c3:List AV:=[c22,c23,c25,c29,int i64 c19,int i64 (↑s:Int),c24,int i64 c33];let c2:Pl:=c.f c16.toNat;let c32:Rat:=c2.d+c8*(c13.d-c2.d);let c15:Rat:=(↑(1:Int):Rat)/c32;some (aj [c6] (fork (decide (c4<=(↑c.m:Int))) (aj [-c9<=c19-c.p/\c19-c.p<c9] (fork (decide (c4<=c19-c.p)) (aj (c6::c6::(c30/\c4.toNat<c.m)::c10) (aj [c17] (leaf normal (c3,(77829,ak.mk true true 12 c20 fun i_1=>if i_1<i then bE (f i_1) sE else nth [bE c13 2000] c21 (i_1-i+0))::((3:Nat),aJ fun j=>if(j==0)=true then agg (c7.kids.set 2 (aV (own (nat_lit 77828+1) 12 0 c20)))else c7)::c1)))) (aj [-c9<=c26/\c26<c9] (fork (decide (c4>c26)) (aj (c6::c6::(-c9<=c16/\c16<c9)::c31::c10) (aj [c17] (leaf normal (c3,(106501,ak.mk true true 12 c20 fun i_1=>if i_1<i then bE (f i_1) sE else nth [bE c2 2000] c21 (i_1-i+0))::((3:Nat),aJ fun j=>if(j==0)=true then agg (c7.kids.set 2 (aV (own (nat_lit 106500+1) 12 0 c20)))else c7)::c1)))) (aj [c6,c6,c30/\c4.toNat<c.n,c14,c14,c6,-c9<=c4+c.p/\c4+c.p<c9,(0:Int)<=c4+c.p/\(c4+c.p).toNat<c.n,c6,c30/\c4.toNat<c.n,c14,c14,c18<c27,c18<c27,c6] (aj (c6::c6::c6::(-c9<=c16/\c16<c9)::c31::c6::c6::c6::(c30/\c4.toNat<c.m)::c6::c6::c6::c12::c12::c12::((2000:Nat)+(c18+c18+c18)+1<=sH)::c10) (aj [c17] (leaf normal (c3,(241669,ak.mk true true 12 c20 fun i_1=>if i_1<i then bE (f i_1) sE else nth [agg [agg [rat (c15*(c2.d*c2.n.x+c8*(c13.d*c13.n.x-c2.d*c2.n.x))) sE,rat (c15*(c2.d*c2.n.y+c8*(c13.d*c13.n.y-c2.d*c2.n.y))) sE,rat (c15*(c2.d*c2.n.z+c8*(c13.d*c13.n.z-c2.d*c2.n.z))) sE],rat c32 sH]] c21 (i_1-i+0))::((3:Nat),aJ fun j=>if(j==0)=true then agg (c7.kids.set 2 (aV (own (nat_lit 241668+1) 12 0 c20)))else c7)::c1))))))))) (leaf (exit 0) ([c22,c23,c25,c29,int i64 c19,int i64 (↑s:Int),c24,int i64 c4],(4,ak.mk true true 12 i fun j=>bE (f j) 4294967298)::((3:Nat),aJ fun x=>agg [c29,aq 3 N fun i=>rat (K i) 2002,c28])::c1)))):=ag
theorem Zs {c:Cu} {t:Rat} {a s i N:Nat} {K:Nat->Rat} {f:Nat->Pl}:cw T Cj [] 60 Dj [part Ac [1,1,1,1,1,1]] ⟨aC yC (J0 c a s i),zF c t N K f i,5⟩=
  let c1:Prop:=0<1;some (aj [c1,c1] (aj [c1] (leaf ret [agg [int i64 c.p,aq 3 N fun i=>rat (K i) 2002,aq 12 i fun i=>bE (f (i+0)) 4294967298]]))):=ag
theorem LM (c:Cu) (s r:Nat):(aV (aS c s r)).size=3:=ag
theorem ale:bz P Pe:=aL (sX hT (qm sA) hm (aY Proofs.Tryz.func169 ag ag ag) _ _) bO
theorem V4:bz P Cj:=cZ (aL OP (aL Tl (aL (aa4 (by decide) (by decide)) (aL abk (DE LS (DE ale (aL (jl fun _ _ K hn=>Hh hn.1 hn.2 K) pI)))))))
def Kc (c:Cu) (t:Rat) (a:Nat):Cu:=⟨c.p,c.n+1,dr c.k t (dc c.k t c.n),c.m+1,j7 c t a (bw c.k t c.n)⟩
theorem Fe {rl:List (Nat×Nat)} {c:Cu} {N:Nat} {K:Nat->Rat} {a i i':Nat} (h:bh rl 4=some a) (e:i=i'):eG rl (.agg [.int .i64 c.p,bq K N 2002,.own a 12 0 i]) (.agg [.int .i64 c.p,bq K N 2002,.own 4 12 0 i']):=
 fW ⟨⟨rfl,aN rfl⟩,⟨rfl,aN rfl⟩,⟨rfl,cD h rfl e⟩,trivial⟩
set_option maxHeartbeats 1000000 in
theorem XR {c:Cu} {t:Rat} {a:Nat} (hc:fe c) (h0:c.k 0<t) (h1:t<c.k (c.n-1)) (hlo:c.k a<=t) (hhi:t<c.k (a+1)) (ha:a+1<c.n) (K:Nat):aE P Ck K [aS c 2000 2000,.rat t 2000] [] (aK (aS (Kc c t a) 2002 sE) []):=by
 obtain⟨k1,k2,k3,k4,k5⟩:=id hc
 have hl:=k1.len
 obtain⟨i1,i2⟩:=k1.oD h0 h1 hlo hhi ha
 have hI:fj c.n c.k t=a:=by
  unfold fj;rw[if_neg (by unfold eP;rintro(h|h)<;>grind)];exact su ⟨⟨ha,k1.sorted,by grind⟩,hlo,Rat.le_of_lt hhi,.inl hhi⟩
 have hs2:=EV (k:=c.k) (t:=t) (n:=c.n)
 obtain⟨s,hs⟩:∃s,s=bw c.k t c.n:=⟨_,rfl⟩
 unfold Kc
 rw[<-hs]at hs2 ⊢
 refine fI (r:=aK (aS ⟨c.p,c.n+1,dr c.k t (dc c.k t c.n),c.m+1,j7 c t a s⟩ 2002 sE) []) hT V4 hm YN rfl aX rfl [1,1,1,1,1,0,1] (i:=0) (y:=part Ac [1,1,1,1,1,0,1,0,0]) (z:=part Ac [1,1,1,1,1,1]) ag ag ag (f1:=[]) (f2:=[36,81,97]) (f3:=[]) 60 yC 5
  (fun i:Nat=>J0 c a s i) (fun i=>zF c t (c.n+1) (dr c.k t (dc c.k t c.n)) (j7 c t a s) i) (fun i=>i<=c.m+1) (fun i=>i=c.m+1) (fun i=>c.m+1-i) (fun _=>⟨⟨_,ads,?_⟩,fun i hi=>⟨_,YD,?_⟩,fun i hi=>⟨_,Zs,?_⟩⟩) K []
 ·have e1:fj c.n (fun i=>aR (rat (c.k i) 2000)) t=a:=hI
  have e2:bw (fun i=>aR (rat (c.k i) 2000)) t c.n=s:=hs.symm
  simp only[ah.all,az,e1,e2]
  rw[LM c 2000 2000]
  exact⟨aa,⟨aa,aa,bY (by decide),by decide,k1,aa,aa⟩,⟨aa,aa,bY (by decide),by decide,aa⟩,⟨aa,aa,bY aU,aa,aa,aa⟩,0,Nat.zero_le _,[(0,0),(1,4096),(2,8192),(3,110592)],rfl,rfl,rfl,gU rfl aa aa
   (bD rfl rfl (fW ⟨⟨rfl,aN rfl⟩,⟨rfl,aN rfl⟩,⟨rfl,iZ aa⟩,trivial⟩) (aB (aB (aB trivial))))⟩
 ·have e3:((i:Int)+c.p).toNat=i+c.p.toNat:=aa
  have e4:((i:Int)-1).toNat=i-1:=aa
  simp only[ah.all,az,aZ,bk,aW,e3,e4]
  have tl:∀{i' j:Nat},i'=i->iE 5 [(0,0),(1,1),(2,2),(3,3),(4,4)] (zF c t (c.n+1) (dr c.k t (dc c.k t c.n)) (j7 c t a s) i) (zF c t (c.n+1) (dr c.k t (dc c.k t c.n)) (j7 c t a s) i):=fun _=>bp (bD rfl rfl (Fe rfl rfl) (aB (aB (aB trivial))))
  refine⟨aa,fun g1=>⟨aa,fun g2=>⟨aa,aa,i+1,aa,by dsimp only;omega,[(0,0),(1,1),(2,2),(3,3),(4,77829)],rfl,rfl,rfl,bL rfl rfl rfl (fun k hk=>Bo (y:=j7 c t a s) (fun _ _=>rfl) (s':=sE) ?_ rfl aU aU hk) (bD rfl rfl (Fe rfl rfl) (aB (aB (aB trivial))))⟩,
   fun g2=>⟨aa,fun g3=>⟨aa,aa,i+1,aa,by dsimp only;omega,[(0,0),(1,1),(2,2),(3,3),(4,106501)],rfl,rfl,rfl,bL rfl rfl rfl (fun k hk=>Bo (y:=j7 c t a s) (fun _ _=>rfl) (s':=sE) ?_ rfl aU aU hk) (bD rfl rfl (Fe rfl rfl) (aB (aB (aB trivial))))⟩,
    fun g3=>⟨?_,?_,aa,i+1,aa,by dsimp only;omega,[(0,0),(1,1),(2,2),(3,3),(4,241669)],rfl,rfl,rfl,bL rfl rfl rfl (fun k hk=>Bo (y:=j7 c t a s) (fun _ _=>rfl) (s':=sE) ?_ rfl aU aU hk) (bD rfl rfl (Fe rfl rfl) (aB (aB (aB trivial))))⟩⟩⟩,
   fun g1=>⟨rfl,i,aa,_,rfl,rfl,rfl,tl (i':=i) (j:=i) rfl⟩⟩
  ·rw[show j7 c t a s i=c.f i from if_pos aa]
   exact cC ⟨cC ⟨bM rfl (by decide),bM rfl (by decide),bM rfl (by decide),trivial⟩,bM rfl (by decide),trivial⟩
  ·rw[show j7 c t a s i=c.f (i-1)from(if_neg aa).trans (if_pos aa)]
   exact cC ⟨cC ⟨bM rfl (by decide),bM rfl (by decide),bM rfl (by decide),trivial⟩,bM rfl (by decide),trivial⟩
  ·(repeat' with_reducible refine And.intro ?_ ?_)<;>omega
  ·(repeat' with_reducible refine And.intro ?_ ?_)<;>first|omega|decide
  ·rw[show j7 c t a s i=⟨oU (w8 ((t-c.k i)/(c.k (i+c.p.toNat)-c.k i)) (cE (c.f (i-1))) (cE (c.f i))),(w8 ((t-c.k i)/(c.k (i+c.p.toNat)-c.k i)) (cE (c.f (i-1))) (cE (c.f i))).d⟩from(if_neg aa).trans (if_neg aa)]
   exact cC ⟨cC ⟨bM rfl aU,bM rfl aU,bM rfl aU,trivial⟩,bM rfl (by decide),trivial⟩
 ·subst hi
  simp only[ah.all,az]
  exact⟨aa,aa,.refl _⟩
theorem Nw {k:Nat->Rat} {t:Rat}:∀{i:Nat},(∀j,j<i->k j<=t)->dc k t i=i
 |0,_=>rfl
 |i+1,h=>Jb (Nw fun j hj=>h j aa) (h i aa)
theorem Pj {n a:Nat} {k:Nat->Rat} {t:Rat} (hs:∀i,i+1<n->k i<=k (i+1)) (hlo:k a<=t) (hhi:t<k (a+1)) (ha:a+1<n):dc k t n=a+1:=
 Iv (Nw fun j hj=>Rat.le_trans (gk hs (show j<=a by omega) aa) hlo) hhi aa
def lV (c:Cu) (t:Rat) (a j:Nat):Pl:=
 ⟨⟨k8 c.k c.p.toNat (fun q=>(cE (c.f q)).n.x) t a j,k8 c.k c.p.toNat (fun q=>(cE (c.f q)).n.y) t a j,k8 c.k c.p.toNat (fun q=>(cE (c.f q)).n.z) t a j⟩,k8 c.k c.p.toNat (fun q=>(cE (c.f q)).d) t a j⟩
theorem Kn.KZ {n p j:Nat} {k:Nat->Rat} (h:Kn n p k) (hj:j+p+1<n):k j<k (j+(p+1)):=by
 have hp:=h.p1
 have hl:=h.len
 by_cases c:j=0
 ·subst c
  have m:=h.mult 1 aa aa
  rw[h.first 1 aa]at m
  rwa [show 0+(p+1)=1+p by omega]
 ·have m:=h.mult j aa hj
  have:=h.mono (show j+p<=j+(p+1) by omega) aa
  grind
theorem Kn.wide {n p P:Nat} {k:Nat->Rat} (h:Kn n p k) (hA:At n k P):p<=P/\P+p+1<n:=by
 have hw:=hA.wide
 have hlt:=hA.lt
 have hl:=h.len
 constructor
 ·by_cases c:p<=P
  ·exact c
  ·rw[h.first P aa,h.first (P+1) aa]at hw
   exact absurd hw Rat.lt_irrefl
 ·by_cases c:P+p+1<n
  ·exact c
  ·rw[h.last P aa aa,h.last (P+1) aa aa]at hw
   exact absurd hw Rat.lt_irrefl
theorem we {p:Pl} (h:p.d≠0):eI (cE p)=p:=by
 obtain⟨⟨x,y,z⟩,d⟩:=p
 have key:∀x:Rat,d*x/d=x:=fun x=>by rw[Rat.div_def,Rat.mul_comm d x,Rat.mul_assoc,Rat.mul_inv_cancel _ h,Rat.mul_one]
 unfold eI cE
 dsimp only
 rw[key,key,key]
theorem UP {c:Cu} {t:Rat} {a i:Nat} (hc:fe c) (hlo:c.k a<=t) (hhi:t<c.k (a+1)) (ha:a+1<c.n) (hw:∀i,(c.f i).d≠0):j7 c t a (bw c.k t c.n) i=eI (lV c t a i):=by
 obtain⟨k1,k2,k3,k4,k5⟩:=id hc
 unfold j7 lV k8
 by_cases c1:i+c.p.toNat<=a
 ·simp only[if_pos c1]
  exact(we (hw i)).symm
 ·simp only[if_neg c1]
  by_cases c2:a<i
  ·simp only[if_pos (show a<i+bw c.k t c.n by omega),if_pos c2]
   exact(we (hw (i-1))).symm
  ·simp only[if_neg c2]
   by_cases c3:a<i+bw c.k t c.n
   ·simp only[if_pos c3]
    have e:=JI k1.sorted hhi ha hlo (i:=i) aa c3
    have z:∀x y:Rat,x+fr (c.k i) (c.k (i+c.p.toNat)) t*(y-x)=x:=fun x y=>by rw[e,Ox];grind
    simp only[z]
    exact(we (hw (i-1))).symm
   ·simp only[if_neg c3]
    show(⟨oU (w8 (fr (c.k i) (c.k (i+c.p.toNat)) t) (cE (c.f (i-1))) (cE (c.f i))),_⟩:Pl)=_
    rw[<-yc];rfl
def nO (c:Cu) (t:Rat) (a:Nat):Cu:=⟨c.p,c.n+1,dD c.k t (a+1),c.m+1,fun j=>eI (lV c t a j)⟩
theorem adt:aT P IL EG (aA EG):=aY Proofs.Tryz.func88 ag ag ag
def j8 (c:Cu) (t:Rat):Cu:=if fR c t=0 then nO c t (bT c.n c.k t)else kq
def SY:Spec:=cN (kC (kL 2000) (kC (gx 2000) kN)) (fun a=>.bool (decide (a.1.2 0<a.2.1)&&decide (a.2.1<a.1.2 (a.1.1-1)))) fun a=>[1<=a.1.1,a.1.1<2^40]
def Rv:Spec:=cN (kC (jb 2000 2000) (kC (gx 2000) kN)) (fun a=>aS (nO a.1 a.2.1 (bT a.1.n a.1.k a.2.1)) 2002 sE) fun a=>[fe a.1,a.1.k 0<a.2.1,a.2.1<a.1.k (a.1.n-1),∀i,(a.1.f i).d≠0]
theorem ahu {n:Nat} {k:Nat->Rat} {t:Rat}:bW T (nG::nI) [11] 60 EG (aA EG) ⟨aQ 0 [bq k n 2000,.rat t 2000],[],0⟩=
  let c6:Prop:=0<1;let c4:Prop:=(0:Int)<=(0:Int)/\Int.toNat (0:Int)<n;let c3:Int:=(↑n:Int)-(1:Int);let c2:Int:=dM (k (Int.toNat (0:Int))) t;let c1:Prop:=2000<2^41;let c5:Bool:=decide (c2<(0:Int));some (fork c5 (aj [c4,c6,c1,c1,c5=true,c6,-(2:Int)^63<=c3/\c3<(2:Int)^63,(0:Int)<=c3/\c3.toNat<n,c1,c1] (leaf ret [AV.bool (bif true then decide (dM t (k c3.toNat)<(0:Int))else false)])) (aj [c4,c6,c1,c1,c5=false] (leaf ret [AV.bool false]))):=ag
theorem nW {n p:Nat} {k:Nat->Rat} {t:Rat} (h:Kn n p k) (h0:k 0<t) (h1:t<k (n-1)):k (bT n k t)<=t/\t<k (bT n k t+1)/\bT n k t+1<n:=by
 obtain⟨g1,g2,g3⟩:=h.En (Rat.le_of_lt h0) (Rat.le_of_lt h1)
 refine⟨g1.lo,?_,aa⟩
 rcases g1.Ld with e|e
 ·exact e
 ·rw[e];exact h1
theorem aiu:∀K args pre r,SY K args pre=some r->aE P IL K args pre r:=cy fun⟨⟨n,k⟩,t,_⟩ K hn=>by
 obtain⟨h1,h2⟩:=hn
 have h1:1<=n:=h1
 have h2:n<2^40:=h2
 refine cj (r:=aK (.bool (decide (k 0<t)&&decide (t<k (n-1)))) []) hT (cZ pI) hm adt rfl aX rfl 60 ahu (fun _=>?_) K []
 have e1:((n:Int)-1).toNat=n-1:=aa
 simp only[ah.all,az,e1,Int.toNat_zero,cond_true,cond_false,aZ,bk,QO]
 refine⟨fun h=>?_,fun h=>?_⟩
 ·(repeat' with_reducible refine And.intro ?_ ?_)
  all_goals first|omega|exact h|decide|skip
  exact fB (by rw[decide_eq_true h,Bool.true_and])
 ·(repeat' with_reducible refine And.intro ?_ ?_)
  all_goals first|omega|exact h|decide|skip
  exact fB (by rw[decide_eq_false h,Bool.false_and])
theorem alw:∀K args pre r,Rv K args pre=some r->aE P Ck K args pre r:=cy fun⟨c,t,_⟩ K hn=>by
 obtain⟨hc,h0,h1,hw⟩:=hn
 have hc:fe c:=hc
 have h0:c.k 0<t:=h0
 have h1:t<c.k (c.n-1):=h1
 have hw:∀i,(c.f i).d≠0:=hw
 obtain⟨g1,g2,g3⟩:=nW hc.1 h0 h1
 refine rQ (u:=aS (Kc c t (bT c.n c.k t)) 2002 sE) (l:=[]) (XR hc h0 h1 g1 g2 g3 K) (fun h=>trivial) rfl rfl ?_
 refine cC ⟨.refl _,mC rfl fun i _=>?_,mC rfl fun i _=>?_,trivial⟩
 ·show AV.rat (dr c.k t (dc c.k t c.n) i) 2002=_
  rw[Pj hc.1.sorted g1 g2 g3];rfl
 ·show bE (j7 c t (bT c.n c.k t) (bw c.k t c.n) i) sE=_
  rw[UP hc g1 g2 g3 hw];rfl
theorem FL {c:Cu} {t:Rat} (h:fR c t=0):c.k 0<t/\t<c.k (c.n-1)/\bw c.k t c.n<c.p.toNat/\c.m<40:=by
 unfold fR at h
 split at h
 ·omega
 ·rename_i g1
  split at h
  ·omega
  ·split at h
   ·omega
   ·have g1:=Classical.not_not.1 g1
    exact⟨g1.1,g1.2,aa,aa⟩
open Go
theorem mS {x:Int} {n:Nat} (h:x.natAbs<2^n) (hn:1<=n):Sz (x:Rat) n:=
 ⟨by rw[Rat.num_intCast];exact h,by rw[Rat.den_intCast];exact Nat.lt_of_lt_of_le (show 1<2^1 by decide) (Nat.pow_le_pow_right (by decide) hn)⟩
def gl (x:Rat):Prop:=∃z:Int,(z:Rat)=x*55440/\-110880<=z/\z<=776160
theorem gl.sz {x:Rat} (h:gl x):Sz x 40:=by
 obtain⟨z,e,h1,h2⟩:=h
 have:x=(z:Rat)/((55440:Int):Rat):=by
  rw[e,Rat.div_def,Rat.mul_assoc,show(55440:Rat)=((55440:Int):Rat)from rfl,Rat.mul_inv_cancel _ (by decide+kernel),Rat.mul_one]
 rw[this]
 exact(mS (n:=20) aa (by decide)).div (mS (n:=20) (by decide) (by decide))
theorem gl.order {x y:Rat} {z w:Int} (h:(z:Rat)=x*55440) (h':(w:Rat)=y*55440) (hxy:x<=y):z<=w:=by
 have:(z:Rat)<=(w:Rat):=by rw[h,h'];exact Rat.mul_le_mul_of_nonneg_right hxy (by decide+kernel)
 exact Rat.intCast_le_intCast.1 this
theorem Wt {x y f:Rat} {u v:Int} {s:Nat} (hf:f*(v:Rat)=(u:Rat)) (h0:0<=u) (h1:u<=v) (h2:0<v) (h3:v<2^20) (hx:Sz x s) (hy:Sz y s):Sz (x+f*(y-x)) (2*s+61):=by
 have hv:(v:Rat)≠0:=by
  intro e
  have:v=0:=by
   have e2:(v:Rat)=((0:Int):Rat):=e
   exact Rat.intCast_inj.1 e2
  omega
 have key:x+f*(y-x)=(((v-u:Int):Rat)*x+(u:Rat)*y)/(v:Rat):=by
  have e1:((v-u:Int):Rat)=(v:Rat)-(u:Rat):=by rw[Rat.intCast_sub]
  rw[e1,Rat.div_def,<-hf]
  have e2:((v:Rat)-f*(v:Rat))*x+f*(v:Rat)*y=(x+f*(y-x))*(v:Rat):=by grind
  rw[e2,Rat.mul_assoc,Rat.mul_inv_cancel _ hv,Rat.mul_one]
 rw[key]
 have a1:=(mS (x:=v-u) (n:=20) aa (by decide)).mul hx
 have a2:=(mS (x:=u) (n:=20) aa (by decide)).mul hy
 have a3:=(a1.add a2).div (mS (x:=v) (n:=20) aa (by decide))
 exact a3.more aa
theorem BG {k x:Nat->Rat} {p a j n s:Nat} {t:Rat} (hs:∀i,i+1<n->k i<=k (i+1)) (hlo:k a<=t) (hhi:t<k (a+1)) (hn:a+p<n) (hk:∀i,gl (k i)) (ht:gl t) (hx:∀i,Sz (x i) s):Sz (k8 k p x t a j) (2*s+61):=by
 unfold k8
 split
 ·exact(hx _).more aa
 ·split
  ·exact(hx _).more aa
  ·have m1:=gk hs (show j<=a by omega) aa
   have m2:=gk hs (show a+1<=j+p by omega) aa
   have hw:k j<k (j+p):=by grind
   obtain⟨z1,e1,b1,c1⟩:=hk j
   obtain⟨z2,e2,b2,c2⟩:=hk (j+p)
   obtain⟨z3,e3,b3,c3⟩:=ht
   have o1:=gl.order e1 e3 (by grind)
   have o2:=gl.order e3 e2 (by grind)
   have o3:z1<z2:=by
    have:(z1:Rat)<(z2:Rat):=by rw[e1,e2];exact Rat.mul_lt_mul_of_pos_right hw (by decide+kernel)
    exact Rat.intCast_lt_intCast.1 this
   refine Wt (u:=z3-z1) (v:=z2-z1) ?_ aa aa aa aa (hx _) (hx _)
   have hf:=nY (t:=t) hw
   rw[Rat.intCast_sub,Rat.intCast_sub,e1,e2,e3]
   have:fr (k j) (k (j+p)) t*(k (j+p)*55440-k j*55440)=fr (k j) (k (j+p)) t*(k (j+p)-k j)*55440:=by grind
   rw[this,hf];grind
theorem MN {k:Nat->Rat} {t:Rat} {q:Nat} (hk:∀i,gl (k i)) (ht:gl t) (i:Nat):gl (dD k t q i):=by
 unfold dD
 split
 ·exact hk _
 ·split
  ·exact ht
  ·exact hk _
def ng (p n:Nat) (k:Nat->Rat) (x:Nat->Nat->Rat) (N:Nat) (K:Nat->Rat) (X:Nat->Nat->Rat):Prop:=
 ∀Q,At N K Q->∃P,At n k P/\k P<=K Q/\K (Q+1)<=k (P+1)/\∀e l,l.length=p->jX K p (X e) Q l=jX k p (x e) P l
theorem ng.refl {p n:Nat} {k:Nat->Rat} {x:Nat->Nat->Rat}:ng p n k x n k x:=fun Q h=>⟨Q,h,Rat.le_refl,Rat.le_refl,fun _ _ _=>rfl⟩
theorem Kn.mT {n p P:Nat} {k:Nat->Rat} (h:Kn n p k) (hA:At n k P):p<=P/\P+p+1<n:=by
 have hw:=hA.wide
 have hlt:=hA.lt
 have hl:=h.len
 constructor
 ·by_cases c:p<=P
  ·exact c
  ·rw[h.first P (by omega),h.first (P+1) (by omega)]at hw
   exact absurd hw Rat.lt_irrefl
 ·by_cases c:P+p+1<n
  ·exact c
  ·rw[h.last P (by omega) (by omega),h.last (P+1) (by omega) (by omega)]at hw
   exact absurd hw Rat.lt_irrefl
theorem ng.ins {p n N a:Nat} {k K:Nat->Rat} {x X:Nat->Nat->Rat} {t:Rat} (h:ng p n k x N K X) (hK:Kn N p K) (h0:K 0<t) (h1:t<K (N-1)) (hlo:K a<=t) (hhi:t<K (a+1)) (ha:a+1<N) (ht:bw K t N<p):
  ng p n k x (N+1) (dD K t (a+1)) fun e=>k8 K p (X e) t a:=by
 intro Q hQ
 have hK':=hK.dD h0 h1 hlo hhi ha ht
 obtain⟨g1,g2⟩:=hK.oD h0 h1 hlo hhi ha
 obtain⟨hA,_,_,_⟩:=ak6 hK.sorted hlo hhi ha (by have:=hQ.lt;omega) hQ.wide
 obtain⟨w1,w2⟩:=hK.mT hA
 obtain⟨v1,v2⟩:=hK'.mT hQ
 obtain⟨P,p1,p2,p3,p4⟩:=h _ hA
 refine⟨P,p1,?_,?_,fun e l hl=>?_⟩
 ·refine Rat.le_trans p2 ?_
  unfold jT
  by_cases c1:Q<=a
  ·rw[if_pos c1,iC (by omega)];exact Rat.le_refl
  ·rw[if_neg c1]
   by_cases c2:Q=a+1
   ·subst c2;rw[nL];exact hlo
   ·rw[iq (by omega)];exact Rat.le_refl
 ·refine Rat.le_trans ?_ p3
  unfold jT
  by_cases c1:Q<=a
  ·rw[if_pos c1]
   by_cases c2:Q=a
   ·subst c2;rw[nL];exact Rat.le_of_lt hhi
   ·rw[iC (by omega)];exact Rat.le_refl
  ·rw[if_neg c1,iq (by omega),show Q+1-1=Q-1+1 by omega];exact Rat.le_refl
 ·rw[<-p4 e l hl]
  exact aaq (n:=N) hK.sorted hK.p1 hlo hhi g1 hA w1 (by omega) hQ v1 (by omega) hl
theorem ng.HZ {p n N j Q:Nat} {k K:Nat->Rat} {x X:Nat->Nat->Rat} (h:ng p n k x N K X) (hK:Kn N p K) (hQ:At N K Q) (h1:j<=Q) (h2:Q<=j+p):
  ∃P,At n k P/\bT n k (K Q)=P/\∀e,jX k p (x e) P (b9 K (j+1) p)=X e j:=by
 obtain⟨w1,w2⟩:=hK.mT hQ
 obtain⟨P,p1,p2,p3,p4⟩:=h Q hQ
 have hw:=hQ.wide
 refine⟨P,p1,su ⟨p1,p2,by grind,.inl (by grind)⟩,fun e=>?_⟩
 rw[<-p4 e _ kZ]
 exact zE hQ w1 (by omega) h2 h1
open Go Go.Am.N AV ah au IntKind
structure fY (c:Cu) (s:Nat):Prop where
 kn:fe c
 pos:∀i,0<(c.f i).d
 kd:∀i,gl (c.k i)
 sx:∀i,Sz (cE (c.f i)).n.x s
 sy:∀i,Sz (cE (c.f i)).n.y s
 sz:∀i,Sz (cE (c.f i)).n.z s
 sd:∀i,Sz (c.f i).d s
theorem O7 {h:Pl} (hd:h.d≠0):cE (eI h)=h:=by
 obtain⟨⟨x,y,z⟩,d⟩:=h
 have key:∀x:Rat,d*(x/d)=x:=fun x=>by rw[Rat.div_def,Rat.mul_comm d,Rat.mul_assoc,Rat.inv_mul_cancel _ hd,Rat.mul_one]
 unfold eI cE
 dsimp only
 rw[key,key,key]
theorem RS {c:Cu} {t:Rat} {a i:Nat} (hc:fe c) (hp:∀i,0<(c.f i).d) (h0:c.k 0<t) (h1:t<c.k (c.n-1)) (hlo:c.k a<=t) (hhi:t<c.k (a+1)) (ha:a+1<c.n):0<(lV c t a i).d:=by
 obtain⟨g1,g2⟩:=hc.1.oD h0 h1 hlo hhi ha
 exact aeY (n:=c.n) hc.1.sorted hlo hhi aa fun i=>hp i
theorem wN {x:Rat} (h:0<x):x≠0:=fun e=>by rw[e]at h;exact absurd h Rat.lt_irrefl
theorem fY.ins {c:Cu} {s:Nat} {t:Rat} (h:fY c s) (ht:gl t) (he:fR c t=0):fY (j8 c t) (2*s+61):=by
 obtain⟨e1,e2,e3,e4⟩:=FL he
 obtain⟨k1,k2,k3,k4,k5⟩:=id h.kn
 obtain⟨a1,a2,a3⟩:=nW k1 e1 e2
 obtain⟨g1,g2⟩:=k1.oD e1 e2 a1 a2 a3
 rw[show j8 c t=nO c t (bT c.n c.k t)from if_pos he]
 have hpos:∀i,0<(lV c t (bT c.n c.k t) i).d:=fun i=>RS h.kn h.pos e1 e2 a1 a2 a3
 have hl:∀i,cE (eI (lV c t (bT c.n c.k t) i))=lV c t (bT c.n c.k t) i:=fun i=>O7 (wN (hpos i))
 refine⟨⟨k1.dD e1 e2 a1 a2 a3 e3,k2,k3,show c.n+1<=c.p.toNat+41 by omega,show((c.m+1:Nat):Int)=((c.n+1:Nat):Int)-c.p-1 by omega⟩,hpos,MN h.kd ht,fun i=>?_,fun i=>?_,fun i=>?_,fun i=>?_⟩
 ·show Sz (cE (eI (lV c t (bT c.n c.k t) i))).n.x _
  rw[hl];exact BG (n:=c.n) k1.sorted a1 a2 aa h.kd ht h.sx
 ·show Sz (cE (eI (lV c t (bT c.n c.k t) i))).n.y _
  rw[hl];exact BG (n:=c.n) k1.sorted a1 a2 aa h.kd ht h.sy
 ·show Sz (cE (eI (lV c t (bT c.n c.k t) i))).n.z _
  rw[hl];exact BG (n:=c.n) k1.sorted a1 a2 aa h.kd ht h.sz
 ·exact BG (n:=c.n) k1.sorted a1 a2 aa h.kd ht h.sd
theorem fY.G8 {c:Cu} {s r:Nat} (h:fY c s):bP (fun i=>.rat (c.k i) r) c.n 2000:=fun i _=>dA rfl ((h.kd i).sz.more (by decide))
theorem fY.x {c:Cu} {s:Nat} (h:fY c s) (i:Nat):Sz (c.f i).n.x (s+s)/\Sz (c.f i).n.y (s+s)/\Sz (c.f i).n.z (s+s):=by
 have e:=we (wN (h.pos i))
 have d:(cE (c.f i)).d=(c.f i).d:=rfl
 refine⟨?_,?_,?_⟩
 ·rw[<-e];exact(h.sx i).div (d▸h.sd i)
 ·rw[<-e];exact(h.sy i).div (d▸h.sd i)
 ·rw[<-e];exact(h.sz i).div (d▸h.sd i)
theorem fY.It {c:Cu} {s r:Nat} (h:fY c s) (hs:s<=1000):fT (fun i=>bE (c.f i) r) c.m 2000:=fun i _=>by
 obtain⟨a,b,d⟩:=h.x i
 exact cC ⟨cC ⟨dA rfl (a.more aa),dA rfl (b.more aa),dA rfl (d.more aa),trivial⟩,dA rfl ((h.sd i).more aa),trivial⟩
def wH (c:Cu) (t:Nat->Rat):Nat->Cu
 |0=>c
 |r+1=>j8 (wH c t r) (t r)
def nN (c:Cu) (t:Nat->Rat):Nat->Int
 |0=>0
 |r+1=>if nN c t r=0 then fR (wH c t r) (t r)else nN c t r
def Nd:Nat->Nat
 |0=>5
 |r+1=>2*Nd r+61
theorem aer {c:Cu} {t:Nat->Rat} {r:Nat} (h:nN c t (r+1)=0):nN c t r=0/\fR (wH c t r) (t r)=0:=by
 unfold nN at h
 split at h
 ·rename_i g;exact⟨g,h⟩
 ·rename_i g;exact absurd h g
theorem MG {c:Cu} {t:Nat->Rat} (hc:fY c 5) (ht:∀i,gl (t i)):∀{r:Nat},nN c t r=0->fY (wH c t r) (Nd r)
 |0,_=>hc
 |r+1,h=>by
  obtain⟨h1,h2⟩:=aer h
  exact(MG hc ht h1).ins (ht r) h2
theorem Se {c:Cu} {t:Nat->Rat} {r:Nat} (h:nN c t r=0) (he:fR (wH c t r) (t r)=0):nN c t (r+1)=0:=(if_pos h:nN c t (r+1)=_).trans he
def fQ (g:Nat->Bool):Nat->Nat
 |0=>0
 |n+1=>if fQ g n<n then fQ g n else if g n then n else n+1
theorem DG {g:Nat->Bool}:∀{n:Nat},(∀j,j<n->g j=false)->fQ g n=n
 |0,_=>rfl
 |n+1,h=>by
  rw[fQ,DG fun j hj=>h j (by omega),if_neg (by omega),h n (by omega)];rfl
theorem xF {g:Nat->Bool} {i:Nat} (hi:g i=true) (hb:∀j,j<i->g j=false):∀{n:Nat},i<n->fQ g n=i
 |0,h=>by omega
 |n+1,h=>by
  by_cases c:i=n
  ·subst c
   rw[fQ,DG hb,if_neg (by omega),if_pos hi]
  ·rw[fQ,xF hi hb (n:=n) (by omega),if_pos (by omega)]
theorem Kn.split {N p a:Nat} {K:Nat->Rat} {t:Rat} (h:Kn N p K) (h0:K 0<t) (h1:t<K (N-1)) (hlo:K a<=t) (hhi:t<K (a+1)) (ha:a+1<N) (ht:bw K t N=p):
  (∀i,i<=a->a<i+p->K i=t)/\(∀i,i+p<=a->K i<t)/\p+p<=a:=by
 obtain⟨g1,g2⟩:=h.oD h0 h1 hlo hhi ha
 have hp:=h.p1
 have run:∀i,i<=a->a<i+p->K i=t:=fun i hi h2=>JI h.sorted hhi ha hlo hi (by rw[ht];exact h2)
 refine⟨run,fun i hi=>?_,?_⟩
 ·have m:=h.mono (show i<=a by omega) (by omega)
  by_cases e:K i=t
  ·exfalso
   have hb:∀j,i<=j->j<i+(p+1)->K j=t:=fun j hj1 hj2=>by
    have a1:=h.mono hj1 (by omega)
    have a2:=h.mono (show j<=a by omega) (by omega)
    grind
   have b1:=Lj hb
   have b2:=IG (k:=K) (t:=t) (n:=i+(p+1)) (m:=N-(i+(p+1)))
   rw[show i+(p+1)+(N-(i+(p+1)))=N by omega]at b2
   omega
  ·grind
 ·by_cases c:p+p<=a
  ·exact c
  ·have e:=run p g1 (by omega)
   rw[h.first p (Nat.le_refl _)]at e
   rw[e]at h0
   exact absurd h0 Rat.lt_irrefl
theorem Q6:aT P CS o4 (aA o4):=aY Proofs.Tryz.func35 ag ag ag
def uQ:bg:=nG::(IL,SY)::(yI,rR)::(Ck,Rv)::(F6,pF)::nI
abbrev xy:Code:=aA o4
abbrev qT:Code:=part xy [1,1,1]
abbrev vJ:List Nat:=[4,5,6,2,3]
abbrev DO:List AV:=[.ptr 0 0 3 0 [],.ptr 1 0 3 0 [],.int .i64 0,.ptr 2 0 3 0 [],.ptr 3 0 3 0 []]
abbrev Bg (c:Cu) (t:Rat):aF:=[(3,tP t 2000),(2,⟨false,true,3,1,fun _=>aS c 2000 sE⟩),(1,tT),(0,tT)]
abbrev xx:List Nat:=[4,5,6,2,3,7,8,9]
abbrev JY (i:Nat):List AV:=[.ptr 0 0 3 0 [],.ptr 1 0 3 0 [],.int .i64 0,.ptr 2 0 3 0 [],.ptr 3 0 3 0 [],.ptr 4 0 3 0 [],.ptr 5 0 3 0 [],.int .i64 i]
abbrev rJ (c:Cu) (t:Rat) (f g:Nat->Rat) (x y:Nat):aF:=[(6,oH 2000 x f),(7,oH 2000 y g),(5,⟨false,true,3,1,fun _=>.agg [.int .i64 c.p,.own 7 3 0 y,.nil]⟩),(4,⟨false,true,3,1,fun _=>.agg [.int .i64 c.p,.own 6 3 0 x,.nil]⟩),(3,tP t 2000),(2,⟨false,true,3,1,fun _=>aS c 2000 sE⟩),(1,tT),(0,tT)]
theorem adR {c:Cu} {t:Rat}:aH T uQ [16] 60 vJ (before xy [1,1,0]) ⟨aQ 0 [aS c 2000 2000,.rat t 2000],[],0⟩=
  let c13:AV:=rat t 2000;let c12:Rat:=aR (rat (c.k 0) 2000);let c11:Nat:=(aV (aS c 2000 2000)).size;let c10:Rat:=aR (rat (c.k (c.n-1)) 2000);let c8:AV:=ptr 8192 0 3 0 [];let c7:AV:=ptr 12288 0 3 0 [];let c6:Prop:=0<1;let c5:AV:=agg [int i64 0,nil,nil];let c9:ak:=aJ fun x=>c5;let c4:Nat×ak:=(4096,ak.mk false true (aV c13).size 1 fun x=>c13);let c3:List AV:=[ptr 0 0 c11 0 [],ptr 4096 0 (aV c13).size 0 []];let c2:ak:=aJ fun j=>if(j==0)=true then aV (agg c5.kids)else c5;let c1:Nat×ak:=(0,ak.mk false true c11 1 fun x=>aS c 2000 2000);some (aj [c6,c6,bP (fun i=>rat (c.k i) 2000) c.n 2000,(2000:Nat)<=2000,(1:Nat)<=c.n,c.n<2^40] (fork (!(decide (c12<t)&&decide (t<c10))) (aj [c6,c6] (leaf ret (c8::c7::int i64 7::c3,[c4,c1,((12288:Nat),c2),((8192:Nat),c2)]))) (leaf normal (c8::c7::int i64 0::c3,[c4,c1,((12288:Nat),c9),((8192:Nat),c9)])))):=ag
theorem afM {c:Cu} {t:Rat}:aH T uQ [25] 60 vJ [part xy [1,1,0,0,0]] ⟨aC vJ DO,Bg c t,4⟩=
  let c6:Int:=(↑(bw (fun i=>aR (rat (c.k i) 2000)) t c.n):Int);let c5:Nat×ak:=((3:Nat),aJ fun x=>rat t 2000);let c4:Cu:=Cu.mk c.p c.n (fun i=>aR (rat (c.k i) 2000)) c.m fun i=>gG (bE (c.f i) sE);let c3:Prop:=0<1;let c2:List AV:=[ptr 0 0 3 0 [],ptr 1 0 3 0 [],int i64 0,ptr 2 0 3 0 [],ptr 3 0 3 0 []];let c1:ak:=aJ fun x=>agg [int i64 0,nil,nil];some (aj [c3,c3,bP (fun i=>rat (c.k i) 2000) c.n sK,(2000:Nat)<=sK,c.n<2^40,c3] (fork (decide (c6<c.p)) (aj [c3,c3,bP (fun i=>rat (c.k i) 2000) c.n 2000,fT (fun i=>bE (c.f i) sE) c.m 2000,(2000:Nat)<=2000,fe c4,aR (rat (c.k 0) 2000)<t,t<aR (rat (c.k (c.n-1)) 2000),∀(i:Nat),aR (rat (c.f i).d sE)≠0,c3] (leaf normal (c2,[c5,((2:Nat),aJ fun j=>if(j==0)=true then aV (aS (nO c4 t (bT c.n (fun i=>aR (rat (c.k i) 2000)) t)) 2002 sE)else aS c 2000 sE),((1:Nat),c1),((0:Nat),c1)]))) (leaf (exit 0) (c2,[c5,((2:Nat),aJ fun x=>aS c 2000 4294967298),((1:Nat),c1),((0:Nat),c1)])))):=ag
theorem XY {c:Cu} {t:Rat}:aH T uQ [] 60 xx (before qT [1,0,1]) ⟨aC vJ DO,Bg c t,4⟩=
  let c5:AV:=int i64 0;let c2:Prop:=0<1;let c1:AV:=agg [c5,nil,nil];let c4:List AV:=c1.kids.set 0 (aV (int i64 c.p));let c3:ak:=aJ fun x=>c1;some (aj [c2,c2,c2,(1:Nat)*3<=2^24,c2,c2] (leaf normal ([ptr 0 0 3 0 [],ptr 1 0 3 0 [],c5,ptr 2 0 3 0 [],ptr 3 0 3 0 [],ptr 32772 0 3 0 [],ptr 36868 0 3 0 [],c5],[(24580,ak.mk true true 3 1 fun i=>nth [rat t 2000] (rat 0 1) i),((36868:Nat),aJ fun j=>if(j==0)=true then aV (agg (c4.set 1 (aV (own (nat_lit 24579+1) 3 0 1))))else c1),((32772:Nat),aJ fun j=>if(j==0)=true then aV (agg c4)else c1),((3:Nat),aJ fun x=>rat t 2000),((2:Nat),aJ fun x=>aS c 2000 4294967298),((1:Nat),c3),((0:Nat),c3)]))):=ag
theorem ah5 {c:Cu} {t:Rat} {f g:Nat->Rat} {x y i:Nat}:aH T uQ [41,52,64] 60 xx [part qT [1,0,1,0,0]] ⟨aC xx (JY i),rJ c t f g x y,8⟩=
  let c32:AV:=rat 0 1;let c30:AV:=int i64 0;let c29:Nat:=y+1;let c27:Prop:=2000<2^41;let c26:Prop:=1*3<=2^24;let c25:AV:=ptr 2 0 3 0 [];let c24:AV:=ptr 3 0 3 0 [];let c23:AV:=ptr 1 0 3 0 [];let c22:AV:=ptr 0 0 3 0 [];let c21:AV:=ptr 5 0 3 0 [];let c20:AV:=ptr 4 0 3 0 [];let c16:Nat×ak:=(7,ak.mk true true 3 y fun i=>rat (g i) 2000);let c15:Nat×ak:=(6,ak.mk true true 3 x fun i=>rat (f i) 2000);let c12:Int:=(↑i:Int);let c11:Prop:=0<1;let c10:AV:=agg [int i64 c.p,own 6 3 0 x,nil];let c6:AV:=agg [int i64 c.p,own 7 3 0 y,nil];let c31:Int:=c12+(1:Int);let c28:AV:=rat (c.k c12.toNat) 2000;let c19:Nat×ak:=((5:Nat),aJ fun x=>c6);let c18:Nat×ak:=((4:Nat),aJ fun x=>c10);let c17:Prop:=(0:Int)<=c12/\c12.toNat<c.n;let c14:ak:=aJ fun x=>agg [c30,nil,nil];let c13:Int:=dM (c.k c12.toNat) t;let c9:ak:=ak.mk true true 3 c29 fun i=>if i<y then rat (g i) 2000 else nth [c28] c32 (i-y+0);let c8:Nat×ak:=(94216,ak.mk true true 3 (x+1) fun i=>if i<x then rat (f i) 2000 else nth [c28] c32 (i-x+0));let c7:List Prop:=[c11,c11,c17,c26,c29*((56:Nat)+1)*2<=2^47,c11];let c5:List Prop:=[-(2:Int)^63<=c31/\c31<(2:Int)^63];let c2:List AV:=[c22,c23,c30,c25,c24,c20,c21,int i64 c31];let c1:List (Nat×ak):=[((3:Nat),aJ fun x=>rat t 2000),((2:Nat),aJ fun x=>aS c 2000 4294967298),((1:Nat),c14),((0:Nat),c14)];let c4:List (Nat×ak):=((4:Nat),aJ fun j=>if(j==0)=true then agg (c10.kids.set 1 (aV (own (nat_lit 94215+1) 3 0 (x+1))))else c10)::c1;let c3:List (Nat×ak):=c16::c15::c19::c18::c1;some (aj [c11] (fork (decide (c12<(↑c.n:Int))) (aj [c11,c17,c11,c27,c27] (fork (decide (c13<=(0:Int))) (aj [c11,c11,c17,c26,(x+1)*((56:Nat)+1)*2<=2^47,c11] (fork (decide (c13>=(0:Int))) (aj c7 (aj c5 (leaf normal (c2,((147464:Nat),c9)::c8::((5:Nat),aJ fun j=>if(j==0)=true then agg (c6.kids.set 1 (aV (own (nat_lit 147463+1) 3 0 c29)))else c6)::c4)))) (aj c5 (leaf normal (c2,c16::c8::c19::c4))))) (fork (decide (c13>=(0:Int))) (aj c7 (aj c5 (leaf normal (c2,((102408:Nat),c9)::c15::((5:Nat),aJ fun j=>if(j==0)=true then agg (c6.kids.set 1 (aV (own (nat_lit 102407+1) 3 0 c29)))else c6)::c18::c1)))) (aj c5 (leaf normal (c2,c3)))))) (leaf (exit 2) ([c22,c23,c30,c25,c24,c20,c21,int i64 c12],c3)))):=ag
theorem ZR {c:Cu} {t:Rat} {f g:Nat->Rat} {x y i:Nat}:cw T uQ [] 60 o4 [part qT [1,1]] ⟨aC xx (JY i),rJ c t f g x y,8⟩=
  let c9:AV:=rat 0 1;let c8:Nat:=2^47;let c7:Nat:=x+1;let c5:Int:=(↑c.m:Int);let c4:Nat:=Int.toNat (0:Int);let c2:Prop:=0<1;let c1:Int:=(↑c7:Int)-c.p-(1:Int);let c6:Int:=c1-(1:Int);let c3:Nat:=c6.toNat;some (aj [c2,c2,(1:Nat)*3<=2^24,c7*((56:Nat)+1)*2<=c8,c2] (aj [c2,c2,bP (fun i=>if i+0<x then rat (f (i+0)) 2000 else nth [rat t 2000] c9 (i+0-x+0)) c7 sK,c7<2^40,-(2:Int)^40<c.p,c.p<(2:Int)^40] (aj [c2,c2,(0:Int)<=(0:Int)/\(0:Int)<=c1/\c1<=c1/\c1<=c5,(0:Nat)<c1.toNat-c4/\(c1.toNat-c4)*((224:Nat)+1)*2<=c8,c2] (aj [c2,c2,-(2:Int)^63<=c6/\c6<(2:Int)^63,(0:Int)<=c6/\c6<=c5/\c5<=c5/\c5<=c5,(0:Nat)<c5.toNat-c3/\(c5.toNat-c3)*((224:Nat)+1)*2<=c8,c2] (aj [c2,c2,c2,c2] (aj [c2,c2] (leaf ret [agg [int i64 c.p,aq 3 c7 fun i=>if i+0<x then rat (f (i+0)) 2000 else nth [rat t 2000] c9 (i+0-x+0),aq 12 (c1.toNat-c4) fun i=>bE (c.f (i+0+c4)) 4294967298],agg [int i64 c.p,aq 3 y fun i=>rat (g (i+0)) 2000,aq 12 (c5.toNat-c3) fun i=>bE (c.f (i+0+c3)) 4294967298],int i64 0]))))))):=ag
theorem ak2 {c:Cu} {t:Rat}:j4 T o4 .ret ⟨aC [4,5,6,2,3] [.ptr 8192 0 3 0 [],.ptr 12288 0 3 0 [],.int .i64 7,.ptr 0 0 3 0 [],.ptr 4096 0 3 0 []],[(4096,tP t 2000),(0,⟨false,true,3,1,fun _=>aS c 2000 2000⟩),(12288,⟨false,true,3,1,fun j=>if(j==0)=true then aV (.agg (AV.kids (.agg [.int .i64 0,.nil,.nil])))else .agg [.int .i64 0,.nil,.nil]⟩),(8192,⟨false,true,3,1,fun j=>if(j==0)=true then aV (.agg (AV.kids (.agg [.int .i64 0,.nil,.nil])))else .agg [.int .i64 0,.nil,.nil]⟩)],12289⟩=
  let c1:AV:=agg [int i64 0,nil,nil];some (aj [(0:Nat)<1,(0:Nat)<1] (leaf ret [c1,c1,int i64 7])):=ag
theorem Ks:bz P uQ:=cZ (aL aiu (aL Tl (aL alw (aL QS pI))))
theorem Kx {k:Nat->Rat} {t:Rat} {q:Nat}:∀{m:Nat},bw (dD k t q) t (q+1+m)=bw k t (q+m)+1
 |0=>by
  have pre:∀i,i<=q->bw (dD k t q) t i=bw k t i:=fun i=>by
   induction i with
   |zero=>intro _;rfl
   |succ i ih=>intro h;rw[kz,kz,ih aa,iC aa]
  show bw (dD k t q) t (q+1)=bw k t q+1
  rw[kz,pre q aU,nL,if_pos rfl]
 |m+1=>by
  rw[<-Nat.add_assoc,kz,Kx (m:=m),iq aa,<-Nat.add_assoc,kz,show q+1+m-1=q+m by omega];omega
theorem Kn.Hv {n p:Nat} {k:Nat->Rat} {t:Rat} (h:Kn n p k) (h0:k 0<t) (h1:t<k (n-1)):bw k t n<=p:=by
 obtain⟨a1,a2,a3⟩:=nW h h0 h1
 obtain⟨g1,g2⟩:=h.oD h0 h1 a1 a2 a3
 have hp:=h.p1
 generalize bT n k t=a at*
 have:=D7 (k:=k) (t:=t) (lo:=a+1-p) (hi:=a+1) aa (n:=n) fun j hj hjt=>by
  constructor
  ·by_cases c:a+1-p<=j
   ·exact c
   ·exfalso
    have hj0:1<=j:=by
     by_cases c2:1<=j
     ·exact c2
     ·rw[show j=0 by omega]at hjt;rw[hjt]at h0;exact absurd h0 Rat.lt_irrefl
    have m:=h.mult j hj0 aa
    have m2:=h.mono (show j+p<=a by omega) aa
    grind
  ·by_cases c:j<a+1
   ·exact c
   ·have:=h.mono (show a+1<=j by omega) hj
    grind
 omega
abbrev ck (c:Cu) (t:Rat):Nat->Cu:=wH c fun _=>t
structure tZ (c:Cu) (t:Rat) (r:Nat):Prop where
 e:nN c (fun _=>t) r=0
 p:(ck c t r).p=c.p
 n:(ck c t r).n=c.n+r
 m:(ck c t r).m=c.m+r
 s:bw (ck c t r).k t (ck c t r).n=bw c.k t c.n+r
 k0:(ck c t r).k 0=c.k 0
 k1:(ck c t r).k ((ck c t r).n-1)=c.k (c.n-1)
theorem Cd {c:Cu} {t:Rat} (h0:c.k 0<t) (h1:t<c.k (c.n-1)) (h2:(bw c.k t c.n:Int)<c.p) (h3:c.m<40):fR c t=0:=by
 unfold fR;rw[if_neg (fun g=>g ⟨h0,h1⟩),if_neg aa,if_neg aa]
theorem LK {d:Cu} {t:Rat} (hd:fe d) (hE:fR d t=0):(j8 d t).p=d.p/\(j8 d t).n=d.n+1/\(j8 d t).m=d.m+1/\bw (j8 d t).k t (j8 d t).n=bw d.k t d.n+1/\(j8 d t).k 0=d.k 0/\(j8 d t).k ((j8 d t).n-1)=d.k (d.n-1):=by
 obtain⟨b1,b2,b3,b4⟩:=FL hE
 obtain⟨i1,i2,i3⟩:=nW hd.1 b1 b2
 rw[show j8 d t=nO d t (bT d.n d.k t)from if_pos hE]
 generalize bT d.n d.k t=a at*
 have:=Kx (k:=d.k) (t:=t) (q:=a+1) (m:=d.n-(a+1))
 rw[show a+1+1+(d.n-(a+1))=d.n+1 by omega,show a+1+(d.n-(a+1))=d.n by omega]at this
 refine⟨rfl,rfl,rfl,this,(show dD d.k t (a+1) 0=_ from iC aa),?_⟩
 show dD d.k t (a+1) (d.n+1-1)=_
 rw[iq aa];rfl
theorem tZ.go {c:Cu} {t:Rat} {r:Nat} (h:tZ c t r) (hc:fY c 5) (ht:gl t) (h0:c.k 0<t) (h1:t<c.k (c.n-1)) (h2:((bw c.k t c.n+r:Nat):Int)<c.p) (h3:c.m+r<40):fR (ck c t r) t=0/\tZ c t (r+1):=by
 obtain⟨a1,a2,a3,a4,a5,a6,a7⟩:=h
 have hE:fR (ck c t r) t=0:=Cd (by rw[a6];exact h0) (by rw[a7];exact h1) (by rw[a5,a2];exact h2) (by rw[a4];exact h3)
 have hd:=MG hc (fun _=>ht) a1
 obtain⟨b1,b2,b3,b4,b5,b6⟩:=LK hd.kn hE
 exact⟨hE,Se a1 hE,b1.trans a2,by rw[show(ck c t (r+1)).n=(ck c t r).n+1 from b2,a3];rfl,by rw[show(ck c t (r+1)).m=(ck c t r).m+1 from b3,a4];rfl,b4.trans (by rw[a5];rfl),b5.trans a6,b6.trans a7⟩
theorem tZ.all {c:Cu} {t:Rat} (hc:fY c 5) (ht:gl t) (h0:c.k 0<t) (h1:t<c.k (c.n-1)) (h40:c.m+c.p.toNat<=40):∀{r:Nat},((bw c.k t c.n+r:Nat):Int)<=c.p->tZ c t r
 |0,_=>⟨rfl,rfl,rfl,rfl,rfl,rfl,rfl⟩
 |r+1,h=>((tZ.all hc ht h0 h1 h40 (r:=r) aa).go hc ht h0 h1 aa aa).2
def BW (d:Cu) (t:Rat) (a:Nat):Cu:=⟨d.p,a+1+1,fun i=>if i<a+1 then d.k i else t,a+1-d.p.toNat,d.f⟩
def lE (d:Cu) (t:Rat) (a:Nat):Cu:=⟨d.p,1+(d.n-(a+1-d.p.toNat)),fun i=>if i<1 then t else d.k (a+1-d.p.toNat+(i-1)),d.m-(a-d.p.toNat),fun i=>d.f (a-d.p.toNat+i)⟩
def jP (c:Cu) (t:Rat):Cu:=ck c t (c.p.toNat-bw c.k t c.n)
def pB (c:Cu) (t:Rat):Cu:=if c.k 0<t/\t<c.k (c.n-1)then BW (jP c t) t (bT (jP c t).n (jP c t).k t)else kq
def og (c:Cu) (t:Rat):Cu:=if c.k 0<t/\t<c.k (c.n-1)then lE (jP c t) t (bT (jP c t).n (jP c t).k t)else kq
def rm (c:Cu) (t:Rat):Int:=if c.k 0<t/\t<c.k (c.n-1)then 0 else 7
def me (a i:Nat):Nat:=if i<=a then i else a
theorem ahf {d:Cu} {t:Rat} {a:Nat} {cx:Ctx} {Q:au->aM->Prop} (hk:Kept [] cx) (hd:Kn d.n d.p.toNat d.k) (hp1:1<=d.p) (hp6:d.p<=6) (hm2:(d.m:Int)=(d.n:Int)-d.p-1) (hn:d.n<2^20) (h0:d.k 0<t) (h1:t<d.k (d.n-1)) (hlo:d.k a<=t) (hhi:t<d.k (a+1)) (ha:a+1<d.n) (ht:bw d.k t d.n=d.p.toNat)
  (hQ:∀e s',dP cx (Fin T o4 (.tuple [aS (BW d t a) 2000 sE,aS (lE d t a) 2000 sE,.int .i64 0])) e s'->Q e s'):ax P cx o4.ntmps qT ⟨aC vJ DO,Bg d t,4⟩ Q:=by
 obtain⟨r1,r2,r3⟩:=hd.split h0 h1 hlo hhi ha ht
 obtain⟨g1,g2⟩:=hd.oD h0 h1 hlo hhi ha
 have hv:∀{rl:List (Nat×Nat)} {k x y y':Nat},bh rl k=some x->y=y'->eG rl (.agg [.int .i64 d.p,.own x 3 0 y,.nil]) (.agg [.int .i64 d.p,.own k 3 0 y',.nil]):=fun h e=>fW ⟨⟨rfl,aN rfl⟩,⟨rfl,cD h rfl e⟩,⟨rfl,aN rfl⟩,trivial⟩
 have ka:∀i,i<d.n->(dM (d.k i) t<=0↔i<=a):=fun i hi=>by
  rw[OD]
  constructor
  ·intro h
   by_cases c1:i<=a
   ·exact c1
   ·have:=hd.mono (show a+1<=i by omega) hi
    grind
  ·intro h
   have:=hd.mono h aa
   grind
 have kb:∀i,i<d.n->(dM (d.k i) t>=0↔a+1-d.p.toNat<=i):=fun i hi=>by
  rw[xT]
  constructor
  ·intro h
   by_cases c1:a+1-d.p.toNat<=i
   ·exact c1
   ·have:=r2 i aa
    grind
  ·intro h
   by_cases c1:i<=a
   ·rw[r1 i c1 aa];exact Rat.le_refl
   ·have:=hd.mono (show a+1<=i by omega) hi
    grind
 refine ax.kG hT Ks hm (x:=qT) [1,0,1] (i:=2) (y:=part qT [1,0,1,0,0]) (z:=part qT [1,1]) ag ag ag ag hk (f1:=[]) (f2:=[41,52,64]) 60 xx 8
  (fun i:Nat=>JY i) (fun i=>rJ d t d.k (fun q=>if q<1 then t else d.k (a+1-d.p.toNat+(q-1))) (me (a+1) i) (1+(i-(a+1-d.p.toNat)))) (fun i=>i<=d.n) (fun i=>i=d.n) (fun i=>d.n-i) (fun _=>False) ⟨_,XY,?_⟩ (fun i hi=>⟨_,ah5,?_⟩) (fun i hi=>?_) (fun _ _ h=>h.elim)
 ·simp only[ah.all,az]
  refine⟨aa,0,Nat.zero_le _,[(0,0),(1,1),(2,2),(3,3),(4,32772),(5,36868),(7,24580)],rfl,rfl,rfl,?_⟩
  show iE _ _ _ (rJ d t d.k (fun q=>if q<1 then t else d.k (a+1-d.p.toNat+(q-1))) 0 (1+(0-(a+1-d.p.toNat))))
  rw[show 1+(0-(a+1-d.p.toNat))=1 by omega]
  refine gU rfl aa aa (bL rfl rfl rfl (fun q hq=>?_) (bD rfl rfl (hv rfl rfl) (bD rfl rfl (fW ⟨⟨rfl,aN rfl⟩,⟨rfl,iZ aa⟩,⟨rfl,aN rfl⟩,trivial⟩) (aB (aB (aB (aB trivial)))))))
  exact alR (y:=fun q=>if q<1 then t else d.k (a+1-d.p.toNat+(q-1))) rfl aU hq
 ·have cA:me (a+1) i<=a+1:=by unfold me;split<;>omega
  have hA1:i<=a->me (a+1) i=i/\me (a+1) (i+1)=i+1:=fun h=>⟨if_pos aa,if_pos aa⟩
  have hA2:a<i->me (a+1) i=a+1/\me (a+1) (i+1)=a+1:=fun h=>by
   refine⟨?_,if_neg aa⟩
   unfold me;split<;>omega
  simp only[ah.all,az,aZ,bk,aW]
  refine⟨aa,fun h1=>⟨aa,fun g1=>⟨aa,fun g2=>⟨aa,aa,i+1,aa,by dsimp only;omega,[(0,0),(1,1),(2,2),(3,3),(4,4),(5,5),(6,94216),(7,147464)],rfl,rfl,rfl,?_⟩,fun g2=>⟨aa,i+1,aa,by dsimp only;omega,[(0,0),(1,1),(2,2),(3,3),(4,4),(5,5),(6,94216),(7,7)],rfl,rfl,rfl,?_⟩⟩,
   fun g1=>⟨fun g2=>⟨aa,aa,i+1,aa,by dsimp only;omega,[(0,0),(1,1),(2,2),(3,3),(4,4),(5,5),(6,6),(7,102408)],rfl,rfl,rfl,?_⟩,fun g2=>?_⟩⟩,fun h1=>⟨rfl,i,aa,[(0,0),(1,1),(2,2),(3,3),(4,4),(5,5),(6,6),(7,7)],rfl,rfl,rfl,?_⟩⟩
  ·have g1:=(ka i aa).1 g1
   have g2:=(kb i aa).1 g2
   obtain⟨e1,e2⟩:=hA1 g1
   show iE 8 _ _ (rJ d t d.k (fun q=>if q<1 then t else d.k (a+1-d.p.toNat+(q-1))) (me (a+1) (i+1)) (1+(i+1-(a+1-d.p.toNat))))
   rw[e1,e2,show 1+(i+1-(a+1-d.p.toNat))=1+(i-(a+1-d.p.toNat))+1 by omega]
   exact bL rfl rfl rfl (fun q hq=>gM (y:=d.k) (fun _ _=>rfl) rfl aU aU hq) (bL rfl rfl rfl (fun q hq=>gM (y:=fun q=>if q<1 then t else d.k (a+1-d.p.toNat+(q-1))) (fun _ _=>rfl) (by rw[if_neg aa];congr 1;omega) aU aU hq) (bD rfl rfl (hv rfl rfl) (bD rfl rfl (hv rfl rfl) (aB (aB (aB (aB trivial)))))))
  ·have g1:=(ka i aa).1 g1
   have g2:¬(a+1-d.p.toNat<=i):=fun h=>g2 ((kb i aa).2 h)
   obtain⟨e1,e2⟩:=hA1 g1
   show iE 8 _ _ (rJ d t d.k (fun q=>if q<1 then t else d.k (a+1-d.p.toNat+(q-1))) (me (a+1) (i+1)) (1+(i+1-(a+1-d.p.toNat))))
   rw[e1,e2,show 1+(i+1-(a+1-d.p.toNat))=1+(i-(a+1-d.p.toNat)) by omega]
   exact bL rfl rfl rfl (fun q hq=>gM (y:=d.k) (fun _ _=>rfl) rfl aU aU hq) (bp (bD rfl rfl (hv rfl rfl) (bD rfl rfl (hv rfl rfl) (aB (aB (aB (aB trivial)))))))
  ·have g1:a<i:=Nat.not_le.1 fun h=>g1 ((ka i aa).2 h)
   obtain⟨e1,e2⟩:=hA2 g1
   show iE 8 _ _ (rJ d t d.k (fun q=>if q<1 then t else d.k (a+1-d.p.toNat+(q-1))) (me (a+1) (i+1)) (1+(i+1-(a+1-d.p.toNat))))
   rw[e1,e2,show 1+(i+1-(a+1-d.p.toNat))=1+(i-(a+1-d.p.toNat))+1 by omega]
   exact bp (bL rfl rfl rfl (fun q hq=>gM (y:=fun q=>if q<1 then t else d.k (a+1-d.p.toNat+(q-1))) (fun _ _=>rfl) (by rw[if_neg aa];congr 1;omega) aU aU hq) (bD rfl rfl (hv rfl rfl) (bD rfl rfl (hv rfl rfl) (aB (aB (aB (aB trivial)))))))
  ·have g1:a<i:=Nat.not_le.1 fun h=>g1 ((ka i aa).2 h)
   exact absurd ((kb i aa).2 aa) g2
  ·exact bp (bp (bD rfl rfl (hv rfl rfl) (bD rfl rfl (hv rfl rfl) (aB (aB (aB (aB trivial)))))))
 ·subst hi
  rw[show me (a+1) d.n=a+1 from if_neg aa]
  refine ax.j3 ((aI.fin hT Ks hm 60 ZR ag ?_).mono fun _ _ h=>hQ _ _ (.inl h))
  have e1:((a+1+1:Nat):Int)-d.p-1=((a+1-d.p.toNat:Nat):Int):=aa
  have e2:((a+1-d.p.toNat:Nat):Int)-1=((a-d.p.toNat:Nat):Int):=aa
  simp only[ah.all,az,e1,e2,aW,Int.toNat_zero]
  have row:∀i,i<a+1+1->bG (if i+0<a+1 then AV.rat (d.k (i+0)) 2000 else nth [AV.rat t 2000] (.rat 0 1) (i+0-(a+1)+0)) (.rat (if i<a+1 then d.k i else t) 2000):=fun i hi=>by
   by_cases c1:i<a+1
   ·rw[if_pos (show i+0<a+1 from c1),if_pos c1];exact .refl _
   ·rw[if_neg (show¬i+0<a+1 from c1),if_neg c1,show i+0-(a+1)+0=0 by omega];exact .refl _
  have hL:0<a+1-d.p.toNat:=aa
  (repeat' with_reducible refine And.intro ?_ ?_)
  all_goals first|omega|skip
  ·intro i hi
   have h:=row i hi
   by_cases c1:i<a+1
   ·show bG (if i+0<a+1 then AV.rat (d.k (i+0)) 2000 else _) (.rat (aR (if i+0<a+1 then AV.rat (d.k (i+0)) 2000 else _)) sK)
    rw[if_pos (show i+0<a+1 from c1)];exact bM rfl (by decide)
   ·show bG (if i+0<a+1 then AV.rat (d.k (i+0)) 2000 else nth [AV.rat t 2000] (.rat 0 1) (i+0-(a+1)+0)) (.rat (aR (if i+0<a+1 then AV.rat (d.k (i+0)) 2000 else nth [AV.rat t 2000] (.rat 0 1) (i+0-(a+1)+0))) sK)
    rw[if_neg (show¬i+0<a+1 from c1),show i+0-(a+1)+0=0 by omega];exact bM rfl (by decide)
  ·exact⟨cC ⟨.refl _,fq row,.refl _,trivial⟩,cC ⟨.refl _,.refl _,mC rfl fun i _=>by show bE (d.f (i+0+(a-d.p.toNat))) _=bE (d.f (a-d.p.toNat+i)) _;rw[Nat.add_zero,Nat.add_comm],trivial⟩,.refl _,trivial⟩
theorem ab1:aT P Cv Gw (aA Gw):=aY Proofs.Tryz.func181 ag ag ag
def kP (f:Nat->Rat) (i m q:Nat):Rat:=if m-1<=q then 0 else if i<=q then f (q+1)else f q
def HT:Spec:=fun _ args pre=>match args,pre with
 |[.own b 3 0 m,.int .i64 i,.int .i64 j],[(b',⟨true,true,3,mb,fb⟩)]=>match b'==b with
  |true=>some ⟨.own b 3 0 (m-1),[(b,⟨true,true,3,m,fun q=>.rat (kP (fun q=>aR (fb q)) i.toNat m q) 2048⟩)],[mb=m,oA fb m 2048,0<=i,i<m,j=i+1]⟩
  |false=>none
 |_,_=>none
theorem Wg {m cap:Nat} {i:Int} {f:Nat->Rat}:aH T [nG] [16] 60 [6] [aA Gw] ⟨[(0,.bJ cap (.own 0 3 0 m)),(1,.int .i64 i),(2,.int .i64 (i+1))],[(0,⟨true,true,3,m,fun q=>.rat (f q) 2048⟩)],1⟩=
  let c8:Int:=(↑(0:Nat):Int);let c6:Int:=i+(1:Int);let c4:Int:=(↑m:Int);let c3:Nat:=Int.toNat (0:Int);let c7:Nat:=i.toNat-c3;let c1:Nat:=c7+(c4.toNat-c6.toNat);let c9:Int:=(↑c1:Int);let c5:Nat:=0+c9.toNat;let c2:Nat:=c5+(c4.toNat-c9.toNat);some (aj [(0:Int)<=i/\i<=c6/\c6<=c4/\c4<=c4] (fork (i==c6) (leaf ret ([bJ cap (own 0 3 0 m)],[(0,ak.mk true true 3 m fun q=>rat (f q) 2048)])) (aj [(0:Int)<=(0:Int)/\(0:Int)<=i/\i<=(↑cap:Int)/\c8+i<=c4,(0:Int)<=c6/\c6<=c4/\c4<=(↑cap:Int)/\c8+c4<=c4,c1<=cap-c3/\c1<=m] (aj [(0:Int)<=c9/\c9<=c4/\c4<=(↑(cap-c3):Int)/\c8+c4<=c4] (leaf ret ([bJ (cap-c3) (own 0 3 0 c1)],[(0,ak.mk true true 3 m fun i=>if c5<=i/\i<c2 then rat 0 1 else if c7<=i/\i<c1 then rat (f (i-c7+((0:Nat)+c6.toNat))) 2048 else rat (f i) 2048)])))))):=ag
theorem afj {b m:Nat} {i:Int} {fb:Nat->AV} (hf:oA fb m 2048) (h0:0<=i) (h1:i<m) (K:Nat):aE P Cv K [.own b 3 0 m,.int .i64 i,.int .i64 (i+1)] [(b,⟨true,true,3,m,fb⟩)] ⟨ji [.own b 3 0 (m-1)],[(b,⟨true,true,3,m,fun q=>.rat (kP (fun q=>aR (fb q)) i.toNat m q) 2048⟩)],[]⟩:=by
 refine akC hT ab1 (rest:=[.int .i64 i,.int .i64 (i+1)]) (ws:=[.own b 3 0 (m-1)]) (o:=⟨true,true,3,m,fun q=>.rat (aR (fb q)) 2048⟩) rfl rfl aX (fun _ ρ=>hf.obj rfl ρ) fun _ c hk=>?_
 refine ax.bJ (t:=0) rfl fun cap hcap=>?_
 refine ax.bA hT (cZ bO) hm 60 [6] (Wg (m:=m) (cap:=cap) (i:=i) (f:=fun q=>aR (fb q))) ag ?_
 simp only[ah.all,az,beq_iff_eq,beq_eq_false_iff_ne,ne_eq]
 refine⟨⟨aa,aa,aa,aa⟩,fun h=>absurd h aa,fun _=>⟨⟨⟨aa,aa,aa,aa⟩,⟨aa,aa,aa,aa⟩,⟨aa,aa⟩⟩,⟨aa,aa,aa,aa⟩,fun s' hs'=>⟨.inr trivial,[6],_,[.bJ (cap-Int.toNat 0) (.own 0 3 0 (i.toNat-Int.toNat 0+((m:Int).toNat-(i+1).toNat)))],[],_,_,hs',ag,trivial,⟨⟨rfl,ahC rfl (cD (by simp[bh,look]) rfl aa)⟩,trivial⟩,ot,jq rfl fun q hq=>?_⟩⟩⟩
 have hq:q<m:=hq
 have e0:Int.toNat 0=0:=rfl
 have e1:i.toNat-Int.toNat 0+((m:Int).toNat-(i+1).toNat)=m-1:=aa
 refine mL (oZ rfl (oZ rfl rfl)) ?_
 simp only[e1]
 unfold kP
 by_cases c1:m-1<=q
 ·rw[if_pos c1,if_pos aa];exact bM rfl (by decide)
 ·rw[if_neg c1,if_neg aa]
  by_cases c2:i.toNat<=q
  ·rw[if_pos c2,if_pos aa,show q-(i.toNat-Int.toNat 0)+(0+(i+1).toNat)=q+1 by omega];exact .refl _
  ·rw[if_neg c2,if_neg aa];exact .refl _
theorem aiP:∀K args pre r,HT K args pre=some r->aE P Cv K args pre r:=by
 intro K args pre r h
 unfold HT at h
 split at h
 ·rename_i b m i j b' mb fb
  split at h
  ·rename_i hc
   have hc:=eq_of_beq hc
   subst hc
   simp only[ay]at h
   subst h
   intro need
   obtain⟨rfl,n1,n2,n3,rfl⟩:=need
   exact afj n1 n2 n3 K trivial
  ·simp at h
 ·simp at h
theorem Wn:aT P uh F9 (aA F9):=aY Proofs.Tryz.func171 ag ag ag
theorem Z7:aT P tC A3 (aA A3):=aY Proofs.Tryz.func172 ag ag ag
theorem Nm:aT P pJ ry (aA ry):=aY Proofs.Tryz.func170 ag ag ag
theorem QD {u v:AV} (h:bG u v):bG (.bF u) (.bF v):=by
 refine⟨rfl,fun M w cs hc=>?_⟩
 cases hc with
 |bF h1 h2 h3=>cases h3;exact .bF (h.2 _ _ _ h1) h2 .nil
theorem abA {f:FuncId} {us vs:List AV} (h:eH us vs) (hv:(vs.all fun v=>!v.isAgg&&!v.isTuple)=true):bG (.func f us) (.func f vs):=by
 refine⟨rfl,fun M w cs hc=>?_⟩
 cases hc with
 |func h1 h2 h3=>cases h3;exact .func (Ke h h1) hv .nil
def PJ {α:Type} (k:Kind α):Kind α:=⟨fun v=>match v with
 |.bF v=>k.read v
 |_=>none,fun a=>.bF (k.make a),fun {v a q} h hq=>by
  split at h
  ·exact QD (k.ok h hq)
  ·simp at h⟩
def MO {α:Type} (g:FuncId) (k:Kind α):Kind α:=⟨fun v=>match v with
 |.func f [.bF v]=>match Nat.beq f g with
  |true=>k.read v
  |false=>none
 |_=>none,fun a=>.func g [.bF (k.make a)],fun {v a q} h hq=>by
  split at h
  ·split at h
   ·rename_i hc
    have hc:=Nat.eq_of_beq_eq_true hc
    subst hc
    exact abA ⟨QD (k.ok h hq),trivial⟩ rfl
   ·simp at h
  ·simp at h⟩
def Qz:Spec:=cN (kC (gx 2000) (kC (PJ (gx 2000)) kN)) (fun a=>.bool (decide (a.2.1<a.1))) fun _=>[]
def MP:Spec:=cN (kC (gx 2000) (kC (PJ (gx 2000)) kN)) (fun a=>.bool (decide (a.2.1<=a.1))) fun _=>[]
def yp:bg:=nG::(uh,Qz)::(tC,MP)::[]
abbrev pN:List Nat:=[4,0,1,7,8]
abbrev ym (n i:Nat) (k:Nat->Rat) (g:FuncId) (x:Rat):List AV:=[.int .i64 0,bq k n 2000,.func g [.bF (.rat x 2000)],.int .i64 n,.int .i64 i]
abbrev qc:Code:=aA ry
def lK (x:Rat) (k:Nat->Rat) (i:Nat):Bool:=decide (x<k i)
def lD (x:Rat) (k:Nat->Rat) (i:Nat):Bool:=decide (x<=k i)
def QK:Spec:=cN (kC (kL 2000) (kC (MO uh (gx 2000)) kN)) (fun a=>.int .i64 (fQ (lK a.2.1 a.1.2) a.1.1:Nat)) fun a=>[a.1.1<2^40,fQ (lK a.2.1 a.1.2) a.1.1<a.1.1]
def LW:Spec:=cN (kC (kL 2000) (kC (MO tC (gx 2000)) kN)) (fun a=>.int .i64 (fQ (lD a.2.1 a.1.2) a.1.1:Nat)) fun a=>[a.1.1<2^40,fQ (lD a.2.1 a.1.2) a.1.1<a.1.1]
def K7:Spec:=fun K args pre=>match QK K args pre with
 |some r=>some r
 |none=>LW K args pre
theorem ajJ {x y:Rat}:bW T (nG::gI) [] 60 F9 (aA F9) ⟨aQ 0 [.rat x 2000,.bF (.rat y 2000)],[],0⟩=
  let c1:Prop:=2000<2^42;some (aj [(0:Nat)<1,c1,c1] (leaf ret [AV.bool (decide (dM x y>(0:Int)))])):=ag
theorem WX {x y:Rat}:bW T (nG::gI) [] 60 A3 (aA A3) ⟨aQ 0 [.rat x 2000,.bF (.rat y 2000)],[],0⟩=
  let c1:Prop:=2000<2^42;some (aj [(0:Nat)<1,c1,c1] (leaf ret [AV.bool (decide (dM x y>=(0:Int)))])):=ag
theorem P4 {n:Nat} {k:Nat->Rat} {g:FuncId} {x:Rat}:aH T yp [] 60 pN (before qc [1,0,1]) ⟨aQ 0 [bq k n 2000,.func g [.bF (.rat x 2000)]],[],0⟩=
  some (leaf normal ([int i64 0,aq 3 n fun i=>rat (k i) 2000,func g [(rat x 2000).bF],int i64 (↑n:Int),int i64 0],[])):=ag
theorem Uf {n i:Nat} {k:Nat->Rat} {x:Rat}:aH T yp [9,16] 60 pN [part qc [1,0,1,0,0]] ⟨aC pN (ym n i k uh x),[],0⟩=
  let c7:Int:=(↑n:Int);let c5:Prop:=2000<=2000;let c4:AV:=func uh [(rat x 2000).bF];let c3:AV:=aq 3 n fun i=>rat (k i) 2000;let c2:Int:=(↑i:Int);let c6:Int:=c2+(1:Int);let c1:List AV:=[c3,c4,int i64 c7,int i64 c2];some (fork (decide (c2<c7)) (aj [(0:Int)<=c2/\c2.toNat<n,c5,c5] (fork (decide (x<k c2.toNat)) (leaf ret (int i64 c2::c1,[])) (aj [-(2:Int)^63<=c6/\c6<(2:Int)^63] (leaf normal ([int i64 0,c3,c4,int i64 c7,int i64 c6],[]))))) (leaf (exit 0) (int i64 0::c1,[]))):=ag
theorem acP {n i:Nat} {k:Nat->Rat} {x:Rat}:aH T yp [9,16] 60 pN [part qc [1,0,1,0,0]] ⟨aC pN (ym n i k tC x),[],0⟩=
  let c7:Int:=(↑n:Int);let c5:Prop:=2000<=2000;let c4:AV:=func tC [(rat x 2000).bF];let c3:AV:=aq 3 n fun i=>rat (k i) 2000;let c2:Int:=(↑i:Int);let c6:Int:=c2+(1:Int);let c1:List AV:=[c3,c4,int i64 c7,int i64 c2];some (fork (decide (c2<c7)) (aj [(0:Int)<=c2/\c2.toNat<n,c5,c5] (fork (decide (x<=k c2.toNat)) (leaf ret (int i64 c2::c1,[])) (aj [-(2:Int)^63<=c6/\c6<(2:Int)^63] (leaf normal ([int i64 0,c3,c4,int i64 c7,int i64 c6],[]))))) (leaf (exit 0) (int i64 0::c1,[]))):=ag
theorem Pk {n i:Nat} {k:Nat->Rat} {g:FuncId} {x:Rat}:cw T yp [] 60 ry [part qc [1,1]] ⟨aC pN (ym n i k g x),[],0⟩=
  some (leaf ret [int i64 (-1:Int)]):=ag
theorem XN:∀K args pre r,Qz K args pre=some r->aE P uh K args pre r:=cy fun⟨x,y,_⟩ K _=>by
 refine cj (r:=aK (.bool (decide (y<x))) []) hT (cZ iG) hm Wn rfl aX rfl 60 ajJ (fun _=>?_) K []
 simp only[ah.all,az]
 exact⟨⟨aa,aa,aa⟩,fB (decide_eq_decide.2 tq)⟩
theorem aiB:∀K args pre r,MP K args pre=some r->aE P tC K args pre r:=cy fun⟨x,y,_⟩ K _=>by
 refine cj (r:=aK (.bool (decide (y<=x))) []) hT (cZ iG) hm Z7 rfl aX rfl 60 WX (fun _=>?_) K []
 simp only[ah.all,az]
 exact⟨⟨aa,aa,aa⟩,fB (decide_eq_decide.2 xT)⟩
theorem Ol:bz P yp:=cZ (aL XN (aL aiB bO))
theorem ahh:∀K args pre r,QK K args pre=some r->aE P pJ K args pre r:=cy fun⟨⟨n,k⟩,x,_⟩ K hn=>by
 have n1:n<2^40:=hn.1
 have n2:fQ (lK x k) n<n:=hn.2
 refine fI (r:=aK (.int .i64 (fQ (lK x k) n:Nat)) []) hT Ol hm Nm rfl aX rfl [1,0,1] (i:=0) (y:=part qc [1,0,1,0,0]) (z:=part qc [1,1]) ag ag ag (f1:=[]) (f2:=[9,16]) (f3:=[]) 60 pN 0
  (fun i:Nat=>ym n i k uh x) (fun _=>[]) (fun i=>i<=n/\∀j,j<i->lK x k j=false) (fun i=>i=n/\∀j,j<i->lK x k j=false) (fun i=>n-i) (fun _=>⟨⟨_,P4,?_⟩,fun i ⟨h1,h2⟩=>⟨_,Uf,?_⟩,fun i ⟨h1,h2⟩=>⟨_,Pk,?_⟩⟩) K []
 ·exact⟨0,⟨Nat.zero_le _,fun j hj=>aa⟩,.vals rfl⟩
 ·simp only[ah.all,az,aZ,bk,aW]
  refine⟨fun h=>⟨aa,fun hb=>⟨[.int .i64 i],ag,?_⟩,fun hb=>⟨aa,i+1,⟨aa,fun j hj=>?_⟩,by dsimp only;omega,.vals rfl⟩⟩,fun h=>⟨rfl,i,⟨aa,h2⟩,.vals rfl⟩⟩
  ·exact bQ (by rw[xF (g:=lK x k) (i:=i) (decide_eq_true hb) h2 (n:=n) aa])
  ·by_cases hji:j=i
   ·subst hji;exact decide_eq_false hb
   ·exact h2 j aa
 ·subst h1
  rw[DG h2]at n2
  omega
theorem alx:∀K args pre r,LW K args pre=some r->aE P pJ K args pre r:=cy fun⟨⟨n,k⟩,x,_⟩ K hn=>by
 have n1:n<2^40:=hn.1
 have n2:fQ (lD x k) n<n:=hn.2
 refine fI (r:=aK (.int .i64 (fQ (lD x k) n:Nat)) []) hT Ol hm Nm rfl aX rfl [1,0,1] (i:=0) (y:=part qc [1,0,1,0,0]) (z:=part qc [1,1]) ag ag ag (f1:=[]) (f2:=[9,16]) (f3:=[]) 60 pN 0
  (fun i:Nat=>ym n i k tC x) (fun _=>[]) (fun i=>i<=n/\∀j,j<i->lD x k j=false) (fun i=>i=n/\∀j,j<i->lD x k j=false) (fun i=>n-i) (fun _=>⟨⟨_,P4,?_⟩,fun i ⟨h1,h2⟩=>⟨_,acP,?_⟩,fun i ⟨h1,h2⟩=>⟨_,Pk,?_⟩⟩) K []
 ·exact⟨0,⟨Nat.zero_le _,fun j hj=>aa⟩,.vals rfl⟩
 ·simp only[ah.all,az,aZ,bk,aW]
  refine⟨fun h=>⟨aa,fun hb=>⟨[.int .i64 i],ag,?_⟩,fun hb=>⟨aa,i+1,⟨aa,fun j hj=>?_⟩,by dsimp only;omega,.vals rfl⟩⟩,fun h=>⟨rfl,i,⟨aa,h2⟩,.vals rfl⟩⟩
  ·exact bQ (by rw[xF (g:=lD x k) (i:=i) (decide_eq_true hb) h2 (n:=n) aa])
  ·by_cases hji:j=i
   ·subst hji;exact decide_eq_false hb
   ·exact h2 j aa
 ·subst h1
  rw[DG h2]at n2
  omega
theorem abv:∀K args pre r,K7 K args pre=some r->aE P pJ K args pre r:=by
 intro K args pre r h
 unfold K7 at h
 split at h
 ·rename_i g
  simp only[ay]at h
  subst h
  exact ahh _ _ _ _ g
 ·exact alx _ _ _ _ h
theorem QI:aT P yL qd (aA qd):=aY Proofs.Tryz.func91 ag ag ag
def fu (k:Nat->Rat) (n:Nat) (t:Rat):Nat->Nat->Rat
 |0=>k
 |r+1=>dD (fu k n t r) t (bT (n+r) (fu k n t r) t+1)
def Rj:Spec:=cN (kC (kL 2000) (kC (gx 2000) kN)) (fun a=>bq (dr a.1.2 a.2.1 (dc a.1.2 a.2.1 a.1.1)) (a.1.1+1) 2000) fun a=>[a.1.1<2^40,∀i,i<a.1.1+1->Sz (dr a.1.2 a.2.1 (dc a.1.2 a.2.1 a.1.1) i) 2000]
def lg:bg:=nG::(uV,rR)::(ve,Rj)::(xd,GC)::(pJ,K7)::gI
abbrev vq:Code:=aA qd
abbrev By:Code:=part vq [1]
abbrev xk:Code:=part By [1,0,1,0,0]
abbrev Aq:Code:=part xk [1,1,0,0]
abbrev tf:Code:=part vq [1,1,1]
abbrev r8:Code:=part tf [1,1,1,1,1,1]
abbrev qS:ak:=⟨false,true,3,1,fun _=>.agg [.int .i64 0,.nil,.nil]⟩
abbrev qI (c:Cu):ak:=⟨false,true,3,1,fun _=>dj c 2000 4000⟩
abbrev Bm:List Nat:=[3,4,5,6]
abbrev agC (a b:Rat):List AV:=[.ptr 0 0 3 0 [],.bF (.rat a 2000),.bF (.rat b 2000),.ptr 3 0 3 0 []]
abbrev akz (c:Cu) (a b:Rat):aF:=[(3,qS),(2,⟨false,false,3,1,fun _=>.rat b 2000⟩),(1,⟨false,false,3,1,fun _=>.rat a 2000⟩),(0,qI c)]
abbrev oT:List Nat:=[3,4,5,6,7,19,20]
abbrev qR (a b:Rat) (n:Nat) (k:Nat->Rat) (j:Nat):List AV:=[.ptr 0 0 3 0 [],.bF (.rat a 2000),.bF (.rat b 2000),.ptr 1 0 3 0 [],bq k n 2000,.agg [.rat a 2000,.rat b 2000],.int .i64 j]
abbrev qQ (c:Cu):aF:=[(1,qS),(0,qI c)]
abbrev vT:List Nat:=[3,4,5,6,7,19,20,9,10]
abbrev yW (a b:Rat) (n:Nat) (k:Nat->Rat) (j:Nat) (e:Bool):List AV:=[.ptr 0 0 3 0 [],.bF (.rat a 2000),.bF (.rat b 2000),.ptr 1 0 3 0 [],bq k n 2000,.agg [.rat a 2000,.rat b 2000],.int .i64 j,.ptr 2 0 3 0 [],.bool e]
abbrev zl (c:Cu) (x:Rat):aF:=[(2,⟨false,true,3,1,fun _=>.rat x 2000⟩),(1,qS),(0,qI c)]
abbrev AI:List Nat:=[3,4,5,6,7,11,12,13,14,67,68]
abbrev HA (p:Int) (a b:Rat) (n:Nat) (k:Nat->Rat) (f l i:Nat):List AV:=[.ptr 0 0 3 0 [],.bF (.rat a 2000),.bF (.rat b 2000),.ptr 1 0 3 0 [],bq k n 2000,.ptr 2 0 3 0 [],.ptr 3 0 3 0 [],.int .i64 ((f:Int)-1),.int .i64 l,.int .i64 (p+1),.int .i64 i]
abbrev vI (c D:Cu) (x:Nat->Rat) (i:Nat):aF:=[(4,oH 2000 i x),(3,⟨false,true,3,1,fun _=>.agg [.int .i64 c.p,.own 4 3 0 i,.nil]⟩),(2,⟨false,true,3,1,fun _=>dj D sK sB⟩),(1,qS),(0,qI c)]
abbrev wU:List Nat:=[3,5,6,11,12,13,14,88,89]
abbrev Gv (p:Int) (b:Rat) (f l i:Nat):List AV:=[.ptr 0 0 3 0 [],.bF (.rat b 2000),.ptr 1 0 3 0 [],.ptr 2 0 3 0 [],.ptr 3 0 3 0 [],.int .i64 ((f:Int)-1),.int .i64 l,.int .i64 (p+1),.int .i64 i]
def qJ (p:Nat) (a b:Rat) (k:Nat->Rat) (f l q:Nat):Rat:=if q<p+1 then a else if q<p+1+(l-f)then k (f+(q-(p+1)))else b
def xe (D:Cu) (a b:Rat) (f l:Nat):Cu:=⟨D.p,D.p.toNat+1+(l-f)+(D.p.toNat+1),qJ D.p.toNat a b D.k f l,l-(f-1-D.p.toNat),fun q=>D.f (f-1-D.p.toNat+q)⟩
theorem Yy {c:Cu} {a b:Rat}:aH T lg [] 60 Bm (before vq [1]) ⟨aQ 0 [dj c 2000 4000,.rat a 2000,.rat b 2000],[],0⟩=
  let c3:AV:=rat b 2000;let c2:AV:=rat a 2000;let c1:Nat:=(aV (dj c 2000 4000)).size;some (leaf normal ([ptr 0 0 c1 0 [],ptr 4096 0 (aV c2).size 0 [],ptr 8192 0 (aV c3).size 0 [],ptr 12288 0 3 0 []],[((12288:Nat),aJ fun x=>agg [int i64 0,nil,nil]),(8192,ak.mk false true (aV c3).size 1 fun x=>c3),(4096,ak.mk false true (aV c2).size 1 fun x=>c2),(0,ak.mk false true c1 1 fun x=>agg [int i64 c.p,aq 3 c.n fun i=>rat (c.k i) 2000,aq 12 c.m fun i=>bu (c.f i) 4000])])):=ag
theorem akG {c:Cu} {a b:Rat}:aH T lg [] 60 oT (before By [1,0,1]) ⟨aC Bm (agC a b),akz c a b,4⟩=
  let c1:AV:=aq 3 c.n fun i=>rat (c.k i) 2000;some (aj [(0:Nat)<1] (leaf normal ([ptr 0 0 3 0 [],(rat a 2000).bF,(rat b 2000).bF,ptr 3 0 3 0 [],c1,agg [rat a 2000,rat b 2000],int i64 0],[((3:Nat),aJ fun x=>agg [int i64 0,nil,nil]),((0:Nat),aJ fun x=>agg [int i64 c.p,c1,aq 12 c.m fun i=>bu (c.f i) 4000])]))):=ag
theorem TL {c:Cu} {a b:Rat} {n j:Nat} {k:Nat->Rat}:aH T lg [21] 60 oT (before xk [1,1,0]) ⟨aC oT (qR a b n k j),qQ c,2⟩=
  let c1:List AV×aF:=([ptr 0 0 3 0 [],(rat a 2000).bF,(rat b 2000).bF,ptr 1 0 3 0 [],aq 3 n fun i=>rat (k i) 2000,agg [rat a 2000,rat b 2000],int i64 (↑j:Int)],[((1:Nat),aJ fun x=>agg [int i64 0,nil,nil]),((0:Nat),aJ fun x=>agg [int i64 c.p,aq 3 c.n fun i=>rat (c.k i) 2000,aq 12 c.m fun i=>bu (c.f i) 4000])]);some (fork (decide ((↑j:Int)<(2:Int))) (leaf normal c1) (leaf (exit 0) c1)):=ag
theorem ahj {c:Cu} {a b:Rat} {n:Nat} {k:Nat->Rat}:aH T lg [28] 60 vT (before Aq [1,1]) ⟨aC oT (qR a b n k 0),qQ c,2⟩=
  let c12:AV:=int i64 0;let c11:AV:=ptr 1 0 3 0 [];let c10:AV:=aq 3 n fun i=>rat (k i) 2000;let c9:AV:=ptr 0 0 3 0 [];let c8:AV:=rat b 2000;let c7:AV:=ptr 4098 0 3 0 [];let c6:Prop:=0<1;let c5:AV:=rat a 2000;let c4:Int:=(↑n:Int)-(1:Int);let c3:Nat:=Int.toNat (0:Int);let c2:Prop:=2000<2^42;let c14:Prop:=(0:Int)<=(0:Int)/\c3<n;let c13:Bool:=decide (a=k c3);let c1:List (Nat×ak):=[((4098:Nat),aJ fun j=>if(j==0)=true then aV c5 else rat 0 1),((1:Nat),aJ fun x=>agg [c12,nil,nil]),((0:Nat),aJ fun x=>agg [int i64 c.p,aq 3 c.n fun i=>rat (c.k i) 2000,aq 12 c.m fun i=>bu (c.f i) 4000])];some (aj [(0:Int)<=(↑(0:Nat):Int)/\(↑(0:Nat):Int)<(↑(2:Nat):Int),c6] (fork c13 (aj [c6,c14,c2,c2,c13=true] (leaf normal ([c9,c5.bF,c8.bF,c11,c10,agg [c5,c8],c12,c7,AV.bool true],c1))) (aj [c6,c14,c2,c2,c13=false,c6,-(2:Int)^63<=c4/\c4<(2:Int)^63,(0:Int)<=c4/\c4.toNat<n,c2,c2] (leaf normal ([c9,c5.bF,c8.bF,c11,c10,agg [c5,c8],c12,c7,AV.bool (bif false then true else decide (a=k c4.toNat))],c1))))):=ag
theorem XQ {c:Cu} {a b:Rat} {n:Nat} {k:Nat->Rat}:aH T lg [28] 60 vT (before Aq [1,1]) ⟨aC oT (qR a b n k 1),qQ c,2⟩=
  let c11:AV:=ptr 1 0 3 0 [];let c10:AV:=aq 3 n fun i=>rat (k i) 2000;let c9:AV:=ptr 0 0 3 0 [];let c8:AV:=rat a 2000;let c7:AV:=ptr 4098 0 3 0 [];let c6:Prop:=0<1;let c5:AV:=rat b 2000;let c4:Int:=(↑n:Int)-(1:Int);let c3:Nat:=Int.toNat (0:Int);let c2:Prop:=2000<2^42;let c13:Prop:=(0:Int)<=(0:Int)/\c3<n;let c12:Bool:=decide (b=k c3);let c1:List (Nat×ak):=[((4098:Nat),aJ fun j=>if(j==0)=true then aV c5 else rat 0 1),((1:Nat),aJ fun x=>agg [int i64 0,nil,nil]),((0:Nat),aJ fun x=>agg [int i64 c.p,aq 3 c.n fun i=>rat (c.k i) 2000,aq 12 c.m fun i=>bu (c.f i) 4000])];some (aj [(0:Int)<=(↑(1:Nat):Int)/\(↑(1:Nat):Int)<(↑(2:Nat):Int),c6] (fork c12 (aj [c6,c13,c2,c2,c12=true] (leaf normal ([c9,c8.bF,c5.bF,c11,c10,agg [c8,c5],int i64 1,c7,AV.bool true],c1))) (aj [c6,c13,c2,c2,c12=false,c6,-(2:Int)^63<=c4/\c4<(2:Int)^63,(0:Int)<=c4/\c4.toNat<n,c2,c2] (leaf normal ([c9,c8.bF,c5.bF,c11,c10,agg [c8,c5],int i64 1,c7,AV.bool (bif false then true else decide (b=k c4.toNat))],c1))))):=ag
theorem adg {c:Cu} {a b x:Rat} {n j:Nat} {k:Nat->Rat} {e:Bool}:aH T lg [40,47] 60 vT [part Aq [1,1,0,0]] ⟨aC vT (yW a b n k j e),zl c x,3⟩=
  let c11:Prop:=n<2^40;let c10:AV:=rat a 2000;let c9:AV:=rat b 2000;let c8:Prop:=0<1;let c7:AV:=ptr 1 0 3 0 [];let c6:AV:=ptr 0 0 3 0 [];let c5:Int:=(↑(bw (fun i=>aR (rat (k i) 2000)) x n):Int);let c1:List (Nat×ak):=[((2:Nat),aJ fun x_1=>rat x 2000),((1:Nat),aJ fun x=>agg [int i64 0,nil,nil]),((0:Nat),aJ fun x=>agg [int i64 c.p,aq 3 c.n fun i=>rat (c.k i) 2000,aq 12 c.m fun i=>bu (c.f i) 4000])];let c4:List AV:=[agg [c10,c9],int i64 (↑j:Int),ptr 2 0 3 0 [],AV.bool e];let c3:ah (List AV×aF):=leaf (exit 2) (c6::c10.bF::c9.bF::c7::(aq 3 n fun i=>rat (k i) 2000)::c4,c1);let c2:ah (List AV×aF):=aj [c8,bP (fun i=>rat (k i) 2000) n 2000,(2000:Nat)<=2000,c11,∀(i:Nat),i<n+1->Sz (dr (fun i=>aR (rat (k i) 2000)) x (dc (fun i=>aR (rat (k i) 2000)) x n) i) 2000] (leaf normal (c6::c10.bF::c9.bF::c7::(aq 3 (n+1) fun i=>rat (dr (fun i=>aR (rat (k i) 2000)) x (dc (fun i=>aR (rat (k i) 2000)) x n) i) 2000)::c4,c1));some (fork (!e) (aj [(!e)=true,c8,bP (fun i=>rat (k i) 2000) n sK,(2000:Nat)<=sK,c11,c8] (fork (bif true then decide (c5<c.p)else false) c2 c3)) (aj [(!e)=false] (fork false c2 c3))):=ag
theorem aiv {c:Cu} {a b x:Rat} {n j:Nat} {k:Nat->Rat} {e:Bool}:aH T lg [] 60 oT [part xk [1,1,1]] ⟨aC vT (yW a b n k j e),zl c x,3⟩=
  let c1:Int:=(↑j:Int)+(1:Int);some (aj [-(2:Int)^63<=c1/\c1<(2:Int)^63] (leaf normal ([ptr 0 0 3 0 [],(rat a 2000).bF,(rat b 2000).bF,ptr 1 0 3 0 [],aq 3 n fun i=>rat (k i) 2000,agg [rat a 2000,rat b 2000],int i64 c1],[((1:Nat),aJ fun x=>agg [int i64 0,nil,nil]),((0:Nat),aJ fun x=>agg [int i64 c.p,aq 3 c.n fun i=>rat (c.k i) 2000,aq 12 c.m fun i=>bu (c.f i) 4000])]))):=ag
theorem Xc {c:Cu} {a b:Rat} {n j:Nat} {k:Nat->Rat}:aH T lg [] 60 AI (before tf [1,1,1,1,1,0,1]) ⟨aC oT (qR a b n k j),qQ c,2⟩=
  let c10:Prop:=2000<=2000;let c9:Int:=c.p+(1:Int);let c7:Nat:=fQ (lD b fun i=>aR (rat (k i) 2000)) n;let c6:Prop:=bP (fun i=>rat (k i) 2000) n 2000;let c5:Nat:=2^40;let c4:Int:=(2:Int)^63;let c3:Prop:=0<1;let c2:AV:=agg [int i64 0,nil,nil];let c1:Nat:=fQ (lK a fun i=>aR (rat (k i) 2000)) n;let c8:Int:=(↑c1:Int)-(1:Int);some (aj [c3,bP (fun i=>rat (c.k i) 2000) c.n sK,ki (fun i=>bu (c.f i) 4000) c.m sK,bP (fun i=>rat (k i) 2000) n sK,Kn c.n c.p.toNat fun i=>aR (rat (c.k i) 2000),(1:Int)<=c.p,c.p<=(6:Int),c.n<c5,c.m<c5,n<2^29,c9<=(↑n:Int),c3] (aj [c3,c3] (aj [c6,c10,n<c5,c1<n,-c4<=c8/\c8<c4] (aj [c6,c10,n<c5,c7<n] (aj [c3,-c4<=c9/\c9<c4] (leaf normal ([ptr 0 0 3 0 [],(rat a 2000).bF,(rat b 2000).bF,ptr 1 0 3 0 [],aq 3 n fun i=>rat (k i) 2000,ptr 12290 0 3 0 [],ptr 20482 0 3 0 [],int i64 c8,int i64 (↑c7:Int),int i64 c9,int i64 0],[((20482:Nat),aJ fun j=>if(j==0)=true then agg (c2.kids.set 0 (aV (int i64 c.p)))else c2),((12290:Nat),aJ fun j=>if(j==0)=true then aV (dj (kK (Cu.mk c.p c.n (fun i=>aR (rat (c.k i) 2000)) c.m fun i=>oC (bu (c.f i) 4000)) n fun i=>aR (rat (k i) 2000)) sK sB)else c2),((1:Nat),aJ fun x=>c2),((0:Nat),aJ fun x=>agg [int i64 c.p,aq 3 c.n fun i=>rat (c.k i) 2000,aq 12 c.m fun i=>bu (c.f i) 4000])]))))))):=ag
theorem VN {c D:Cu} {a b:Rat} {n f l i:Nat} {k x:Nat->Rat}:aH T lg [69] 60 AI [part tf [1,1,1,1,1,0,1,0,0]] ⟨aC AI (HA c.p a b n k f l i),vI c D x i,5⟩=
  let c13:Int:=(↑i:Int);let c12:AV:=(rat b 2000).bF;let c11:AV:=int i64 ((↑f:Int)-(1:Int));let c10:AV:=rat a 2000;let c9:Int:=c.p+(1:Int);let c7:AV:=ptr 2 0 3 0 [];let c6:AV:=ptr 3 0 3 0 [];let c5:AV:=ptr 1 0 3 0 [];let c4:AV:=aq 3 n fun i=>rat (k i) 2000;let c3:AV:=ptr 0 0 3 0 [];let c2:AV:=agg [int i64 c.p,own 4 3 0 i,nil];let c1:List (Nat×ak):=[((2:Nat),aJ fun x=>agg [int i64 D.p,aq 3 D.n fun i=>rat (D.k i) 4096,aq 12 D.m fun i=>bu (D.f i) 536870912]),((1:Nat),aJ fun x=>agg [int i64 0,nil,nil]),((0:Nat),aJ fun x=>agg [int i64 c.p,aq 3 c.n fun i=>rat (c.k i) 2000,aq 12 c.m fun i=>bu (c.f i) 4000])];let c8:Int:=c13+(1:Int);some (fork (decide (c13<c9)) (aj [(0:Nat)<1,(1:Nat)*3<=2^24,(i+1)*((56:Nat)+1)*2<=2^47,(0:Nat)<1] (aj [-(2:Int)^63<=c8/\c8<(2:Int)^63] (leaf normal ([c3,c10.bF,c12,c5,c4,c7,c6,c11,int i64 (↑l:Int),int i64 c9,int i64 c8],(20485,ak.mk true true 3 (i+1) fun i_1=>if i_1<i then rat (x i_1) 2000 else nth [c10] (rat 0 1) (i_1-i+0))::((3:Nat),aJ fun j=>if(j==0)=true then agg (c2.kids.set 1 (aV (own (nat_lit 20484+1) 3 0 (i+1))))else c2)::c1)))) (leaf (exit 4) ([c3,c10.bF,c12,c5,c4,c7,c6,c11,int i64 (↑l:Int),int i64 c9,int i64 c13],(4,ak.mk true true 3 i fun i=>rat (x i) 2000)::((3:Nat),aJ fun x=>c2)::c1))):=ag
theorem aaY {c D:Cu} {a b:Rat} {n f l i:Nat} {k x:Nat->Rat}:aH T lg [] 60 wU (before r8 [1,0,1]) ⟨aC AI (HA c.p a b n k f l i),vI c D x i,5⟩=
  let c7:Int:=c.p+(1:Int);let c6:Prop:=0<1;let c5:Int:=(↑l:Int);let c4:AV:=agg [int i64 c.p,own 4 3 0 i,nil];let c3:Int:=(2:Int)^63;let c1:Int:=(↑f:Int)-(1:Int)+(1:Int);let c2:Nat:=i+(c5.toNat-c1.toNat);some (aj [c6,-c3<=c1/\c1<c3,(0:Int)<=c1/\c1<=c5/\c5<=c5/\c5<=(↑n:Int),c2*((56:Nat)+1)*2<=2^47,c6] (aj [c6,-c3<=c7/\c7<c3] (leaf normal ([ptr 0 0 3 0 [],(rat b 2000).bF,ptr 1 0 3 0 [],ptr 2 0 3 0 [],ptr 3 0 3 0 [],int i64 ((↑f:Int)-(1:Int)),int i64 c5,int i64 c7,int i64 0],[(28677,ak.mk true true 3 c2 fun i_1=>if i_1<i then rat (x i_1) 2000 else rat (k (i_1-i+c1.toNat)) 2000),((3:Nat),aJ fun j=>if(j==0)=true then agg (c4.kids.set 1 (aV (own (nat_lit 28676+1) 3 0 c2)))else c4),((2:Nat),aJ fun x=>agg [int i64 D.p,aq 3 D.n fun i=>rat (D.k i) 4096,aq 12 D.m fun i=>bu (D.f i) 536870912]),((1:Nat),aJ fun x=>agg [int i64 0,nil,nil]),((0:Nat),aJ fun x=>agg [int i64 c.p,aq 3 c.n fun i=>rat (c.k i) 2000,aq 12 c.m fun i=>bu (c.f i) 4000])])))):=ag
theorem Wx {c D:Cu} {b:Rat} {f l i m:Nat} {x:Nat->Rat}:aH T lg [90] 60 wU [part r8 [1,0,1,0,0]] ⟨aC wU (Gv c.p b f l i),vI c D x m,5⟩=
  let c11:Int:=(↑i:Int);let c10:AV:=int i64 ((↑f:Int)-(1:Int));let c9:AV:=rat b 2000;let c8:Int:=c.p+(1:Int);let c6:AV:=ptr 2 0 3 0 [];let c5:AV:=ptr 3 0 3 0 [];let c4:AV:=ptr 1 0 3 0 [];let c3:AV:=ptr 0 0 3 0 [];let c2:AV:=agg [int i64 c.p,own 4 3 0 m,nil];let c1:List (Nat×ak):=[((2:Nat),aJ fun x=>agg [int i64 D.p,aq 3 D.n fun i=>rat (D.k i) 4096,aq 12 D.m fun i=>bu (D.f i) 536870912]),((1:Nat),aJ fun x=>agg [int i64 0,nil,nil]),((0:Nat),aJ fun x=>agg [int i64 c.p,aq 3 c.n fun i=>rat (c.k i) 2000,aq 12 c.m fun i=>bu (c.f i) 4000])];let c7:Int:=c11+(1:Int);some (fork (decide (c11<c8)) (aj [(0:Nat)<1,(1:Nat)*3<=2^24,(m+1)*((56:Nat)+1)*2<=2^47,(0:Nat)<1] (aj [-(2:Int)^63<=c7/\c7<(2:Int)^63] (leaf normal ([c3,c9.bF,c4,c6,c5,c10,int i64 (↑l:Int),int i64 c8,int i64 c7],(20485,ak.mk true true 3 (m+1) fun i=>if i<m then rat (x i) 2000 else nth [c9] (rat 0 1) (i-m+0))::((3:Nat),aJ fun j=>if(j==0)=true then agg (c2.kids.set 1 (aV (own (nat_lit 20484+1) 3 0 (m+1))))else c2)::c1)))) (leaf (exit 6) ([c3,c9.bF,c4,c6,c5,c10,int i64 (↑l:Int),int i64 c8,int i64 c11],(4,ak.mk true true 3 m fun i=>rat (x i) 2000)::((3:Nat),aJ fun x=>c2)::c1))):=ag
theorem aau {c D:Cu} {b:Rat} {f l i m:Nat} {x:Nat->Rat}:cw T lg [] 60 qd [part r8 [1,1]] ⟨aC wU (Gv c.p b f l i),vI c D x m,5⟩=
  let c3:Int:=(↑l:Int);let c2:Prop:=0<1;let c1:Int:=(↑f:Int)-(1:Int)-c.p;some (aj [c2,c2,-(2:Int)^63<=c1/\c1<(2:Int)^63,(0:Int)<=c1/\c1<=c3/\c3<=c3/\c3<=(↑D.m:Int),c2] (aj [c2,c2] (aj [c2] (leaf ret [agg [int i64 c.p,aq 3 m fun i=>rat (x (i+0)) 2000,aq 12 (c3.toNat-c1.toNat) fun i=>bu (D.f (i+c1.toNat)) 536870912]])))):=ag
theorem Zm:∀K args pre r,Rj K args pre=some r->aE P ve K args pre r:=cy fun⟨⟨n,k⟩,t,_⟩ K hn=>by
 have h1:n<2^40:=hn.1
 have h2:∀i,i<n+1->Sz (dr k t (dc k t n) i) 2000:=hn.2
 exact rQ (u:=bq (dr k t (dc k t n)) (n+1) 2002) (l:=[]) (SU aU aU (by decide) h1 K) (fun h=>trivial) rfl rfl (fq fun i hi=>dA rfl (h2 i hi))
theorem yG:bz P lg:=cZ (aL JK (aL Zm (aL MS (aL abv iG))))
structure yN (n p:Nat) (k:Nat->Rat) (t:Rat) (r:Nat):Prop where
 kn:Kn (n+r) p (fu k n t r)
 tm:bw (fu k n t r) t (n+r)=bw k t n+r
 f0:fu k n t r 0=k 0
 fl:fu k n t r (n+r-1)=k (n-1)
 sd:∀i,gl (fu k n t r i)
theorem Rg {n p:Nat} {k:Nat->Rat} {t:Rat} (h:Kn n p k) (h0:k 0<t) (h1:t<k (n-1)) (kd:∀i,gl (k i)) (ht:gl t):∀{r:Nat},bw k t n+r<=p->yN n p k t r
 |0,_=>⟨h,rfl,rfl,rfl,kd⟩
 |r+1,hr=>by
  obtain⟨a1,a2,a3,a4,a5⟩:=Rg h h0 h1 kd ht (r:=r) aa
  have g0:fu k n t r 0<t:=by rw[a3];exact h0
  have g1:t<fu k n t r (n+r-1):=by rw[a4];exact h1
  obtain⟨i1,i2,i3⟩:=nW a1 g0 g1
  have e:fu k n t (r+1)=dD (fu k n t r) t (bT (n+r) (fu k n t r) t+1):=rfl
  generalize bT (n+r) (fu k n t r) t=a at*
  generalize fu k n t r=K at*
  have tm:=Kx (k:=K) (t:=t) (q:=a+1) (m:=n+r-(a+1))
  rw[show a+1+1+(n+r-(a+1))=n+(r+1) by omega,show a+1+(n+r-(a+1))=n+r by omega]at tm
  have hK:=a1.dD g0 g1 i1 i2 i3 aa
  refine⟨?_,?_,?_,?_,?_⟩
  ·rw[e];exact hK
  ·rw[e,tm,a2];rfl
  ·rw[e,iC aa,a3]
  ·rw[e,show n+(r+1)-1=n+r by omega,iq aa,a4]
  ·rw[e];exact MN a5 ht
theorem yN.next {n p r:Nat} {k:Nat->Rat} {t:Rat} (h:yN n p k t r) (h0:k 0<t) (h1:t<k (n-1)):dr (fu k n t r) t (dc (fu k n t r) t (n+r))=fu k n t (r+1):=by
 obtain⟨a1,a2,a3,a4,a5⟩:=h
 obtain⟨i1,i2,i3⟩:=nW a1 (by rw[a3];exact h0) (by rw[a4];exact h1)
 rw[Pj a1.sorted i1 i2 i3];rfl
theorem agZ {c:Cu} {a b:Rat} {n f l j:Nat} {k:Nat->Rat} {cx:Ctx} {Q:au->aM->Prop} (hk:Kept [] cx) (hc:Kn c.n c.p.toNat c.k) (hp1:1<=c.p) (hp6:c.p<=6) (hcn:c.n<2^28) (hcm:c.m<2^28) (hn:n<2^28) (hpn:c.p+1<=n) (hf:fQ (lK a k) n=f) (hl:fQ (lD b k) n=l) (h1:c.p.toNat+1<=f) (h2:f<=l) (h3:l+c.p.toNat+1<=n)
  (hQ:∀e s',dP cx (Fin T qd (dj (xe (kK c n k) a b f l) sK sB)) e s'->Q e s'):ax P cx qd.ntmps tf ⟨aC oT (qR a b n k j),qQ c,2⟩ Q:=by
 have hv:∀{rl:List (Nat×Nat)} {k x y y':Nat},bh rl k=some x->y=y'->eG rl (.agg [.int .i64 c.p,.own x 3 0 y,.nil]) (.agg [.int .i64 c.p,.own k 3 0 y',.nil]):=fun h e=>fW ⟨⟨rfl,aN rfl⟩,⟨rfl,cD h rfl e⟩,⟨rfl,aN rfl⟩,trivial⟩
 refine ax.kG hT yG hm (x:=tf) [1,1,1,1,1,0,1] (i:=4) (y:=part tf [1,1,1,1,1,0,1,0,0]) (z:=r8) ag ag ag ag hk (f1:=[]) (f2:=[69]) 60 AI 5
  (fun i:Nat=>HA c.p a b n k f l i) (fun i=>vI c (kK c n k) (fun _=>a) i) (fun i=>i<=c.p.toNat+1) (fun i=>i=c.p.toNat+1) (fun i=>c.p.toNat+1-i) (fun _=>False) ⟨_,Xc,?_⟩ (fun i hi=>⟨_,VN,?_⟩) (fun i hi=>?_) (fun _ _ h=>h.elim)
 ·have e1:fQ (lK a fun i=>aR (rat (k i) 2000)) n=f:=hf
  have e2:fQ (lD b fun i=>aR (rat (k i) 2000)) n=l:=hl
  simp only[ah.all,az,e1,e2]
  refine⟨⟨aa,bY (by decide),pL (by decide),bY (by decide),hc,hp1,hp6,aa,aa,aa,hpn,aa⟩,⟨aa,aa⟩,⟨bY aU,aa,aa,aa,aa⟩,⟨bY aU,aa,aa,aa⟩,⟨aa,aa⟩,0,Nat.zero_le _,[(0,0),(1,1),(2,12290),(3,20482)],rfl,rfl,rfl,gU rfl aa aa (bD rfl rfl (fW ⟨⟨rfl,aN rfl⟩,⟨rfl,iZ aa⟩,⟨rfl,aN rfl⟩,trivial⟩) (aB (aB (aB trivial))))⟩
 ·simp only[ah.all,az,aZ,bk,aW]
  refine⟨fun h=>⟨⟨aa,aa,aa,aa⟩,aa,i+1,aa,by dsimp only;omega,[(0,0),(1,1),(2,2),(3,3),(4,20485)],rfl,rfl,rfl,bL rfl rfl rfl (fun q hq=>gM (y:=fun _=>a) (fun _ _=>rfl) rfl aU aU hq) (bD rfl rfl (hv rfl rfl) (aB (aB (aB trivial))))⟩,fun h=>⟨rfl,i,aa,[(0,0),(1,1),(2,2),(3,3),(4,4)],rfl,rfl,rfl,bp (bD rfl rfl (hv rfl rfl) (aB (aB (aB trivial))))⟩⟩
 ·subst hi
  refine ax.kG hT yG hm (x:=r8) [1,0,1] (i:=6) (y:=part r8 [1,0,1,0,0]) (z:=part r8 [1,1]) ag ag ag ag hk (f1:=[]) (f2:=[90]) 60 wU 5
   (fun i:Nat=>Gv c.p b f l i) (fun i=>vI c (kK c n k) (qJ c.p.toNat a b k f l) (c.p.toNat+1+(l-f)+i)) (fun i=>i<=c.p.toNat+1) (fun i=>i=c.p.toNat+1) (fun i=>c.p.toNat+1-i) (fun _=>False) ⟨_,aaY,?_⟩ (fun i hi=>⟨_,Wx,?_⟩) (fun i hi=>?_) (fun _ _ h=>h.elim)
  ·simp only[ah.all,az,aW]
   have e1:((f:Int)-1+1).toNat=f:=aa
   simp only[e1]
   refine⟨⟨aa,aa,aa,aa,aa⟩,⟨aa,aa⟩,0,Nat.zero_le _,[(0,0),(1,1),(2,2),(3,3),(4,28677)],rfl,rfl,rfl,bL rfl rfl rfl (fun q hq=>cL (oZ rfl rfl) ?_) (bD rfl rfl (hv rfl rfl) (aB (aB (aB trivial))))⟩
   have hq:q<c.p.toNat+1+(l-f)+0:=hq
   unfold qJ
   by_cases c1:q<c.p.toNat+1
   ·rw[if_pos c1,if_pos c1]
   ·rw[if_neg c1,if_neg c1,if_pos aa,Nat.add_comm]
  ·simp only[ah.all,az,aZ,bk,aW]
   refine⟨fun h=>⟨⟨aa,aa,aa,aa⟩,aa,i+1,aa,by dsimp only;omega,[(0,0),(1,1),(2,2),(3,3),(4,20485)],rfl,rfl,rfl,bL rfl rfl rfl (fun q hq=>gM (y:=qJ c.p.toNat a b k f l) (fun _ _=>rfl) ?_ aU aU hq) (bD rfl rfl (hv rfl rfl) (aB (aB (aB trivial))))⟩,fun h=>⟨rfl,i,aa,[(0,0),(1,1),(2,2),(3,3),(4,4)],rfl,rfl,rfl,bp (bD rfl rfl (hv rfl rfl) (aB (aB (aB trivial))))⟩⟩
   unfold qJ
   rw[if_neg aa,if_neg aa]
  ·subst hi
   refine ax.j3 ((aI.fin hT yG hm 60 aau ag ?_).mono fun _ _ h=>hQ _ _ (.inl h))
   simp only[ah.all,az,aW]
   have e1:((f:Int)-1-c.p).toNat=f-1-c.p.toNat:=aa
   have e2:(kK c n k).m=n-c.p.toNat-1:=rfl
   simp only[e1,e2]
   refine⟨⟨aa,aa,aa,aa,aa⟩,⟨aa,aa⟩,aa,cC ⟨.refl _,fq fun i hi=>bM rfl (by decide),mC rfl fun i _=>?_,trivial⟩⟩
   show bu (qC c n k (i+(f-1-c.p.toNat))) sB=bu (qC c n k (f-1-c.p.toNat+i)) sB
   rw[Nat.add_comm]
theorem alC:aT P BO CN (aA CN):=aY Proofs.Tryz.func177 ag ag ag
abbrev zz (z:Nat->Int):Nat->AV:=fun i=>.int .i64 (z i)
theorem afq {x y:Int}:bW T GA [7] 60 CN (aA CN) ⟨aQ 0 [.int .i64 x,.int .i64 y],[],0⟩=
  let c3:List Prop:=[(0:Nat)<1];let c2:Int:=(2:Int)^63;let c1:Rat:=sQ (decide (x<(0:Int))!=decide (y<(0:Int))) x.natAbs y.natAbs;some (fork (y==(0:Int)) (aj c3 (aj c3 (leaf ret [agg [AV.bool false,mag 0,mag 0],int i64 3]))) (aj ((-c2<=x)::(x<c2)::(-c2<=y)::(y<c2)::(nl x.natAbs<2^40)::(nl y.natAbs<2^40)::c3) (aj c3 (leaf ret [rat c1 (cS c1),int i64 0])))):=ag
theorem ahY {x y:Int} (h1:-2^63<=x) (h2:x<2^63) (h3:-2^63<=y) (h4:y<2^63) (K:Nat):aE P BO K [.int .i64 x,.int .i64 y] [] (aK (.tuple [.rat ((x:Rat)/(y:Rat)) 64,.int .i64 (if y=0 then 3 else 0)]) []):=by
 refine cj hT wo hm alC rfl aX rfl 60 afq (fun _=>?_) K []
 simp only[ah.all,az,beq_iff_eq,beq_eq_false_iff_ne,ne_eq]
 refine⟨fun hb=>⟨aa,aa,?_,bQ (by rw[if_pos hb]),trivial⟩,fun hb=>⟨⟨h1,h2,h3,h4,jh (n:=64) aa aa,jh (n:=64) aa aa,aa⟩,aa,dA (C5 hb) (J1 h1 h2 h3 h4 hb),bQ (by rw[if_neg hb]),trivial⟩⟩
 rw[hb,show((x:Rat)/((0:Int):Rat))=0 by rw[Rat.intCast_zero,Rat.div_def,Rat.inv_zero,Rat.mul_zero]]
 exact lT
def P9:Spec:=cN (kC kI (kC kI kN)) (fun a=>.tuple [.rat ((a.1:Rat)/(a.2.1:Rat)) 64,.int .i64 (if a.2.1=0 then 3 else 0)]) fun a=>[-2^63<=a.1,a.1<2^63,-2^63<=a.2.1,a.2.1<2^63]
theorem acY:∀K args pre r,P9 K args pre=some r->aE P BO K args pre r:=cy fun⟨x,y,_⟩ K hn=>ahY hn.1 hn.2.1 hn.2.2.1 hn.2.2.2 K
def bU (k:Nat->Rat) (n:Nat):Nat->Nat
 |0=>0
 |i+1=>bU k n i+if i+1=n\/k i≠k (i+1)then 1 else 0
def cU (k:Nat->Rat) (n:Nat):Nat->Nat->Rat
 |0,_=>0
 |i+1,q=>if q<i+bU k n i then cU k n i q else k i
def ga (k:Nat->Rat):Nat->Nat
 |0=>0
 |i+1=>ga k i+if i=0\/k i≠k (i-1)then 1 else 0
section
variable {k:Nat->Rat} {n:Nat}
theorem Eo {i:Nat} (h:i+1=n\/k i≠k (i+1)):bU k n (i+1)=bU k n i+1:=by rw[bU,if_pos h]
theorem yB {i:Nat} (h:¬(i+1=n\/k i≠k (i+1))):bU k n (i+1)=bU k n i:=by rw[bU,if_neg h];rfl
theorem s8 {i:Nat}:bU k n i<=bU k n (i+1)/\bU k n (i+1)<=bU k n i+1:=by
 rw[bU];split<;>omega
theorem x5 {i:Nat}:∀{j:Nat},i<=j->bU k n i<=bU k n j
 |0,h=>by rw[show i=0 by omega];exact Nat.le_refl _
 |j+1,h=>by
  by_cases e:i=j+1
  ·rw[e];exact Nat.le_refl _
  ·exact Nat.le_trans (x5 (j:=j) (by omega)) s8.1
theorem vj:∀{i:Nat},bU k n i<=i
 |0=>Nat.le_refl _
 |i+1=>by have:=vj (i:=i);have:=(s8 (k:=k) (n:=n) (i:=i)).2;omega
theorem Lf {i:Nat}:∀{j:Nat},i<=j->(∀q,i<=q->q<j->¬(q+1=n\/k q≠k (q+1)))->bU k n j=bU k n i
 |0,h,_=>by rw[show i=0 by omega]
 |j+1,h,hq=>by
  by_cases e:i=j+1
  ·rw[e]
  ·rw[yB (hq j (by omega) (by omega)),Lf (j:=j) (by omega) fun q h1 h2=>hq q h1 (by omega)]
theorem p9 {i q:Nat}:∀{m:Nat},i<m->i+bU k n i<=q->q<i+1+bU k n (i+1)->cU k n m q=k i
 |0,h,_,_=>by omega
 |m+1,h,h1,h2=>by
  by_cases e:i=m
  ·subst e;rw[cU,if_neg (by omega)]
  ·have:=x5 (k:=k) (n:=n) (show i+1<=m by omega)
   rw[cU,if_pos (by omega),p9 (m:=m) (by omega) h1 h2]
theorem G5 {Q:Nat}:∀{m:Nat},Q<m+bU k n m->∃i,i<m/\i+bU k n i<=Q/\Q<i+1+bU k n (i+1)
 |0,h=>by
    have:bU k n 0=0:=rfl
    omega
 |m+1,h=>by
  by_cases e:Q<m+bU k n m
  ·obtain⟨i,h1,h2,h3⟩:=G5 e
   exact⟨i,by omega,h2,h3⟩
  ·exact⟨m,by omega,by omega,h⟩
theorem Jq {p:Nat} (h:Kn n p k):Kn (n+bU k n n) (p+1) (cU k n n):=by
 have hp:=h.p1
 have hl:=h.len
 have src:∀{Q},Q<n+bU k n n->∃i,i<n/\i+bU k n i<=Q/\Q<i+1+bU k n (i+1)/\cU k n n Q=k i:=fun {Q} hQ=>by
  obtain⟨i,h1,h2,h3⟩:=G5 hQ
  exact⟨i,h1,h2,h3,p9 h1 h2 h3⟩
 have ord:∀{Q Q' i i'},Q<=Q'->i+bU k n i<=Q->Q'<i'+1+bU k n (i'+1)->i<=i':=fun {Q Q' i i'} hQ h1 h2=>by
  by_cases c:i<=i'
  ·exact c
  ·have:=x5 (k:=k) (n:=n) (show i'+1<=i by omega)
   omega
 have dp:bU k n (p+1)=bU k n p+1:=by
  refine Eo (.inr fun e=>?_)
  have m:=h.mult 1 (by omega) (by omega)
  rw[h.first 1 (by omega),show 1+p=p+1 by omega,<-e,h.first p (by omega)]at m
  exact Rat.lt_irrefl m
 have dl:bU k n n=bU k n (n-1)+1:=by
  have:=Eo (k:=k) (n:=n) (i:=n-1) (.inl (by omega))
  rwa [show n-1+1=n by omega]at this
 have m1:=x5 (k:=k) (n:=n) (show p+1<=n-1 by omega)
 have fl:bU k n (n-1)=bU k n (n-p-1):=Lf (by omega) fun q h1 h2=>by
  rintro(e|e)
  ·omega
  ·exact e (by rw[h.last q (by omega) (by omega),h.last (q+1) (by omega) (by omega)])
 refine⟨by omega,by omega,fun Q hQ=>?_,fun Q hQ=>?_,fun Q h1 h2=>?_,fun Q h1 h2=>?_⟩
 ·obtain⟨i,a1,a2,a3,a4⟩:=src (Q:=Q) (by omega)
  obtain⟨j,b1,b2,b3,b4⟩:=src (Q:=Q+1) hQ
  rw[a4,b4]
  exact h.mono (ord (show Q<=Q+1 by omega) a2 b3) b1
 ·obtain⟨i,a1,a2,a3,a4⟩:=src (Q:=Q) (by omega)
  obtain⟨j,b1,b2,b3,b4⟩:=src (Q:=0) (by omega)
  have c1:=ord (i:=i) (i':=p) (Q:=Q) (Q':=p+1) (by omega) a2 (by omega)
  have c2:=ord (i:=j) (i':=p) (Q:=0) (Q':=p+1) (by omega) b2 (by omega)
  rw[a4,b4,h.first i c1,h.first j c2]
 ·obtain⟨i,a1,a2,a3,a4⟩:=src (Q:=Q) (by omega)
  obtain⟨j,b1,b2,b3,b4⟩:=src (Q:=n+bU k n n-1) (by omega)
  have c1:n<=i+p+1:=by
   by_cases c:n<=i+p+1
   ·exact c
   ·have:=x5 (k:=k) (n:=n) (show i+1<=n-p-1 by omega)
    omega
  have c2:=ord (show Q<=n+bU k n n-1 by omega) a2 b3
  rw[a4,b4,h.last i c1 a1,h.last j (by omega) b1]
 ·obtain⟨i,a1,a2,a3,a4⟩:=src (Q:=Q) (by omega)
  obtain⟨j,b1,b2,b3,b4⟩:=src (Q:=Q+(p+1)) (by omega)
  have c1:=ord (show Q<=Q+(p+1) by omega) a2 b3
  have c2:=h.mono c1 b1
  rw[a4,b4]
  by_cases e:k i<k j
  ·exact e
  ·exfalso
   have e2:k i=k j:=by grind
   have flat:∀q,i<=q->q<j->¬(q+1=n\/k q≠k (q+1)):=fun q g1 g2=>by
    rintro(g|g)
    ·omega
    ·have u1:=h.mono g1 (by omega)
     have u2:=h.mono (show q<=q+1 by omega) (by omega)
     have u3:=h.mono (show q+1<=j by omega) b1
     exact g (by grind)
   have g1:=Lf c1 flat
   have s1:=(s8 (k:=k) (n:=n) (i:=i)).2
   have s2:=(s8 (k:=k) (n:=n) (i:=j)).2
   have g2:i+p<=j/\Q=i+bU k n i:=by
    by_cases c:i<j
    ·have:=yB (flat i (Nat.le_refl _) c)
     omega
    ·omega
   have i0:1<=i:=by
    by_cases c:i=0
    ·subst c
     have:bU k n 0=0:=rfl
     omega
    ·omega
   have hj:i+p+1<n:=by
    by_cases c:i+p+1<n
    ·exact c
    ·have e3:j=n-1:=by omega
     subst e3
     omega
   have:=h.mult i i0 hj
   have:=h.mono g2.1 b1
   grind
theorem Iu:∀{i:Nat},i+1<=n->ga k (i+1)=bU k n (i+1)+if i+1<n/\k i=k (i+1)then 1 else 0
 |0,hn=>by
  rw[ga,bU,if_pos (.inl rfl)]
  show 0+1=0+_+_
  by_cases c:0+1<n/\k 0=k (0+1)
  ·rw[if_neg (fun h=>h.elim (fun e=>by omega) fun e=>e c.2),if_pos c]
  ·rw[if_pos (by
    by_cases e:0+1=n
    ·exact .inl e
    ·exact .inr fun e2=>c ⟨by omega,e2⟩),if_neg c]
 |i+1,hn=>by
  have s1:ga k (i+1+1)=ga k (i+1)+(if i+1=0\/k (i+1)≠k i then 1 else 0):=rfl
  have s2:bU k n (i+1+1)=bU k n (i+1)+(if i+1+1=n\/k (i+1)≠k (i+1+1)then 1 else 0):=rfl
  rw[s1,s2,Iu (i:=i) (by omega)]
  have e1:(if i+1<n/\k i=k (i+1)then 1 else 0)+(if i+1=0\/k (i+1)≠k i then 1 else 0)=1:=by
   by_cases c:k i=k (i+1)
   ·rw[if_pos ⟨by omega,c⟩,if_neg (fun h=>h.elim (fun e=>by omega) fun e=>e c.symm)]
   ·rw[if_neg (fun h=>c h.2),if_pos (.inr fun e=>c e.symm)]
  have e2:(if i+1+1=n\/k (i+1)≠k (i+1+1)then 1 else 0)+(if i+1+1<n/\k (i+1)=k (i+1+1)then 1 else 0)=1:=by
   by_cases c:i+1+1=n\/k (i+1)≠k (i+1+1)
   ·rw[if_pos c,if_neg (fun h=>c.elim (fun e=>by omega) fun e=>e h.2)]
   ·rw[if_neg c,if_pos ⟨by
     by_cases e:i+1+1=n
     ·exact absurd (.inl e) c
     ·omega,Classical.not_not.1 fun e=>c (.inr e)⟩]
  omega
theorem aaM (hn:1<=n):ga k n=bU k n n:=by
 have:=Iu (k:=k) (n:=n) (i:=n-1) (by omega)
 rw[show n-1+1=n by omega,if_neg (by omega)]at this
 exact this
theorem SP {i:Nat} (hi:i<n):cU k n n (i+bU k n i)=k i/\cU k n n (i+bU k n i+1)=(if i+1=n\/k i≠k (i+1)then k i else k (i+1)):=by
 refine⟨p9 hi (Nat.le_refl _) (by have:=(s8 (k:=k) (n:=n) (i:=i)).1;omega),?_⟩
 by_cases c:i+1=n\/k i≠k (i+1)
 ·rw[if_pos c,p9 hi (by omega) (by rw[Eo c];omega)]
 ·have hi2:i+1<n:=by
   by_cases e:i+1=n
   ·exact absurd (.inl e) c
   ·omega
  rw[if_neg c,p9 (i:=i+1) hi2 (by rw[yB c];omega) (by have:=(s8 (k:=k) (n:=n) (i:=i+1)).1;rw[yB c]at this;omega)]
theorem UG {i:Nat} (hi:i<n):cU k n n (i+ga k i)=k i/\(i=0\/k i≠k (i-1)->cU k n n (i+ga k i+1)=k i):=by
 have same:(if i+1=n\/k i≠k (i+1)then k i else k (i+1))=k i:=by
  split
  ·rfl
  ·rename_i c;exact(Classical.not_not.1 fun e=>c (.inr e)).symm
 obtain⟨h1,h2⟩:=SP (k:=k) hi
 rw[same]at h2
 cases i with
 |zero=>exact⟨h1,fun _=>h2⟩
 |succ i=>
  rw[Iu (n:=n) (i:=i) (by omega)]
  by_cases c:i+1<n/\k i=k (i+1)
  ·rw[if_pos c]
   exact⟨h2,fun g=>by
    rcases g with g|g
    ·omega
    ·exact absurd c.2.symm g⟩
  ·rw[if_neg c]
   exact⟨h1,fun _=>h2⟩
end
end Go.Am.B
