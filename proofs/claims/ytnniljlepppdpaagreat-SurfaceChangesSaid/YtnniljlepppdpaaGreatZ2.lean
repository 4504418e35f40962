/- Parts of code; a piece of code inside a chain; loops. -/
import Derived.Test.YtnniljlepppdpaaGreatZ1
import Derived.Below
import Derived.RangeFuncCalls
import Derived.ProofKit
import Derived.ChangeSlices
set_option linter.unusedVariables false
namespace Go.Am
def part:Code->List Nat->Code
 |c,[]=>c
 |.seq x _,0::p=>part x p
 |.seq _ y,_::p=>part y p
 |.cond _ x _,0::p=>part x p
 |.cond _ _ y,_::p=>part y p
 |.block _ x,_::p=>part x p
 |.loop x,_::p=>part x p
 |_,_=>.skip
def before:Code->List Nat->List Code
 |.seq x _,0::p=>before x p
 |.seq x y,_::p=>x::before y p
 |_,_=>[]
def behind:Code->List Nat->List Code
 |.seq x y,0::p=>behind x p++[y]
 |.seq _ y,_::p=>behind y p
 |_,_=>[]
def chain:Code->List Nat->Bool
 |_,[]=>true
 |.seq x _,0::p=>chain x p
 |.seq _ y,_::p=>chain y p
 |_,_=>false
def ay (fn:Func):Code:=match fn.body with
 |some x=>x
 |none=>.skip
def dM (k:aK->Prop) (Q:ax->aK->Prop):ax->aK->Prop
 |.normal,s=>k s
 |e,s=>Q e s
def aH (P:Program) (c:Ctx) (nt:Nat):List Code->aK->(ax->aK->Prop)->Prop
 |[],s,Q=>Q .normal s
 |x::l,s,Q=>au P c nt x s (dM (fun s'=>aH P c nt l s' Q) Q)
section rules
variable {P:Program} {c:Ctx} {nt:Nat} {s:aK} {Q:ax->aK->Prop}
theorem au.Q3 {x y:Code} (h:au P c nt x s (dM (fun s'=>au P c nt y s' Q) Q)):au P c nt (.seq x y) s Q:=
 .seq (h.mono fun e s' h=>by cases e<;>exact h)
theorem aH.mono {Q Q':ax->aK->Prop} (hq:∀e s',Q e s'->Q' e s'):∀{l:List Code} {s:aK},aH P c nt l s Q->aH P c nt l s Q'
 |[],_,h=>hq _ _ h
 |x::l,s,h=>au.mono h fun e s' h=>by
  cases e with
  |normal=>exact aH.mono hq (l:=l) h
  |exit i=>exact hq _ _ h
  |ret=>exact hq _ _ h
theorem aH.append {Q:ax->aK->Prop}:∀{a b:List Code} {s:aK},aH P c nt (a++b) s Q->aH P c nt a s (dM (fun s'=>aH P c nt b s' Q) Q)
 |[],b,s,h=>h
 |x::a,b,s,h=>au.mono h fun e s' h=>by
  cases e with
  |normal=>exact aH.append (a:=a) h
  |exit i=>exact h
  |ret=>exact h
theorem au.hole:∀(p:List Nat) {x:Code} {s:aK} {Q:ax->aK->Prop},chain x p=true->
  aH P c nt (before x p) s (dM (fun s'=>au P c nt (part x p) s' (dM (fun s''=>aH P c nt (behind x p) s'' Q) Q)) Q)->au P c nt x s Q
 |[],x,s,Q,_,h=>by
  have hb:before x []=[]:=by cases x<;>rfl
  have hh:behind x []=[]:=by cases x<;>rfl
  have hp:part x []=x:=by cases x<;>rfl
  rw[hb,hh,hp]at h
  exact au.mono h fun e s' h=>by cases e<;>exact h
 |0::p,.seq x y,s,Q,hc,h=>by
  refine .Q3 (au.hole p (x:=x) hc ?_)
  refine aH.mono ?_ h
  intro e s' h1
  cases e with
  |normal=>
   refine au.mono h1 ?_
   intro e s'' h2
   cases e with
   |normal=>
    refine aH.mono ?_ (aH.append h2)
    intro e s3 h3
    cases e with
    |normal=>exact au.mono h3 fun e s' h=>by cases e<;>exact h
    |exit i=>exact h3
    |ret=>exact h3
   |exit i=>exact h2
   |ret=>exact h2
  |exit i=>exact h1
  |ret=>exact h1
 |(n+1)::p,.seq x y,s,Q,hc,h=>by
  refine .Q3 (au.mono h ?_)
  intro e s' h1
  cases e with
  |normal=>exact au.hole p (x:=y) hc h1
  |exit i=>exact h1
  |ret=>exact h1
 |_::_,.cond _ _ _,_,_,hc,_=>by simp[chain]at hc
 |_::_,.block _ _,_,_,hc,_=>by simp[chain]at hc
 |_::_,.loop _,_,_,hc,_=>by simp[chain]at hc
 |_::_,.region _ _ _,_,_,hc,_=>by simp[chain]at hc
 |_::_,.skip,_,_,hc,_=>by simp[chain]at hc
 |_::_,.label _,_,_,hc,_=>by simp[chain]at hc
 |_::_,.exit _,_,_,hc,_=>by simp[chain]at hc
 |_::_,.ret,_,_,hc,_=>by simp[chain]at hc
 |_::_,.scope _,_,_,hc,_=>by simp[chain]at hc
 |_::_,.goto _,_,_,hc,_=>by simp[chain]at hc
 |_::_,.refuse _,_,_,hc,_=>by simp[chain]at hc
 |_::_,.rangeFunc _ _ _ _,_,_,hc,_=>by simp[chain]at hc
def inBlock (i:Nat) (Q:ax->aK->Prop):ax->aK->Prop
 |.exit j,s=>if j=i then Q .normal s else Q (.exit j) s
 |e,s=>Q e s
theorem au.Q9 {i:Nat} {x:Code} (h:au P c nt x s (inBlock i Q)):au P c nt (.block i x) s Q:=
 .block (h.mono fun e s' h=>by cases e<;>exact h)
theorem au.iZ {x y:Code} {i:Nat} (hx:x=.block i (.loop y)) {α:Type} (S:α->aK) (I:α->Prop) (μ:α->Nat) (j:α) (hs:∃ρ,Le c ρ s (S j)) (h0:I j)
  (round:∀j,I j->au P c nt y (S j) (dM (fun s'=>∃k,(∃ρ,Le c ρ s' (S k))/\I k/\μ k<μ j) (inBlock i Q))):au P c nt x s Q:=by
 subst hx
 exact .Q9 (.am4 S I μ j hs h0 fun j hj=>(round j hj).mono fun e s' h=>by cases e<;>exact h)
variable {T:Types} (hT:ep P T) {Γ:bf} (hΓ:bu P Γ) (hm:P.follows .mixedOrders=true)
def p5 (T:Types) (Γ:bf) (forks:List Nat) (n:Nat):List Code->aK->Option (ah aK)
 |[],s=>some (.leaf .normal s)
 |x::l,s=>match eF T Γ forks n x s with
  |some t=>t.bind fun e s'=>match e with
   |.normal=>p5 T Γ forks n l s'
   |.exit i=>some (.leaf (.exit i) s')
   |.ret=>some (.leaf .ret s')
  |none=>none
include hT hΓ hm in
theorem AH {forks:List Nat} {n:Nat}:∀{l:List Code} {s:aK} {t:ah aK},(l.all fun x=>cA nt x)=true->p5 T Γ forks n l s=some t->t.all Q->aH P c nt l s Q
 |[],s,t,_,h,ht=>by
  simp only[p5,az]at h
  subst h
  exact ht
 |x::l,s,t,hd,h,ht=>by
  simp only[List.all_cons,Bool.and_eq_true]at hd
  simp only[p5]at h
  cases hx:eF T Γ forks n x s with
  |none=>rw[hx]at h;simp at h
  |some u=>
   rw[hx]at h
   refine lM hT hΓ hm n hd.1 hx (ah.fP ?_ (ah.j5 h ht))
   rintro e s' ⟨v,h1,h2⟩
   cases e with
   |normal=>exact AH hd.2 h1 h2
   |exit i=>simp only[az]at h1;subst h1;exact h2
   |ret=>simp only[az]at h1;subst h1;exact h2
def aG (T:Types) (Γ:bf) (forks:List Nat) (n:Nat) (ls:List Nat) (l:List Code) (s:aK):Option (ah (List AV×aE)):=
 match p5 T Γ forks n l s with
 |some t=>t.bind (SR ls)
 |none=>none
include hT hΓ hm in
theorem aH.bC {forks:List Nat} (n:Nat) (ls:List Nat) {l:List Code} {s:aK} {t:ah (List AV×aE)} (hc:aG T Γ forks n ls l s=some t) (hd:(l.all fun x=>cA nt x)=true)
  (h:t.all fun e v=>∀s',bA ls s'=some v->Q e s'):aH P c nt l s Q:=by
 unfold aG at hc
 split at hc
 ·rename_i u hx
  refine AH hT hΓ hm hd hx (ah.fP ?_ (ah.j5 hc h))
  rintro e s' ⟨v,h1,h2⟩
  unfold SR at h1
  cases hv:bA ls s' with
  |none=>rw[hv]at h1;simp at h1
  |some z=>
   rw[hv]at h1
   simp only[az]at h1
   subst h1
   exact h2 s' hv
 ·simp at hc
include hT hΓ hm in
theorem au.bC {x:Code} {forks:List Nat} (n:Nat) (ls:List Nat) {t:ah (List AV×aE)} (hc:aG T Γ forks n ls [x] s=some t) (hd:cA nt x=true)
  (h:t.all fun e v=>∀s',bA ls s'=some v->Q e s'):au P c nt x s Q:=by
 have:=aH.bC (P:=P) (c:=c) (nt:=nt) (l:=[x]) (Q:=Q) hT hΓ hm n ls hc (by simp[hd]) h
 exact au.mono this fun e s' h=>by cases e<;>exact h
def cj (T:Types) (Γ:bf) (forks:List Nat) (n:Nat) (fn:Func) (l:List Code) (s:aK):Option (ah (List AV)):=
 match p5 T Γ forks n l s with
 |some t=>t.bind (jt T fn)
 |none=>none
def Fin (T:Types) (fn:Func) (res:AV) (e:ax) (s:aK):Prop:=(e=.normal\/e=.ret)/\Ends T fn res s
theorem EZ {fn:Func} {e:ax} {s':aK} {v:ah (List AV)} {res:AV} (h1:jt T fn e s'=some v) (h2:v.all fun _ us=>fj us res):Fin T fn res e s':=by
 unfold jt at h1
 have key:∀{e':ax},(match g8 T s' fn.results.toList with
   |some (vs,q)=>match fh (kB (pick s'.store (AV.bI vs))) vs with
    |some us=>some (ah.need q (.leaf e' us))
    |none=>none
   |none=>none)=some v->Ends T fn res s':=by
  intro e' h1
  cases hr:g8 T s' fn.results.toList with
  |none=>rw[hr]at h1;simp at h1
  |some p=>
   obtain⟨vs,q⟩:=p
   rw[hr]at h1
   simp only at h1
   cases hf:fh (kB (pick s'.store (AV.bI vs))) vs with
   |none=>rw[hf]at h1;simp at h1
   |some us=>
    rw[hf]at h1
    simp only[az]at h1
    subst h1
    obtain⟨g1,g2⟩:=ah.F2.1 h2
    exact⟨vs,q,us,hr,g1,hf,g2⟩
 cases e with
 |normal=>exact⟨.inl rfl,key h1⟩
 |ret=>exact⟨.inr rfl,key h1⟩
 |exit i=>simp at h1
include hT hΓ hm in
theorem aH.fin {fn:Func} {forks:List Nat} (n:Nat) {l:List Code} {s:aK} {t:ah (List AV)} (hc:cj T Γ forks n fn l s=some t) (hd:(l.all fun x=>cA nt x)=true) {res:AV}
  (h:t.all fun _ us=>fj us res):aH P c nt l s (Fin T fn res):=by
 unfold cj at hc
 split at hc
 ·rename_i u hx
  refine AH hT hΓ hm hd hx (ah.fP ?_ (ah.j5 hc h))
  rintro e s' ⟨v,h1,h2⟩
  exact EZ h1 h2
 ·simp at hc
theorem aH.weak {l:List Code} {s2:aK} (hl:l.isEmpty=false) (hle:∃ρ,Le c ρ s s2) (h:aH P c nt l s2 Q):aH P c nt l s Q:=by
 obtain⟨ρ,hle⟩:=hle
 cases l with
 |nil=>simp at hl
 |cons x l=>exact au.weak hle h
theorem au.jn {x:Code} {s2:aK} (hle:∃ρ,Le c ρ s s2) (h:au P c nt x s2 Q):au P c nt x s Q:=by
 obtain⟨ρ,hle⟩:=hle
 exact au.weak hle h
end rules
theorem aU {P:Program} {f:FuncId} {fn:Func} (h:P.funcs[f]?=some fn) (hb:fn.body.isSome=true) (hn:(fn.name== "runtime.NumGoroutine")=false) (hd:cA fn.ntmps (ay fn)=true):aT P f fn (ay fn):=by
 refine⟨h,?_,hn,hd⟩
 unfold ay
 cases hbd:fn.body with
 |none=>rw[hbd]at hb;simp at hb
 |some x=>rfl
end Go.Am
namespace Go.Am
def val:Nat->(Nat->Nat)->Nat
 |0,_=>0
 |n+1,z=>val n z+z n*2^(32*n)
theorem gp {z:Nat->Nat}:∀{n:Nat},(∀i,i<n->z i<2^32)->val n z<2^(32*n)
 |0,_=>by simp[val]
 |n+1,h=>by
  have ih:=gp (z:=z) (n:=n) fun i hi=>h i aa
  have h1:=h n aa
  have:z n*2^(32*n)+2^(32*n)<=2^32*2^(32*n):=by
   rw[<-Nat.succ_mul];exact Nat.mul_le_mul_right _ h1
  have e:2^(32*(n+1))=2^32*2^(32*n):=by rw[<-Nat.pow_add];congr 1;omega
  rw[e,val];omega
theorem val_congr {z y:Nat->Nat}:∀{n:Nat},(∀i,i<n->z i=y i)->val n z=val n y
 |0,_=>rfl
 |n+1,h=>by rw[val,val,val_congr fun i hi=>h i aa,h n aa]
theorem oJ {z:Nat->Nat} {k:Nat}:∀{n:Nat},k<=n->(∀i,k<=i->i<n->z i=0)->val n z=val k z
 |0,h,_=>by
    have:k=0:=aa
    subst this;rfl
 |n+1,h,hz=>by
  by_cases hk:k=n+1
  ·subst hk;rfl
  ·rw[val,oJ (n:=n) aa fun i h1 h2=>hz i h1 aa,hz n aa aa]
   simp
theorem qb {z:Nat->Nat}:∀{n i:Nat},(∀j,j<n->z j<2^32)->i<n->aF (val n z) i=z i
 |0,i,_,hi=>aa
 |n+1,i,h,hi=>by
  unfold aF
  rw[val]
  by_cases he:i=n
  ·subst he
   have:=gp (z:=z) (n:=i) fun j hj=>h j aa
   rw[Nat.add_mul_div_right _ _ (Nat.two_pow_pos _),Nat.div_eq_of_lt this,Nat.zero_add]
   exact Nat.mod_eq_of_lt (h i aa)
  ·have ih:=qb (z:=z) (n:=n) (i:=i) (fun j hj=>h j aa) aa
   unfold aF at ih
   have e:2^(32*n)=2^32*2^(32*(n-i-1))*2^(32*i):=by
    rw[<-Nat.pow_add,<-Nat.pow_add];congr 1;omega
   rw[e,<-Nat.mul_assoc,Nat.add_mul_div_right _ _ (Nat.two_pow_pos _),<-ih]
   rw[show z n*(2^32*2^(32*(n-i-1)))=2^32*(z n*2^(32*(n-i-1))) by
    rw[<-Nat.mul_assoc,Nat.mul_comm (z n),Nat.mul_assoc]]
   rw[Nat.add_mul_mod_self_left]
theorem dL {N i:Nat}:aF N i<2^32:=Nat.mod_lt _ (by decide)
theorem MS {N:Nat}:∀{n:Nat},val n (aF N)=N%2^(32*n)
 |0=>by simp[val,Nat.mod_one]
 |n+1=>by
  rw[val,MS,aF]
  have e:2^(32*(n+1))=2^(32*n)*2^32:=by rw[<-Nat.pow_add];congr 1
  rw[e,Nat.mod_mul,Nat.mul_comm (2^(32*n))]
theorem qN {N n:Nat} (h:N<2^(32*n)):val n (aF N)=N:=by rw[MS,Nat.mod_eq_of_lt h]
theorem dF {N n:Nat}:nl N<=n↔N<2^(32*n):=by
 unfold nl
 by_cases h:N=0
 ·subst h;simp[Nat.two_pow_pos]
 ·rw[if_neg h]
  rw[<-Nat.log2_lt h]
  omega
theorem oE {N:Nat}:N<2^(32*nl N):=dF.1 aY
theorem gA {N:Nat}:val (nl N) (aF N)=N:=qN oE
theorem Xa {z:Nat->Nat} {n:Nat} (h0:0<n) (h:z (n-1)≠0):2^(32*(n-1))<=val n z:=by
 obtain⟨m,rfl⟩:∃m,n=m+1:=⟨n-1,aa⟩
 rw[val]
 simp only[Nat.add_sub_cancel]at h ⊢
 have:1*2^(32*m)<=z m*2^(32*m):=Nat.mul_le_mul_right _ aa
 omega
theorem Eg {z:Nat->Nat} {n:Nat} (hz:∀i,i<n->z i<2^32) (h:n=0\/z (n-1)≠0):nl (val n z)=n:=by
 rcases Nat.eq_zero_or_pos n with rfl|h0
 ·simp[val,nl]
 ·have h1:nl (val n z)<=n:=dF.2 (gp hz)
  have h2:¬nl (val n z)<=n-1:=by
   rw[dF]
   have:=Xa h0 (h.resolve_left aa)
   omega
  omega
theorem E8 {N:Nat} (h:N≠0):aF N (nl N-1)≠0:=by
 intro h0
 have hn:0<nl N:=by unfold nl;rw[if_neg h];omega
 have h1:val (nl N) (aF N)=val (nl N-1) (aF N):=oJ aa fun i h1 h2=>by
  have:i=nl N-1:=aa
  rw[this,h0]
 rw[gA]at h1
 have h3:N<2^(32*(nl N-1)):=by
  exact Nat.lt_of_le_of_lt (Nat.le_of_eq h1) (gp (z:=aF N) (n:=nl N-1) fun i _=>dL)
 have h2:nl N<=nl N-1:=dF.2 h3
 omega
theorem gJ {N:Nat}:0<nl N↔N≠0:=by
 unfold nl
 split<;>simp_all
theorem iH {a b:Nat} (h:a<=b):nl a<=nl b:=dF.2 (Nat.lt_of_le_of_lt h oE)
theorem wrap_i64 {x:Int} (h1:-2^63<=x) (h2:x<2^63):IntKind.i64.wrap x=x:=by
 simp[IntKind.wrap,IntKind.bits,IntKind.signed];omega
theorem cu {x:Int} (h1:0<=x) (h2:x<2^64):IntKind.u64.wrap x=x:=by
 simp[IntKind.wrap,IntKind.bits,IntKind.signed];omega
theorem pP {x:Int}:IntKind.u64.wrap x=x%2^64:=by
 simp[IntKind.wrap,IntKind.bits,IntKind.signed]
theorem mw {x:Int}:IntKind.u32.wrap x=x%2^32:=by
 simp[IntKind.wrap,IntKind.bits,IntKind.signed]
theorem wrap_u32 {x:Int} (h1:0<=x) (h2:x<2^32):IntKind.u32.wrap x=x:=by
 rw[mw];omega
theorem AS {x:Nat}:IntKind.u64.wrap (x:Int)=(x%2^64:Nat):=by
 rw[pP];omega
theorem j3 {x:Nat}:IntKind.u32.wrap (x:Int)=(x%2^32:Nat):=by
 rw[mw];omega
theorem vW {a b:Nat} (ha:a<2^64) (hb:b<2^64):
  IntKind.u64.wrap ((BitVec.ofInt IntKind.u64.bits (a:Int)|||BitVec.ofInt IntKind.u64.bits (b:Int)).toNat:Int)=((a|||b:Nat):Int):=by
 have e:(BitVec.ofInt IntKind.u64.bits (a:Int)|||BitVec.ofInt IntKind.u64.bits (b:Int)).toNat=a|||b:=by
  rw[BitVec.toNat_or,BitVec.ofInt_natCast,BitVec.ofInt_natCast,BitVec.toNat_ofNat,BitVec.toNat_ofNat]
  rw[show IntKind.u64.bits=64 from rfl,Nat.mod_eq_of_lt ha,Nat.mod_eq_of_lt hb]
 rw[e]
 have:a|||b<2^64:=Nat.or_lt_two_pow ha hb
 exact cu aa aa
theorem alD {a b:Nat} (ha:a<2^64) (hb:b<2^64):
  IntKind.u64.wrap ((BitVec.ofInt IntKind.u64.bits (a:Int)&&&BitVec.ofInt IntKind.u64.bits (b:Int)).toNat:Int)=((a&&&b:Nat):Int):=by
 have e:(BitVec.ofInt IntKind.u64.bits (a:Int)&&&BitVec.ofInt IntKind.u64.bits (b:Int)).toNat=a&&&b:=by
  rw[BitVec.toNat_and,BitVec.ofInt_natCast,BitVec.ofInt_natCast,BitVec.toNat_ofNat,BitVec.toNat_ofNat]
  rw[show IntKind.u64.bits=64 from rfl,Nat.mod_eq_of_lt ha,Nat.mod_eq_of_lt hb]
 rw[e]
 have:a&&&b<2^64:=Nat.and_lt_two_pow a hb
 exact cu aa aa
theorem sn {a b i:Nat} (h:b<2^i):a*2^i|||b=a*2^i+b:=by
 rw[<-Nat.shiftLeft_eq,<-Nat.shiftLeft_add_eq_or_of_lt h]
theorem mM {x:Int}:x.fdiv (2^min (Int.toNat 32) IntKind.u64.bits)=x/4294967296:=by
 have:min (Int.toNat 32) IntKind.u64.bits=32:=rfl
 rw[this,Int.fdiv_eq_ediv_of_nonneg _ (by decide)]
 rfl
theorem Hw {x:Int}:x.fdiv (2^min (Int.toNat 63) IntKind.u64.bits)=x/9223372036854775808:=by
 have:min (Int.toNat 63) IntKind.u64.bits=63:=rfl
 rw[this,Int.fdiv_eq_ediv_of_nonneg _ (by decide)]
 rfl
theorem Bx {x:Int}:x*2^min (Int.toNat 32) IntKind.u64.bits=x*4294967296:=by
 have:min (Int.toNat 32) IntKind.u64.bits=32:=rfl
 rw[this];rfl
theorem IS {B c z y v t s:Nat} (hs:s=c+z+y) (h:v+c*B=t):v+s%4294967296*B+s/4294967296*(4294967296*B)=t+z*B+y*B:=by
 have h1:=Nat.div_add_mod s 4294967296
 generalize s/4294967296=q at*
 generalize s%4294967296=r at*
 subst h1 h
 have:c*B+z*B+y*B=(4294967296*q+r)*B:=by rw[<-Nat.add_mul,<-Nat.add_mul,hs]
 grind
theorem iG {i:Nat}:2^(32*(i+1))=4294967296*2^(32*i):=by
 rw[show 32*(i+1)=32+32*i by omega,Nat.pow_add]
open AV
def numOf (v:AV):Nat:=match v with
 |.int _ z=>z.toNat
 |_=>0
def ek (n:Nat) (f:Nat->AV):Prop:=∀i,i<n->∃z:Nat,z<2^32/\f i=.int .u32 z
theorem JI {z:Nat->Nat} {i:Nat}:numOf (aD z i)=z i:=by simp[numOf,aD]
theorem kg {n:Nat} {z:Nat->Nat}:(val n fun i=>numOf (aD z i))=val n z:=val_congr fun _ _=>JI
theorem gF {n:Nat} {z:Nat->Nat} (h:∀i,i<n->z i<2^32):ek n (aD z):=fun i hi=>⟨z i,h i hi,rfl⟩
def tI:AV->Option (Nat×Nat×List Prop)
 |.mag N=>some (N,nl N,[])
 |.nil=>some (0,0,[])
 |.aq es n f=>if es==1 then some (val n fun i=>numOf (f i),n,[ek n f])else none
 |_=>none
theorem y8 {a:AV} {N n:Nat} {q:List Prop} (h:tI a=some (N,n,q)) (hq:aA q):∃z:Nat->Nat,(∀i,i<n->z i<2^32)/\val n z=N/\bN a (.aq 1 n (aD z)):=by
 cases a<;>simp only[tI,reduceCtorEq,az,Prod.mk.injEq]at h
 case mag M=>
  obtain⟨rfl,rfl,rfl⟩:=h
  exact⟨aF M,fun i _=>dL,gA,Qj rfl fun i _=>rfl⟩
 case nil=>
  obtain⟨rfl,rfl,rfl⟩:=h
  exact⟨fun _=>0,fun i hi=>aa,rfl,ic aa⟩
 case aq es m f=>
  split at h
  ·rename_i he
   simp only[az,Prod.mk.injEq]at h
   obtain⟨rfl,rfl,rfl⟩:=h
   have hq:ek m f:=hq
   have he:es=1:=by simpa using he
   subst he
   refine⟨fun i=>numOf (f i),fun i hi=>?_,rfl,nv rfl fun i hi=>?_⟩
   ·obtain⟨z,h1,h2⟩:=hq i hi
    simp only[h2,numOf];omega
   ·obtain⟨z,h1,h2⟩:=hq i hi
    simp[h2,numOf,aD]
  ·simp at h
def mQ (g:Nat->Nat->dz):List AV->Option dz
 |[a]=>match tI a with
  |some (N,n,q)=>some ⟨(g N n).res,[],q++(g N n).iI⟩
  |none=>none
 |_=>none
def iN (g:Nat->Nat->Nat->Nat->dz):List AV->Option dz
 |[a,b]=>match tI a,tI b with
  |some (A,n,p),some (B,m,q)=>some ⟨(g A n B m).res,[],p++(q++(g A n B m).iI)⟩
  |_,_=>none
 |_=>none
def BJ (g:Nat->Nat->Int->dz):List AV->Option dz
 |[a,.int .u32 k]=>match tI a with
  |some (N,n,q)=>some ⟨(g N n k).res,[],q++(g N n k).iI⟩
  |none=>none
 |_=>none
abbrev aJ (v:AV) (l:List Prop):dz:=⟨v,[],l⟩
section oks
variable {P:Program} {f:FuncId}
theorem uL {g:Nat->Nat->dz} (h:∀z n K,(∀i,i<n->z i<2^32)->(g (val n z) n).need->aQ P f K [.aq 1 n (aD z)] [] (aJ (g (val n z) n).res [])):
  ∀K args r,bI args=[]->mQ g args=some r->r.post=[]->aQ P f K args [] r:=by
 intro K args r hk hs _ need
 match args,hs with
 |[a],hs=>
  simp only[mQ]at hs
  split at hs
  ·rename_i N n q hn
   simp only[az]at hs
   subst hs
   obtain⟨n1,n2⟩:=dD.1 need
   obtain⟨z,hz,rfl,hle⟩:=y8 hn n1
   exact gZ (h z n K hz n2) hk ⟨hle,trivial⟩ [] trivial
  ·simp at hs
theorem anH {g:Nat->Nat->Int->dz} (h:∀z n i K,(∀i,i<n->z i<2^32)->(g (val n z) n i).need->aQ P f K [.aq 1 n (aD z),.int .u32 i] [] (aJ (g (val n z) n i).res [])):
  ∀K args r,bI args=[]->BJ g args=some r->r.post=[]->aQ P f K args [] r:=by
 intro K args r hk hs _ need
 unfold BJ at hs
 split at hs
 ·rename_i a i
  split at hs
  ·rename_i N n q hn
   simp only[az]at hs
   subst hs
   obtain⟨n1,n2⟩:=dD.1 need
   obtain⟨z,hz,rfl,hle⟩:=y8 hn n1
   exact gZ (h z n i K hz n2) hk ⟨hle,.refl _,trivial⟩ [] trivial
  ·simp at hs
 ·simp at hs
theorem uJ {g:Nat->Nat->Nat->Nat->dz} (h:∀z n y m K,(∀i,i<n->z i<2^32)->(∀i,i<m->y i<2^32)->(g (val n z) n (val m y) m).need->
   aQ P f K [.aq 1 n (aD z),.aq 1 m (aD y)] [] (aJ (g (val n z) n (val m y) m).res [])):
  ∀K args r,bI args=[]->iN g args=some r->r.post=[]->aQ P f K args [] r:=by
 intro K args r hk hs _ need
 match args,hs with
 |[a,b],hs=>
  simp only[iN]at hs
  split at hs
  ·rename_i N n q M m p hn hm
   simp only[az]at hs
   subst hs
   obtain⟨n1,n4⟩:=dD.1 need
   obtain⟨n2,n3⟩:=dD.1 n4
   obtain⟨z,hz,rfl,hle⟩:=y8 hn n1
   obtain⟨y,hy,rfl,hle2⟩:=y8 hm n2
   exact gZ (h z n y m K hz hy n3) hk ⟨hle,hle2,trivial⟩ [] trivial
  ·simp at hs
theorem bz {P:Program}:bu P []:=fun f s h=>by simp[look]at h
theorem aI {f:FuncId} {s:Spec} {Γ:bf} (h:∀K args pre r,s K args pre=some r->aQ P f K args pre r) (hΓ:bu P Γ):bu P ((f,s)::Γ):=by
 intro f' s' hl
 simp only[look]at hl
 split at hl
 ·rename_i he
  have:f=f':=by simpa using he
  subst this
  simp only[az]at hl
  subst hl
  exact h
 ·exact hΓ f' s' hl
end oks
def dh (a b:Nat):Int:=if a<b then-1 else if b<a then 1 else 0
def bQ (N:Nat):Nat:=if N=0 then 0 else N.log2+1
end Go.Am
namespace Go.Am
open AV
def mc (sl:List (Nat×AV)):List ResultVar->Option (List AV)
 |[]=>some []
 |.tmp t::l=>match look t sl,mc sl l with
  |some v,some m=>if v.isTuple then none else some (v::m)
  |_,_=>none
 |_=>none
def Ii (fn:Func) (sl:List (Nat×AV)):Option (List AV):=
 match mc sl fn.results.toList with
 |some us=>match bI us with
  |[]=>fh [] us
  |_=>none
 |none=>none
theorem Bp {s:aK} {t:Nat} {v:AV} (hv:v.isTuple=false):∀{ls:List Nat},look t (aB ls (kA s ls))=some v->look t s.cW=some v
 |[],h=>by simp[aB,look]at h
 |x::ls,h=>by
  simp only[kA,aB,look]at h
  split at h
  ·rename_i he
   have:x=t:=by simpa using he
   subst this
   simp only[az]at h
   subst h
   exact Sl hv
  ·exact Bp hv h
theorem I6 {T:Types} {s:aK} {ls:List Nat}:∀{l:List ResultVar} {us:List AV},mc (aB ls (kA s ls)) l=some us->g8 T s l=some (us,[])
 |[],us,h=>by simp only[mc,az]at h;subst h;rfl
 |.tmp t::l,us,h=>by
  simp only[mc]at h
  split at h
  ·rename_i v m hv hm
   split at h
   ·simp at h
   ·rename_i ht
    simp only[az]at h
    subst h
    simp only[g8,um,Bp (by simpa using ht) hv,I6 hm]
    simp[ht]
  ·simp at h
 |.cell _ _::_,us,h=>by simp[mc]at h
theorem gQ {T:Types} {fn:Func} {ls:List Nat} {vs us:List AV} {os:aE} {e:ax} {s':aK} {res:AV} (he:e=.normal\/e=.ret) (hv:bA ls s'=some (vs,os)) (hr:Ii fn (aB ls vs)=some us) (hres:fj us res):Fin T fn res e s':=by
 unfold bA at hv
 simp only[az,Prod.mk.injEq]at hv
 obtain⟨rfl,_⟩:=hv
 unfold Ii at hr
 split at hr
 ·rename_i rs hrs
  split at hr
  ·rename_i hk
   refine⟨he,rs,[],us,I6 hrs,trivial,?_,hres⟩
   rw[hk];exact hr
  ·simp at hr
 ·simp at hr
theorem Nw {P:Program} {f:FuncId} {K es n:Nat} {g:Nat->AV} {l:List AV} {r:dz} (h:∀b,(b=true->n=0)->aQ P f K (.dX b es n g::l) [] r):aQ P f K (.aq es n g::l) [] r:=by
 intro need
 refine⟨((h false fun h=>by simp at h) need).1,fun c D D' β w vs hw0 hMw hrel hD hK hv=>?_⟩
 match vs,hv with
 |x::xs,hv=>
  obtain⟨⟨cs,h1,h2⟩,h3⟩:=hv
  have:∃b,(b=true->n=0)/\bB (aO c [] β) w β (.dX b es n g) x:=by
   cases h1 with
   |aq g1 g2 g3 g4 g5 g6=>
    rename_i base cap cs' cf
    cases g6
    refine⟨base.isNone,fun hb=>?_,_,.dX rfl g1 g2 g3 g4 g5 .nil,h2⟩
    rcases g1 with g1|⟨b,o,rfl,_⟩
    ·exact g1
    ·simp at hb
  obtain⟨b,hb0,hb⟩:=this
  exact((h b hb0) need).2 c D D' β w (x::xs) hw0 hMw hrel hD hK ⟨hb,h3⟩
theorem Tw {z y:Nat->Nat} {k:Nat}:∀{n:Nat},k<n->(∀j,k<j->j<n->z j=y j)->z k<y k->(∀i,i<n->z i<2^32)->val n z<val n y
 |0,h,_,_,_=>aa
 |n+1,h,he,hk,hz=>by
  rw[val,val]
  by_cases hn:k=n
  ·subst hn
   have h1:=gp (z:=z) (n:=k) fun i hi=>hz i aa
   have h2:(z k+1)*2^(32*k)<=y k*2^(32*k):=Nat.mul_le_mul_right _ hk
   rw[Nat.add_mul,Nat.one_mul]at h2
   omega
  ·have:=Tw (n:=n) aa (fun j h1 h2=>he j h1 aa) hk fun i hi=>hz i aa
   rw[he n aa aa]
   omega
theorem JM {A B:Nat} (hn:nl A=nl B) (h:∀i,i<nl A->aF A i=aF B i):A=B:=by
 rw[<-gA (N:=A),<-gA (N:=B),<-hn]
 exact val_congr h
theorem FW {A B k:Nat} (hn:nl A=nl B) (hk:k<nl A) (h:∀j,k<j->j<nl A->aF A j=aF B j) (hlt:aF A k<aF B k):A<B:=by
 have:=Tw (z:=aF A) (y:=aF B) hk h hlt fun i _=>dL
 rw[gA,hn,gA]at this
 exact this
theorem BV {A B:Nat} (h:nl A<nl B):A<B:=by
 rcases Nat.lt_or_ge A B with h1|h1
 ·exact h1
 ·have:=iH h1;omega
theorem fS {ρ:Nat->Option Nat} {r w:Bool} {n m:Nat} {f:Nat->AV} {o:Nat->Nat} (hn:m=n) (h:∀j,j<n->f j=aD o j):dw ρ ⟨r,w,1,n,f⟩ ⟨r,w,1,m,aD o⟩:=
 jl hn fun j hj=>by rw[h j hj];exact gm rfl
def cH (o:Nat->Nat) (i x:Nat):Nat->Nat:=fun j=>if j=i then x else o j
theorem kY {o:Nat->Nat} {i x:Nat}:cH o i x i=x:=if_pos rfl
theorem ga {o:Nat->Nat} {i x j:Nat} (h:j≠i):cH o i x j=o j:=if_neg h
theorem iW {o:Nat->Nat} {i x b:Nat} {n:Nat} (hx:x<b) (ho:∀j,j<n->o j<b):∀j,j<n->cH o i x j<b:=fun j hj=>by
 unfold cH
 split
 ·exact hx
 ·exact ho j hj
theorem iu {o:Nat->Nat} {i x:Nat} {v:Int} (hv:v=(x:Nat)) (j:Nat):(if j=i then AV.int .u32 v else aD o j)=aD (cH o i x) j:=by
 unfold aD cH
 split
 ·rw[hv]
 ·rfl
theorem rS {o:Nat->Nat} {i x:Nat}:∀{n:Nat},i<n->o i=0->val n (cH o i x)=val n o+x*2^(32*i)
 |0,h,_=>aa
 |n+1,h,h0=>by
  rw[val,val]
  by_cases hn:i=n
  ·subst hn
   rw[kY,h0,val_congr (y:=o) fun j hj=>ga aa]
   omega
  ·rw[rS (n:=n) aa h0,ga aa]
   omega
theorem r7 {o:Nat->Nat} {i x:Nat}:val (i+1) (cH o i x)=val i o+x*2^(32*i):=by
 rw[val,kY,val_congr (y:=o) fun j hj=>ga aa]
theorem v5 {x k:Nat} (h:2^k<=x):bQ x=k+bQ (x/2^k):=by
 have hk:=Nat.two_pow_pos k
 have h0:x≠0:=aa
 have h1:x/2^k≠0:=by
  have:=(Nat.le_div_iff_mul_le hk (x:=1) (y:=x)).2 aa
  omega
 unfold bQ
 rw[if_neg h0,if_neg h1]
 have:x.log2=k+(x/2^k).log2:=by
  obtain⟨g1,g2⟩:=(Nat.log2_eq_iff h1).1 rfl
  rw[Nat.log2_eq_iff h0]
  refine⟨?_,?_⟩
  ·rw[Nat.pow_add,Nat.mul_comm]
   exact(Nat.le_div_iff_mul_le hk).1 g1
  ·rw[show k+(x/2^k).log2+1=((x/2^k).log2+1)+k by omega,Nat.pow_add]
   exact(Nat.div_lt_iff_lt_mul hk).1 g2
 omega
theorem jg {x k:Nat}:bQ x<=k↔x<2^k:=by
 unfold bQ
 split
 ·rename_i h;subst h;simp[Nat.two_pow_pos]
 ·rename_i h;rw[<-Nat.log2_lt h];omega
theorem UM {N:Nat} (h:N≠0):bQ N=32*(nl N-1)+bQ (aF N (nl N-1)):=by
 have hp:=gJ.2 h
 have h1:2^(32*(nl N-1))<=N:=by
  rcases Nat.lt_or_ge N (2^(32*(nl N-1)))with h1|h1
  ·have:=dF.2 h1;omega
  ·exact h1
 have h2:N/2^(32*(nl N-1))<2^32:=by
  rw[Nat.div_lt_iff_lt_mul (Nat.two_pow_pos _),<-Nat.pow_add]
  have:=oE (N:=N)
  rw[show 32+32*(nl N-1)=32*nl N by omega]
  exact this
 rw[v5 h1,aF,Nat.mod_eq_of_lt h2]
theorem Ih {o:Nat->Nat} {i x:Nat}:∀{n:Nat},i<n->val n (cH o i x)+o i*2^(32*i)=val n o+x*2^(32*i)
 |0,h=>aa
 |n+1,h=>by
  rw[val,val]
  by_cases hn:i=n
  ·subst hn
   rw[kY,val_congr (y:=o) fun j hj=>ga aa]
   omega
  ·have:=Ih (o:=o) (x:=x) (n:=n) (i:=i) aa
   rw[ga (show n≠i by omega)]
   omega
theorem au.qL {P:Program} {c:Ctx} {nt:Nat} {s:aK} {Q:ax->aK->Prop} {x y:Code} {i:Nat} (hx:x=.block i y) (h:au P c nt y s (inBlock i Q)):au P c nt x s Q:=hx▸.Q9 h
theorem SV {c x y o:Nat} (hc:c<2^32) (hx:x<2^32) (hy:y<2^32) (ho:o<2^32):
  IntKind.u64.wrap ((c:Int)+IntKind.u64.wrap (IntKind.u64.wrap (IntKind.u64.wrap (x:Int)*IntKind.u64.wrap (y:Int))+IntKind.u64.wrap (o:Int)))=((c+x*y+o:Nat):Int)/\
   c+x*y+o<2^64/\(c+x*y+o)/4294967296<2^32:=by
 have h1:x*y<=(2^32-1)*(2^32-1):=Nat.mul_le_mul aa aa
 have e:(x:Int)*(y:Int)=((x*y:Nat):Int):=by simp
 rw[cu (x:=(x:Int)) aa aa,cu (x:=(y:Int)) aa aa,cu (x:=(o:Int)) aa aa,e]
 generalize x*y=p at*
 refine⟨?_,aa,aa⟩
 rw[cu (x:=(p:Int)) aa aa,cu (x:=(p:Int)+o) aa aa,cu aa aa]
 omega
theorem QH {vo vo' oi c x yj B s q r v Bi Bj vy:Nat} (hs:s=c+x*yj+oi) (hq:4294967296*q+r=s) (hset:vo'+oi*B=vo+r*B) (hB:B=Bi*Bj) (h:vo+c*B=v+x*vy*Bi):
  vo'+q*(4294967296*B)=v+x*(vy+yj*Bj)*Bi:=by
 subst hB
 have e:(4294967296*q+r)*(Bi*Bj)=(c+x*yj+oi)*(Bi*Bj):=by rw[hq,hs]
 grind
theorem EO {P:Program} {f:FuncId} {K:Nat} {args:List AV} {u v:AV} {l l':List Prop} (hf:aQ P f K args [] ⟨u,[],l⟩) (hl:aA l'->aA l) (hk:keys u=[]) (ht:u.isTuple=false) (hle:bN u v):aQ P f K args [] ⟨v,[],l'⟩:=by
 intro need
 obtain⟨h1,h2⟩:=hf (hl need)
 refine⟨fun k o ho=>by simp[look]at ho,fun c D D' β w vs hw0 hMw hrel hD hK hv=>(h2 c D D' β w vs hw0 hMw hrel hD hK hv).mono ?_⟩
 rintro x w' ⟨β',g1,g2,g3⟩
 refine⟨β',g1,g2,?_⟩
 have h3:cI _ w' β' [u] [x]:=⟨bL.one g3 ht,trivial⟩
 have h4:=zM (us:=[u]) (vs:=[v]) ⟨hle,trivial⟩ (h3.bE (by rw[JD];exact hk))
 have h5:=h4.mono (fun b o h1 h2=>⟨h2,h1⟩) (β':=β') fun k x hx=>by simp[bE]at hx
 exact bB.bT h5.1
theorem Au {i:Nat} {Q:ax->aK->Prop} {s:aK} (h:Q .normal s):inBlock i Q (.exit i) s:=by
 simp only[inBlock,if_true];exact h
theorem fO {i:Nat} {k:aK->Prop} {Q:ax->aK->Prop} {s:aK} (h:Q .normal s):dM k (inBlock i Q) (.exit i) s:=by
 show inBlock i Q (.exit i) s
 exact Au h
theorem sY {i:Nat} {k:aK->Prop} {Q:ax->aK->Prop} {s:aK} (h:Q (.exit i) s):dM k Q (.exit i) s:=h
theorem Qt {i:Nat} {k:aK->Prop} {Q:ax->aK->Prop} {s:aK} (h:Q .ret s):dM k (inBlock i Q) .ret s:=h
theorem fM {k:aK->Prop} {Q:ax->aK->Prop} {s:aK} (h:Q .ret s):dM k Q .ret s:=h
theorem Ls {s:aK}:∀{a b:List Nat},kA s (a++b)=kA s a++kA s b
 |[],_=>rfl
 |x::a,b=>by simp only[List.cons_append,kA,Ls]
theorem Jp {s:aK}:∀{a:List Nat},(kA s a).length=a.length
 |[]=>rfl
 |x::a=>by simp only[kA,List.length_cons,Jp]
theorem Nl {a b:List AV}:bI (a++b)=bI a++bI b:=by
 induction a with
 |nil=>rfl
 |cons x a ih=>simp only[List.cons_append,bI,ih,List.append_assoc]
theorem jx {s:aK} {ls l:List Nat} {vs us:List AV} {os:aE} (hv:bA (ls++l) s=some (vs++us,os)) (hl:vs.length=ls.length) (hk:bI us=[]):bA ls s=some (vs,os):=by
 unfold bA at hv ⊢
 simp only[az,Prod.mk.injEq,Ls]at hv ⊢
 obtain⟨h1,h2⟩:=hv
 obtain⟨h3,h4⟩:=List.append_inj h1 (by rw[Jp,hl])
 subst h3
 refine⟨rfl,?_⟩
 rw[<-h2,h4,Nl,hk,List.append_nil]
mutual
def zeroCells:AV->Option (List Value)
 |.bool b=>some [.bool b]
 |.int k n=>some [.int k n]
 |.nil=>some [.slice none 0 0]
 |.rat q n=>if q=0/\n=1 then some [.bool false,.slice none 0 0,.slice none 0 0]else none
 |.agg l=>wK l
 |_=>none
def wK:List AV->Option (List Value)
 |[]=>some []
 |a::l=>match zeroCells a,wK l with
  |some c,some d=>some (c++d)
  |_,_=>none
end
mutual
theorem Jy {M:Nat->Prop} {w:World} {β:bg}:∀{v:AV} {cs:List Value},zeroCells v=some cs->aN M w β [v] cs
 |.bool b,cs,h=>by simp only[zeroCells,az]at h;subst h;exact .bool .nil
 |.int k n,cs,h=>by simp only[zeroCells,az]at h;subst h;exact .int .nil
 |.nil,cs,h=>by simp only[zeroCells,az]at h;subst h;exact .vnil .nil
 |.rat q n,cs,h=>by
  simp only[zeroCells]at h
  split at h
  ·rename_i hq
   obtain⟨rfl,rfl⟩:=hq
   simp only[az]at h
   subst h
   have h0:aN M w bE [.mag 0] [.slice none 0 0]:=by
    have:=aN.mag (M:=M) (w:=w) (β:=bE) (N:=0) (base:=none) (cap:=0) (.inl rfl) (by simp[vf]) .nil
    simpa [vf]using this
   have:=aN.rat (M:=M) (w:=w) (β:=β) (q:=0) (n:=1) (x:=.slice none 0 0) (y:=.slice none 0 0) (l:=[]) (cs:=[]) ⟨by decide,by decide⟩ (by simpa using h0) (by simpa using h0) .nil
   simpa using this
  ·simp at h
 |.agg l,cs,h=>by
  simp only[zeroCells]at h
  simpa using aN.agg (Ng h) .nil
 |.mag _,cs,h=>by simp[zeroCells]at h
 |.aq _ _ _,cs,h=>by simp[zeroCells]at h
 |.dX _ _ _ _,cs,h=>by simp[zeroCells]at h
 |.b6 _,cs,h=>by simp[zeroCells]at h
 |.ptr _ _ _ _ _,cs,h=>by simp[zeroCells]at h
 |.own _ _ _ _,cs,h=>by simp[zeroCells]at h
 |.func _ _,cs,h=>by simp[zeroCells]at h
 |.tuple _,cs,h=>by simp[zeroCells]at h
 |.bM _ _,cs,h=>by simp[zeroCells]at h
theorem Ng {M:Nat->Prop} {w:World} {β:bg}:∀{l:List AV} {cs:List Value},wK l=some cs->aN M w β l cs
 |[],cs,h=>by simp only[wK,az]at h;subst h;exact .nil
 |a::l,cs,h=>by
  simp only[wK]at h
  cases ha:zeroCells a with
  |none=>rw[ha]at h;simp at h
  |some c=>
   cases hl:wK l with
   |none=>rw[ha,hl]at h;simp at h
   |some d=>
    rw[ha,hl]at h
    simp only[az]at h
    subst h
    exact(Jy ha).cons (Ng hl)
end
def JZ (v:AV):Option Value:=
 match zeroCells v with
 |some cs=>if v.isAgg then some (.agg cs.toArray)else match cs with
  |[x]=>some x
  |_=>none
 |none=>none
theorem de {P:Program} {t:TypeId} {ti:TI} (h1:P.underlying t=some ti.desc) (h2:(P.info? t).map (fun i=>(i.size,i.bytes,i.zero))=some (ti.size,ti.bytes,JZ ti.zero))
  (h3:(JZ ti.zero).isSome=true):b9 P t ti:=by
 cases hi:P.info? t with
 |none=>rw[hi]at h2;simp at h2
 |some i=>
  rw[hi]at h2
  simp only[Option.map_some,az,Prod.mk.injEq]at h2
  refine⟨h1,⟨i,hi,h2.1,h2.2.1⟩,fun _=>?_⟩
  obtain⟨z,hz⟩:=Option.isSome_iff_exists.1 h3
  refine⟨i,z,hi,by rw[h2.2.2,hz],fun M w β=>?_⟩
  unfold JZ at hz
  cases hc:zeroCells ti.zero with
  |none=>rw[hc]at hz;simp at hz
  |some cs=>
   rw[hc]at hz
   simp only at hz
   split at hz
   ·rename_i ha
    simp only[az]at hz
    subst hz
    exact .D4 (Jy hc) ha
   ·rename_i ha
    split at hz
    ·simp only[az]at hz
     subst hz
     exact .cy (Jy hc) (by simpa using ha)
    ·simp at hz
theorem jT {P:Program} {t:TypeId} {ti:TI} (h1:P.underlying t=some ti.desc) (h2:(P.info? t).map (fun i=>(i.size,i.bytes))=some (ti.size,ti.bytes)) (h3:ti.zero=.tuple []):b9 P t ti:=by
 cases hi:P.info? t with
 |none=>rw[hi]at h2;simp at h2
 |some i=>
  rw[hi]at h2
  simp only[Option.map_some,az,Prod.mk.injEq]at h2
  exact⟨h1,⟨i,hi,h2.1,h2.2⟩,fun h=>by rw[h3]at h;simp[isTuple]at h⟩
theorem afK {P:Program} {t:TypeId} {ti:TI} (h1:P.underlying t=some ti.desc) (h2:(P.info? t).map (fun i=>(i.size,i.bytes,i.zero))=some (ti.size,ti.bytes,some .nilFunc)) (h3:ti.zero=.void):b9 P t ti:=by
 cases hi:P.info? t with
 |none=>rw[hi]at h2;simp at h2
 |some i=>
  rw[hi]at h2
  simp only[Option.map_some,az,Prod.mk.injEq]at h2
  refine⟨h1,⟨i,hi,h2.1,h2.2.1⟩,fun _=>⟨i,.nilFunc,hi,h2.2.2,fun M w β=>?_⟩⟩
  rw[h3]
  exact⟨[.nilFunc],.void rfl .nil,.inr ⟨rfl,rfl⟩⟩
theorem aoZ {P:Program}:ep P []:=fun t ti h=>by simp[look]at h
theorem cm {P:Program} {t:TypeId} {ti:TI} {T:Types} (h:b9 P t ti) (hT:ep P T):ep P ((t,ti)::T):=by
 intro t' ti' ht
 simp only[look]at ht
 split at ht
 ·rename_i he
  have:t=t':=by simpa using he
  subst this
  simp only[az]at ht
  subst ht
  exact h
 ·exact hT t' ti' ht
end Go.Am
namespace Go.Am
open AV
theorem cI.length {M:Nat->Prop} {w:World} {β:bg}:∀{us:List AV} {xs:List Value},cI M w β us xs->us.length=xs.length
 |[],[],_=>rfl
 |_::_,_::_,h=>by simp[cI.length h.2]
 |[],_::_,h=>h.elim
 |_::_,[],h=>h.elim
theorem cI.weak {c c':Ctx} {β β2:bg} {w:World} {ρ:Nat->Option Nat} {M M':Nat->Prop} (hM:∀b,M' b->M b) (hβ:∀k2 k1,ρ k2=some k1->β2 k2=β k1):∀{us vs:List AV} {xs:List Value},fY ρ us vs->cI M w β us xs->cI M' w β2 vs xs
 |[],[],[],_,_=>trivial
 |u::us,v::vs,x::xs,h,hv=>⟨hv.1.weak hM hβ h.1.2,cI.weak (c:=c) (c':=c') hM hβ h.2 hv.2⟩
 |[],_::_,_,h,_=>h.elim
 |_::_,[],_,h,_=>h.elim
 |_::_,_::_,[],_,h=>h.elim
 |[],[],_::_,_,h=>h.elim
theorem ahY {nx:Nat} {rl:List (Nat×Nat)} (hr:iQ nx rl=true):∀a b k,bp rl a=some k->bp rl b=some k->a=b:=by
 intro a b k ha hb
 have:=List.all_eq_true.1 hr _ (rR ha)
 simp only[Bool.and_eq_true,bq]at this
 simpa using List.all_eq_true.1 this.2 _ (rR hb)
theorem Ur {nx:Nat} {rl:List (Nat×Nat)} (hr:iQ nx rl=true) {a k:Nat} (ha:bp rl a=some k):a<nx:=by
 have:=List.all_eq_true.1 hr _ (rR ha)
 simp only[Bool.and_eq_true,bq]at this
 exact this.1
theorem Wg {M:Nat->Prop} {w:World} {β:bg} {us:List AV} {xs:List Value} (h:cI M w β us xs):bL M w β (jh us) (if h:xs.length=1 then xs.toArray[0]'(by simpa using(show 0<xs.length by omega))else .tuple xs.toArray):=by
 have hl:=h.length
 match us,xs,h,hl with
 |[],[],_,_=>exact⟨[],rfl,trivial⟩
 |[u],[x],h,_=>exact h.1.bT
 |u::u'::us,x::x'::xs,h,_=>simp only[List.length_cons,Nat.add_eq_right,Nat.add_eq_zero_iff,Nat.succ_ne_zero,and_false,dite_false];exact⟨_,rfl,h⟩
section core
variable {P:Program} {T:Types}
structure EY (T:Types) (fn:Func) (τ:Nat->Option Nat) (pre:aE) (r:dz) (s:aK):Prop where
 ends:Ends T fn r.res s
 Ju:∀k o,look k (cQ (fz r.post) pre)=some o->∃k1 o1,τ k=some k1/\look k1 s.store=some o1/\o1.row=false/\dw τ o1 o
structure wT (T:Types) (fn:Func) (τ:Nat->Option Nat) (pre:aE) (r:dz) (s:aK):Prop where
 ends:∃vs q us,g8 T s fn.results.toList=some (vs,q)/\aA q/\fY τ vs us/\r.res=jh us
 Ju:∀k o,look k (cQ (fz r.post) pre)=some o->∃k1 o1,τ k=some k1/\look k1 s.store=some o1/\dw τ o1 o
structure v8 (rl:List (Nat×Nat)) (K:Nat) (pre:aE) (τ:Nat->Option Nat):Prop where
 inj:∀a b k,τ a=some k->τ b=some k->a=b
 dom:∀k a,τ k=some a->bp rl a=some k\/(K<=k/\k<K+cY)
theorem XJ (hT:ep P T) {f:FuncId} {fn:Func} {x:Code} (hf:aT P f fn x) {args args0:List AV} {pre pre0:aE} {r:dz} {K nx:Nat} (rl:List (Nat×Nat)) (hlen:args0.length<=fn.ntmps) (hr:iQ nx rl=true)
  (ha:fY (bp rl) args args0) (hp:oH (bp rl) pre pre0) (hrl:∀a k,bp rl a=some k->∃o,look k pre=some o)
  (hpost:∀k o,look k r.post=some o->(∃o',look k pre=some o')\/(K<=k/\k<K+cY))
  (h:r.need->∀c:Ctx,c.ro=none->(∀k x,c.k0 k=some x->(bp rl k).isSome=true)->au P c fn.ntmps x ⟨aP 0 args0,pre0,nx⟩ fun e s'=>(e=.normal\/e=.ret)/\∃τ,v8 rl K pre τ/\(EY T fn τ pre r s'\/wT T fn τ pre r s')):aQ P f K args pre r:=by
 intro need
 refine⟨hpost,fun c D D' β w vs hw0 hMw hrel hD hK hv=>.inl ⟨fn,hf.get,hf.name,by simp[hf.body],?_⟩⟩
 have hobj0:=Fz hp
 have hβ0:∀k2 k1,bp rl k2=some k1->(fun a=>(bp rl a).bind β) k2=β k1:=fun k2 k1 h=>by simp[h]
 have hW:bF {c with k0:=fun a=>(bp rl a).bind β,ro:=none} pre0 (fun k=>k<nx) (fun a=>(bp rl a).bind β) w:=by
  refine hrel.weak (c':={c with k0:=fun a=>(bp rl a).bind β,ro:=none}) (ρ:=bp rl) rfl rfl rfl (ahY hr) (fun k o h=>.inl (hobj0 k o h)) hβ0 (fun k2 k1 h=>Ur hr h) (fun k2 x hk=>?_) (fun k2 b N hk=>?_) (fun k x hk=>hk)
  ·cases h1:bp rl k2 with
   |none=>simp[h1]at hk
   |some k1=>exact Ur hr h1
  ·cases h1:bp rl k2 with
   |none=>simp[h1]at hk
   |some k1=>simp[h1]at hk;exact hrel.lt k1 b N hk
 have hv0:cI (aO {c with k0:=fun a=>(bp rl a).bind β,ro:=none} pre0 (fun a=>(bp rl a).bind β)) w (fun a=>(bp rl a).bind β) args0 vs:=
  hv.weak (c:=c) (c':=c) (ρ:=bp rl) (GX rfl (fun k o h=>.inl (hobj0 k o h)) hβ0) hβ0 ha
 have hl0:=hv0.length
 have hstart:Rel {c with k0:=fun a=>(bp rl a).bind β,ro:=none} fn.ntmps (fun k=>k<nx) (aP 0 args0) pre0 {tmps:=vs.toArray++Array.replicate (fn.ntmps-vs.toArray.size) undef,defers:=[]} w:=by
  refine⟨.nil,by simp;omega,_,hW,?_⟩
  have:=LJ (pre:=#[]) (post:=Array.replicate (fn.ntmps-vs.toArray.size) undef) hv0 rfl
  simpa using this
 refine callsIn_wide.1 (callsIn_of_wp_marks (F:=Fence.wide) (n:=3) hf.get hf.body trivial (wpIn_mono (h need {c with k0:=fun a=>(bp rl a).bind β,ro:=none} rfl (fun k x hk=>by
  cases h1:bp rl k with
  |none=>simp[h1]at hk
  |some k1=>rfl) _ w hstart) ?_))
 rintro e a' w9 ⟨ae,s',rfl,hr9,hex,τ,hτ,hends⟩
 obtain⟨w',hr',hleave⟩:=Rel.leave (P:=P) (fn:=fn) (R:=fun e w'=>∃x,e=.returned x/\eU c pre D' β w (fz r.post) r.res x w') hr9
 -- what the end gives, in the function's own keys
 have hfin:∃x β1 st1,(results fn a'.tmps).run P w'=.ok x w'/\bF {c with k0:=fun a=>(bp rl a).bind β,ro:=none} st1 (fun k=>k<s'.next) β1 w'/\
   (∀k o,look k (cQ (fz r.post) pre)=some o->∃k1 o1,τ k=some k1/\look k1 st1=some o1/\dw τ o1 o)/\
   bL (aO {c with k0:=fun a=>(bp rl a).bind β,ro:=none} st1 β1) w' (fun k=>(τ k).bind β1) r.res x:=by
  rcases hends with hends|hends
  ·obtain⟨hdef,x,β1,st1,hrun,hw1,hvx,hrow⟩:=SF hT hends.ends hr'
   refine⟨x,β1,st1,hrun,hw1,fun k o hk=>?_,hvx.mono (fun b o h1 h2=>⟨h2,h1⟩) fun k x hk=>by simp[bE]at hk⟩
   obtain⟨k1,o1,g1,g2,g3,g4⟩:=hends.Ju k o hk
   exact⟨k1,o1,g1,hrow k1 o1 g2 g3,g4⟩
  ·obtain⟨a1,a2,β1,a3,a4⟩:=hr'
   obtain⟨vs1,q,us,h1,hq,h2,h3⟩:=hends.ends
   obtain⟨xs,hxs,hv,hlen⟩:=KC hT a3 a4 (g:=fun x=>match x with
    |ResultVar.tmp t=>pure (a'.tmps.getD t undef)
    |ResultVar.cell r t=>do let y <-asAddr (a'.tmps.getD r undef);loadVar t y) (fun _=>rfl) (fun _ _=>rfl) h1 hq
   refine⟨if h:xs.length=1 then xs.toArray[0]'(by simpa using(show 0<xs.length by omega))else .tuple xs.toArray,β1,s'.store,?_,a3,hends.Ju,?_⟩
   ·have key:results fn a'.tmps=(do
      let vs <-fn.results.mapM fun x=>match x with
       |ResultVar.tmp t=>pure (a'.tmps.getD t undef)
       |ResultVar.cell r t=>do let y <-asAddr (a'.tmps.getD r undef);loadVar t y
      pure (if h:vs.size=1 then vs[0]else Value.tuple vs)):=rfl
    rw[key,Sem.run_bind,Array.mapM_eq_mapM_toList,Sem.run_map,hxs]
    simp only[Result.andThen_ok,Sem.run_pure]
    congr 1
   ·rw[h3]
    exact Wg (hv.weak (c:=c) (c':=c) (ρ:=τ) (fun _ h=>h) (fun k2 k1 h=>by simp[h]) h2)
 obtain⟨x,β1,st1,hrun,hw1,hobj1,hvx⟩:=hfin
 have hkeep1:∀k a,τ k=some a->∀y,β k=some y->β1 a=some y:=by
  intro k a hka y hy
  rcases hτ.dom k a hka with h1|⟨h1,h2⟩
  ·exact hw1.keep a y (by simp only[h1,Option.bind_some];exact hy)
  ·exact absurd (hrel.dom k y hy) (hK k h1 h2).1
 have hβ2:∀k2 k1,τ k2=some k1->(fun k=>match τ k with
   |some a=>β1 a
   |none=>β k) k2=β1 k1:=fun k2 k1 h=>by simp[h]
 have hW2:bF c (cQ (fz r.post) pre) D' (fun k=>match τ k with
   |some a=>β1 a
   |none=>β k) w':=by
  have hd2:∀k2 a,τ k2=some a->D' k2:=fun k2 a ha=>by
   rcases hτ.dom k2 a ha with h1|⟨h1,h2⟩
   ·obtain⟨o,ho⟩:=hrl a k2 h1
    cases hb:β k2 with
    |some x=>exact hD _ (hrel.dom k2 _ hb)
    |none=>exact hD _ (hrel.dJ k2 o ho hb).2
   ·exact(hK k2 h1 h2).2
  refine hw1.weak (c':=c) (ρ:=τ) rfl rfl rfl hτ.inj (fun k o h=>.inl (hobj1 k o h)) hβ2 hd2 (fun k2 y hk=>?_) (fun k2 b N hk=>?_) (fun k y hk=>?_)
  ·split at hk
   ·rename_i a ha
    exact hd2 k2 a ha
   ·exact hD _ (hrel.dom k2 y hk)
  ·split at hk
   ·exact hw1.lt _ b N hk
   ·exact Nat.lt_of_lt_of_le (hrel.lt k2 b N hk) (by have:=hw1.size;rw[<-hw0];exact this)
  ·have hy:=hrel.keep k y hk
   split
   ·rename_i a ha
    exact hkeep1 k a ha y hy
   ·exact hy
 have hO:eU c pre D' β w (fz r.post) r.res x w':=by
  refine⟨_,hW2,⟨fun b o hb ho=>?_,fun k y hk=>?_⟩,?_⟩
  ·have hlt:b<c.w0.heap.size:=by rw[hw0];exact AP ho
   have hmw:¬c.Mw b:=fun hm=>hb (hMw b hm)
   refine⟨?_,?_⟩
   ·rw[hw1.block b hlt hmw]
    show c.w0.heap[b]?=_
    rw[hw0];exact ho
   ·rintro(hm|⟨k,o',N,h1,h2,h3⟩)
    ·exact hb (.inl hm)
    ·rcases hW2.new k o' b N h1 h2 h3 with h4|h4
     ·omega
     ·exact hmw h4
  ·split
   ·rename_i a ha
    exact hkeep1 k a ha y hk
   ·exact hk
  ·refine hvx.mono (fun b o h1 h2=>⟨h2,fun h3=>h1 (GX (c:={c with k0:=fun a=>(bp rl a).bind β,ro:=none}) rfl (fun k o h=>.inl (hobj1 k o h)) hβ2 b h3)⟩) (fun k y hk=>?_)
   cases h1:τ k with
   |none=>simp[h1]at hk
   |some a=>simpa [h1]using hk
 rcases hex with rfl|rfl
 ·exact hleave x hrun ⟨x,rfl,hO⟩
 ·exact hleave x hrun ⟨x,rfl,hO⟩
theorem oe (hT:ep P T) {f:FuncId} {fn:Func} {x:Code} (hf:aT P f fn x) {args args0:List AV} {pre pre0:aE} {r:dz} {K nx:Nat} (rl:List (Nat×Nat)) (hlen:args0.length<=fn.ntmps) (hr:iQ nx rl=true)
  (ha:fY (bp rl) args args0) (hp:oH (bp rl) pre pre0) (hrl:∀a k,bp rl a=some k->∃o,look k pre=some o)
  (hpost:∀k o,look k r.post=some o->(∃o',look k pre=some o')\/(K<=k/\k<K+cY))
  (h:r.need->∀c:Ctx,(∀k x,c.k0 k=some x->(bp rl k).isSome=true)->au P c fn.ntmps x ⟨aP 0 args0,pre0,nx⟩ fun e s'=>(e=.normal\/e=.ret)/\∃τ,v8 rl K pre τ/\(EY T fn τ pre r s'\/wT T fn τ pre r s')):aQ P f K args pre r:=
 XJ hT hf rl hlen hr ha hp hrl hpost fun need c _=>h need c
end core
def ko (nx:Nat) (vs:List AV):Bool:=(vs.all fun v=>!v.isTuple)&&(bI vs).all fun k=>decide (k<nx)
def iB (nx:Nat):aE->Prop
 |[]=>True
 |(k,o)::l=>(k<nx/\∀i,i<o.len->keys (o.f i)=[])/\iB nx l
theorem Q8 {nx:Nat}:∀{os:aE},iB nx os->∀{k:Nat} {o:ak},look k os=some o->k<nx/\∀i,i<o.len->keys (o.f i)=[]
 |[],_,k,o,h=>by simp[look]at h
 |(j,b)::l,h,k,o,hk=>by
  simp only[look]at hk
  split at hk
  ·rename_i he
   have:j=k:=by simpa using he
   subst this
   simp only[az]at hk
   subst hk
   exact h.1
  ·exact Q8 h.2 hk
theorem P9 {nx:Nat} {u:AV} (hk:∀k∈keys u,k<nx):fR (fun k=>if k<nx then some k else none) u u:=by
 refine⟨rfl,fun M w β cs hc=>?_⟩
 have gen:∀{l:List AV} {cs:List Value},aN M w β l cs->(∀k∈bI l,k<nx)->aN M w (fun k=>(if k<nx then some k else none).bind β) l cs:=by
  intro l cs h
  generalize hβ:β=β' at h
  induction h with
  |nil=>exact fun _=>.nil
  |bool _ ih=>exact fun h=>.bool (ih hβ (by simpa [bI,keys]using h))
  |int _ ih=>exact fun h=>.int (ih hβ (by simpa [bI,keys]using h))
  |rat hs h1 h2 _ _ _ ih=>exact fun h=>.rat hs h1 h2 (ih hβ (by simpa [bI,keys]using h))
  |mag h1 h2 _ ih=>exact fun h=>.mag h1 h2 (ih hβ (by simpa [bI,keys]using h))
  |agg _ _ ih1 ih2=>exact fun h=>.agg (ih1 hβ fun k hk=>h k (by simp only[bI,keys];exact List.mem_append_left _ hk)) (ih2 hβ fun k hk=>h k (by simp only[bI];exact List.mem_append_right _ hk))
  |aq h1 h2 h3 h4 h5 _ _ ih=>exact fun h=>.aq h1 h2 h3 h4 h5 (ih hβ (by simpa [bI,keys]using h))
  |dX hq h1 h2 h3 h4 h5 _ _ ih=>exact fun h=>.dX hq h1 h2 h3 h4 h5 (ih hβ (by simpa [bI,keys]using h))
  |vnil _ ih=>exact fun h=>.vnil (ih hβ (by simpa [bI,keys]using h))
  |void hx _ ih=>exact fun h=>.void hx (ih hβ (by simpa [bI,keys]using h))
  |str _ ih=>exact fun h=>.str (ih hβ (by simpa [bI,keys]using h))
  |b6 h1 h2 _ _ ih=>exact fun h=>.b6 h1 h2 (ih hβ (by simpa [bI,keys]using h))
  |@ptr _ k _ _ _ _ _ _ _ _ hk _ ih=>
   intro h
   have:k<nx:=h k (by simp[bI,keys])
   exact .ptr (by simp only[this,if_true,Option.bind_some];rw[<-hβ]at hk ⊢;exact hk) (ih hβ fun k hk=>h k (by simp only[bI];exact List.mem_append_right _ hk))
  |@own _ k _ _ _ _ _ _ _ _ _ hk h1 h2 h4 h3 _ ih=>
   intro h
   have:k<nx:=h k (by simp[bI,keys])
   exact .own (by simp only[this,if_true,Option.bind_some];rw[<-hβ]at hk ⊢;exact hk) h1 h2 h4 h3 (ih hβ fun k hk=>h k (by simp only[bI];exact List.mem_append_right _ hk))
  |own0 h3 _ ih=>exact fun h=>.own0 h3 (ih hβ fun k hk=>h k (by simp only[bI];exact List.mem_append_right _ hk))
  |bM ha _ _ ih1 ih2=>exact fun h=>.bM ha (ih1 hβ fun k hk=>h k (by simp only[bI,keys,List.append_nil]at hk ⊢;exact List.mem_append_left _ hk)) (ih2 hβ fun k hk=>h k (by simp only[bI];exact List.mem_append_right _ hk))
  |func _ hc _ ih1 ih2=>exact fun h=>.func (ih1 hβ fun k hk=>h k (by simp only[bI,keys];exact List.mem_append_left _ hk)) hc (ih2 hβ fun k hk=>h k (by simp only[bI];exact List.mem_append_right _ hk))
 exact gen hc fun k h=>hk k (by rw[JD]at h;exact h)
theorem N9 {nx:Nat}:∀{vs:List AV},ko nx vs=true->fY (fun k=>if k<nx then some k else none) vs vs
 |[],_=>trivial
 |v::vs,h=>by
  simp only[ko,List.all_cons,bI,List.all_append,Bool.and_eq_true,Bool.not_eq_true']at h
  obtain⟨⟨h1,h2⟩,h3,h4⟩:=h
  refine⟨⟨h1,P9 fun k hk=>by simpa using List.all_eq_true.1 h3 k hk⟩,N9 ?_⟩
  simp only[ko,Bool.and_eq_true]
  exact⟨h2,h4⟩
theorem o4 {c:Ctx} {s':aK} {ls:List Nat} {vs:List AV} {os:aE} {nx:Nat} (hv:bA ls s'=some (vs,os)) (h0:∀k x,c.k0 k=some x->k<nx) (hok:ko nx vs=true) (ho:iB nx os):∃ρ,Le c ρ s' ⟨aB ls vs,os,nx⟩:=by
 unfold bA at hv
 simp only[az,Prod.mk.injEq]at hv
 obtain⟨rfl,rfl⟩:=hv
 refine⟨fun k=>if k<nx then some k else none,?_,KT (N9 hok),fun k2 o2 hk=>?_,fun k2 k1 hk=>?_,fun k x hk=>by simp[h0 k x hk]⟩
 ·intro a b k ha hb
  split at ha<;>split at hb<;>simp_all
 ·obtain⟨h1,h2⟩:=Q8 ho hk
  refine .inl ⟨k2,o2,by simp[h1],?_,⟨rfl,rfl,rfl,rfl,fun i hi=>P9 fun k hk=>by rw[h2 i hi]at hk;simp at hk⟩⟩
  rw[nh]at hk
  split at hk
  ·exact hk
  ·simp at hk
 ·split at hk
  ·assumption
  ·simp at hk
section rules
variable {P:Program} {c:Ctx} {nt:Nat} {s:aK} {Q:ax->aK->Prop} {T:Types} {Γ:bf}
theorem au.iJ {x y:Code} {i:Nat} (hx:x=.block i (.loop y)) (ls:List Nat) (nx:Nat) (h0:∀k x,c.k0 k=some x->k<nx) {α:Type} (vs:α->List AV) (os:α->aE) (hok:∀a,ko nx (vs a)=true) (ho:∀a,iB nx (os a)) (I:α->Prop) (μ:α->Nat) (j:α)
  (hv:bA ls s=some (vs j,os j)) (hI:I j)
  (round:∀j,I j->au P c nt y ⟨aB ls (vs j),os j,nx⟩ (dM (fun s'=>∃k,bA ls s'=some (vs k,os k)/\I k/\μ k<μ j) (inBlock i Q))):au P c nt x s Q:=
 au.iZ hx (fun a=>⟨aB ls (vs a),os a,nx⟩) I μ j (o4 hv h0 (hok j) (ho j)) hI fun j hj=>(round j hj).mono fun e s' h=>by
  cases e with
  |normal=>
   obtain⟨k,h1,h2,h3⟩:=h
   exact⟨k,o4 h1 h0 (hok k) (ho k),h2,h3⟩
  |exit i=>exact h
  |ret=>exact h
theorem au.kK {x:Code} {ls:List Nat} {nx:Nat} {vs:List AV} {os:aE} (hv:bA ls s=some (vs,os)) (h0:∀k x,c.k0 k=some x->k<nx) (hok:ko nx vs=true) (ho:iB nx os) (h:au P c nt x ⟨aB ls vs,os,nx⟩ Q):au P c nt x s Q:=
 .jn (o4 hv h0 hok ho) h
theorem aH.kK {l:List Code} {ls:List Nat} {nx:Nat} {vs:List AV} {os:aE} (hv:bA ls s=some (vs,os)) (h0:∀k x,c.k0 k=some x->k<nx) (hl:l.isEmpty=false) (hok:ko nx vs=true) (ho:iB nx os) (h:aH P c nt l ⟨aB ls vs,os,nx⟩ Q):aH P c nt l s Q:=
 .weak hl (o4 hv h0 hok ho) h
theorem aH.Dx (hT:ep P T) (hΓ:bu P Γ) (hm:P.follows .mixedOrders=true) {fn:Func} {forks:List Nat} (n:Nat) {l:List Code} {ls:List Nat} {nx:Nat} {vs:List AV} {os:aE} (hv:bA ls s=some (vs,os)) (h0:∀k x,c.k0 k=some x->k<nx)
  (hok:ko nx vs=true) (ho:iB nx os) {t:ah (List AV)} (hc:cj T Γ forks n fn l ⟨aB ls vs,os,nx⟩=some t) (hd:(l.all fun x=>cA nt x)=true) (hl:l.isEmpty=false) {res:AV} (h:t.all fun _ us=>fj us res):aH P c nt l s (Fin T fn res):=
 .kK hv h0 hl hok ho (.fin hT hΓ hm n hc hd h)
theorem aH.fJ (hT:ep P T) (hΓ:bu P Γ) (hm:P.follows .mixedOrders=true) {forks:List Nat} (n:Nat) {l:List Code} {ls:List Nat} {nx:Nat} {vs:List AV} {os:aE} (hv:bA ls s=some (vs,os)) (h0:∀k x,c.k0 k=some x->k<nx)
  (hok:ko nx vs=true) (ho:iB nx os) (ls2:List Nat) {t:ah (List AV×aE)} (hc:aG T Γ forks n ls2 l ⟨aB ls vs,os,nx⟩=some t) (hd:(l.all fun x=>cA nt x)=true) (hl:l.isEmpty=false) (h:t.all fun e v=>∀s',bA ls2 s'=some v->Q e s'):aH P c nt l s Q:=
 .kK hv h0 hl hok ho (.bC hT hΓ hm n ls2 hc hd h)
theorem au.fJ (hT:ep P T) (hΓ:bu P Γ) (hm:P.follows .mixedOrders=true) {x:Code} {forks:List Nat} (n:Nat) {ls:List Nat} {nx:Nat} {vs:List AV} {os:aE} (hv:bA ls s=some (vs,os)) (h0:∀k x,c.k0 k=some x->k<nx)
  (hok:ko nx vs=true) (ho:iB nx os) (ls2:List Nat) {t:ah (List AV×aE)} (hc:aG T Γ forks n ls2 [x] ⟨aB ls vs,os,nx⟩=some t) (hd:cA nt x=true) (h:t.all fun e v=>∀s',bA ls2 s'=some v->Q e s'):au P c nt x s Q:=
 .kK hv h0 hok ho (.bC hT hΓ hm n ls2 hc hd h)
end rules
theorem vK {T:Types} {fn:Func} {ls:List Nat} {vs us ws:List AV} {os ps pre:aE} {s':aK} {τ:Nat->Option Nat} {r:dz} (hv:bA ls s'=some (vs,os)) (hr:mc (aB ls vs) fn.results.toList=some us) (hle:fY τ us ws) (hres:r.res=jh ws)
  (he:cQ (fz r.post) pre=ps) (ho:oH τ os ps):wT T fn τ pre r s':=by
 unfold bA at hv
 simp only[az,Prod.mk.injEq]at hv
 obtain⟨rfl,rfl⟩:=hv
 refine⟨⟨us,[],ws,I6 hr,trivial,hle,hres⟩,fun k o hk=>?_⟩
 rw[he]at hk
 obtain⟨k1,o1,g1,g2,g3⟩:=Fz ho k o hk
 refine⟨k1,o1,g1,?_,g3⟩
 rw[nh]at g2
 split at g2
 ·exact g2
 ·simp at g2
def pR (g:Nat->List AV->Option dz):Spec:=fun K args pre=>match fh pre args with
 |some as=>g K as
 |none=>none
theorem wJ {P:Program} {f:FuncId} {g:Nat->List AV->Option dz} (h:∀K args r,bI args=[]->g K args=some r->aQ P f K args [] r):
  ∀K args pre r,pR g K args pre=some r->aQ P f K args pre r:=by
 intro K args pre r hg
 unfold pR at hg
 split at hg
 ·rename_i as has
  have hf:=h K as r (Av has) hg
  intro need
  obtain⟨h1,h2⟩:=hf need
  refine⟨fun k o ho=>.inr ((h1 k o ho).resolve_left fun⟨o',h⟩=>by simp[look]at h),fun c D D' β w vs hw0 hMw hrel hD hK hv=>?_⟩
  have hv':cI (aO c pre β) w bE as vs:=EL hrel (fun _ _ h=>h) has hv
  exact(hf.frame (pre':=pre) (fun k o hk=>by simp[look]at hk)).use need hrel (fun _ _ h=>h) hD hK (hv'.mono (fun b o h1 h2=>⟨h2,h1⟩) fun k x hx=>by simp[bE]at hx)
 ·simp at hg
theorem Lc {K k a:Nat} {pre:aE} (h:K<=k/\k<K+cY):v8 [] K pre (bp [(k,a)]):=
 ⟨fun x y z hx hy=>by
  simp only[bp,look]at hx hy
  split at hx<;>split at hy<;>simp_all,fun x y hx=>by
  simp only[bp,look]at hx
  split at hx
  ·rename_i he
   have:k=x:=by simpa using he
   subst this
   exact .inr h
  ·simp at hx⟩
theorem tW {K k a:Nat} {pre:aE}:v8 [(a,k)] K pre (bp [(k,a)]):=
 ⟨fun x y z hx hy=>by
  simp only[bp,look]at hx hy
  split at hx<;>split at hy<;>simp_all,fun x y hx=>by
  simp only[bp,look]at hx ⊢
  split at hx
  ·rename_i he
   have:k=x:=by simpa using he
   subst this
   simp only[az]at hx
   subst hx
   exact .inl (by simp)
  ·simp at hx⟩
theorem kD {c:Ctx} (h:c.k0=bE) {nx:Nat}:∀k x,c.k0 k=some x->k<nx:=fun k x hk=>by rw[h]at hk;simp[bE]at hk
theorem dQ {ls:List Nat} {s':aK} {vs us:List AV} {os ps:aE} (hv:bA ls s'=some (vs,os)) (h1:vs=us) (h2:os=ps):bA ls s'=some (us,ps):=by rw[hv,h1,h2]
end Go.Am
namespace Go.Am
open AV
def gq (b:Bool) (n:Nat):Int:=if b then-(n:Int)else n
def sQ (b:Bool) (n d:Nat):Rat:=mkRat (gq b n) d
def cZ (q:Rat):Nat:=max (bQ q.num.natAbs) (bQ q.den)
theorem F9 {b:Bool} {n:Nat}:(gq b n).natAbs=n:=by unfold gq;split<;>simp
theorem ao0 {b:Bool}:gq b 0=0:=by unfold gq;split<;>simp
theorem agt {b:Bool} {n g:Nat} (h:g∣n):gq b n/(g:Int)=gq b (n/g):=by
 unfold gq
 split
 ·rw[Int.neg_ediv_of_dvd (Int.natCast_dvd_natCast.2 h)];simp
 ·simp
theorem js {q:Rat}:q<0↔q.num<0:=by rw[Rat.lt_iff];simp
theorem Cf {b:Bool} {n d:Nat} (hd:d≠0):(sQ b n d).num=gq b (n/Nat.gcd n d):=by
 unfold sQ
 rw[Rat.num_mkRat,if_neg hd,F9,Nat.gcd_comm,agt (Nat.gcd_dvd_left n d)]
theorem Ue {b:Bool} {n d:Nat} (hd:d≠0):(sQ b n d).den=d/Nat.gcd n d:=by
 unfold sQ
 rw[Rat.den_mkRat,if_neg hd,F9,Nat.gcd_comm]
theorem JL {b:Bool} {d:Nat}:sQ b 0 d=0:=by unfold sQ;rw[ao0];simp
theorem afg {b:Bool} {n d:Nat} (hn:n≠0) (hd:d≠0):decide (sQ b n d<0)=b:=by
 have h1:0<n/Nat.gcd n d:=Nat.div_pos (Nat.le_of_dvd aa (Nat.gcd_dvd_left n d)) (Nat.gcd_pos_of_pos_left _ aa)
 cases b
 ·simp only[bw,js,Cf hd,gq];simp;omega
 ·simp only[bq,js,Cf hd,gq];simp;omega
theorem xu {q:Rat}:Sz q (cZ q):=
 ⟨Nat.lt_of_lt_of_le (jg.1 aY) (Nat.pow_le_pow_right aa (Nat.le_max_left _ _)),Nat.lt_of_lt_of_le (jg.1 aY) (Nat.pow_le_pow_right aa (Nat.le_max_right _ _))⟩
theorem acn {q:Rat} {n:Nat}:Sz q n↔cZ q<=n:=by
 unfold Sz cZ
 rw[<-jg,<-jg];omega
theorem dn {q r:Rat} {n k:Nat} (h:q=r) (hs:Sz r k):bN (.rat q n) (.rat r k):=by
 subst h
 refine⟨rfl,fun M w cs hc=>?_⟩
 cases hc with
 |rat _ h1 h2 h3=>cases h3;exact .rat hs h1 h2 .nil
theorem Fy {b:Bool} {n d k:Nat} (hd:d≠0) (hn:n<2^k) (hdk:d<2^k):Sz (sQ b n d) k:=by
 refine⟨?_,?_⟩
 ·rw[Cf hd,F9];exact Nat.lt_of_le_of_lt (Nat.div_le_self _ _) hn
 ·rw[Ue hd];exact Nat.lt_of_le_of_lt (Nat.div_le_self _ _) hdk
theorem lN (q:Rat):sQ (decide (q<0)) q.num.natAbs q.den=q:=by
 unfold sQ
 have:gq (decide (q<0)) q.num.natAbs=q.num:=by
  unfold gq
  by_cases h:q<0
  ·have:=js.1 h;simp[h];omega
  ·have:¬q.num<0:=fun h'=>h (js.2 h')
   simp[h];omega
 rw[this,Rat.mkRat_self]
theorem vg {b:Bool} {x y n d k:Nat} (hn:n≠0) (hd:d≠0) (hx:x=n/Nat.gcd n d) (hy:y=if d/Nat.gcd n d=1 then 0 else d/Nat.gcd n d) (hs:Sz (sQ b n d) k):bN (.agg [.bool b,.mag x,.mag y]) (.rat (sQ b n d) k):=
 tH hs (afg hn hd).symm (by rw[Cf hd,F9,hx]) (by rw[Ue hd,hy])
theorem kG {k:Nat}:bN (.agg [.bool false,.mag 0,.mag 0]) (.rat 0 (k+1)):=
 tH ⟨by simp[Nat.two_pow_pos],by simp⟩ (by decide) rfl rfl
section down
variable {P:Program} {c:Ctx} {nt:Nat} {s:aK} {Q:ax->aK->Prop} {T:Types}
def eo (c:Ctx) (Q:ax->aK->Prop) (e:ax) (s':aK):Prop:=Q e s'\/∃s2 ρ,Le c ρ s' s2/\Q e s2
theorem au.down {x:Code} (h:au P c nt x s (eo c Q)):au P c nt x s Q:=by
 intro a w hr
 refine wpIn_mono (h a w hr) ?_
 rintro e a' w' ⟨ae,s',h1,h2,hq|⟨s2,ρ,hle,hq⟩⟩
 ·exact⟨ae,s',h1,h2,hq⟩
 ·exact⟨ae,s2,h1,hle.rel h2,hq⟩
theorem AM {fn:Func} {ls:List Nat} {vs:List AV} {os:aE} {nx:Nat} {s':aK} {e:ax} {t:ah (List AV)} {res:AV} (he:jt T fn e ⟨aB ls vs,os,nx⟩=some t) (hv:bA ls s'=some (vs,os)) (h0:∀k x,c.k0 k=some x->k<nx) (hok:ko nx vs=true) (ho:iB nx os)
  (h:t.all fun _ us=>fj us res):eo c (Fin T fn res) e s':=by
 obtain⟨ρ,hle⟩:=o4 hv h0 hok ho
 exact .inr ⟨_,ρ,hle,EZ he h⟩
theorem aH.kO (hT:ep P T) {Γ:bf} (hΓ:bu P Γ) (hm:P.follows .mixedOrders=true) {fn:Func} {forks:List Nat} (n:Nat) {l:List Code} {ls:List Nat} {nx:Nat} {vs:List AV} {os:aE} (hv:bA ls s=some (vs,os)) (h0:∀k x,c.k0 k=some x->k<nx)
  (hok:ko nx vs=true) (ho:iB nx os) {t:ah (List AV)} (hc:cj T Γ forks n fn l ⟨aB ls vs,os,nx⟩=some t) (hd:(l.all fun x=>cA nt x)=true) (hl:l.isEmpty=false) {res:AV} (h:t.all fun _ us=>fj us res):aH P c nt l s (eo c (Fin T fn res)):=
 (aH.Dx hT hΓ hm n hv h0 hok ho hc hd hl h).mono fun _ _ h=>.inl h
end down
theorem fc {P:Program} {T:Types} (hT:ep P T) {f:FuncId} {fn:Func} {x:Code} (hf:aT P f fn x) {args:List AV} {r:dz} (hk:bI args=[]) (hlen:args.length<=fn.ntmps) (hpost:r.post=[])
  (h:r.need->∀c:Ctx,(∀nx k x,c.k0 k=some x->k<nx)->au P c fn.ntmps x ⟨aP 0 args,[],0⟩ (eo c (Fin T fn r.res))) (K:Nat) (pre:aE):aQ P f K args pre r:=
 j9 hT hf hk hlen hpost (fun need c h0=>.down (h need c fun _=>kD h0)) K pre
mutual
def Yr:AV->Prop
 |.rat q n=>Sz q n
 |.agg l=>wV l
 |_=>True
def wV:List AV->Prop
 |[]=>True
 |a::l=>Yr a/\wV l
end
theorem aN.sz {M:Nat->Prop} {w:World} {β:bg} {l:List AV} {cs:List Value} (h:aN M w β l cs):wV l:=by
 induction h with
 |nil=>trivial
 |rat hs _ _ _ _ _ ih=>exact⟨hs,ih⟩
 |agg _ _ ih1 ih2=>exact⟨ih1,ih2⟩
 |aq _ _ _ _ _ _ _ ih=>exact⟨trivial,ih⟩
 |dX _ _ _ _ _ _ _ _ ih=>exact⟨trivial,ih⟩
 |b6 _ _ _ _ ih=>exact⟨trivial,ih⟩
 |func _ _ _ _ ih=>exact⟨trivial,ih⟩
 |bM _ _ _ _ ih=>exact⟨trivial,ih⟩
 |_=>rename_i ih;exact⟨trivial,ih⟩
theorem cI.sz {M:Nat->Prop} {w:World} {β:bg}:∀{l:List AV} {xs:List Value},cI M w β l xs->wV l
 |[],[],_=>trivial
 |a::l,x::xs,h=>by
  obtain⟨⟨cs,h1,_⟩,h2⟩:=h
  exact⟨h1.sz.1,h2.sz⟩
 |[],_::_,h=>h.elim
 |_::_,[],h=>h.elim
theorem ajq {P:Program} {f:FuncId} {K:Nat} {args:List AV} {pre:aE} {r:dz} (hp:∀k o,look k r.post=some o->(∃o',look k pre=some o')\/(K<=k/\k<K+cY)) (h:wV args->aQ P f K args pre r):aQ P f K args pre r:=
 fun need=>⟨hp,fun c D D' β w vs h1 h2 h3 h4 h5 hv=>(h hv.sz need).2 c D D' β w vs h1 h2 h3 h4 h5 hv⟩
theorem jV {P:Program} {f:FuncId} {K:Nat} {args:List AV} {pre:aE} {v:AV} {l:List Prop} (h:wV args->aQ P f K args pre ⟨v,[],l⟩):aQ P f K args pre ⟨v,[],l⟩:=
 ajq (fun k o hk=>by simp[look]at hk) h
theorem jZ {N n:Nat} (h:N<2^n) (hn:n<2^44):nl N<2^40:=by
 have h1:N<2^(32*(n/32+1)):=Nat.lt_of_lt_of_le h (Nat.pow_le_pow_right aa aa)
 have:=dF.2 h1
 omega
theorem af2 {q:Rat}:(if q.den=1 then 0 else q.den)<=q.den:=by split<;>omega
theorem Sz.jR {q:Rat} {n:Nat} (h:Sz q n) (hn:n<2^44):nl q.num.natAbs<2^40/\nl q.den<2^40/\nl (if q.den=1 then 0 else q.den)<2^40:=
 ⟨jZ h.1 hn,jZ h.2 hn,Nat.lt_of_le_of_lt (iH af2) (jZ h.2 hn)⟩
theorem Sz.pos {q:Rat} {n:Nat} (h:Sz q n):0<n:=by
 rcases Nat.eq_zero_or_pos n with h1|h1
 ·subst h1;have:=h.2;have:=q.den_nz;omega
 ·exact h1
theorem Sz.more {q:Rat} {n m:Nat} (h:Sz q n) (hm:n<=m):Sz q m:=
 ⟨Nat.lt_of_lt_of_le h.1 (Nat.pow_le_pow_right aa hm),Nat.lt_of_lt_of_le h.2 (Nat.pow_le_pow_right aa hm)⟩
theorem Sw {a:Int} {d:Nat}:(mkRat a d).num.natAbs<=a.natAbs:=by
 rw[Rat.num_mkRat]
 split
 ·simp
 ·rw[Int.natAbs_ediv_of_dvd]
  ·exact Nat.div_le_self _ _
  ·exact Int.ofNat_dvd_left.2 (Nat.gcd_dvd_right _ _)
theorem ND {a:Int} {d:Nat} (h:d≠0):(mkRat a d).den<=d:=by
 rw[Rat.den_mkRat,if_neg h]
 exact Nat.div_le_self _ _
theorem Sz.add {q r:Rat} {n m:Nat} (h:Sz q n) (h':Sz r m):Sz (q+r) (n+m+1):=by
 rw[Rat.add_def']
 have d0:q.den*r.den≠0:=Nat.mul_ne_zero q.den_nz r.den_nz
 have e:2^(n+m+1)=2^n*2^m+2^n*2^m:=by rw[Nat.pow_succ,Nat.pow_add];omega
 have b1:q.num.natAbs*r.den<=2^n*2^m:=Nat.mul_le_mul (Nat.le_of_lt h.1) (Nat.le_of_lt h'.2)
 have b2:r.num.natAbs*q.den<2^m*2^n:=Nat.mul_lt_mul'' h'.1 h.2
 have b3:q.den*r.den<=2^n*2^m:=Nat.mul_le_mul (Nat.le_of_lt h.2) (Nat.le_of_lt h'.2)
 have b4:0<2^n*2^m:=Nat.mul_pos (Nat.two_pow_pos _) (Nat.two_pow_pos _)
 rw[Nat.mul_comm (2^m)]at b2
 refine⟨Nat.lt_of_le_of_lt Sw ?_,Nat.lt_of_le_of_lt (ND d0) aa⟩
 have b5:=Int.natAbs_add_le (q.num*r.den) (r.num*q.den)
 rw[Int.natAbs_mul,Int.natAbs_mul,Int.natAbs_natCast,Int.natAbs_natCast]at b5
 omega
theorem Sz.neg {q:Rat} {n:Nat} (h:Sz q n):Sz (-q) n:=by
 refine⟨?_,?_⟩
 ·rw[Rat.neg_num,Int.natAbs_neg];exact h.1
 ·rw[Rat.neg_den];exact h.2
theorem Sz.sub {q r:Rat} {n m:Nat} (h:Sz q n) (h':Sz r m):Sz (q-r) (n+m+1):=by
 rw[Rat.sub_eq_add_neg];exact h.add h'.neg
theorem Sz.mul {q r:Rat} {n m:Nat} (h:Sz q n) (h':Sz r m):Sz (q*r) (n+m):=by
 rw[Rat.mul_def']
 have d0:q.den*r.den≠0:=Nat.mul_ne_zero q.den_nz r.den_nz
 refine⟨Nat.lt_of_le_of_lt Sw ?_,Nat.lt_of_le_of_lt (ND d0) ?_⟩
 ·rw[Int.natAbs_mul,Nat.pow_add];exact Nat.mul_lt_mul'' h.1 h'.1
 ·rw[Nat.pow_add];exact Nat.mul_lt_mul'' h.2 h'.2
theorem Sz.inv {q:Rat} {n:Nat} (h:Sz q n):Sz q⁻¹ n:=by
 by_cases h0:q=0
 ·subst h0
  rw[Rat.inv_zero]
  exact h
 ·have hn:q.num≠0:=fun h=>h0 (Rat.num_eq_zero.1 h)
  refine⟨?_,?_⟩
  ·rw[Rat.num_inv,Int.natAbs_mul,Int.natAbs_natCast,Int.natAbs_sign_of_ne_zero hn,Nat.one_mul];exact h.2
  ·rw[Rat.den_inv,if_neg hn];exact h.1
theorem Sz.div {q r:Rat} {n m:Nat} (h:Sz q n) (h':Sz r m):Sz (q/r) (n+m):=by
 rw[Rat.div_def];exact h.mul h'.inv
def fD (q:Rat):Int:=if q<0 then-1 else if 0<q then 1 else 0
def eV (q r:Rat):Int:=if q<r then-1 else if r<q then 1 else 0
end Go.Am
namespace Go.Am
open AV
def Gl (T:Types) (fn:Func) (e:ax) (s:aK):Option (ah (List AV×Option ak)):=
 match jt T fn e s with
 |some t=>t.bind fun e us=>some (.leaf e (us,look 0 s.store))
 |none=>none
def uQ (T:Types) (Γ:bf) (forks:List Nat) (n:Nat) (fn:Func) (x:Code) (s:aK):Option (ah (List AV×Option ak)):=
 match eF T Γ forks n x s with
 |some t=>t.bind (Gl T fn)
 |none=>none
theorem Gm {P:Program} {T:Types} (hT:ep P T) {Γ:bf} (hΓ:bu P Γ) (hm:P.follows .mixedOrders=true) {f:FuncId} {fn:Func} {x:Code} (hf:aT P f fn x) {k idx es off:Nat} {p:List Nat} {rest:List AV} {o2 o o':ak} {res:AV} {l:List Prop}
  (hkr:bI rest=[]) (hrt:(rest.all fun v=>!v.isTuple)=true) (hlen:rest.length+1<=fn.ntmps) (ho:∀ρ,dw ρ o2 o) {forks:List Nat} (n:Nat) {t:ah (List AV×Option ak)}
  (hc:uQ T Γ forks n fn x ⟨aP 0 (.ptr 0 idx es off p::rest),[(0,o)],1⟩=some t)
  (h:aA l->t.all fun _ v=>fj v.1 res/\∃o1,v.2=some o1/\o1.row=false/\dw (bp [(k,0)]) o1 o') (K:Nat):
  aQ P f K (.ptr k idx es off p::rest) [(k,o2)] ⟨res,[(k,o')],l⟩:=by
 have hrest:∀{rest:List AV},bI rest=[]->(rest.all fun v=>!v.isTuple)=true->fY (bp [(0,k)]) rest rest:=by
  intro rest
  induction rest with
  |nil=>intro _ _;trivial
  |cons v r ih=>
   intro h1 h2
   simp only[bI,List.append_eq_nil_iff]at h1
   simp only[List.all_cons,Bool.and_eq_true,Bool.not_eq_true']at h2
   exact⟨⟨h2.1,gm h1.1⟩,ih h1.2 h2.2⟩
 refine oe hT hf (args0:=.ptr 0 idx es off p::rest) (pre0:=[(0,o)]) (nx:=1) [(0,k)] (by simpa using hlen) (by simp[iQ]) ⟨⟨rfl,oC rfl⟩,hrest hkr hrt⟩ ⟨⟨k,o2,rfl,by simp[look],ho _⟩,trivial⟩
  (fun a x h=>?_) (fun x o h=>.inl ?_) (fun need c h0=>?_)
 ·simp only[bp,look]at h
  split at h
  ·simp only[az]at h;subst h;exact⟨_,by simp[look];rfl⟩
  ·simp at h
 ·simp only[look]at h
  split at h
  ·rename_i he
   exact⟨_,by simp only[look,he,if_true];rfl⟩
  ·simp at h
 have h:=h need
 unfold uQ at hc
 cases hx:eF T Γ forks n x ⟨aP 0 (.ptr 0 idx es off p::rest),[(0,o)],1⟩with
 |none=>rw[hx]at hc;simp at hc
 |some u=>
  rw[hx]at hc
  refine lM hT hΓ hm n hf.dst hx (ah.fP ?_ (ah.j5 hc h))
  rintro e s' ⟨v,h1,h2⟩
  unfold Gl at h1
  split at h1
  ·rename_i v' hv'
   have h3:=ah.j5 h1 h2
   have h4:v'.all fun _ us=>fj us res/\∃o1,look 0 s'.store=some o1/\o1.row=false/\dw (bp [(k,0)]) o1 o':=by
    refine ah.fP ?_ h3
    rintro e us ⟨w,g1,g2⟩
    simp only[az]at g1
    subst g1
    exact g2
   have h5:Fin T fn res e s':=EZ hv' (ah.fP (fun _ _ h=>h.1) h4)
   have h6:∃o1,look 0 s'.store=some o1/\o1.row=false/\dw (bp [(k,0)]) o1 o':=by
    have:∀{t:ah (List AV)},(t.all fun _ us=>fj us res/\∃o1,look 0 s'.store=some o1/\o1.row=false/\dw (bp [(k,0)]) o1 o')->∃o1,look 0 s'.store=some o1/\o1.row=false/\dw (bp [(k,0)]) o1 o':=by
     intro t
     induction t with
     |leaf e us=>exact fun h=>h.2
     |aj ps t ih=>exact fun h=>ih h.2
     |fork b t1 t2 ih1 ih2=>
      intro h
      cases b with
      |true=>exact ih1 (h.1 rfl)
      |false=>exact ih2 (h.2 rfl)
    exact this h4
   refine⟨h5.1,bp [(k,0)],tW,.inl ⟨h5.2,fun x ox hx=>?_⟩⟩
   obtain⟨o1,g1,g2,g3⟩:=h6
   have he:cQ (fz [(k,o')]) [(k,o2)]=[(k,o')]:=by simp[cQ,fz,put]
   rw[he]at hx
   simp only[look]at hx
   split at hx
   ·rename_i hk
    have:k=x:=by simpa using hk
    subst this
    simp only[az]at hx
    subst hx
    exact⟨0,o1,by simp[bp,look],g1,g2,g3⟩
   ·simp at hx
  ·simp at h1
theorem aiZ {P:Program} {T:Types} (hT:ep P T) {Γ:bf} (hΓ:bu P Γ) (hm:P.follows .mixedOrders=true) {f:FuncId} {fn:Func} {x:Code} (hf:aT P f fn x) {args:List AV} {o o':ak} {a idx es off ls:Nat} {p:List Nat} {l:List Prop}
  (hka:bI args=[]) (hrt:(args.all fun v=>!v.isTuple)=true) (hlen:args.length<=fn.ntmps) (hres:fn.results.toList=[.tmp ls]) {forks:List Nat} (n:Nat) {e:ax} {q:List Prop}
  (hc:aG T Γ forks n [ls] [x] ⟨aP 0 args,[],0⟩=some (.leaf e ([.ptr a idx es off p],[(a,o)])))
  (he:e=.normal\/e=.ret) (h:∀ρ,dw ρ o o') (K:Nat):aQ P f K args [] ⟨.ptr K idx es off p,[(K,o')],l⟩:=by
 have hrest:∀{rest:List AV},bI rest=[]->(rest.all fun v=>!v.isTuple)=true->fY (bp []) rest rest:=by
  intro rest
  induction rest with
  |nil=>intro _ _;trivial
  |cons v r ih=>
   intro h1 h2
   simp only[bI,List.append_eq_nil_iff]at h1
   simp only[List.all_cons,Bool.and_eq_true,Bool.not_eq_true']at h2
   exact⟨⟨h2.1,gm h1.1⟩,ih h1.2 h2.2⟩
 refine oe hT hf (args0:=args) (pre0:=[]) (nx:=0) [] hlen rfl (hrest hka hrt) trivial (fun a k h=>by simp[bp,look]at h) (fun k o h=>?_) (fun _ c h0=>?_)
 ·simp only[look]at h
  split at h
  ·rename_i he
   have:K=k:=by simpa using he
   subst this
   exact .inr ⟨aY,by unfold cY;omega⟩
  ·simp at h
 refine au.bC hT hΓ hm n [ls] hc hf.dst fun s' hv=>⟨he,bp [(K,a)],Lc ⟨aY,by unfold cY;omega⟩,.inr ?_⟩
 refine vK (us:=[.ptr a idx es off p]) (ws:=[.ptr K idx es off p]) (ps:=[(K,o')]) hv ?_ ⟨⟨rfl,oC (by simp[bp,look])⟩,trivial⟩ rfl rfl ⟨⟨a,_,by simp[bp,look],by simp[look],h _⟩,trivial⟩
 rw[hres]
 simp only[mc,aB,look,beq_self_eq_true,if_true]
 rfl
mutual
def e9 (b:Bool):AV->AV->Option AV
 |.rat q n,.rat r m=>some (.rat (cond b q r) (max n m))
 |.int k x,.int j y=>match isKind k j with
  |true=>some (.int k (cond b x y))
  |false=>none
 |.bool x,.bool y=>some (.bool (cond b x y))
 |.aq e n f,.aq e' m g=>match e==e' with
  |true=>some (.aq e (cond b n m) fun i=>cond b (f i) (g i))
  |false=>none
 |.nil,.nil=>some .nil
 |.nil,.aq e n f=>match Nat.blt 0 e with
  |true=>some (.aq e (cond b 0 n) f)
  |false=>none
 |.aq e n f,.nil=>match Nat.blt 0 e with
  |true=>some (.aq e (cond b n 0) f)
  |false=>none
 |.agg l,.agg m=>match pG b l m with
  |some x=>some (.agg x)
  |none=>none
 |_,_=>none
def pG (b:Bool):List AV->List AV->Option (List AV)
 |[],[]=>some []
 |u::l,v::m=>match e9 b u v,pG b l m with
  |some x,some y=>some (x::y)
  |_,_=>none
 |_,_=>none
end
mutual
theorem agh:∀{u v x:AV},e9 true u v=some x->bN u x
 |.rat q n,v,x,h=>by
  cases v<;>simp only[e9,az,reduceCtorEq]at h
  subst h;exact eR (Nat.le_max_left ..)
 |.int k a,v,x,h=>by
  cases v<;>simp only[e9,reduceCtorEq]at h
  split at h
  ·simp only[az]at h;subst h;exact .refl _
  ·simp at h
 |.bool a,v,x,h=>by
  cases v<;>simp only[e9,az,reduceCtorEq]at h
  subst h;exact .refl _
 |.aq e n f,v,x,h=>by
  cases v<;>simp only[e9,reduceCtorEq]at h
  ·split at h
   ·simp only[az]at h;subst h;exact .refl _
   ·simp at h
  ·split at h
   ·simp only[az]at h;subst h;exact .refl _
   ·simp at h
 |.nil,v,x,h=>by
  cases v<;>simp only[e9,az,reduceCtorEq]at h
  ·split at h
   ·rename_i he
    simp only[az]at h;subst h
    exact ic (by rw[Nat.blt_eq]at he;exact he)
   ·simp at h
  ·subst h;exact .refl _
 |.agg l,v,x,h=>by
  cases v<;>simp only[e9,reduceCtorEq]at h
  split at h
  ·rename_i hl
   simp only[az]at h;subst h;exact b7 (Km hl)
  ·simp at h
 |.mag _,v,x,h=>by simp[e9]at h
 |.dX _ _ _ _,v,x,h=>by simp[e9]at h
 |.void,v,x,h=>by simp[e9]at h
 |.str _,v,x,h=>by simp[e9]at h
 |.b6 _,v,x,h=>by simp[e9]at h
 |.ptr _ _ _ _ _,v,x,h=>by simp[e9]at h
 |.own _ _ _ _,v,x,h=>by simp[e9]at h
 |.func _ _,v,x,h=>by simp[e9]at h
 |.tuple _,v,x,h=>by simp[e9]at h
 |.bM _ _,v,x,h=>by simp[e9]at h
theorem Km:∀{u v x:List AV},pG true u v=some x->fq u x
 |[],v,x,h=>by
  cases v<;>simp only[pG,az,reduceCtorEq]at h
  subst h;trivial
 |a::l,v,x,h=>by
  cases v<;>simp only[pG,reduceCtorEq]at h
  split at h
  ·rename_i h1 h2
   simp only[az]at h;subst h;exact⟨agh h1,Km h2⟩
  ·simp at h
end
mutual
theorem ahw:∀{u v x:AV},e9 false u v=some x->bN v x
 |.rat q n,v,x,h=>by
  cases v<;>simp only[e9,az,reduceCtorEq]at h
  subst h;exact eR (Nat.le_max_right ..)
 |.int k a,v,x,h=>by
  cases v<;>simp only[e9,reduceCtorEq]at h
  split at h
  ·rename_i hk
   have:=Dg hk
   subst this
   simp only[az]at h;subst h;exact .refl _
  ·simp at h
 |.bool a,v,x,h=>by
  cases v<;>simp only[e9,az,reduceCtorEq]at h
  subst h;exact .refl _
 |.aq e n f,v,x,h=>by
  cases v<;>simp only[e9,reduceCtorEq]at h
  ·split at h
   ·rename_i hk
    have:=eq_of_beq hk
    subst this
    simp only[az]at h;subst h;exact .refl _
   ·simp at h
  ·split at h
   ·rename_i he
    simp only[az]at h;subst h
    exact ic (by rw[Nat.blt_eq]at he;exact he)
   ·simp at h
 |.nil,v,x,h=>by
  cases v<;>simp only[e9,az,reduceCtorEq]at h
  ·split at h
   ·simp only[az]at h;subst h;exact .refl _
   ·simp at h
  ·subst h;exact .refl _
 |.agg l,v,x,h=>by
  cases v<;>simp only[e9,reduceCtorEq]at h
  split at h
  ·rename_i hl
   simp only[az]at h;subst h;exact b7 (MJ hl)
  ·simp at h
 |.mag _,v,x,h=>by simp[e9]at h
 |.dX _ _ _ _,v,x,h=>by simp[e9]at h
 |.void,v,x,h=>by simp[e9]at h
 |.str _,v,x,h=>by simp[e9]at h
 |.b6 _,v,x,h=>by simp[e9]at h
 |.ptr _ _ _ _ _,v,x,h=>by simp[e9]at h
 |.own _ _ _ _,v,x,h=>by simp[e9]at h
 |.func _ _,v,x,h=>by simp[e9]at h
 |.tuple _,v,x,h=>by simp[e9]at h
 |.bM _ _,v,x,h=>by simp[e9]at h
theorem MJ:∀{u v x:List AV},pG false u v=some x->fq v x
 |[],v,x,h=>by
  cases v<;>simp only[pG,az,reduceCtorEq]at h
  subst h;trivial
 |a::l,v,x,h=>by
  cases v<;>simp only[pG,reduceCtorEq]at h
  split at h
  ·rename_i h1 h2
   simp only[az]at h;subst h;exact⟨ahw h1,MJ h2⟩
  ·simp at h
end
theorem fq.trans:∀{a b c:List AV},fq a b->fq b c->fq a c
 |[],[],[],_,_=>trivial
 |_::_,_::_,_::_,h,h'=>⟨h.1.trans h'.1,h.2.trans h'.2⟩
 |[],[],_::_,_,h=>h.elim
 |[],_::_,_,h,_=>h.elim
 |_::_,[],_,h,_=>h.elim
 |_::_,_::_,[],_,h=>h.elim
def qg:ah (List AV)->Option (List AV×List Prop)
 |.leaf _ us=>some (us,[])
 |.aj ps t=>match qg t with
  |some (us,qs)=>some (us,ps++qs)
  |none=>none
 |.fork b t u=>match qg t,qg u with
  |some (x,p),some (y,q)=>match pG b x y with
   |some z=>match p,q with
    |[],[]=>some (z,[])
    |p,q=>some (z,[b=true->aA p,b=false->aA q])
   |none=>none
  |_,_=>none
theorem zH:∀{t:ah (List AV)} {us:List AV} {ps:List Prop},qg t=some (us,ps)->aA ps->t.all fun _ vs=>fq vs us
 |.leaf e vs,us,ps,h,_=>by
  simp only[qg,az,Prod.mk.injEq]at h
  obtain⟨rfl,rfl⟩:=h
  exact .refl _
 |.aj l t,us,ps,h,hp=>by
  simp only[qg]at h
  split at h
  ·rename_i h1
   simp only[az,Prod.mk.injEq]at h
   obtain⟨rfl,rfl⟩:=h
   obtain⟨p1,p2⟩:=dD.1 hp
   exact⟨p1,zH h1 p2⟩
  ·simp at h
 |.fork b t u,us,ps,h,hp=>by
  simp only[qg]at h
  split at h
  ·rename_i x p y q h1 h2
   split at h
   ·rename_i z hz
    have key:us=z/\(b=true->aA p)/\(b=false->aA q):=by
     split at h
     ·simp only[az,Prod.mk.injEq]at h
      exact⟨h.1.symm,fun _=>trivial,fun _=>trivial⟩
     ·simp only[az,Prod.mk.injEq]at h
      obtain⟨rfl,rfl⟩:=h
      exact⟨rfl,hp⟩
    obtain⟨rfl,p1,p2⟩:=key
    refine⟨fun hb=>?_,fun hb=>?_⟩
    ·subst hb
     exact ah.fP (fun _ vs hv=>hv.trans (Km hz)) (zH h1 (p1 rfl))
    ·subst hb
     exact ah.fP (fun _ vs hv=>hv.trans (MJ hz)) (zH h2 (p2 rfl))
   ·simp at h
  ·simp at h
def iz (T:Types) (Γ:bf) (forks:List Nat) (fuel:Nat) (fn:Func):Spec:=bY fun args=>
 match Nat.ble args.length fn.ntmps with
 |true=>match bU T Γ forks fuel fn (ay fn) ⟨aP 0 args,[],0⟩with
  |some t=>match qg t with
   |some (us,ps)=>match us with
    |[u]=>some ⟨u,[],ps⟩
    |us=>some ⟨.tuple us,[],ps⟩
   |none=>none
  |none=>none
 |false=>none
theorem ZV {us:List AV} {v:AV} (h:fq us [v]):fj us v:=by
 match us,h with
 |[u],h=>exact h.1
theorem alB {us vs:List AV} (hv:∀u,vs≠[u]) (h:fq us vs):fj us (.tuple vs):=by
 match us,vs,h with
 |[],[],h=>exact h
 |[u],[v],h=>exact absurd rfl (hv v)
 |a::b::l,_::_::_,h=>exact h
 |[u],_::_::_,h=>exact absurd h.2 (by simp[fq])
 |a::b::l,[v],h=>exact absurd h.2 (by simp[fq])
 |[],_::_,h=>exact h.elim
 |_::_,[],h=>exact h.elim
theorem iU {P:Program} {T:Types} (hT:ep P T) {Γ:bf} (hΓ:bu P Γ) (hm:P.follows .mixedOrders=true) {f:FuncId} {fn:Func} (hf:aT P f fn (ay fn)) (forks:List Nat) (fuel:Nat):
  ∀K args pre r,iz T Γ forks fuel fn K args pre=some r->aQ P f K args pre r:=by
 refine cJ fun K args r hk hs hp=>?_
 split at hs
 ·rename_i hlen
  have hlen:=Nat.le_of_ble_eq_true hlen
  split at hs
  ·rename_i t ht
   split at hs
   ·rename_i us ps hc
    split at hs
    ·simp only[az]at hs
     subst hs
     exact bZ (r:=⟨_,[],ps⟩) hT hΓ hm hf hk hlen rfl fuel ht (fun hn=>ah.fP (fun _ vs hv=>ZV hv) (zH hc hn)) K []
    ·rename_i hne
     simp only[az]at hs
     subst hs
     exact bZ (r:=⟨_,[],ps⟩) hT hΓ hm hf hk hlen rfl fuel ht (fun hn=>ah.fP (fun _ vs hv=>alB hne hv) (zH hc hn)) K []
   ·simp at hs
  ·simp at hs
 ·simp at hs
theorem j7 {P:Program} {Γ:bf} (h:bu P Γ):bu P (sG::Γ):=aI (fun K args pre r hs=>by simp at hs) h
theorem cz {P:Program} {Γ:bf} (h:bu P Γ):bu P (nG::Γ):=aI (fun K args pre r hs=>by simp at hs) h
end Go.Am
namespace Go.Am
open AV
def mh (rl:List (Nat×Nat)):AV->AV
 |.ptr k i e o p=>match look k rl with
  |some j=>.ptr j i e o p
  |none=>.void
 |.own k e s n=>match look k rl with
  |some j=>.own j e s n
  |none=>match s,n,e with
   |0,0,_+1=>.nil
   |_,_,_=>.void
 |.bM c (.own k e s n)=>match look k rl with
  |some j=>.bM c (.own j e s n)
  |none=>.void
 |v=>v
def lG (rl:List (Nat×Nat)):AV->Bool
 |.ptr k _ _ _ _=>(look k rl).isSome
 |.own k e s n=>(look k rl).isSome||match s,n,e with
  |0,0,_+1=>true
  |_,_,_=>false
 |.tuple _=>false
 |.bM _ (.own k _ _ _)=>(look k rl).isSome
 |v=>(keys v).isEmpty
theorem VN {ρ:Nat->Option Nat} {c c2:Nat} {u v:AV} (hc:c=c2) (hv:v.isAgg=false) (h:fR ρ u v):fR ρ (.bM c u) (.bM c2 v):=by
 subst hc
 refine⟨rfl,fun M w β cs hcs=>?_⟩
 cases hcs with
 |bM _ h1 h2=>cases h2;exact .bM hv (h.2 _ _ _ _ h1) .nil
theorem PZ {rl:List (Nat×Nat)} {u v:AV} (hu:u=mh rl v) (hv:lG rl v=true):u.isTuple=false/\fR (bp rl) u v:=by
 subst hu
 cases v with
 |ptr k i e o p=>
  simp only[lG,Option.isSome_iff_exists]at hv
  obtain⟨j,hj⟩:=hv
  simp only[mh,hj]
  exact⟨rfl,oC hj⟩
 |own k e s n=>
  simp only[lG]at hv
  cases hj:look k rl with
  |some j=>
   simp only[mh,hj]
   exact⟨rfl,bW hj rfl rfl⟩
  |none=>
   rw[hj]at hv
   simp only[Option.isSome_none,Bool.false_or]at hv
   split at hv
   ·simp only[mh,hj]
    exact⟨rfl,jd aa⟩
   ·simp at hv
 |tuple l=>simp[lG]at hv
 |bM c v=>
  cases v with
  |own k e s n=>
   simp only[lG,Option.isSome_iff_exists]at hv
   obtain⟨j,hj⟩:=hv
   simp only[mh,hj]
   exact⟨rfl,VN rfl rfl (bW hj rfl rfl)⟩
  |_=>
   simp only[lG,List.isEmpty_iff]at hv
   exact⟨rfl,gm hv⟩
 |_=>
  simp only[lG,List.isEmpty_iff]at hv
  exact⟨rfl,gm hv⟩
theorem TT {rl:List (Nat×Nat)}:∀{vs us:List AV},us=vs.map (mh rl)->vs.all (lG rl)=true->fY (bp rl) us vs
 |[],_,h,_=>by subst h;trivial
 |v::vs,_,h,hv=>by
  subst h
  simp only[List.all_cons,Bool.and_eq_true]at hv
  exact⟨PZ rfl hv.1,TT rfl hv.2⟩
def tT:AV->Bool
 |.tuple _=>false
 |v=>(keys v).isEmpty
theorem VZ {rl:List (Nat×Nat)} {v:AV} (h:tT v=true):mh rl v=v:=by
 cases v with
 |bM c v=>cases v<;>first|rfl|simp[tT,keys]at h
 |_=>first|rfl|simp[tT,keys]at h
theorem akO {rl:List (Nat×Nat)} {v:AV} (h:tT v=true):lG rl v=true:=by
 cases v with
 |bM c v=>cases v<;>first|exact h|simp[tT,keys]at h
 |_=>first|exact h|simp[tT,keys]at h
def eZ (rl:List (Nat×Nat)) (u v:AV):Prop:=((lG rl v=true/\u=mh rl v)\/∃us vs,u=.agg us/\v=.agg vs/\fY (bp rl) us vs)\/(keys u=[]/\bN u v)
theorem NX {ρ:Nat->Option Nat} {M:Nat->Prop} {w:World} {β:bg}:∀{us vs:List AV} {cs:List Value},fY ρ us vs->aN M w β us cs->aN M w (fun k=>(ρ k).bind β) vs cs
 |[],[],_,_,h=>by cases h;exact .nil
 |u::us,v::vs,cs,hl,h=>by
  obtain⟨c1,c2,rfl,h1,h2⟩:=h.split
  exact(hl.1.2.2 M w β c1 h1).cons (NX hl.2 h2)
 |[],_::_,_,h,_=>h.elim
 |_::_,[],_,h,_=>h.elim
theorem aiM {ρ:Nat->Option Nat} {us vs:List AV} (h:fY ρ us vs):fR ρ (.agg us) (.agg vs):=by
 refine⟨rfl,fun M w β cs hc=>?_⟩
 cases hc with
 |agg h1 h2=>cases h2;exact .agg (NX h h1) .nil
theorem gz {rl:List (Nat×Nat)} {us vs:List AV} (h:fY (bp rl) us vs):eZ rl (.agg us) (.agg vs):=.inl (.inr ⟨_,_,rfl,rfl,h⟩)
theorem eZ.le {rl:List (Nat×Nat)} {u v:AV} (h:eZ rl u v):fR (bp rl) u v:=by
 rcases h with(h|⟨us,vs,rfl,rfl,h⟩)|h
 ·exact(PZ h.2 h.1).2
 ·exact aiM h
 ·exact mZ h.1 h.2
def jv (nx:Nat) (rl:List (Nat×Nat)) (os:aE):aE->Prop
 |[]=>True
 |(k2,o2)::ps=>((look k2 rl=none/\vO o2/\k2<nx)\/∃k1 o1,look k2 rl=some k1/\look k1 os=some o1/\o1.row=o2.row/\o1.wr=o2.wr/\o1.es=o2.es/\o1.len=o2.len/\∀i,i<o2.len->eZ rl (o1.f i) (o2.f i))/\jv nx rl os ps
theorem IA {nx:Nat} {rl:List (Nat×Nat)} {os:aE}:∀{ps:aE},jv nx rl os ps->yX nx (bp rl) os ps
 |[],_=>trivial
 |(k2,o2)::ps,h=>by
  obtain⟨h|⟨k1,o1,h1,h2,h3,h4,h5,h6,h7⟩,h8⟩:=h
  ·exact⟨.inr h,IA h8⟩
  ·exact⟨.inl ⟨k1,o1,h1,h2,⟨h3.symm▸rfl,h4.symm▸rfl,h5.symm▸rfl,h6.symm▸rfl,fun i hi=>(h7 i (h6▸hi)).le⟩⟩,IA h8⟩
theorem cB {rl:List (Nat×Nat)} {u v:AV} (hk:keys u=[]) (h:u=v):eZ rl u v:=.inr ⟨hk,h▸.refl _⟩
theorem bJ {nx:Nat} {rl:List (Nat×Nat)} {os ps:aE} {k2 k1:Nat} {r w:Bool} {es n m:Nat} {f g:Nat->AV} (hk:look k2 rl=some k1) (ho:look k1 os=some ⟨r,w,es,n,f⟩) (hn:n=m) (h:∀i,i<m->eZ rl (f i) (g i))
  (hs:jv nx rl os ps):jv nx rl os ((k2,⟨r,w,es,m,g⟩)::ps):=⟨.inr ⟨k1,_,hk,ho,rfl,rfl,rfl,hn,h⟩,hs⟩
theorem bG {nx:Nat} {rl:List (Nat×Nat)} {os ps:aE} {k2 k1:Nat} {r w:Bool} {es:Nat} {f g:Nat->AV} (hk:look k2 rl=some k1) (ho:look k1 os=some ⟨r,w,es,1,f⟩) (h:eZ rl (f 0) (g 0))
  (hs:jv nx rl os ps):jv nx rl os ((k2,⟨r,w,es,1,g⟩)::ps):=bJ hk ho rfl (fun i hi=>by rw[Nat.lt_one_iff.1 hi];exact h) hs
theorem fV {nx:Nat} {rl:List (Nat×Nat)} {os ps:aE} {k2 es:Nat} {w:Bool} {f:Nat->AV} (hk:look k2 rl=none) (hes:0<es) (hn:k2<nx) (hs:jv nx rl os ps):jv nx rl os ((k2,⟨true,w,es,0,f⟩)::ps):=⟨.inl ⟨hk,⟨rfl,rfl,hes⟩,hn⟩,hs⟩
theorem nS {α:Type} {k:Nat} {a:α} {l:List (Nat×α)}:look k ((k,a)::l)=some a:=by simp[look]
theorem Mj {α:Type} {j k:Nat} {b:α} {l:List (Nat×α)} (h:(j==k)=false):look k ((j,b)::l)=look k l:=by simp[look,h]
theorem P7 {α:Type} {k:Nat} {b:List (Nat×α)}:∀{a:List (Nat×α)},look k (a++b)=match look k a with
  |some x=>some x
  |none=>look k b
 |[]=>rfl
 |(j,x)::a=>by
  simp only[List.cons_append,look]
  split
  ·rfl
  ·exact P7
theorem s8 {P:Program} {a b:bf} (ha:bu P a) (hb:bu P b):bu P (a++b):=by
 intro f s hl
 have hl:look f (a++b)=some s:=hl
 rw[P7]at hl
 split at hl
 ·rename_i h
  simp only[az]at hl
  subst hl
  exact ha f _ h
 ·exact hb f s hl
def Kept (kp:List Nat) (c:Ctx):Prop:=∀k x,c.k0 k=some x->k∈kp
theorem gV {c:Ctx} (h0:∀nx k x,c.k0 k=some x->k<nx):Kept [] c:=fun k x hk=>absurd (h0 0 k x hk) aa
def cU (kp:List Nat) (v:List AV×aE) (vs:List AV) (os:aE) (nx:Nat):Prop:=
 ∃rl,(iQ nx rl&&kp.all fun k=>look k rl==some k)=true/\v.1=vs.map (mh rl)/\vs.all (lG rl)=true/\jv nx rl v.2 os
theorem cU.le {kp:List Nat} {c:Ctx} {s':aK} {ls:List Nat} {v:List AV×aE} {vs:List AV} {os:aE} {nx:Nat} (h:cU kp v vs os nx) (hv:bA ls s'=some v) (h0:Kept kp c):∃ρ,Le c ρ s' ⟨aB ls vs,os,nx⟩:=by
 obtain⟨rl,h1,h2,h3,h4⟩:=h
 simp only[Bool.and_eq_true]at h1
 exact Uh rl hv (fun k x hk=>by simpa using List.all_eq_true.1 h1.2 k (h0 k x hk)) h1.1 (TT h2 h3) (IA h4)
theorem cU.vals {vs:List AV} {nx:Nat} (h:vs.all tT=true):cU [] (vs,[]) vs [] nx:=by
 simp only[List.all_eq_true]at h
 refine⟨[],rfl,?_,List.all_eq_true.2 fun v hv=>akO (h v hv),trivial⟩
 have:vs.map (mh [])=vs.map id:=List.map_congr_left fun v hv=>VZ (h v hv)
 rw[this,List.map_id]
theorem mS {nt:Nat}:∀{x:Code} {p:List Nat},cA nt x=true->(before x p).all (fun x=>cA nt x)=true
 |.seq x y,0::p,h=>by
  simp only[cA,Bool.and_eq_true]at h
  exact mS (x:=x) h.1
 |.seq x y,(n+1)::p,h=>by
  simp only[cA,Bool.and_eq_true]at h
  simp only[before,List.all_cons,Bool.and_eq_true]
  exact⟨h.1,mS (x:=y) h.2⟩
 |.seq _ _,[],_|.cond _ _ _,_,_|.block _ _,_,_|.loop _,_,_|.region _ _ _,_,_|.skip,_,_|.label _,_,_|.exit _,_,_|.ret,_,_|.scope _,_,_|.goto _,_,_|.refuse _,_,_|.rangeFunc _ _ _ _,_,_=>by simp[before]
theorem zS {nt:Nat}:∀{x:Code} {p:List Nat},cA nt x=true->(behind x p).all (fun x=>cA nt x)=true
 |.seq x y,0::p,h=>by
  simp only[cA,Bool.and_eq_true]at h
  simp only[behind,List.all_append,List.all_cons,List.all_nil,Bool.and_true,Bool.and_eq_true]
  exact⟨zS (x:=x) h.1,h.2⟩
 |.seq x y,(n+1)::p,h=>by
  simp only[cA,Bool.and_eq_true]at h
  exact zS (x:=y) (p:=p) h.2
 |.seq _ _,[],_|.cond _ _ _,_,_|.block _ _,_,_|.loop _,_,_|.region _ _ _,_,_|.skip,_,_|.label _,_,_|.exit _,_,_|.ret,_,_|.scope _,_,_|.goto _,_,_|.refuse _,_,_|.rangeFunc _ _ _ _,_,_=>by simp[behind]
theorem zl {nt:Nat}:∀{x:Code} {p:List Nat},chain x p=true->cA nt x=true->cA nt (part x p)=true
 |x,[],_,h=>by cases x<;>exact h
 |.seq x y,0::p,hc,h=>by
  simp only[cA,Bool.and_eq_true]at h
  exact zl (x:=x) hc h.1
 |.seq x y,(n+1)::p,hc,h=>by
  simp only[cA,Bool.and_eq_true]at h
  exact zl (x:=y) hc h.2
 |.cond _ _ _,_::_,hc,_|.block _ _,_::_,hc,_|.loop _,_::_,hc,_|.region _ _ _,_::_,hc,_|.skip,_::_,hc,_|.label _,_::_,hc,_|.exit _,_::_,hc,_|.ret,_::_,hc,_|.scope _,_::_,hc,_|.goto _,_::_,hc,_|.refuse _,_::_,hc,_|.rangeFunc _ _ _ _,_::_,hc,_=>by simp[chain]at hc
section rules
variable {P:Program} {c:Ctx} {nt:Nat} {s:aK} {Q:ax->aK->Prop} {T:Types} (hT:ep P T) {Γ:bf} (hΓ:bu P Γ) (hm:P.follows .mixedOrders=true)
def Round (kp:List Nat) {α:Type} (V:α->List AV) (O:α->aE) (nx:Nat) (I D:α->Prop) (μ:α->Nat) (i:Nat) (R:List AV×aE->Prop) (a:α):ax->List AV×aE->Prop
 |.normal,v=>∃b,I b/\μ b<μ a/\cU kp v (V b) (O b) nx
 |.exit k,v=>k=i/\∃b,D b/\cU kp v (V b) (O b) nx
 |.ret,v=>R v
include hT hΓ hm in
theorem au.Wf {x y:Code} {i:Nat} (hx:x=.block i (.loop y)) {kp:List Nat} (h0:Kept kp c) {forks:List Nat} (n:Nat) (L:List Nat) (nx:Nat) {α:Type} (V:α->List AV) (O:α->aE) (I D:α->Prop) (μ:α->Nat) (R:List AV×aE->Prop)
  (a0:α) (hI:I a0) (hs:∃ρ,Le c ρ s ⟨aB L (V a0),O a0,nx⟩) (hd:cA nt y=true)
  (hb:∀a,I a->∃t,aG T Γ forks n L [y] ⟨aB L (V a),O a,nx⟩=some t/\t.all (Round kp V O nx I D μ i R a))
  (hD:∀b s',D b->(∃ρ,Le c ρ s' ⟨aB L (V b),O b,nx⟩)->Q .normal s') (hR:∀v s',R v->bA L s'=some v->Q .ret s'):au P c nt x s Q:=by
 refine au.iZ hx (fun a=>⟨aB L (V a),O a,nx⟩) I μ a0 hs hI fun a ha=>?_
 obtain⟨t,h1,h2⟩:=hb a ha
 refine au.bC hT hΓ hm n L h1 hd (ah.fP ?_ h2)
 rintro e v hv s' hs'
 cases e with
 |normal=>
  obtain⟨b,g1,g2,g3⟩:=hv
  exact⟨b,g3.le hs' h0,g1,g2⟩
 |exit k=>
  obtain⟨rfl,b,g1,g2⟩:=hv
  exact Au (hD b s' g1 (g2.le hs' h0))
 |ret=>exact hR v s' hv hs'
theorem aH.one {x:Code} (h:au P c nt x s Q):aH P c nt [x] s Q:=h.mono fun e s' h=>by cases e<;>exact h
theorem au.gr {x:Code} (h:aH P c nt [x] s Q):au P c nt x s Q:=au.mono h fun e s' h=>by cases e<;>exact h
def Start (kp:List Nat) {α:Type} (V:α->List AV) (O:α->aE) (nx:Nat) (I:α->Prop) (R:List AV×aE->Prop):ax->List AV×aE->Prop
 |.normal,v=>∃a,I a/\cU kp v (V a) (O a) nx
 |.ret,v=>R v
 |.exit _,_=>False
include hT hΓ hm in
theorem au.oV {x y:Code} (p:List Nat) {i:Nat} (hc:chain x p=true) (hx:part x p=.block i (.loop y)) (hd:cA nt x=true) {kp:List Nat} (h0:Kept kp c) {f1 f2:List Nat} (n:Nat) (L:List Nat) (nx:Nat) {α:Type} (V:α->List AV) (O:α->aE) (I D:α->Prop) (μ:α->Nat) (R:List AV×aE->Prop)
  (hp:∃t,aG T Γ f1 n L (before x p) s=some t/\t.all (Start kp V O nx I R))
  (hb:∀a,I a->∃t,aG T Γ f2 n L [y] ⟨aB L (V a),O a,nx⟩=some t/\t.all (Round kp V O nx I D μ i R a))
  (hD:∀b s',D b->(∃ρ,Le c ρ s' ⟨aB L (V b),O b,nx⟩)->aH P c nt (behind x p) s' Q) (hR:∀v s',R v->bA L s'=some v->Q .ret s'):au P c nt x s Q:=by
 obtain⟨t,h1,h2⟩:=hp
 refine au.hole p hc (aH.bC hT hΓ hm n L h1 (mS hd) (ah.fP ?_ h2))
 rintro e v hv s' hs'
 cases e with
 |normal=>
  obtain⟨a,hI,hre⟩:=hv
  refine(show au P c nt (part x p) s' _ from au.Wf hT hΓ hm hx h0 n L nx V O I D μ R a hI (hre.le hs' h0) ?_ hb (fun b s' hD' hle=>hD b s' hD' hle) fun v s' hv hs'=>hR v s' hv hs')
  have:=zl (nt:=nt) hc hd
  rw[hx]at this
  exact this
 |ret=>exact hR v s' hv hs'
 |exit k=>exact hv.elim
include hT hΓ hm in
theorem au.j4 {x y z:Code} (p:List Nat) {i:Nat} (hc:chain x p=true) (hx:part x p=.block i (.loop y)) (hz:behind x p=[z]) (hd:cA nt x=true) {kp:List Nat} (h0:Kept kp c) {f1 f2:List Nat} (n:Nat) (L:List Nat) (nx:Nat) {α:Type} (V:α->List AV) (O:α->aE) (I D:α->Prop) (μ:α->Nat) (R:List AV×aE->Prop)
  (hp:∃t,aG T Γ f1 n L (before x p) s=some t/\t.all (Start kp V O nx I R))
  (hb:∀a,I a->∃t,aG T Γ f2 n L [y] ⟨aB L (V a),O a,nx⟩=some t/\t.all (Round kp V O nx I D μ i R a))
  (hD:∀b,D b->au P c nt z ⟨aB L (V b),O b,nx⟩ Q) (hR:∀v s',R v->bA L s'=some v->Q .ret s'):au P c nt x s Q:=
 au.oV hT hΓ hm p hc hx hd h0 n L nx V O I D μ R hp hb (fun b s' hD' hle=>by rw[hz];exact aH.weak rfl hle (aH.one (hD b hD'))) hR
def AQ (c:Ctx) (L:List Nat) {α:Type} (V:α->List AV) (O:α->aE) (nx:Nat) (I D:α->Prop) (μ:α->Nat) (i:Nat) (R:aK->Prop) (a:α):ax->aK->Prop
 |.normal,s'=>∃b,I b/\μ b<μ a/\∃ρ,Le c ρ s' ⟨aB L (V b),O b,nx⟩
 |.exit k,s'=>k=i/\∃b,D b/\∃ρ,Le c ρ s' ⟨aB L (V b),O b,nx⟩
 |.ret,s'=>R s'
include hT hΓ hm in
theorem au.tV {x y z:Code} (p:List Nat) {i:Nat} (hc:chain x p=true) (hx:part x p=.block i (.loop y)) (hz:behind x p=[z]) (hd:cA nt x=true) {kp:List Nat} (h0:Kept kp c) {f1:List Nat} (n:Nat) (L:List Nat) (nx:Nat) {α:Type} (V:α->List AV) (O:α->aE) (I D:α->Prop) (μ:α->Nat) (R:List AV×aE->Prop)
  (hp:∃t,aG T Γ f1 n L (before x p) s=some t/\t.all (Start kp V O nx I R))
  (hb:∀a,I a->au P c nt y ⟨aB L (V a),O a,nx⟩ (AQ c L V O nx I D μ i (fun s'=>∃v,R v/\bA L s'=some v) a))
  (hD:∀b,D b->au P c nt z ⟨aB L (V b),O b,nx⟩ Q) (hR:∀v s',R v->bA L s'=some v->Q .ret s'):au P c nt x s Q:=by
 obtain⟨t,h1,h2⟩:=hp
 refine au.hole p hc (aH.bC hT hΓ hm n L h1 (mS hd) (ah.fP ?_ h2))
 rintro e v hv s' hs'
 cases e with
 |normal=>
  obtain⟨a,hI,hre⟩:=hv
  refine au.iZ hx (fun a=>⟨aB L (V a),O a,nx⟩) I μ a (hre.le hs' h0) hI fun a ha=>(hb a ha).mono fun e s' h=>?_
  cases e with
  |normal=>
   obtain⟨b,g1,g2,g3⟩:=h
   exact⟨b,g3,g1,g2⟩
  |exit k=>
   obtain⟨rfl,b,g1,g2⟩:=h
   refine Au ?_
   show aH P c nt (behind x p) s' _
   rw[hz]
   exact aH.weak rfl g2 (aH.one (hD b g1))
  |ret=>
   obtain⟨v,g1,g2⟩:=h
   exact hR v s' g1 g2
 |ret=>exact hR v s' hv hs'
 |exit k=>exact hv.elim
include hT hΓ hm in
theorem au.ow {y x1 zb:Code} (p:List Nat) {j:Nat} (hc:chain y p=true) (hx:part y p=.block j x1) (hz:behind y p=[zb]) (hd:cA nt y=true) {kp:List Nat} (h0:Kept kp c) {f1:List Nat} (n:Nat) (L:List Nat) (nx:Nat) {α:Type} (V:α->List AV) (O:α->aE) (I:α->Prop)
  (hp:∃t,aG T Γ f1 n L (before y p) s=some t/\t.all fun e v=>match e with
   |.normal=>∃a,I a/\cU kp v (V a) (O a) nx
   |e=>∀s',bA L s'=some v->Q e s')
  (hb:∀a,I a->au P c nt x1 ⟨aB L (V a),O a,nx⟩ (inBlock j (dM (fun s'=>au P c nt zb s' Q) Q))):au P c nt y s Q:=by
 obtain⟨t,h1,h2⟩:=hp
 refine au.hole p hc (aH.bC hT hΓ hm n L h1 (mS hd) (ah.fP ?_ h2))
 rintro e v hv s' hs'
 cases e with
 |normal=>
  obtain⟨a,hI,hre⟩:=hv
  refine au.jn (hre.le hs' h0) (au.qL hx ((hb a hI).mono fun e s' h=>?_))
  have key:∀{e s'},dM (fun s'=>au P c nt zb s' Q) Q e s'->dM (fun s''=>aH P c nt (behind y p) s'' Q) Q e s':=fun {e s'} h=>by
   cases e with
   |normal=>show aH P c nt (behind y p) s' Q;rw[hz];exact aH.one h
   |exit k=>exact h
   |ret=>exact h
  cases e with
  |normal=>exact key (e:=.normal) h
  |exit k=>
   simp only[inBlock]at h ⊢
   split
   ·rename_i hk;rw[if_pos hk]at h;exact key (e:=.normal) h
   ·rename_i hk;rw[if_neg hk]at h;exact key (e:=.exit k) h
  |ret=>exact key (e:=.ret) h
 |ret=>exact hv s' hs'
 |exit k=>exact hv s' hs'
theorem au.tail {z zb:Code} {j:Nat} (hne:∀s',Q (.exit j) s'->False) (h:aH P c nt [z,zb] s Q):au P c nt z s (inBlock j (dM (fun s'=>au P c nt zb s' Q) Q)):=
 au.mono h fun e s' h=>by
  cases e with
  |normal=>exact au.mono h fun e s' h=>by cases e<;>exact h
  |exit k=>
   simp only[inBlock]
   split
   ·rename_i hk;subst hk;exact(hne _ h).elim
   ·exact h
  |ret=>exact h
def pF (fn:Func) (L:List Nat) (res:AV) (v:List AV×aE):Prop:=∃us,Ii fn (aB L v.1)=some us/\fj us res
theorem pF.fin {fn:Func} {L:List Nat} {res:AV} {v:List AV×aE} {s':aK} (h:pF fn L res v) (hs':bA L s'=some v):eo c (Fin T fn res) .ret s':=by
 obtain⟨us,g1,g2⟩:=h
 exact .inl (gQ (.inr rfl) hs' g1 g2)
theorem nQ {c:Prop} [Decidable c] {u v:AV} (hu:keys u=[]) (hv:keys v=[]):keys (if c then u else v)=[]:=by split<;>assumption
def ou (T:Types) (fn:Func) (L:List Nat) (res:AV) (v:List AV×aE):Prop:=
 ∃vs us nx t,v.1=vs++us/\vs.length=L.length/\bI us=[]/\jt T fn .ret ⟨aB L vs,v.2,nx⟩=some t/\ko nx vs=true/\iB nx v.2/\t.all fun _ us=>fj us res
theorem ou.fin {fn:Func} {L L1:List Nat} {res:AV} {v:List AV×aE} {s':aK} (h0:Kept [] c) (h:ou T fn L res v) (hs':bA (L++L1) s'=some v):eo c (Fin T fn res) .ret s':=by
 obtain⟨vs,us,nx,t,h1,h2,h3,h4,h5,h6,h7⟩:=h
 obtain⟨v1,v2⟩:=v
 simp only at h1
 subst h1
 exact AM h4 (jx hs' h2 h3) (fun k x hk=>by simpa using h0 k x hk) h5 h6 h7
include hT hΓ hm in
theorem ij {f:FuncId} {fn:Func} (hf:aT P f fn (ay fn)) {args:List AV} {r:dz} (hk:bI args=[]) (hlen:args.length<=fn.ntmps) (hpost:r.post=[]) (p:List Nat) {i:Nat} {y z:Code} (hc:chain (ay fn) p=true) (hx:part (ay fn) p=.block i (.loop y)) (hz:behind (ay fn) p=[z])
  {f1 f2 f3:List Nat} (n:Nat) (L:List Nat) (nx:Nat) {α:Type} (V:α->List AV) (O:α->aE) (I D:α->Prop) (μ:α->Nat)
  (h:r.need->(∃t,aG T Γ f1 n L (before (ay fn) p) ⟨aP 0 args,[],0⟩=some t/\t.all (Start [] V O nx I (pF fn L r.res)))/\
   (∀a,I a->∃t,aG T Γ f2 n L [y] ⟨aB L (V a),O a,nx⟩=some t/\t.all (Round [] V O nx I D μ i (pF fn L r.res) a))/\
   ∀a,D a->∃t,cj T Γ f3 n fn [z] ⟨aB L (V a),O a,nx⟩=some t/\t.all fun _ us=>fj us r.res) (K:Nat) (pre:aE):aQ P f K args pre r:=by
 refine fc hT hf hk hlen hpost (fun need c h0=>?_) K pre
 obtain⟨hp,hb,he⟩:=h need
 refine au.j4 hT hΓ hm p hc hx hz hf.dst (gV h0) n L nx V O I D μ (pF fn L r.res) hp hb (fun a ha=>?_) fun v s' hv hs'=>hv.fin hs'
 obtain⟨t,g1,g2⟩:=he a ha
 have:=zS (x:=ay fn) (p:=p) hf.dst
 rw[hz]at this
 exact au.gr ((aH.fin hT hΓ hm n g1 this g2).mono fun _ _ h=>.inl h)
def T3 (T:Types) (fn:Func) (k:Nat) (res:AV) (o':ak) (e:ax) (s':aK):Prop:=
 (e=.normal\/e=.ret)/\Ends T fn res s'/\∃o1,look 0 s'.store=some o1/\o1.row=false/\dw (bp [(k,0)]) o1 o'
def B9 (T:Types) (Γ:bf) (forks:List Nat) (n:Nat) (fn:Func) (l:List Code) (s:aK):Option (ah (List AV×Option ak)):=
 match p5 T Γ forks n l s with
 |some t=>t.bind (Gl T fn)
 |none=>none
include hT hΓ hm in
theorem aH.MQ {fn:Func} {forks:List Nat} (n:Nat) {l:List Code} {s:aK} {t:ah (List AV×Option ak)} (hc:B9 T Γ forks n fn l s=some t) (hd:(l.all fun x=>cA nt x)=true) {k:Nat} {res:AV} {o':ak}
  (h:t.all fun _ v=>fj v.1 res/\∃o1,v.2=some o1/\o1.row=false/\dw (bp [(k,0)]) o1 o'):aH P c nt l s (T3 T fn k res o'):=by
 unfold B9 at hc
 split at hc
 ·rename_i u hx
  refine AH hT hΓ hm hd hx (ah.fP ?_ (ah.j5 hc h))
  rintro e s' ⟨v,h1,h2⟩
  unfold Gl at h1
  split at h1
  ·rename_i v' hv'
   have h4:v'.all fun _ us=>fj us res/\∃o1,look 0 s'.store=some o1/\o1.row=false/\dw (bp [(k,0)]) o1 o':=by
    refine ah.fP ?_ (ah.j5 h1 h2)
    rintro e us ⟨w,g1,g2⟩
    simp only[az]at g1
    subst g1
    exact g2
   have h5:Fin T fn res e s':=EZ hv' (ah.fP (fun _ _ h=>h.1) h4)
   refine⟨h5.1,h5.2,?_⟩
   have:∀{t:ah (List AV)},(t.all fun _ us=>fj us res/\∃o1,look 0 s'.store=some o1/\o1.row=false/\dw (bp [(k,0)]) o1 o')->∃o1,look 0 s'.store=some o1/\o1.row=false/\dw (bp [(k,0)]) o1 o':=by
    intro t
    induction t with
    |leaf e us=>exact fun h=>h.2
    |aj ps t ih=>exact fun h=>ih h.2
    |fork b t1 t2 ih1 ih2=>
     intro h
     cases b with
     |true=>exact ih1 (h.1 rfl)
     |false=>exact ih2 (h.2 rfl)
   exact this h4
  ·simp at h1
 ·simp at hc
theorem Dq {rl:List (Nat×Nat)}:∀{rest:List AV},bI rest=[]->(rest.all fun v=>!v.isTuple)=true->fY (bp rl) rest rest
 |[],_,_=>trivial
 |v::r,h1,h2=>by
  simp only[bI,List.append_eq_nil_iff]at h1
  simp only[List.all_cons,Bool.and_eq_true,Bool.not_eq_true']at h2
  exact⟨⟨h2.1,gm h1.1⟩,Dq h1.2 h2.2⟩
include hT in
theorem Rj {f:FuncId} {fn:Func} {x:Code} (hf:aT P f fn x) {k idx es off:Nat} {p:List Nat} {rest:List AV} {o2 o o':ak} {res:AV} {l:List Prop}
  (hkr:bI rest=[]) (hrt:(rest.all fun v=>!v.isTuple)=true) (hlen:rest.length+1<=fn.ntmps) (ho:∀ρ,dw ρ o2 o)
  (h:aA l->∀c:Ctx,Kept [0] c->au P c fn.ntmps x ⟨aP 0 (.ptr 0 idx es off p::rest),[(0,o)],1⟩ (T3 T fn k res o')) (K:Nat):
  aQ P f K (.ptr k idx es off p::rest) [(k,o2)] ⟨res,[(k,o')],l⟩:=by
 refine oe hT hf (args0:=.ptr 0 idx es off p::rest) (pre0:=[(0,o)]) (nx:=1) [(0,k)] (by simpa using hlen) (by simp[iQ]) ⟨⟨rfl,oC rfl⟩,Dq hkr hrt⟩ ⟨⟨k,o2,rfl,by simp[look],ho _⟩,trivial⟩
  (fun a x h=>?_) (fun x o h=>.inl ?_) (fun need c h0=>?_)
 ·simp only[bp,look]at h
  split at h
  ·simp only[az]at h;subst h;exact⟨_,by simp[look];rfl⟩
  ·simp at h
 ·simp only[look]at h
  split at h
  ·rename_i he
   exact⟨_,by simp only[look,he,if_true];rfl⟩
  ·simp at h
 have hk:Kept [0] c:=fun a y hy=>by
  have:=h0 a y hy
  simp only[bp,look]at this
  split at this
  ·rename_i he;have:=eq_of_beq he;subst this;exact List.mem_singleton_self _
  ·simp at this
 refine(h need c hk).mono fun e s' ⟨h1,h2,o1,g1,g2,g3⟩=>⟨h1,bp [(k,0)],tW,.inl ⟨h2,fun x ox hx=>?_⟩⟩
 have he:cQ (fz [(k,o')]) [(k,o2)]=[(k,o')]:=by simp[cQ,fz,put]
 rw[he]at hx
 simp only[look]at hx
 split at hx
 ·rename_i hk
  have:k=x:=by simpa using hk
  subst this
  simp only[az]at hx
  subst hx
  exact⟨0,o1,by simp[bp,look],g1,g2,g3⟩
 ·simp at hx
end rules
theorem aC {nx:Nat} {rl:List (Nat×Nat)} {os ps:aE} {k2 k1:Nat} {r w:Bool} {es:Nat} {f g:Nat->AV} (hs:jv nx rl os ps) (hk:look k2 rl=some k1:=by exact rfl) (ho:look k1 os=some ⟨r,w,es,1,f⟩:=by exact rfl) (h1:keys (f 0)=[]:=by exact rfl) (h2:f 0=g 0:=by exact rfl):jv nx rl os ((k2,⟨r,w,es,1,g⟩)::ps):=bG hk ho (cB h1 h2) hs
theorem bk {nx:Nat} {rl:List (Nat×Nat)} {os ps:aE} {k2 k1:Nat} {r w:Bool} {es n m:Nat} {f g:Nat->AV} (hs:jv nx rl os ps) (hk:look k2 rl=some k1:=by exact rfl) (ho:look k1 os=some ⟨r,w,es,n,f⟩:=by exact rfl) (hn:n=m:=by exact rfl) (h1:∀i,keys (f i)=[]:=by exact fun _=>rfl) (h2:∀i,f i=g i:=by exact fun _=>rfl):jv nx rl os ((k2,⟨r,w,es,m,g⟩)::ps):=bJ hk ho hn (fun i _=>cB (h1 i) (h2 i)) hs
end Go.Am
namespace Go.Am
open AV
theorem zB {ρ:Nat->Option Nat}:∀{us vs:List AV},bI us=[]->(us.all fun v=>!v.isTuple)=true->fq us vs->fY ρ us vs
 |[],[],_,_,_=>trivial
 |u::us,v::vs,h1,h2,h=>by
  simp only[bI,List.append_eq_nil_iff]at h1
  simp only[List.all_cons,Bool.and_eq_true,Bool.not_eq_true']at h2
  exact⟨⟨h2.1,mZ h1.1 h.1⟩,zB h1.2 h2.2 h.2⟩
 |[],_::_,_,_,h=>h.elim
 |_::_,[],_,_,h=>h.elim
section rules
variable {P:Program} {c:Ctx} {nt:Nat} {s:aK} {Q:ax->aK->Prop} {T:Types} (hT:ep P T) {Γ:bf} (hΓ:bu P Γ) (hm:P.follows .mixedOrders=true)
end rules
end Go.Am
namespace Go.Am
open AV
def Kw (fn:Func) (k:Nat) (ws:List AV) (o':ak) (e:ax) (s':aK):Prop:=
 (e=.normal\/e=.ret)/\∃ls vs us os o1,bA ls s'=some (vs,os)/\mc (aB ls vs) fn.results.toList=some us/\fY (bp [(k,0)]) us ws/\look 0 os=some o1/\dw (bp [(k,0)]) o1 o'
def Cr (fn:Func) (k:Nat) (ws:List AV) (o':ak) (L:List Nat) (v:List AV×aE):Prop:=∃us o1,mc (aB L v.1) fn.results.toList=some us/\fY (bp [(k,0)]) us ws/\look 0 v.2=some o1/\dw (bp [(k,0)]) o1 o'
theorem Cr.fin {fn:Func} {k:Nat} {ws:List AV} {o':ak} {L:List Nat} {v:List AV×aE} {s':aK} (h:Cr fn k ws o' L v) (hs':bA L s'=some v):Kw fn k ws o' .ret s':=by
 obtain⟨us,o1,h1,h2,h3,h4⟩:=h
 exact⟨.inr rfl,L,v.1,us,v.2,o1,hs',h1,h2,h3,h4⟩
section rules
variable {P:Program} {c:Ctx} {nt:Nat} {s:aK} {Q:ax->aK->Prop} {T:Types} (hT:ep P T) {Γ:bf} (hΓ:bu P Γ) (hm:P.follows .mixedOrders=true)
include hT hΓ hm in
theorem au.branch {x u v:Code} {b:Operand} (p:List Nat) (hc:chain x p=true) (hx:part x p=.cond b u v) (hz:behind x p=[]) (hd:cA nt x=true) {kp:List Nat} (h0:Kept kp c) {f1:List Nat} (n:Nat) (L:List Nat) (nx:Nat) {α:Type} (V:α->List AV) (O:α->aE) (I:α->Prop)
  (hp:∃t,aG T Γ f1 n L (before x p) s=some t/\t.all fun e v=>match e with
   |.normal=>∃a,I a/\cU kp v (V a) (O a) nx
   |e=>∀s',bA L s'=some v->Q e s')
  (hb:∀a,I a->∃t,(⟨aB L (V a),O a,nx⟩:aK).gT b=some (.bool t)/\(t=true->au P c nt u ⟨aB L (V a),O a,nx⟩ Q)/\(t=false->au P c nt v ⟨aB L (V a),O a,nx⟩ Q)):au P c nt x s Q:=by
 obtain⟨t,h1,h2⟩:=hp
 refine au.hole p hc (aH.bC hT hΓ hm n L h1 (mS hd) (ah.fP ?_ h2))
 rintro e v hv s' hs'
 cases e with
 |normal=>
  obtain⟨a,hI,hre⟩:=hv
  obtain⟨t,g1,g2,g3⟩:=hb a hI
  show au P c nt (part x p) s' _
  rw[hx,hz]
  have key:∀{y:Code} {s:aK},au P c nt y s Q->au P c nt y s (dM (fun s''=>aH P c nt [] s'' Q) Q):=fun h=>h.mono fun e s' h=>by cases e<;>exact h
  exact au.jn (hre.le hs' h0) (au.cond g1 (fun ht=>key (g2 ht)) fun ht=>key (g3 ht))
 |ret=>exact hv s' hs'
 |exit k=>exact hv s' hs'
include hT in
theorem Xx {f:FuncId} {fn:Func} {x:Code} (hf:aT P f fn x) {k es st n:Nat} {rest ws:List AV} {o2 o o':ak} {l:List Prop}
  (hkr:bI rest=[]) (hrt:(rest.all fun v=>!v.isTuple)=true) (hlen:rest.length+1<=fn.ntmps) (ho:∀ρ,dw ρ o2 o)
  (h:aA l->∀c:Ctx,Kept [0] c->au P c fn.ntmps x ⟨aP 0 (.own 0 es st n::rest),[(0,o)],1⟩ (Kw fn k ws o')) (K:Nat):
  aQ P f K (.own k es st n::rest) [(k,o2)] ⟨jh ws,[(k,o')],l⟩:=by
 refine oe hT hf (args0:=.own 0 es st n::rest) (pre0:=[(0,o)]) (nx:=1) [(0,k)] (by simpa using hlen) (by simp[iQ]) ⟨⟨rfl,bW rfl rfl rfl⟩,Dq hkr hrt⟩ ⟨⟨k,o2,rfl,by simp[look],ho _⟩,trivial⟩
  (fun a x h=>?_) (fun x o h=>.inl ?_) (fun need c h0=>?_)
 ·simp only[bp,look]at h
  split at h
  ·simp only[az]at h;subst h;exact⟨_,by simp[look];rfl⟩
  ·simp at h
 ·simp only[look]at h
  split at h
  ·rename_i he
   exact⟨_,by simp only[look,he,if_true];rfl⟩
  ·simp at h
 have hk:Kept [0] c:=fun a y hy=>by
  have:=h0 a y hy
  simp only[bp,look]at this
  split at this
  ·rename_i he;have:=eq_of_beq he;subst this;exact List.mem_singleton_self _
  ·simp at this
 refine(h need c hk).mono fun e s' ⟨h1,ls,vs,us,os,o1,g1,g2,g3,g4,g5⟩=>⟨h1,bp [(k,0)],tW,.inr (vK (ws:=ws) (ps:=[(k,o')]) g1 g2 g3 rfl (by simp[cQ,fz,put]) ⟨⟨0,o1,by simp[bp,look],g4,g5⟩,trivial⟩)⟩
include hT in
theorem FN {f:FuncId} {fn:Func} {x:Code} (hf:aT P f fn x) {args args0 ws:List AV} {o':ak} {K:Nat} {l:List Prop} (ha:aA l->fY (bp []) args args0) (hlen:args0.length<=fn.ntmps)
  (h:aA l->∀c:Ctx,Kept [] c->au P c fn.ntmps x ⟨aP 0 args0,[],0⟩ fun e s'=>(e=.normal\/e=.ret)/\∃ls vs us os a o,bA ls s'=some (vs,os)/\mc (aB ls vs) fn.results.toList=some us/\fY (bp [(K,a)]) us ws/\look a os=some o/\dw (bp [(K,a)]) o o'):
  aQ P f K args [] ⟨jh ws,[(K,o')],l⟩:=by
 intro need
 refine(oe hT hf (args0:=args0) (pre0:=[]) (nx:=0) [] hlen rfl (ha need) trivial (fun a k h=>by simp[bp,look]at h) (fun k o h=>?_) (fun need c h0=>?_):aQ P f K args [] ⟨jh ws,[(K,o')],l⟩) need
 ·simp only[look]at h
  split at h
  ·rename_i he
   have:K=k:=by simpa using he
   subst this
   exact .inr ⟨aY,by unfold cY;omega⟩
  ·simp at h
 ·refine(h need c fun k x hk=>by simpa [bp,look]using h0 k x hk).mono ?_
  rintro e s' ⟨h1,ls,vs,us,os,a,o,h2,h3,h4,h5,h6⟩
  exact⟨h1,bp [(K,a)],Lc ⟨aY,by unfold cY;omega⟩,.inr (vK (ws:=ws) (ps:=[(K,o')]) h2 h3 h4 rfl rfl ⟨⟨a,o,by simp[bp,look],h5,h6⟩,trivial⟩)⟩
end rules
end Go.Am
namespace Go.Am
open AV
section rules
variable {P:Program} {c:Ctx} {nt:Nat} {s:aK} {Q:ax->aK->Prop} {T:Types} (hT:ep P T) {Γ:bf} (hΓ:bu P Γ) (hm:P.follows .mixedOrders=true)
def Head (kp:List Nat) {α:Type} (V:α->List AV) (O:α->aE) (nx:Nat) (D:α->Prop) (i:Nat) (R:List AV×aE->Prop) (G:α->Prop) (a:α):ax->List AV×aE->Prop
 |.normal,v=>G a/\cU kp v (V a) (O a) nx
 |.exit k,v=>k=i/\∃b,D b/\cU kp v (V b) (O b) nx
 |.ret,v=>R v
def QX (kp:List Nat) {α:Type} (V:α->List AV) (O:α->aE) (nx:Nat) (I:α->Prop) (μ:α->Nat) (a:α):ax->List AV×aE->Prop
 |.normal,v=>∃b,I b/\μ b<μ a/\cU kp v (V b) (O b) nx
 |_,_=>False
theorem ajG {i:Nat} {y:Code} (h:cA nt (.block i (.loop y))=true):cA nt y=true:=by simpa [cA]using h
theorem akm {i:Nat} {y:Code} (h:cA nt (.block i y)=true):cA nt y=true:=by simpa [cA]using h
include hT hΓ hm in
theorem au.ada {x y:Code} (p:List Nat) {i:Nat} (hc:chain x p=true) (hx:part x p=.block i (.loop y)) (hd:cA nt x=true) {kp:List Nat} (h0:Kept kp c) {f1:List Nat} (n:Nat) (L:List Nat) (nx:Nat) {α:Type} (V:α->List AV) (O:α->aE) (I D:α->Prop) (μ:α->Nat) (R:List AV×aE->Prop)
  (hp:∃t,aG T Γ f1 n L (before x p) s=some t/\t.all (Start kp V O nx I R))
  (hb:∀a,I a->au P c nt y ⟨aB L (V a),O a,nx⟩ (AQ c L V O nx I D μ i (fun s'=>∃v,R v/\bA L s'=some v) a))
  (hD:∀b s',D b->(∃ρ,Le c ρ s' ⟨aB L (V b),O b,nx⟩)->aH P c nt (behind x p) s' Q) (hR:∀v s',R v->bA L s'=some v->Q .ret s'):au P c nt x s Q:=by
 obtain⟨t,h1,h2⟩:=hp
 refine au.hole p hc (aH.bC hT hΓ hm n L h1 (mS hd) (ah.fP ?_ h2))
 rintro e v hv s' hs'
 cases e with
 |normal=>
  obtain⟨a,hI,hre⟩:=hv
  refine au.iZ hx (fun a=>⟨aB L (V a),O a,nx⟩) I μ a (hre.le hs' h0) hI fun a ha=>(hb a ha).mono fun e s' h=>?_
  cases e with
  |normal=>
   obtain⟨b,g1,g2,g3⟩:=h
   exact⟨b,g3,g1,g2⟩
  |exit k=>
   obtain⟨rfl,b,g1,g2⟩:=h
   refine Au ?_
   show aH P c nt (behind x p) s' _
   exact hD b s' g1 g2
  |ret=>
   obtain⟨v,g1,g2⟩:=h
   exact hR v s' g1 g2
 |ret=>exact hR v s' hv hs'
 |exit k=>exact hv.elim
include hT hΓ hm in
theorem au.IG {x y x1 zb y2:Code} (p:List Nat) {i:Nat} (hc:chain x p=true) (hx:part x p=.block i (.loop y)) (hd:cA nt x=true)
  (q:List Nat) {j:Nat} (hcq:chain y q=true) (hxq:part y q=.block j x1) (hzq:behind y q=[zb]) (r:List Nat) {i2:Nat} (hcr:chain x1 r=true) (hxr:part x1 r=.block i2 (.loop y2)) (hij:(i==j)=false)
  {kp:List Nat} (h0:Kept kp c) {f1 f2 f3 f4 f5:List Nat} (n:Nat) (L1 L2:List Nat) (nx1 nx2:Nat) {α β:Type} (V1:α->List AV) (O1:α->aE) (I1 D1:α->Prop) (μ1:α->Nat) (G:α->Prop) (R1 R2:List AV×aE->Prop)
  (V2:α->β->List AV) (O2:α->β->aE) (I2 D2:α->β->Prop) (μ2:α->β->Nat)
  (hp:∃t,aG T Γ f1 n L1 (before x p) s=some t/\t.all (Start kp V1 O1 nx1 I1 R1))
  (ho:∀a,I1 a->∃t,aG T Γ f2 n L1 (before y q) ⟨aB L1 (V1 a),O1 a,nx1⟩=some t/\t.all (Head kp V1 O1 nx1 D1 i R1 G a))
  (hi:∀a,I1 a->G a->∃t,aG T Γ f3 n L2 (before x1 r) ⟨aB L1 (V1 a),O1 a,nx1⟩=some t/\t.all (Start kp (V2 a) (O2 a) nx2 (I2 a) R2))
  (hb:∀a,I1 a->G a->∀b,I2 a b->∃t,aG T Γ f4 n L2 [y2] ⟨aB L2 (V2 a b),O2 a b,nx2⟩=some t/\t.all (Round kp (V2 a) (O2 a) nx2 (I2 a) (D2 a) (μ2 a) i2 R2 b))
  (ht:∀a,I1 a->G a->∀b,D2 a b->∃t,aG T Γ f5 n L1 (behind x1 r++[zb]) ⟨aB L2 (V2 a b),O2 a b,nx2⟩=some t/\t.all (QX kp V1 O1 nx1 I1 μ1 a))
  (hD:∀b s',D1 b->(∃ρ,Le c ρ s' ⟨aB L1 (V1 b),O1 b,nx1⟩)->aH P c nt (behind x p) s' Q) (hR1:∀v s',R1 v->bA L1 s'=some v->Q .ret s') (hR2:∀v s',R2 v->bA L2 s'=some v->Q .ret s'):au P c nt x s Q:=by
 have hdy:cA nt y=true:=by
  have:=zl (nt:=nt) hc hd
  rw[hx]at this
  exact ajG this
 have hdx1:cA nt x1=true:=by
  have:=zl (nt:=nt) hcq hdy
  rw[hxq]at this
  exact akm this
 have hdz:((behind x1 r++[zb]).all fun x=>cA nt x)=true:=by
  have h1:=zS (nt:=nt) (p:=r) hdx1
  have h2:=zS (nt:=nt) (p:=q) hdy
  rw[hzq]at h2
  rw[List.all_append,h1,h2];rfl
 obtain⟨t,h1,h2⟩:=hp
 refine au.hole p hc (aH.bC hT hΓ hm n L1 h1 (mS hd) (ah.fP ?_ h2))
 rintro e v hv s' hs'
 cases e with
 |ret=>exact hR1 v s' hv hs'
 |exit k=>exact hv.elim
 |normal=>
  obtain⟨a,hI,hre⟩:=hv
  refine(show au P c nt (part x p) s' _ from au.iZ hx (fun a=>⟨aB L1 (V1 a),O1 a,nx1⟩) I1 μ1 a (hre.le hs' h0) hI fun a ha=>?_)
  refine au.mono (Q:=AQ c L1 V1 O1 nx1 I1 D1 μ1 i (fun s'=>Q .ret s') a) ?_ fun e s' h=>?_
  ·refine au.ow hT hΓ hm q hcq hxq hzq hdy h0 (f1:=f2) n L1 nx1 (fun _:Unit=>V1 a) (fun _=>O1 a) (fun _=>G a) ?_ (fun _ hG=>?_)
   ·obtain⟨t,g1,g2⟩:=ho a ha
    refine⟨t,g1,ah.fP ?_ g2⟩
    rintro e v hv
    cases e with
    |normal=>exact⟨(),hv.1,hv.2⟩
    |exit k=>exact fun s' hs'=>⟨hv.1,hv.2.imp fun b hb=>⟨hb.1,hb.2.le hs' h0⟩⟩
    |ret=>exact fun s' hs'=>hR1 v s' hv hs'
   ·refine au.oV hT hΓ hm r hcr hxr hdx1 h0 (f1:=f3) (f2:=f4) n L2 nx2 (V2 a) (O2 a) (I2 a) (D2 a) (μ2 a) R2 (hi a ha hG) (hb a ha hG) (fun b s' hb hle=>?_) (fun v s' hv hs'=>hR2 v s' hv hs')
    obtain⟨t,g1,g2⟩:=ht a ha hG b hb
    have key:aH P c nt (behind x1 r++[zb]) s' (AQ c L1 V1 O1 nx1 I1 D1 μ1 i (fun s'=>Q .ret s') a):=by
     refine aH.weak (by cases behind x1 r<;>rfl) hle (aH.bC hT hΓ hm n L1 g1 hdz (ah.fP ?_ g2))
     rintro e v hv s' hs'
     cases e with
     |normal=>
      obtain⟨b,k1,k2,k3⟩:=hv
      exact⟨b,k1,k2,k3.le hs' h0⟩
     |exit k=>exact hv.elim
     |ret=>exact hv.elim
    refine aH.mono ?_ (aH.append key)
    rintro e s' h
    cases e with
    |normal=>exact au.gr h
    |exit k=>
     simp only[inBlock]
     have hk:k=i:=h.1
     rw[if_neg (by rw[hk];simpa using hij)]
     exact h
    |ret=>exact h
  ·cases e with
   |normal=>
    obtain⟨b,g1,g2,g3⟩:=h
    exact⟨b,g3,g1,g2⟩
   |exit k=>
    obtain⟨rfl,b,g1,g2⟩:=h
    refine Au ?_
    show aH P c nt (behind x p) s' _
    exact hD b s' g1 g2
   |ret=>exact h
include hT hΓ hm in
theorem au.wR {x y z x1 zb y2:Code} (p:List Nat) {i:Nat} (hc:chain x p=true) (hx:part x p=.block i (.loop y)) (hz:behind x p=[z]) (hd:cA nt x=true)
  (q:List Nat) {j:Nat} (hcq:chain y q=true) (hxq:part y q=.block j x1) (hzq:behind y q=[zb]) (r:List Nat) {i2:Nat} (hcr:chain x1 r=true) (hxr:part x1 r=.block i2 (.loop y2)) (hij:(i==j)=false)
  {kp:List Nat} (h0:Kept kp c) {f1 f2 f3 f4 f5:List Nat} (n:Nat) (L1 L2:List Nat) (nx1 nx2:Nat) {α β:Type} (V1:α->List AV) (O1:α->aE) (I1 D1:α->Prop) (μ1:α->Nat) (G:α->Prop) (R1 R2:List AV×aE->Prop)
  (V2:α->β->List AV) (O2:α->β->aE) (I2 D2:α->β->Prop) (μ2:α->β->Nat)
  (hp:∃t,aG T Γ f1 n L1 (before x p) s=some t/\t.all (Start kp V1 O1 nx1 I1 R1))
  (ho:∀a,I1 a->∃t,aG T Γ f2 n L1 (before y q) ⟨aB L1 (V1 a),O1 a,nx1⟩=some t/\t.all (Head kp V1 O1 nx1 D1 i R1 G a))
  (hi:∀a,I1 a->G a->∃t,aG T Γ f3 n L2 (before x1 r) ⟨aB L1 (V1 a),O1 a,nx1⟩=some t/\t.all (Start kp (V2 a) (O2 a) nx2 (I2 a) R2))
  (hb:∀a,I1 a->G a->∀b,I2 a b->∃t,aG T Γ f4 n L2 [y2] ⟨aB L2 (V2 a b),O2 a b,nx2⟩=some t/\t.all (Round kp (V2 a) (O2 a) nx2 (I2 a) (D2 a) (μ2 a) i2 R2 b))
  (ht:∀a,I1 a->G a->∀b,D2 a b->∃t,aG T Γ f5 n L1 (behind x1 r++[zb]) ⟨aB L2 (V2 a b),O2 a b,nx2⟩=some t/\t.all (QX kp V1 O1 nx1 I1 μ1 a))
  (hD:∀b,D1 b->au P c nt z ⟨aB L1 (V1 b),O1 b,nx1⟩ Q) (hR1:∀v s',R1 v->bA L1 s'=some v->Q .ret s') (hR2:∀v s',R2 v->bA L2 s'=some v->Q .ret s'):au P c nt x s Q:=
 au.IG hT hΓ hm p hc hx hd q hcq hxq hzq r hcr hxr hij h0 n L1 L2 nx1 nx2 V1 O1 I1 D1 μ1 G R1 R2 V2 O2 I2 D2 μ2 hp ho hi hb ht (fun b s' hb hle=>by rw[hz];exact aH.weak rfl hle (aH.one (hD b hb))) hR1 hR2
end rules
end Go.Am
namespace Go.Am
open AV
def zo (T:Types) (fn:Func) (e:ax) (s:aK):Option (ah (List AV×Option ak)):=match e with
 |.exit _=>none
 |e=>match g8 T s fn.results.toList with
  |some (vs,q)=>some (.need q (.leaf e (vs,look 0 s.store)))
  |none=>none
def IN (T:Types) (Γ:bf) (forks:List Nat) (n:Nat) (fn:Func) (l:List Code) (s:aK):Option (ah (List AV×Option ak)):=
 match p5 T Γ forks n l s with
 |some t=>t.bind (zo T fn)
 |none=>none
def JF (us:List AV) (o:ak) (v:List AV×Option ak):Prop:=
 bI v.1=[]/\(v.1.all fun v=>!v.isTuple)=true/\fq v.1 us/\∃o1,v.2=some o1/\∀ρ,dw ρ o1 o
def As (T:Types) (fn:Func) (us:List AV) (o:ak) (e:ax) (s:aK):Prop:=
 (e=.normal\/e=.ret)/\(∃vs q,g8 T s fn.results.toList=some (vs,q)/\aA q/\bI vs=[]/\(vs.all fun v=>!v.isTuple)=true/\fq vs us)/\∃o1,look 0 s.store=some o1/\∀ρ,dw ρ o1 o
theorem Pr {T:Types} {fn:Func} {e:ax} {s:aK} {t:ah (List AV×Option ak)} {us:List AV} {o:ak} (h1:zo T fn e s=some t) (h2:t.all fun _ v=>JF us o v):As T fn us o e s:=by
 unfold zo at h1
 have key:∀{e':ax},(match g8 T s fn.results.toList with
   |some (vs,q)=>some (ah.need q (.leaf e' (vs,look 0 s.store)))
   |none=>none)=some t->(∃vs q,g8 T s fn.results.toList=some (vs,q)/\aA q/\bI vs=[]/\(vs.all fun v=>!v.isTuple)=true/\fq vs us)/\∃o1,look 0 s.store=some o1/\∀ρ,dw ρ o1 o:=by
  intro e' h1
  cases hr:g8 T s fn.results.toList with
  |none=>rw[hr]at h1;simp at h1
  |some r=>
   obtain⟨vs,q⟩:=r
   rw[hr]at h1
   simp only[az]at h1
   subst h1
   obtain⟨g1,g2,g3,g4,g5⟩:=ah.F2.1 h2
   exact⟨⟨vs,q,rfl,g1,g2,g3,g4⟩,g5⟩
 cases e with
 |normal=>exact⟨.inl rfl,key h1⟩
 |ret=>exact⟨.inr rfl,key h1⟩
 |exit i=>simp at h1
section rules
variable {P:Program} {c:Ctx} {nt:Nat} {s:aK} {Q:ax->aK->Prop} {T:Types} (hT:ep P T) {Γ:bf} (hΓ:bu P Γ) (hm:P.follows .mixedOrders=true)
include hT hΓ hm in
theorem aH.ano {fn:Func} {forks:List Nat} (n:Nat) {l:List Code} {t:ah (List AV×Option ak)} (hc:IN T Γ forks n fn l s=some t) (hd:(l.all fun x=>cA nt x)=true) {us:List AV} {o:ak}
  (h:t.all fun _ v=>JF us o v):aH P c nt l s (As T fn us o):=by
 unfold IN at hc
 split at hc
 ·rename_i u hx
  refine AH hT hΓ hm hd hx (ah.fP ?_ (ah.j5 hc h))
  rintro e s' ⟨v,h1,h2⟩
  exact Pr h1 h2
 ·simp at hc
def B5 (T:Types) (fn:Func) (L:List Nat) (us:List AV) (o:ak) (v:List AV×aE):Prop:=
 ∃vs ws nx t,v.1=vs++ws/\vs.length=L.length/\bI ws=[]/\zo T fn .ret ⟨aB L vs,v.2,nx⟩=some t/\ko nx vs=true/\iB nx v.2/\1<=nx/\t.all fun _ v=>JF us o v
theorem B5.fin {fn:Func} {L L1:List Nat} {us:List AV} {o:ak} {v:List AV×aE} {s':aK} (h0:Kept [0] c) (h:B5 T fn L us o v) (hs':bA (L++L1) s'=some v):eo c (As T fn us o) .ret s':=by
 obtain⟨vs,ws,nx,t,h1,h2,h3,h4,h5,h6,hn,h7⟩:=h
 obtain⟨v1,v2⟩:=v
 simp only at h1
 subst h1
 obtain⟨ρ,hle⟩:=o4 (jx hs' h2 h3) (fun k x hk=>by
  have:=h0 k x hk
  simp only[List.mem_cons,List.not_mem_nil,or_false]at this
  omega) h5 h6
 exact .inr ⟨_,ρ,hle,Pr h4 h7⟩
include hT in
theorem YP {f:FuncId} {fn:Func} {x:Code} (hf:aT P f fn x) {args args0 us:List AV} {a:Nat} {oa oa0:ak} {l:List Prop} (hlen:args0.length<=fn.ntmps)
  (ha:fY (bp [(0,a)]) args args0) (hoa:aA l->∀ρ,dw ρ oa oa0)
  (h:aA l->∀c:Ctx,Kept [0] c->au P c fn.ntmps x ⟨aP 0 args0,[(0,oa0)],1⟩ (eo c (As T fn us oa0))) (K:Nat):aQ P f K args [(a,oa)] ⟨jh us,[(a,oa0)],l⟩:=by
 intro need
 refine(oe hT hf (args0:=args0) (pre0:=[(0,oa0)]) (nx:=1) [(0,a)] hlen (by simp[iQ]) ha ⟨⟨a,oa,rfl,nS,hoa need _⟩,trivial⟩
  (fun x k h=>?_) (fun x o h=>.inl ?_) (fun need c h0=>?_):aQ P f K args [(a,oa)] ⟨jh us,[(a,oa0)],l⟩) need
 ·simp only[bp,look]at h
  split at h
  ·simp only[az]at h;subst h;exact⟨_,nS⟩
  ·simp at h
 ·simp only[look]at h ⊢
  split at h
  ·rename_i he;exact⟨oa,by rw[if_pos he]⟩
  ·simp at h
 have hk:Kept [0] c:=fun x y hy=>by
  have:=h0 x y hy
  simp only[bp,look]at this
  split at this
  ·rename_i he;have:=eq_of_beq he;subst this;simp
  ·simp at this
 refine(h need c hk).down.mono ?_
 rintro e s' ⟨h1,⟨vs,q,g1,g2,g3,g4,g5⟩,o1,g6,g7⟩
 refine⟨h1,bp [(a,0)],tW,.inr ⟨⟨vs,q,us,g1,g2,zB g3 g4 g5,rfl⟩,fun k o hk=>?_⟩⟩
 have he:cQ (fz [(a,oa0)]) [(a,oa)]=[(a,oa0)]:=by simp[cQ,fz,put]
 rw[he]at hk
 simp only[look]at hk
 split at hk
 ·rename_i hx
  have:=eq_of_beq hx
  simp only[az]at hk
  subst hk this
  exact⟨0,o1,by simp[bp,look],g6,g7 _⟩
 ·simp at hk
end rules
end Go.Am
namespace Go.Am
open AV
section rules
variable {P:Program} {c:Ctx} {nt:Nat} {x:Code} {s:aK} {Q:ax->aK->Prop}
theorem au.L4 {t k:Nat} {o:ak} (ht:look t s.cW=some (.ptr k 0 o.es 0 [])) (hk:look k s.store=some o) (h1:o.row=false) (h2:o.len=1) (h3:(o.f 0).keys=[])
  (h:au P c nt x ⟨qR (some t) (.b6 (o.f 0)) s.cW,put k {o with wr:=false} s.store,s.next⟩ Q):au P c nt x s Q:=by
 intro a w ⟨hd,hs,β,hw,hsl⟩
 have hcap:ur s.store (.ptr k 0 o.es 0 [])=some (k,o):=by
  unfold ur
  simp[hk,h1,h2,h3]
 obtain⟨xv,hx,hv⟩:=hsl t _ ht
 obtain⟨cs,hc,hx2⟩:=hv.one rfl
 have key:=U8 (pre:=s.store) hw (fun k o hk=>⟨o,hk,.inl rfl⟩) hc
 simp only[qM,rH,hcap,cQ]at key
 obtain⟨q1,q2,q3⟩:=key
 refine h a w ⟨hd.iE hw q2,hs,β,q1,fun t' v hv'=>?_⟩
 rw[xF]at hv'
 split at hv'
 ·rename_i he
  simp only[az]at he hv'
  subst he
  subst hv'
  refine⟨xv,hx,bB.bT ⟨cs,q3,.inr ⟨rfl,?_⟩⟩⟩
  rcases hx2 with⟨g,_⟩|⟨_,g⟩
  ·exact Bool.noConfusion g
  ·exact g
 ·obtain⟨y,hy,hvy⟩:=hsl t' v hv'
  exact⟨y,hy,hvy.iE q2⟩
end rules
end Go.Am
namespace Go.Am
open Go AV
section rules
variable {P:Program} {T:Types} (hT:ep P T)
def p6 (T:Types) (sl:List (Nat×AV)) (os:aE):List ResultVar->Option (List AV×List Prop)
 |[]=>some ([],[])
 |.tmp t::l=>match look t sl,p6 T sl os l with
  |some v,some (m,q)=>if v.isTuple then none else some (v::m,q)
  |_,_=>none
 |.cell a t::l=>match look t T,look a sl,p6 T sl os l with
  |some ti,some (.ptr k i es off p),some (m,q)=>match mo os ti (.ptr k i es off p)with
   |some r=>some (r.val::m,r.iI++q)
   |none=>none
  |_,_,_=>none
theorem ah8 {st:aE} {ks:List Nat} {ti:TI} {k i es off:Nat} {p:List Nat} {r:eC} (h:mo (pick st ks) ti (.ptr k i es off p)=some r):mo st ti (.ptr k i es off p)=some r:=by
 have:∀o,look k (pick st ks)=some o->look k st=some o:=fun o ho=>by
  rw[nh]at ho
  split at ho
  ·exact ho
  ·simp at ho
 simp only[mo]at h ⊢
 cases hl:look k (pick st ks)with
 |none=>simp[hl]at h
 |some o=>rw[hl]at h;rw[this o hl];exact h
theorem KU {T:Types} {s:aK} {ls ks:List Nat}:∀{l:List ResultVar} {us:List AV} {q:List Prop},p6 T (aB ls (kA s ls)) (pick s.store ks) l=some (us,q)->g8 T s l=some (us,q)
 |[],us,q,h=>by simp only[p6,az,Prod.mk.injEq]at h;obtain⟨rfl,rfl⟩:=h;rfl
 |.tmp t::l,us,q,h=>by
  simp only[p6]at h
  split at h
  ·rename_i v m q' hv hm
   split at h
   ·simp at h
   ·rename_i ht
    simp only[az,Prod.mk.injEq]at h
    obtain⟨rfl,rfl⟩:=h
    simp only[g8,um,Bp (by simpa using ht) hv,KU hm]
    simp[ht]
  ·simp at h
 |.cell a t::l,us,q,h=>by
  simp only[p6]at h
  split at h
  ·rename_i ti k i es off p m q' h1 h2 hm
   split at h
   ·rename_i r hr
    simp only[az,Prod.mk.injEq]at h
    obtain⟨rfl,rfl⟩:=h
    simp only[g8,um,h1,Bp rfl h2,ah8 hr,KU hm]
   ·simp at h
  ·simp at h
theorem ado {T:Types} {fn:Func} {ls:List Nat} {vs us ws:List AV} {os ps pre:aE} {s':aK} {τ:Nat->Option Nat} {r:dz} {q:List Prop} (hv:bA ls s'=some (vs,os)) (hr:p6 T (aB ls vs) os fn.results.toList=some (us,q)) (hq:aA q) (hle:fY τ us ws) (hres:r.res=jh ws)
  (he:cQ (fz r.post) pre=ps) (ho:oH τ os ps):wT T fn τ pre r s':=by
 unfold bA at hv
 simp only[az,Prod.mk.injEq]at hv
 obtain⟨rfl,rfl⟩:=hv
 refine⟨⟨us,q,ws,KU hr,hq,hle,hres⟩,fun k o hk=>?_⟩
 rw[he]at hk
 obtain⟨k1,o1,g1,g2,g3⟩:=Fz ho k o hk
 refine⟨k1,o1,g1,?_,g3⟩
 rw[nh]at g2
 split at g2
 ·exact g2
 ·simp at g2
end rules
section
variable {P:Program} {c:Ctx} {nt:Nat} {s:aK} {Q:ax->aK->Prop} {T:Types} (hT:ep P T) {Γ:bf} (hΓ:bu P Γ) (hm:P.follows .mixedOrders=true)
end
end Go.Am
namespace Go.Am
open AV
theorem aos {τ:Nat->Option Nat} {cap:Nat} {u v:AV} (hu:u.isAgg=false) (h:fR τ u v):fR τ (.bM cap u) v:=by
 refine⟨h.1.trans hu,fun M w β cs hc=>?_⟩
 cases hc with
 |bM ha h1 h2=>cases h2;exact h.2 _ _ _ _ h1
section rules
variable {P:Program} {c:Ctx} {nt:Nat} {x:Code} {s:aK} {Q:ax->aK->Prop}
theorem au.bM {t k es s0 n:Nat} (ht:look t s.cW=some (.own k es s0 n)) (h:∀cap,n<=cap->au P c nt x ⟨qR (some t) (.bM cap (.own k es s0 n)) s.cW,s.store,s.next⟩ Q):au P c nt x s Q:=by
 intro a w ⟨hd,hs,β,hw,hsl⟩
 obtain⟨xv,hx,hv⟩:=hsl t _ ht
 have key:∃base cap,xv=.slice base n cap/\n<=cap:=by
  rcases hv.own with⟨b,o,cap,N,rfl,_,_,_,h4,_⟩|⟨rfl,_,rfl,_⟩
  ·exact⟨_,_,rfl,h4⟩
  ·exact⟨_,_,rfl,aY⟩
 obtain⟨base,cap,rfl,hn⟩:=key
 refine h cap hn a w ⟨hd,hs,β,hw,fun t' v' hv'=>?_⟩
 rw[xF]at hv'
 split at hv'
 ·rename_i he
  simp only[az]at he hv'
  subst he
  subst hv'
  exact⟨_,hx,bB.bT (.cy (.bM rfl (hv.cell rfl) .nil) rfl)⟩
 ·exact hsl t' v' hv'
variable {T:Types} (hT:ep P T)
include hT in
theorem ZD {f:FuncId} {fn:Func} {x:Code} (hf:aT P f fn x) {k es s0 n:Nat} {rest ws:List AV} {o2 o oa:ak} {K:Nat} {l:List Prop}
  (hkr:bI rest=[]) (hrt:(rest.all fun v=>!v.isTuple)=true) (hlen:rest.length+1<=fn.ntmps) (ho:aA l->∀ρ,dw ρ o2 o)
  (h:aA l->∀c:Ctx,Kept [0] c->au P c fn.ntmps x ⟨aP 0 (.own 0 es s0 n::rest),[(0,o)],1⟩ fun e s'=>(e=.normal\/e=.ret)/\∃ls vs us q os o1,bA ls s'=some (vs,os)/\p6 T (aB ls vs) os fn.results.toList=some (us,q)/\aA q/\fY (bp [(k,0)]) us ws/\
   look 0 os=some o1/\dw (bp [(k,0)]) o1 oa):
  aQ P f K (.own k es s0 n::rest) [(k,o2)] ⟨jh ws,[(k,oa)],l⟩:=by
 intro need
 refine(oe hT hf (args0:=.own 0 es s0 n::rest) (pre0:=[(0,o)]) (nx:=1) [(0,k)] (by simpa using hlen) (by simp[iQ]) ⟨⟨rfl,bW rfl rfl rfl⟩,Dq hkr hrt⟩ ⟨⟨k,o2,rfl,nS,ho need _⟩,trivial⟩
  (fun x k' h=>?_) (fun x o h=>.inl ?_) (fun need c h0=>?_):aQ P f K (.own k es s0 n::rest) [(k,o2)] ⟨jh ws,[(k,oa)],l⟩) need
 ·simp only[bp,look]at h
  split at h
  ·simp only[az]at h;subst h;exact⟨_,nS⟩
  ·simp at h
 ·simp only[look]at h ⊢
  split at h
  ·rename_i he;exact⟨o2,by rw[if_pos he]⟩
  ·simp at h
 have hk:Kept [0] c:=fun a y hy=>by
  have:=h0 a y hy
  simp only[bp,look]at this
  split at this
  ·rename_i he;have:=eq_of_beq he;subst this;exact List.mem_singleton_self _
  ·simp at this
 refine(h need c hk).mono ?_
 rintro e s' ⟨h1,ls,vs,us,q,os,o1,h2,h3,hq,h4,h5,h6⟩
 exact⟨h1,bp [(k,0)],tW,.inr (ado (ws:=ws) (ps:=[(k,oa)]) h2 h3 hq h4 rfl (by simp[cQ,fz,put]) ⟨⟨0,o1,nS,h5,h6⟩,trivial⟩)⟩
end rules
end Go.Am
namespace Go.Am
open AV
def BP (st:aE) (β:bg):Nat->Prop:=fun b=>∃k o,∃N:Nat×Nat,look k st=some o/\o.wr=true/\β k=some (b,N)
section base
variable {c c1:Ctx} {st st':aE} {D D':Nat->Prop} {β β':bg} {w w':World}
theorem bF.base (h:bF c st D β w) (k0:bg) (ro:Option Nat) (hk:∀k x,k0 k=some x->β k=some x):bF {c with w0:=w,Mw:=BP st β,k0:=k0,ro:=ro} st D β w:=
 {obj:=h.obj,dJ:=h.dJ,inj:=h.inj,dom:=h.dom,keep:=hk,lt:=h.lt,os:=rfl,tape:=rfl,output:=rfl,size:=aY,block:=fun _ _ _=>rfl,gB:=fun b hb=>⟨Nat.lt_of_lt_of_le (h.gB b hb).1 h.size,fun⟨k,o,N,h1,h2,h3⟩=>(h.new k o b N h1 h2 h3).elim (fun h4=>Nat.not_lt.2 h4 (h.gB b hb).1) (h.gB b hb).2⟩,new:=fun k o b N h1 h2 h3=>.inr ⟨k,o,N,h1,h2,h3⟩}
theorem bF.back {k0:bg} {ro:Option Nat} (h0:bF c st D β w) (hk:∀k x,c.k0 k=some x->k0 k=some x) (h:bF {c with w0:=w,Mw:=BP st β,k0:=k0,ro:=ro} st' D' β' w'):bF c st' D' β' w':=by
 have hnw:∀b,b<c.w0.heap.size->¬c.Mw b->¬BP st β b:=fun b hb hm ⟨k,o,N,h1,h2,h3⟩=>(h0.new k o b N h1 h2 h3).elim (fun h4=>aa) hm
 exact {obj:=h.obj,dJ:=h.dJ,inj:=h.inj,dom:=h.dom,keep:=fun k x hx=>h.keep k x (hk k x hx),lt:=h.lt,os:=h.os.trans h0.os,tape:=h.tape.trans h0.tape,output:=h.output.trans h0.output,size:=Nat.le_trans h0.size h.size,block:=fun b hb hm=>(h.block b (Nat.lt_of_lt_of_le hb h0.size) (hnw b hb hm)).trans (h0.block b hb hm),gB:=h0.gB,new:=fun k o b N h1 h2 h3=>(h.new k o b N h1 h2 h3).elim (fun h4=>.inl (Nat.le_trans h0.size h4)) fun⟨k',o',N',g1,g2,g3⟩=>h0.new k' o' b N' g1 g2 g3}
theorem bF.hc {k0:bg} {ro:Option Nat} {c':Ctx} (hMf:c'.Mf=c.Mf) (h:bF {c with w0:=w,Mw:=BP st β,k0:=k0,ro:=ro} st' D' β' w'):HC (aO c st β) w (aO c' st' β') w':=by
 intro b x ty fr hm hb
 have hlt:=AP hb
 refine⟨(h.block b hlt fun hw=>hm (.inr hw)).trans hb,?_⟩
 rintro(hf|⟨k,o,N,g1,g2,g3⟩)
 ·exact hm (.inl (hMf▸hf))
 ·rcases h.new k o b N g1 g2 g3 with g|g
  ·exact absurd hlt (Nat.not_lt.2 g)
  ·exact hm (.inr g)
end base
section rule
variable {P:Program} {c:Ctx} {nt:Nat} {s:aK} {Q:ax->aK->Prop}
end rule
end Go.Am
namespace Go.Am
open Go Go.ChangeShapes Go.WideShapes Go.ChangeAt Go.RowKit AV
inductive PK where
 |list
 |int (k:IntKind)
 |bool
def Rc (P:Program):PK->TypeId->Prop
 |.list,t=>∃e,P.underlying t=some (.slice e)/\P.underlying e=some (.int .i64)/\P.cellsOf e=1
 |.int k,t=>P.underlying t=some (.int k)
 |.bool,t=>P.underlying t=some .bool
def Ae (P:Program):List PK->List TypeId->Prop
 |[],[]=>True
 |k::ks,t::ts=>(Rc P k t/\P.readableRec t=true/\t<P.types.size)/\Ae P ks ts
 |_,_=>False
def OW:PK->AV->Prop
 |.list,a=>∃(n:Nat) (z:Nat->Int),a=.aq 1 n (fun i=>.int .i64 (z i))
 |.int k,a=>∃n,a=.int k n
 |.bool,a=>∃b,a=.bool b
def MH:List PK->List AV->Prop
 |[],as=>as=[]
 |k::ks,as=>∃a l,as=a::l/\OW k a/\MH ks l
section
variable {P:Program} {H:Type} {enc:TypeId×Value->H} {W:World} {base:Nat}
theorem Z7 {k:PK} {t:TypeId} {v:Value} {d:DataW H} {p:List MemPlace} (hk:Rc P k t) (h:DataW.Trod enc P W 0 (fun _=>true) true t v d p) (hv:Value.okWide P W .any base t v):∃a,OW k a/\bB (fun _=>False) W bE a v:=by
 cases k with
 |int k=>
  obtain⟨n,rfl⟩:=okWide_int hk hv
  exact⟨_,⟨n,rfl⟩,.cy (.int .nil) rfl⟩
 |bool=>
  obtain⟨b,rfl⟩:=okWide_bool hk hv
  exact⟨_,⟨b,rfl⟩,.cy (.bool .nil) rfl⟩
 |list=>
  obtain⟨e,h1,h2,h3⟩:=hk
  obtain⟨a0,len,cap,rfl⟩:=okWide_slice h1 hv
  obtain⟨fuel,hf⟩:=h
  have key:∀{z:Nat->Int},len<=cap->(len=0\/∃b o,a0=some ⟨b,o,none⟩/\∀i,i<len->W.cell? ⟨b,o+i,none⟩=some (.int .i64 (z i)))->bB (fun _=>False) W bE (.aq 1 len (fun i=>.int .i64 (z i))) (.slice a0 len cap):=fun {z} hcap hr=>by
   refine .cy (.aq (cf:=fun i=>[.int .i64 (z i)]) ?_ aa hcap (fun _ _=>rfl) (fun _ _=>.int .nil) .nil) rfl
   rcases hr with hr|⟨b,o,rfl,hr⟩
   ·exact .inl hr
   ·refine .inr ⟨b,o,rfl,fun i hi=>?_⟩
    have hc:=hr i hi
    simp only[World.cell?]at hc
    split at hc
    ·rename_i cs ty fr hh
     simp only[Option.isSome_none,Bool.false_eq_true,if_false]at hc
     refine⟨cs,ty,fr,hh,id,fun j v hj=>?_⟩
     have hj0:j=0:=by have:=(List.getElem?_eq_some_iff.1 hj).1;simp at this;exact this
     subst hj0
     simp only[List.getElem?_cons_zero,az]at hj
     subst hj
     simpa using hc
    ·simp at hc
  rcases open_ints h1 h2 h3 hf with⟨hcs,hx⟩|⟨a,len',cap',zs,hcs,_,hl,hm,hz,hx,hcell,hwz⟩
  ·simp only[Value.cells,List.cons.injEq,Value.slice.injEq,and_true]at hcs
   obtain⟨rfl,rfl,rfl⟩:=hcs
   exact⟨_,⟨0,fun _=>0,rfl⟩,key (z:=fun _=>0) aY (.inl rfl)⟩
  ·simp only[Value.cells,List.cons.injEq,Value.slice.injEq,and_true]at hcs
   obtain⟨rfl,rfl,rfl⟩:=hcs
   simp only[if_true]at hz
   refine⟨_,⟨len,fun i=>zs.getD i 0,rfl⟩,key hl ?_⟩
   rcases Nat.eq_zero_or_pos len with h0|h0
   ·exact .inl h0
   ·obtain⟨b,o,m⟩:=a
    have h1:=hcell 0 aa
    have:m=none:=by
     cases m with
     |none=>rfl
     |some y=>exfalso;simp only[Addr.add,World.cell?]at h1;split at h1<;>simp at h1
    subst this
    exact .inr ⟨b,o,rfl,fun i hi=>by
     have h2:=hcell i aa
     rcases Nat.eq_zero_or_pos i with hi|hi
     ·subst hi;simpa [Addr.add]using h2
     ·simpa [Addr.add,Nat.pos_iff_ne_zero.1 hi]using h2⟩
theorem Rx:∀{ks:List PK} {ts:List TypeId} {vs:List Value} {ds:List (DataW H)} {p:List MemPlace},Ae P ks ts->DataW.TrodAll enc P W 0 (fun _=>true) true ts vs ds p->(∀(j:Nat) t v,ts[j]?=some t->vs[j]?=some v->Value.okWide P W .any base t v)->
  ∃as,MH ks as/\cI (fun _=>False) W bE as vs
 |[],[],vs,ds,p,_,h,_=>by
  obtain⟨rfl,_,_⟩:=trodAll_nil h
  exact⟨[],rfl,trivial⟩
 |k::ks,t::ts,vs,ds,p,hk,h,hv=>by
  obtain⟨v,vs',d,ds',p1,q,rfl,rfl,rfl,hd,hrest⟩:=trodAll_cons h
  obtain⟨a,h1,h2⟩:=Z7 hk.1.1 hd (hv 0 t v rfl rfl)
  obtain⟨as,h3,h4⟩:=Rx hk.2 hrest fun j t v h1 h2=>hv (j+1) t v h1 h2
  exact⟨a::as,⟨a,as,rfl,h1,h3⟩,h2,h4⟩
 |[],_::_,_,_,_,h,_,_=>h.elim
 |_::_,[],_,_,_,h,_,_=>h.elim
theorem RC {b:Nat} {sp:Nat->Bool} {held:Bool}:∀{ts:List TypeId} {vs:List Value} {ds:List (DataW H)} {p:List MemPlace},DataW.TrodAll enc P W b sp held ts vs ds p->ds.length=ts.length
 |[],vs,ds,p,h=>by
  obtain⟨_,rfl,_⟩:=trodAll_nil h
  rfl
 |t::ts,vs,ds,p,h=>by
  obtain⟨v,vs',d,ds',p1,q,rfl,rfl,rfl,hd,hrest⟩:=trodAll_cons h
  simp[RC hrest]
theorem S6 (hl:laidOutB P=true) {W':World} (hb:Below W.heap.size W W'):∀{ks:List PK} {ts:List TypeId} {vs:List Value} {ds:List (DataW H)} {p:List MemPlace},Ae P ks ts->DataW.TrodAll enc P W 0 (fun _=>true) true ts vs ds p->(∀x∈p,x.block<W.heap.size)->
  DataW.TrodAll enc P W' 0 (fun b=>decide (b<W.heap.size)) true ts vs ds p
 |[],[],vs,ds,p,_,h,_=>by
  obtain⟨rfl,rfl,rfl⟩:=trodAll_nil h
  exact trodAll_mk0
 |k::ks,t::ts,vs,ds,p,hk,h,hlt=>by
  obtain⟨v,vs',d,ds',p1,q,rfl,rfl,rfl,hd,hrest⟩:=trodAll_cons h
  exact⟨_,_,Below.trod hl hk.1.2.1 hk.1.2.2 hd hb fun x hx=>hlt x (List.mem_append_left _ hx),S6 hl hb hk.2 hrest fun x hx=>hlt x (List.mem_append_right _ hx),rfl⟩
 |[],_::_,_,_,_,h,_,_=>h.elim
 |_::_,[],_,_,_,h,_,_=>h.elim
theorem aj8 (hl:laidOutB P=true) {f:FuncId} {fn:Func} (hf:P.funcs[f]?=some fn) (hb:fn.body.isNone=false) {ks:List PK} {ts:List TypeId} (hk:Ae P ks ts) {args:Array Value} {ds:List (DataW H)} {p:List MemPlace}
  (hA:DataW.TrodAll enc P W 0 (fun _=>true) true ts args.toList ds p) (hv:∀(j:Nat) t v,ts[j]?=some t->args[j]?=some v->Value.okWide P W .any base t v) (hlt:∀x∈p,x.block<W.heap.size) (hF:∀as,MH ks as->aQ P f 0 as [] ⟨.bool true,[],[]⟩):
  Calls P f args W fun e W'=>e=.returned (.bool true)/\Below W.heap.size W W'/\DataW.TrodAll enc P W' 0 (fun b=>decide (b<W.heap.size)) true ts args.toList ds p:=by
 obtain⟨as,h1,h2⟩:=Rx hk hA fun j t v h1 h2=>hv j t v h1 (by simpa using h2)
 obtain⟨_,hF⟩:=hF as h1 trivial
 have hrel:bF ⟨fun _=>False,W,fun _=>False,bE,none⟩ [] (fun _=>False) bE W:=
  {obj:=fun k o h=>by simp[look]at h,dJ:=fun k o h=>by simp[look]at h,inj:=fun k k' o o' b N N' h=>by simp[look]at h,dom:=fun k x h=>by simp[bE]at h,keep:=fun k x h=>h,lt:=fun k b N h=>by simp[bE]at h,os:=rfl,tape:=rfl,output:=rfl,size:=aY,block:=fun _ _ _=>rfl,gB:=fun b h=>h.elim,new:=fun k o b N h=>by simp[look]at h}
 have hM:aO ⟨fun _=>False,W,fun _=>False,bE,none⟩ [] bE=fun _=>False:=by
  funext b
  simp[aO,look]
 have hinv:=hF ⟨fun _=>False,W,fun _=>False,bE,none⟩ (fun _=>False) (fun _=>True) bE W _ rfl (fun b h=>h.elim) hrel (fun k h=>h.elim) (fun k _ _=>⟨id,trivial⟩) (by rw[hM];exact h2)
 rcases hinv with⟨fn',g1,g2,g3,g4⟩|⟨x,g1,_⟩
 ·have g5:=g4
  rw[show args.toList.toArray=args from by simp]at g5
  refine g5.mono fun e W' ⟨x,he,hx⟩=>?_
  obtain⟨β',q1,q2,q3⟩:=hx
  have:=q3.bool
  subst this
  have hbl:Below W.heap.size W W':=⟨q1.os,q1.tape,q1.output,q1.size,fun k hk=>q1.block k hk id⟩
  exact⟨he,hbl,S6 hl hbl hk hA hlt⟩
 ·exfalso
  simp only[callFunc,Sem.run_bind,run_program,Result.andThen_ok,hf,hb,Bool.false_eq_true,if_false]at g1
  split at g1<;>simp at g1
end
end Go.Am
