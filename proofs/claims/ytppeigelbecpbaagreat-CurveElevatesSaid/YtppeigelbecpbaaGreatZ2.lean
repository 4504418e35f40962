/- Parts of code. -/
import Derived.Test.YtppeigelbecpbaaGreatZ1
import Derived.ProofKit
import Derived.ChangeSlices
set_option linter.unusedVariables false
namespace Go.Am
def part:Code->List Nat->Code
 |c,[]=>c
 |.seq x _,0::p=>part x p
 |.seq _ y,_::p=>part y p
 |.cond _ x _,0::p=>part x p
 |.cond _ _ y,_::p=>part y p
 |.block _ x,_::p=>part x p
 |.loop x,_::p=>part x p
 |_,_=>.skip
def before:Code->List Nat->List Code
 |.seq x _,0::p=>before x p
 |.seq x y,_::p=>x::before y p
 |_,_=>[]
def behind:Code->List Nat->List Code
 |.seq x y,0::p=>behind x p++[y]
 |.seq _ y,_::p=>behind y p
 |_,_=>[]
def chain:Code->List Nat->Bool
 |_,[]=>true
 |.seq x _,0::p=>chain x p
 |.seq _ y,_::p=>chain y p
 |_,_=>false
def aA (fn:Func):Code:=match fn.body with
 |some x=>x
 |none=>.skip
def dH (k:aM->Prop) (Q:au->aM->Prop):au->aM->Prop
 |.normal,s=>k s
 |e,s=>Q e s
def aI (P:Program) (c:Ctx) (nt:Nat):List Code->aM->(au->aM->Prop)->Prop
 |[],s,Q=>Q .normal s
 |x::l,s,Q=>ax P c nt x s (dH (fun s'=>aI P c nt l s' Q) Q)
section rules
variable {P:Program} {c:Ctx} {nt:Nat} {s:aM} {Q:au->aM->Prop}
theorem ax.Qk {x y:Code} (h:ax P c nt x s (dH (fun s'=>ax P c nt y s' Q) Q)):ax P c nt (.seq x y) s Q:=
 .seq (h.mono fun e s' h=>by cases e<;>exact h)
theorem aI.mono {Q Q':au->aM->Prop} (hq:∀e s',Q e s'->Q' e s'):∀{l:List Code} {s:aM},aI P c nt l s Q->aI P c nt l s Q'
 |[],_,h=>hq _ _ h
 |x::l,s,h=>ax.mono h fun e s' h=>by
  cases e with
  |normal=>exact aI.mono hq (l:=l) h
  |exit i=>exact hq _ _ h
  |ret=>exact hq _ _ h
theorem aI.append {Q:au->aM->Prop}:∀{a b:List Code} {s:aM},aI P c nt (a++b) s Q->aI P c nt a s (dH (fun s'=>aI P c nt b s' Q) Q)
 |[],b,s,h=>h
 |x::a,b,s,h=>ax.mono h fun e s' h=>by
  cases e with
  |normal=>exact aI.append (a:=a) h
  |exit i=>exact h
  |ret=>exact h
theorem ax.hole:∀(p:List Nat) {x:Code} {s:aM} {Q:au->aM->Prop},chain x p=true->
  aI P c nt (before x p) s (dH (fun s'=>ax P c nt (part x p) s' (dH (fun s''=>aI P c nt (behind x p) s'' Q) Q)) Q)->ax P c nt x s Q
 |[],x,s,Q,_,h=>by
  have hb:before x []=[]:=by cases x<;>rfl
  have hh:behind x []=[]:=by cases x<;>rfl
  have hp:part x []=x:=by cases x<;>rfl
  rw[hb,hh,hp]at h
  exact ax.mono h fun e s' h=>by cases e<;>exact h
 |0::p,.seq x y,s,Q,hc,h=>by
  refine .Qk (ax.hole p (x:=x) hc ?_)
  refine aI.mono ?_ h
  intro e s' h1
  cases e with
  |normal=>
   refine ax.mono h1 ?_
   intro e s'' h2
   cases e with
   |normal=>
    refine aI.mono ?_ (aI.append h2)
    intro e s3 h3
    cases e with
    |normal=>exact ax.mono h3 fun e s' h=>by cases e<;>exact h
    |exit i=>exact h3
    |ret=>exact h3
   |exit i=>exact h2
   |ret=>exact h2
  |exit i=>exact h1
  |ret=>exact h1
 |(n+1)::p,.seq x y,s,Q,hc,h=>by
  refine .Qk (ax.mono h ?_)
  intro e s' h1
  cases e with
  |normal=>exact ax.hole p (x:=y) hc h1
  |exit i=>exact h1
  |ret=>exact h1
 |_::_,.cond _ _ _,_,_,hc,_=>by simp[chain]at hc
 |_::_,.block _ _,_,_,hc,_=>by simp[chain]at hc
 |_::_,.loop _,_,_,hc,_=>by simp[chain]at hc
 |_::_,.region _ _ _,_,_,hc,_=>by simp[chain]at hc
 |_::_,.skip,_,_,hc,_=>by simp[chain]at hc
 |_::_,.label _,_,_,hc,_=>by simp[chain]at hc
 |_::_,.exit _,_,_,hc,_=>by simp[chain]at hc
 |_::_,.ret,_,_,hc,_=>by simp[chain]at hc
 |_::_,.scope _,_,_,hc,_=>by simp[chain]at hc
 |_::_,.goto _,_,_,hc,_=>by simp[chain]at hc
 |_::_,.refuse _,_,_,hc,_=>by simp[chain]at hc
 |_::_,.rangeFunc _ _ _ _,_,_,hc,_=>by simp[chain]at hc
def inBlock (i:Nat) (Q:au->aM->Prop):au->aM->Prop
 |.exit j,s=>if j=i then Q .normal s else Q (.exit j) s
 |e,s=>Q e s
theorem ax.RU {i:Nat} {x:Code} (h:ax P c nt x s (inBlock i Q)):ax P c nt (.block i x) s Q:=
 .block (h.mono fun e s' h=>by cases e<;>exact h)
theorem ax.iw {x y:Code} {i:Nat} (hx:x=.block i (.loop y)) {α:Type} (S:α->aM) (I:α->Prop) (μ:α->Nat) (j:α) (hs:∃ρ,Le c ρ s (S j)) (h0:I j)
  (round:∀j,I j->ax P c nt y (S j) (dH (fun s'=>∃k,(∃ρ,Le c ρ s' (S k))/\I k/\μ k<μ j) (inBlock i Q))):ax P c nt x s Q:=by
 subst hx
 exact .RU (.adA S I μ j hs h0 fun j hj=>(round j hj).mono fun e s' h=>by cases e<;>exact h)
variable {T:Types} (hT:dS P T) {Γ:bg} (hΓ:bz P Γ) (hm:P.follows .mixedOrders=true)
def qW (T:Types) (Γ:bg) (forks:List Nat) (n:Nat):List Code->aM->Option (ah aM)
 |[],s=>some (.leaf .normal s)
 |x::l,s=>match dY T Γ forks n x s with
  |some t=>t.bind fun e s'=>match e with
   |.normal=>qW T Γ forks n l s'
   |.exit i=>some (.leaf (.exit i) s')
   |.ret=>some (.leaf .ret s')
  |none=>none
include hT hΓ hm in
theorem yR {forks:List Nat} {n:Nat}:∀{l:List Code} {s:aM} {t:ah aM},(l.all fun x=>cF nt x)=true->qW T Γ forks n l s=some t->t.all Q->aI P c nt l s Q
 |[],s,t,_,h,ht=>by
  simp only[qW,ay]at h
  subst h
  exact ht
 |x::l,s,t,hd,h,ht=>by
  simp only[List.all_cons,Bool.and_eq_true]at hd
  simp only[qW]at h
  cases hx:dY T Γ forks n x s with
  |none=>rw[hx]at h;simp at h
  |some u=>
   rw[hx]at h
   refine kM hT hΓ hm n hd.1 hx (ah.fz ?_ (ah.jV h ht))
   rintro e s' ⟨v,h1,h2⟩
   cases e with
   |normal=>exact yR hd.2 h1 h2
   |exit i=>simp only[ay]at h1;subst h1;exact h2
   |ret=>simp only[ay]at h1;subst h1;exact h2
def aH (T:Types) (Γ:bg) (forks:List Nat) (n:Nat) (ls:List Nat) (l:List Code) (s:aM):Option (ah (List AV×aF)):=
 match qW T Γ forks n l s with
 |some t=>t.bind (Tv ls)
 |none=>none
include hT hΓ hm in
theorem aI.bA {forks:List Nat} (n:Nat) (ls:List Nat) {l:List Code} {s:aM} {t:ah (List AV×aF)} (hc:aH T Γ forks n ls l s=some t) (hd:(l.all fun x=>cF nt x)=true)
  (h:t.all fun e v=>∀s',bt ls s'=some v->Q e s'):aI P c nt l s Q:=by
 unfold aH at hc
 split at hc
 ·rename_i u hx
  refine yR hT hΓ hm hd hx (ah.fz ?_ (ah.jV hc h))
  rintro e s' ⟨v,h1,h2⟩
  unfold Tv at h1
  cases hv:bt ls s' with
  |none=>rw[hv]at h1;simp at h1
  |some z=>
   rw[hv]at h1
   simp only[ay]at h1
   subst h1
   exact h2 s' hv
 ·simp at hc
include hT hΓ hm in
theorem ax.bA {x:Code} {forks:List Nat} (n:Nat) (ls:List Nat) {t:ah (List AV×aF)} (hc:aH T Γ forks n ls [x] s=some t) (hd:cF nt x=true)
  (h:t.all fun e v=>∀s',bt ls s'=some v->Q e s'):ax P c nt x s Q:=by
 have:=aI.bA (P:=P) (c:=c) (nt:=nt) (l:=[x]) (Q:=Q) hT hΓ hm n ls hc (by simp[hd]) h
 exact ax.mono this fun e s' h=>by cases e<;>exact h
def cw (T:Types) (Γ:bg) (forks:List Nat) (n:Nat) (fn:Func) (l:List Code) (s:aM):Option (ah (List AV)):=
 match qW T Γ forks n l s with
 |some t=>t.bind (j4 T fn)
 |none=>none
def Fin (T:Types) (fn:Func) (res:AV) (e:au) (s:aM):Prop:=(e=.normal\/e=.ret)/\Ends T fn res s
theorem Fk {fn:Func} {e:au} {s':aM} {v:ah (List AV)} {res:AV} (h1:j4 T fn e s'=some v) (h2:v.all fun _ us=>eF us res):Fin T fn res e s':=by
 unfold j4 at h1
 have key:∀{e':au},(match fS T s' fn.results.toList with
   |some (vs,q)=>match ey (kr (pick s'.store (AV.bC vs))) vs with
    |some us=>some (ah.need q (.leaf e' us))
    |none=>none
   |none=>none)=some v->Ends T fn res s':=by
  intro e' h1
  cases hr:fS T s' fn.results.toList with
  |none=>rw[hr]at h1;simp at h1
  |some p=>
   obtain⟨vs,q⟩:=p
   rw[hr]at h1
   simp only at h1
   cases hf:ey (kr (pick s'.store (AV.bC vs))) vs with
   |none=>rw[hf]at h1;simp at h1
   |some us=>
    rw[hf]at h1
    simp only[ay]at h1
    subst h1
    obtain⟨g1,g2⟩:=ah.zX.1 h2
    exact⟨vs,q,us,hr,g1,hf,g2⟩
 cases e with
 |normal=>exact⟨.inl rfl,key h1⟩
 |ret=>exact⟨.inr rfl,key h1⟩
 |exit i=>simp at h1
include hT hΓ hm in
theorem aI.fin {fn:Func} {forks:List Nat} (n:Nat) {l:List Code} {s:aM} {t:ah (List AV)} (hc:cw T Γ forks n fn l s=some t) (hd:(l.all fun x=>cF nt x)=true) {res:AV}
  (h:t.all fun _ us=>eF us res):aI P c nt l s (Fin T fn res):=by
 unfold cw at hc
 split at hc
 ·rename_i u hx
  refine yR hT hΓ hm hd hx (ah.fz ?_ (ah.jV hc h))
  rintro e s' ⟨v,h1,h2⟩
  exact Fk h1 h2
 ·simp at hc
theorem aI.weak {l:List Code} {s2:aM} (hl:l.isEmpty=false) (hle:∃ρ,Le c ρ s s2) (h:aI P c nt l s2 Q):aI P c nt l s Q:=by
 obtain⟨ρ,hle⟩:=hle
 cases l with
 |nil=>simp at hl
 |cons x l=>exact ax.weak hle h
theorem ax.jA {x:Code} {s2:aM} (hle:∃ρ,Le c ρ s s2) (h:ax P c nt x s2 Q):ax P c nt x s Q:=by
 obtain⟨ρ,hle⟩:=hle
 exact ax.weak hle h
end rules
theorem aY {P:Program} {f:FuncId} {fn:Func} (h:P.funcs[f]?=some fn) (hb:fn.body.isSome=true) (hn:(fn.name== "runtime.NumGoroutine")=false) (hd:cF fn.ntmps (aA fn)=true):aT P f fn (aA fn):=by
 refine⟨h,?_,hn,hd⟩
 unfold aA
 cases hbd:fn.body with
 |none=>rw[hbd]at hb;simp at hb
 |some x=>rfl
end Go.Am
namespace Go.Am
def val:Nat->(Nat->Nat)->Nat
 |0,_=>0
 |n+1,z=>val n z+z n*2^(32*n)
theorem fO {z:Nat->Nat}:∀{n:Nat},(∀i,i<n->z i<2^32)->val n z<2^(32*n)
 |0,_=>by simp[val]
 |n+1,h=>by
  have ih:=fO (z:=z) (n:=n) fun i hi=>h i aa
  have h1:=h n aa
  have:z n*2^(32*n)+2^(32*n)<=2^32*2^(32*n):=by
   rw[<-Nat.succ_mul];exact Nat.mul_le_mul_right _ h1
  have e:2^(32*(n+1))=2^32*2^(32*n):=by rw[<-Nat.pow_add];congr 1;omega
  rw[e,val];omega
theorem val_congr {z y:Nat->Nat}:∀{n:Nat},(∀i,i<n->z i=y i)->val n z=val n y
 |0,_=>rfl
 |n+1,h=>by rw[val,val,val_congr fun i hi=>h i aa,h n aa]
theorem nq {z:Nat->Nat} {k:Nat}:∀{n:Nat},k<=n->(∀i,k<=i->i<n->z i=0)->val n z=val k z
 |0,h,_=>by
    have:k=0:=aa
    subst this;rfl
 |n+1,h,hz=>by
  by_cases hk:k=n+1
  ·subst hk;rfl
  ·rw[val,nq (n:=n) aa fun i h1 h2=>hz i h1 aa,hz n aa aa]
   simp
theorem qN {z:Nat->Nat}:∀{n i:Nat},(∀j,j<n->z j<2^32)->i<n->aG (val n z) i=z i
 |0,i,_,hi=>aa
 |n+1,i,h,hi=>by
  unfold aG
  rw[val]
  by_cases he:i=n
  ·subst he
   have:=fO (z:=z) (n:=i) fun j hj=>h j aa
   rw[Nat.add_mul_div_right _ _ (Nat.two_pow_pos _),Nat.div_eq_of_lt this,Nat.zero_add]
   exact Nat.mod_eq_of_lt (h i aa)
  ·have ih:=qN (z:=z) (n:=n) (i:=i) (fun j hj=>h j aa) aa
   unfold aG at ih
   have e:2^(32*n)=2^32*2^(32*(n-i-1))*2^(32*i):=by
    rw[<-Nat.pow_add,<-Nat.pow_add];congr 1;omega
   rw[e,<-Nat.mul_assoc,Nat.add_mul_div_right _ _ (Nat.two_pow_pos _),<-ih]
   rw[show z n*(2^32*2^(32*(n-i-1)))=2^32*(z n*2^(32*(n-i-1))) by
    rw[<-Nat.mul_assoc,Nat.mul_comm (z n),Nat.mul_assoc]]
   rw[Nat.add_mul_mod_self_left]
theorem dG {N i:Nat}:aG N i<2^32:=Nat.mod_lt _ (by decide)
theorem LC {N:Nat}:∀{n:Nat},val n (aG N)=N%2^(32*n)
 |0=>by simp[val,Nat.mod_one]
 |n+1=>by
  rw[val,LC,aG]
  have e:2^(32*(n+1))=2^(32*n)*2^32:=by rw[<-Nat.pow_add];congr 1
  rw[e,Nat.mod_mul,Nat.mul_comm (2^(32*n))]
theorem qq {N n:Nat} (h:N<2^(32*n)):val n (aG N)=N:=by rw[LC,Nat.mod_eq_of_lt h]
theorem dz {N n:Nat}:nl N<=n↔N<2^(32*n):=by
 unfold nl
 by_cases h:N=0
 ·subst h;simp[Nat.two_pow_pos]
 ·rw[if_neg h]
  rw[<-Nat.log2_lt h]
  omega
theorem nh {N:Nat}:N<2^(32*nl N):=dz.1 aU
theorem fZ {N:Nat}:val (nl N) (aG N)=N:=qq nh
theorem ah4 {z:Nat->Nat} {n:Nat} (h0:0<n) (h:z (n-1)≠0):2^(32*(n-1))<=val n z:=by
 obtain⟨m,rfl⟩:∃m,n=m+1:=⟨n-1,aa⟩
 rw[val]
 simp only[Nat.add_sub_cancel]at h ⊢
 have:1*2^(32*m)<=z m*2^(32*m):=Nat.mul_le_mul_right _ aa
 omega
theorem CW {z:Nat->Nat} {n:Nat} (hz:∀i,i<n->z i<2^32) (h:n=0\/z (n-1)≠0):nl (val n z)=n:=by
 rcases Nat.eq_zero_or_pos n with rfl|h0
 ·simp[val,nl]
 ·have h1:nl (val n z)<=n:=dz.2 (fO hz)
  have h2:¬nl (val n z)<=n-1:=by
   rw[dz]
   have:=ah4 h0 (h.resolve_left aa)
   omega
  omega
theorem CO {N:Nat} (h:N≠0):aG N (nl N-1)≠0:=by
 intro h0
 have hn:0<nl N:=by unfold nl;rw[if_neg h];omega
 have h1:val (nl N) (aG N)=val (nl N-1) (aG N):=nq aa fun i h1 h2=>by
  have:i=nl N-1:=aa
  rw[this,h0]
 rw[fZ]at h1
 have h3:N<2^(32*(nl N-1)):=by
  exact Nat.lt_of_le_of_lt (Nat.le_of_eq h1) (fO (z:=aG N) (n:=nl N-1) fun i _=>dG)
 have h2:nl N<=nl N-1:=dz.2 h3
 omega
theorem gn {N:Nat}:0<nl N↔N≠0:=by
 unfold nl
 split<;>simp_all
theorem gV {a b:Nat} (h:a<=b):nl a<=nl b:=dz.2 (Nat.lt_of_le_of_lt h nh)
theorem wrap_i64 {x:Int} (h1:-2^63<=x) (h2:x<2^63):IntKind.i64.wrap x=x:=by
 simp[IntKind.wrap,IntKind.bits,IntKind.signed];omega
theorem cu {x:Int} (h1:0<=x) (h2:x<2^64):IntKind.u64.wrap x=x:=by
 simp[IntKind.wrap,IntKind.bits,IntKind.signed];omega
theorem oY {x:Int}:IntKind.u64.wrap x=x%2^64:=by
 simp[IntKind.wrap,IntKind.bits,IntKind.signed]
theorem l5 {x:Int}:IntKind.u32.wrap x=x%2^32:=by
 simp[IntKind.wrap,IntKind.bits,IntKind.signed]
theorem wrap_u32 {x:Int} (h1:0<=x) (h2:x<2^32):IntKind.u32.wrap x=x:=by
 rw[l5];omega
theorem AU {x:Nat}:IntKind.u64.wrap (x:Int)=(x%2^64:Nat):=by
 rw[oY];omega
theorem jN {x:Nat}:IntKind.u32.wrap (x:Int)=(x%2^32:Nat):=by
 rw[l5];omega
theorem uC {a b:Nat} (ha:a<2^64) (hb:b<2^64):
  IntKind.u64.wrap ((BitVec.ofInt IntKind.u64.bits (a:Int)|||BitVec.ofInt IntKind.u64.bits (b:Int)).toNat:Int)=((a|||b:Nat):Int):=by
 have e:(BitVec.ofInt IntKind.u64.bits (a:Int)|||BitVec.ofInt IntKind.u64.bits (b:Int)).toNat=a|||b:=by
  rw[BitVec.toNat_or,BitVec.ofInt_natCast,BitVec.ofInt_natCast,BitVec.toNat_ofNat,BitVec.toNat_ofNat]
  rw[show IntKind.u64.bits=64 from rfl,Nat.mod_eq_of_lt ha,Nat.mod_eq_of_lt hb]
 rw[e]
 have:a|||b<2^64:=Nat.or_lt_two_pow ha hb
 exact cu aa aa
theorem ae5 {a b:Nat} (ha:a<2^64) (hb:b<2^64):
  IntKind.u64.wrap ((BitVec.ofInt IntKind.u64.bits (a:Int)&&&BitVec.ofInt IntKind.u64.bits (b:Int)).toNat:Int)=((a&&&b:Nat):Int):=by
 have e:(BitVec.ofInt IntKind.u64.bits (a:Int)&&&BitVec.ofInt IntKind.u64.bits (b:Int)).toNat=a&&&b:=by
  rw[BitVec.toNat_and,BitVec.ofInt_natCast,BitVec.ofInt_natCast,BitVec.toNat_ofNat,BitVec.toNat_ofNat]
  rw[show IntKind.u64.bits=64 from rfl,Nat.mod_eq_of_lt ha,Nat.mod_eq_of_lt hb]
 rw[e]
 have:a&&&b<2^64:=Nat.and_lt_two_pow a hb
 exact cu aa aa
theorem ue {a b i:Nat} (h:b<2^i):a*2^i|||b=a*2^i+b:=by
 rw[<-Nat.shiftLeft_eq,<-Nat.shiftLeft_add_eq_or_of_lt h]
theorem lM {x:Int}:x.fdiv (2^min (Int.toNat 32) IntKind.u64.bits)=x/4294967296:=by
 have:min (Int.toNat 32) IntKind.u64.bits=32:=rfl
 rw[this,Int.fdiv_eq_ediv_of_nonneg _ (by decide)]
 rfl
theorem Ll {x:Int}:x.fdiv (2^min (Int.toNat 63) IntKind.u64.bits)=x/9223372036854775808:=by
 have:min (Int.toNat 63) IntKind.u64.bits=63:=rfl
 rw[this,Int.fdiv_eq_ediv_of_nonneg _ (by decide)]
 rfl
theorem Ab {x:Int}:x*2^min (Int.toNat 32) IntKind.u64.bits=x*4294967296:=by
 have:min (Int.toNat 32) IntKind.u64.bits=32:=rfl
 rw[this];rfl
theorem I4 {B c z y v t s:Nat} (hs:s=c+z+y) (h:v+c*B=t):v+s%4294967296*B+s/4294967296*(4294967296*B)=t+z*B+y*B:=by
 have h1:=Nat.div_add_mod s 4294967296
 generalize s/4294967296=q at*
 generalize s%4294967296=r at*
 subst h1 h
 have:c*B+z*B+y*B=(4294967296*q+r)*B:=by rw[<-Nat.add_mul,<-Nat.add_mul,hs]
 grind
theorem gY {i:Nat}:2^(32*(i+1))=4294967296*2^(32*i):=by
 rw[show 32*(i+1)=32+32*i by omega,Nat.pow_add]
open AV
def numOf (v:AV):Nat:=match v with
 |.int _ z=>z.toNat
 |_=>0
def dQ (n:Nat) (f:Nat->AV):Prop:=∀i,i<n->∃z:Nat,z<2^32/\f i=.int .u32 z
theorem Hz {z:Nat->Nat} {i:Nat}:numOf (aD z i)=z i:=by simp[numOf,aD]
theorem jQ {n:Nat} {z:Nat->Nat}:(val n fun i=>numOf (aD z i))=val n z:=val_congr fun _ _=>Hz
theorem gd {n:Nat} {z:Nat->Nat} (h:∀i,i<n->z i<2^32):dQ n (aD z):=fun i hi=>⟨z i,h i hi,rfl⟩
def sW:AV->Option (Nat×Nat×List Prop)
 |.mag N=>some (N,nl N,[])
 |.nil=>some (0,0,[])
 |.aq es n f=>if es==1 then some (val n fun i=>numOf (f i),n,[dQ n f])else none
 |_=>none
theorem AT {a:AV} {N n:Nat} {q:List Prop} (h:sW a=some (N,n,q)) (hq:az q):∃z:Nat->Nat,(∀i,i<n->z i<2^32)/\val n z=N/\bG a (.aq 1 n (aD z)):=by
 cases a<;>simp only[sW,reduceCtorEq,ay,Prod.mk.injEq]at h
 case mag M=>
  obtain⟨rfl,rfl,rfl⟩:=h
  exact⟨aG M,fun i _=>dG,fZ,OM rfl fun i _=>rfl⟩
 case nil=>
  obtain⟨rfl,rfl,rfl⟩:=h
  exact⟨fun _=>0,fun i hi=>aa,rfl,kX aa⟩
 case aq es m f=>
  split at h
  ·rename_i he
   simp only[ay,Prod.mk.injEq]at h
   obtain⟨rfl,rfl,rfl⟩:=h
   have hq:dQ m f:=hq
   have he:es=1:=by simpa using he
   subst he
   refine⟨fun i=>numOf (f i),fun i hi=>?_,rfl,mC rfl fun i hi=>?_⟩
   ·obtain⟨z,h1,h2⟩:=hq i hi
    simp only[h2,numOf];omega
   ·obtain⟨z,h1,h2⟩:=hq i hi
    simp[h2,numOf,aD]
  ·simp at h
def mo (g:Nat->Nat->dm):List AV->Option dm
 |[a]=>match sW a with
  |some (N,n,q)=>some ⟨(g N n).res,[],q++(g N n).hU⟩
  |none=>none
 |_=>none
def iz (g:Nat->Nat->Nat->Nat->dm):List AV->Option dm
 |[a,b]=>match sW a,sW b with
  |some (A,n,p),some (B,m,q)=>some ⟨(g A n B m).res,[],p++(q++(g A n B m).hU)⟩
  |_,_=>none
 |_=>none
def Dt (g:Nat->Nat->Int->dm):List AV->Option dm
 |[a,.int .u32 k]=>match sW a with
  |some (N,n,q)=>some ⟨(g N n k).res,[],q++(g N n k).hU⟩
  |none=>none
 |_=>none
abbrev aK (v:AV) (l:List Prop):dm:=⟨v,[],l⟩
section oks
variable {P:Program} {f:FuncId}
theorem uR {g:Nat->Nat->dm} (h:∀z n K,(∀i,i<n->z i<2^32)->(g (val n z) n).need->aE P f K [.aq 1 n (aD z)] [] (aK (g (val n z) n).res [])):
  ∀K args r,bC args=[]->mo g args=some r->r.post=[]->aE P f K args [] r:=by
 intro K args r hk hs _ need
 match args,hs with
 |[a],hs=>
  simp only[mo]at hs
  split at hs
  ·rename_i N n q hn
   simp only[ay]at hs
   subst hs
   obtain⟨n1,n2⟩:=eL.1 need
   obtain⟨z,hz,rfl,hle⟩:=AT hn n1
   exact gD (h z n K hz n2) hk ⟨hle,trivial⟩ [] trivial
  ·simp at hs
theorem Z9 {g:Nat->Nat->Int->dm} (h:∀z n i K,(∀i,i<n->z i<2^32)->(g (val n z) n i).need->aE P f K [.aq 1 n (aD z),.int .u32 i] [] (aK (g (val n z) n i).res [])):
  ∀K args r,bC args=[]->Dt g args=some r->r.post=[]->aE P f K args [] r:=by
 intro K args r hk hs _ need
 unfold Dt at hs
 split at hs
 ·rename_i a i
  split at hs
  ·rename_i N n q hn
   simp only[ay]at hs
   subst hs
   obtain⟨n1,n2⟩:=eL.1 need
   obtain⟨z,hz,rfl,hle⟩:=AT hn n1
   exact gD (h z n i K hz n2) hk ⟨hle,.refl _,trivial⟩ [] trivial
  ·simp at hs
 ·simp at hs
theorem vf {g:Nat->Nat->Nat->Nat->dm} (h:∀z n y m K,(∀i,i<n->z i<2^32)->(∀i,i<m->y i<2^32)->(g (val n z) n (val m y) m).need->
   aE P f K [.aq 1 n (aD z),.aq 1 m (aD y)] [] (aK (g (val n z) n (val m y) m).res [])):
  ∀K args r,bC args=[]->iz g args=some r->r.post=[]->aE P f K args [] r:=by
 intro K args r hk hs _ need
 match args,hs with
 |[a,b],hs=>
  simp only[iz]at hs
  split at hs
  ·rename_i N n q M m p hn hm
   simp only[ay]at hs
   subst hs
   obtain⟨n1,n4⟩:=eL.1 need
   obtain⟨n2,n3⟩:=eL.1 n4
   obtain⟨z,hz,rfl,hle⟩:=AT hn n1
   obtain⟨y,hy,rfl,hle2⟩:=AT hm n2
   exact gD (h z n y m K hz hy n3) hk ⟨hle,hle2,trivial⟩ [] trivial
  ·simp at hs
theorem bO {P:Program}:bz P []:=fun f s h=>by simp[look]at h
theorem aL {f:FuncId} {s:Spec} {Γ:bg} (h:∀K args pre r,s K args pre=some r->aE P f K args pre r) (hΓ:bz P Γ):bz P ((f,s)::Γ):=by
 intro f' s' hl
 simp only[look]at hl
 split at hl
 ·rename_i he
  have:f=f':=by simpa using he
  subst this
  simp only[ay]at hl
  subst hl
  exact h
 ·exact hΓ f' s' hl
end oks
def cX (a b:Nat):Int:=if a<b then-1 else if b<a then 1 else 0
def bN (N:Nat):Nat:=if N=0 then 0 else N.log2+1
end Go.Am
namespace Go.Am
open AV
def mE (sl:List (Nat×AV)):List ResultVar->Option (List AV)
 |[]=>some []
 |.tmp t::l=>match look t sl,mE sl l with
  |some v,some m=>if v.isTuple then none else some (v::m)
  |_,_=>none
 |_=>none
def KH (fn:Func) (sl:List (Nat×AV)):Option (List AV):=
 match mE sl fn.results.toList with
 |some us=>match bC us with
  |[]=>ey [] us
  |_=>none
 |none=>none
theorem yO {s:aM} {t:Nat} {v:AV} (hv:v.isTuple=false):∀{ls:List Nat},look t (aC ls (j9 s ls))=some v->look t s.cR=some v
 |[],h=>by simp[aC,look]at h
 |x::ls,h=>by
  simp only[j9,aC,look]at h
  split at h
  ·rename_i he
   have:x=t:=by simpa using he
   subst this
   simp only[ay]at h
   subst h
   exact LB hv
  ·exact yO hv h
theorem Iy {T:Types} {s:aM} {ls:List Nat}:∀{l:List ResultVar} {us:List AV},mE (aC ls (j9 s ls)) l=some us->fS T s l=some (us,[])
 |[],us,h=>by simp only[mE,ay]at h;subst h;rfl
 |.tmp t::l,us,h=>by
  simp only[mE]at h
  split at h
  ·rename_i v m hv hm
   split at h
   ·simp at h
   ·rename_i ht
    simp only[ay]at h
    subst h
    simp only[fS,rW,yO (by simpa using ht) hv,Iy hm]
    simp[ht]
  ·simp at h
 |.cell _ _::_,us,h=>by simp[mE]at h
theorem gy {T:Types} {fn:Func} {ls:List Nat} {vs us:List AV} {os:aF} {e:au} {s':aM} {res:AV} (he:e=.normal\/e=.ret) (hv:bt ls s'=some (vs,os)) (hr:KH fn (aC ls vs)=some us) (hres:eF us res):Fin T fn res e s':=by
 unfold bt at hv
 simp only[ay,Prod.mk.injEq]at hv
 obtain⟨rfl,_⟩:=hv
 unfold KH at hr
 split at hr
 ·rename_i rs hrs
  split at hr
  ·rename_i hk
   refine⟨he,rs,[],us,Iy hrs,trivial,?_,hres⟩
   rw[hk];exact hr
  ·simp at hr
 ·simp at hr
theorem OH {P:Program} {f:FuncId} {K es n:Nat} {g:Nat->AV} {l:List AV} {r:dm} (h:∀b,(b=true->n=0)->aE P f K (.dL b es n g::l) [] r):aE P f K (.aq es n g::l) [] r:=by
 intro need
 refine⟨((h false fun h=>by simp at h) need).1,fun c D D' β w vs hw0 hMw hrel hD hK hv=>?_⟩
 match vs,hv with
 |x::xs,hv=>
  obtain⟨⟨cs,h1,h2⟩,h3⟩:=hv
  have:∃b,(b=true->n=0)/\br (aP c [] β) w β (.dL b es n g) x:=by
   cases h1 with
   |aq g1 g2 g3 g4 g5 g6=>
    rename_i base cap cs' cf
    cases g6
    refine⟨base.isNone,fun hb=>?_,_,.dL rfl g1 g2 g3 g4 g5 .nil,h2⟩
    rcases g1 with g1|⟨b,o,rfl,_⟩
    ·exact g1
    ·simp at hb
  obtain⟨b,hb0,hb⟩:=this
  exact((h b hb0) need).2 c D D' β w (x::xs) hw0 hMw hrel hD hK ⟨hb,h3⟩
theorem Rt {z y:Nat->Nat} {k:Nat}:∀{n:Nat},k<n->(∀j,k<j->j<n->z j=y j)->z k<y k->(∀i,i<n->z i<2^32)->val n z<val n y
 |0,h,_,_,_=>aa
 |n+1,h,he,hk,hz=>by
  rw[val,val]
  by_cases hn:k=n
  ·subst hn
   have h1:=fO (z:=z) (n:=k) fun i hi=>hz i aa
   have h2:(z k+1)*2^(32*k)<=y k*2^(32*k):=Nat.mul_le_mul_right _ hk
   rw[Nat.add_mul,Nat.one_mul]at h2
   omega
  ·have:=Rt (n:=n) aa (fun j h1 h2=>he j h1 aa) hk fun i hi=>hz i aa
   rw[he n aa aa]
   omega
theorem Lt {A B:Nat} (hn:nl A=nl B) (h:∀i,i<nl A->aG A i=aG B i):A=B:=by
 rw[<-fZ (N:=A),<-fZ (N:=B),<-hn]
 exact val_congr h
theorem Bk {A B k:Nat} (hn:nl A=nl B) (hk:k<nl A) (h:∀j,k<j->j<nl A->aG A j=aG B j) (hlt:aG A k<aG B k):A<B:=by
 have:=Rt (z:=aG A) (y:=aG B) hk h hlt fun i _=>dG
 rw[fZ,hn,fZ]at this
 exact this
theorem Fq {A B:Nat} (h:nl A<nl B):A<B:=by
 rcases Nat.lt_or_ge A B with h1|h1
 ·exact h1
 ·have:=gV h1;omega
theorem fF {ρ:Nat->Option Nat} {r w:Bool} {n m:Nat} {f:Nat->AV} {o:Nat->Nat} (hn:m=n) (h:∀j,j<n->f j=aD o j):cV ρ ⟨r,w,1,n,f⟩ ⟨r,w,1,m,aD o⟩:=
 jq hn fun j hj=>by rw[h j hj];exact aN rfl
def cH (o:Nat->Nat) (i x:Nat):Nat->Nat:=fun j=>if j=i then x else o j
theorem j0 {o:Nat->Nat} {i x:Nat}:cH o i x i=x:=if_pos rfl
theorem fL {o:Nat->Nat} {i x j:Nat} (h:j≠i):cH o i x j=o j:=if_neg h
theorem ij {o:Nat->Nat} {i x b:Nat} {n:Nat} (hx:x<b) (ho:∀j,j<n->o j<b):∀j,j<n->cH o i x j<b:=fun j hj=>by
 unfold cH
 split
 ·exact hx
 ·exact ho j hj
theorem gO {o:Nat->Nat} {i x:Nat} {v:Int} (hv:v=(x:Nat)) (j:Nat):(if j=i then AV.int .u32 v else aD o j)=aD (cH o i x) j:=by
 unfold aD cH
 split
 ·rw[hv]
 ·rfl
theorem tG {o:Nat->Nat} {i x:Nat}:∀{n:Nat},i<n->o i=0->val n (cH o i x)=val n o+x*2^(32*i)
 |0,h,_=>aa
 |n+1,h,h0=>by
  rw[val,val]
  by_cases hn:i=n
  ·subst hn
   rw[j0,h0,val_congr (y:=o) fun j hj=>fL aa]
   omega
  ·rw[tG (n:=n) aa h0,fL aa]
   omega
theorem th {o:Nat->Nat} {i x:Nat}:val (i+1) (cH o i x)=val i o+x*2^(32*i):=by
 rw[val,j0,val_congr (y:=o) fun j hj=>fL aa]
theorem ux {x k:Nat} (h:2^k<=x):bN x=k+bN (x/2^k):=by
 have hk:=Nat.two_pow_pos k
 have h0:x≠0:=aa
 have h1:x/2^k≠0:=by
  have:=(Nat.le_div_iff_mul_le hk (x:=1) (y:=x)).2 aa
  omega
 unfold bN
 rw[if_neg h0,if_neg h1]
 have:x.log2=k+(x/2^k).log2:=by
  obtain⟨g1,g2⟩:=(Nat.log2_eq_iff h1).1 rfl
  rw[Nat.log2_eq_iff h0]
  refine⟨?_,?_⟩
  ·rw[Nat.pow_add,Nat.mul_comm]
   exact(Nat.le_div_iff_mul_le hk).1 g1
  ·rw[show k+(x/2^k).log2+1=((x/2^k).log2+1)+k by omega,Nat.pow_add]
   exact(Nat.div_lt_iff_lt_mul hk).1 g2
 omega
theorem jI {x k:Nat}:bN x<=k↔x<2^k:=by
 unfold bN
 split
 ·rename_i h;subst h;simp[Nat.two_pow_pos]
 ·rename_i h;rw[<-Nat.log2_lt h];omega
theorem SH {N:Nat} (h:N≠0):bN N=32*(nl N-1)+bN (aG N (nl N-1)):=by
 have hp:=gn.2 h
 have h1:2^(32*(nl N-1))<=N:=by
  rcases Nat.lt_or_ge N (2^(32*(nl N-1)))with h1|h1
  ·have:=dz.2 h1;omega
  ·exact h1
 have h2:N/2^(32*(nl N-1))<2^32:=by
  rw[Nat.div_lt_iff_lt_mul (Nat.two_pow_pos _),<-Nat.pow_add]
  have:=nh (N:=N)
  rw[show 32+32*(nl N-1)=32*nl N by omega]
  exact this
 rw[ux h1,aG,Nat.mod_eq_of_lt h2]
theorem KT {o:Nat->Nat} {i x:Nat}:∀{n:Nat},i<n->val n (cH o i x)+o i*2^(32*i)=val n o+x*2^(32*i)
 |0,h=>aa
 |n+1,h=>by
  rw[val,val]
  by_cases hn:i=n
  ·subst hn
   rw[j0,val_congr (y:=o) fun j hj=>fL aa]
   omega
  ·have:=KT (o:=o) (x:=x) (n:=n) (i:=i) aa
   rw[fL (show n≠i by omega)]
   omega
theorem ax.qh {P:Program} {c:Ctx} {nt:Nat} {s:aM} {Q:au->aM->Prop} {x y:Code} {i:Nat} (hx:x=.block i y) (h:ax P c nt y s (inBlock i Q)):ax P c nt x s Q:=hx▸.RU h
theorem QT {c x y o:Nat} (hc:c<2^32) (hx:x<2^32) (hy:y<2^32) (ho:o<2^32):
  IntKind.u64.wrap ((c:Int)+IntKind.u64.wrap (IntKind.u64.wrap (IntKind.u64.wrap (x:Int)*IntKind.u64.wrap (y:Int))+IntKind.u64.wrap (o:Int)))=((c+x*y+o:Nat):Int)/\
   c+x*y+o<2^64/\(c+x*y+o)/4294967296<2^32:=by
 have h1:x*y<=(2^32-1)*(2^32-1):=Nat.mul_le_mul aa aa
 have e:(x:Int)*(y:Int)=((x*y:Nat):Int):=by simp
 rw[cu (x:=(x:Int)) aa aa,cu (x:=(y:Int)) aa aa,cu (x:=(o:Int)) aa aa,e]
 generalize x*y=p at*
 refine⟨?_,aa,aa⟩
 rw[cu (x:=(p:Int)) aa aa,cu (x:=(p:Int)+o) aa aa,cu aa aa]
 omega
theorem NJ {vo vo' oi c x yj B s q r v Bi Bj vy:Nat} (hs:s=c+x*yj+oi) (hq:4294967296*q+r=s) (hset:vo'+oi*B=vo+r*B) (hB:B=Bi*Bj) (h:vo+c*B=v+x*vy*Bi):
  vo'+q*(4294967296*B)=v+x*(vy+yj*Bj)*Bi:=by
 subst hB
 have e:(4294967296*q+r)*(Bi*Bj)=(c+x*yj+oi)*(Bi*Bj):=by rw[hq,hs]
 grind
theorem rQ {P:Program} {f:FuncId} {K:Nat} {args:List AV} {u v:AV} {l l':List Prop} (hf:aE P f K args [] ⟨u,[],l⟩) (hl:az l'->az l) (hk:keys u=[]) (ht:u.isTuple=false) (hle:bG u v):aE P f K args [] ⟨v,[],l'⟩:=by
 intro need
 obtain⟨h1,h2⟩:=hf (hl need)
 refine⟨fun k o ho=>by simp[look]at ho,fun c D D' β w vs hw0 hMw hrel hD hK hv=>(h2 c D D' β w vs hw0 hMw hrel hD hK hv).mono ?_⟩
 rintro x w' ⟨β',g1,g2,g3⟩
 refine⟨β',g1,g2,?_⟩
 have h3:cI _ w' β' [u] [x]:=⟨bK.one g3 ht,trivial⟩
 have h4:=xj (us:=[u]) (vs:=[v]) ⟨hle,trivial⟩ (h3.bB (by rw[G9];exact hk))
 have h5:=h4.mono (fun b o h1 h2=>⟨h2,h1⟩) (β':=β') fun k x hx=>by simp[bB]at hx
 exact br.bS h5.1
theorem z9 {i:Nat} {Q:au->aM->Prop} {s:aM} (h:Q .normal s):inBlock i Q (.exit i) s:=by
 simp only[inBlock,if_true];exact h
theorem fC {i:Nat} {k:aM->Prop} {Q:au->aM->Prop} {s:aM} (h:Q .normal s):dH k (inBlock i Q) (.exit i) s:=by
 show inBlock i Q (.exit i) s
 exact z9 h
theorem tI {i:Nat} {k:aM->Prop} {Q:au->aM->Prop} {s:aM} (h:Q (.exit i) s):dH k Q (.exit i) s:=h
theorem PC {i:Nat} {k:aM->Prop} {Q:au->aM->Prop} {s:aM} (h:Q .ret s):dH k (inBlock i Q) .ret s:=h
theorem fA {k:aM->Prop} {Q:au->aM->Prop} {s:aM} (h:Q .ret s):dH k Q .ret s:=h
theorem I9 {s:aM}:∀{a b:List Nat},j9 s (a++b)=j9 s a++j9 s b
 |[],_=>rfl
 |x::a,b=>by simp only[List.cons_append,j9,I9]
theorem Ir {s:aM}:∀{a:List Nat},(j9 s a).length=a.length
 |[]=>rfl
 |x::a=>by simp only[j9,List.length_cons,Ir]
theorem LL {a b:List AV}:bC (a++b)=bC a++bC b:=by
 induction a with
 |nil=>rfl
 |cons x a ih=>simp only[List.cons_append,bC,ih,List.append_assoc]
theorem iL {s:aM} {ls l:List Nat} {vs us:List AV} {os:aF} (hv:bt (ls++l) s=some (vs++us,os)) (hl:vs.length=ls.length) (hk:bC us=[]):bt ls s=some (vs,os):=by
 unfold bt at hv ⊢
 simp only[ay,Prod.mk.injEq,I9]at hv ⊢
 obtain⟨h1,h2⟩:=hv
 obtain⟨h3,h4⟩:=List.append_inj h1 (by rw[Ir,hl])
 subst h3
 refine⟨rfl,?_⟩
 rw[<-h2,h4,LL,hk,List.append_nil]
mutual
def zeroCells:AV->Option (List Value)
 |.bool b=>some [.bool b]
 |.int k n=>some [.int k n]
 |.nil=>some [.slice none 0 0]
 |.rat q n=>if q=0/\n=1 then some [.bool false,.slice none 0 0,.slice none 0 0]else none
 |.agg l=>wB l
 |_=>none
def wB:List AV->Option (List Value)
 |[]=>some []
 |a::l=>match zeroCells a,wB l with
  |some c,some d=>some (c++d)
  |_,_=>none
end
mutual
theorem Il {M:Nat->Prop} {w:World} {β:bf}:∀{v:AV} {cs:List Value},zeroCells v=some cs->aO M w β [v] cs
 |.bool b,cs,h=>by simp only[zeroCells,ay]at h;subst h;exact .bool .nil
 |.int k n,cs,h=>by simp only[zeroCells,ay]at h;subst h;exact .int .nil
 |.nil,cs,h=>by simp only[zeroCells,ay]at h;subst h;exact .vnil .nil
 |.rat q n,cs,h=>by
  simp only[zeroCells]at h
  split at h
  ·rename_i hq
   obtain⟨rfl,rfl⟩:=hq
   simp only[ay]at h
   subst h
   have h0:aO M w bB [.mag 0] [.slice none 0 0]:=by
    have:=aO.mag (M:=M) (w:=w) (β:=bB) (N:=0) (base:=none) (cap:=0) (.inl rfl) (by simp[vD]) .nil
    simpa [vD]using this
   have:=aO.rat (M:=M) (w:=w) (β:=β) (q:=0) (n:=1) (x:=.slice none 0 0) (y:=.slice none 0 0) (l:=[]) (cs:=[]) ⟨by decide,by decide⟩ (by simpa using h0) (by simpa using h0) .nil
   simpa using this
  ·simp at h
 |.agg l,cs,h=>by
  simp only[zeroCells]at h
  simpa using aO.agg (PA h) .nil
 |.mag _,cs,h=>by simp[zeroCells]at h
 |.aq _ _ _,cs,h=>by simp[zeroCells]at h
 |.dL _ _ _ _,cs,h=>by simp[zeroCells]at h
 |.bF _,cs,h=>by simp[zeroCells]at h
 |.ptr _ _ _ _ _,cs,h=>by simp[zeroCells]at h
 |.own _ _ _ _,cs,h=>by simp[zeroCells]at h
 |.func _ _,cs,h=>by simp[zeroCells]at h
 |.tuple _,cs,h=>by simp[zeroCells]at h
 |.bJ _ _,cs,h=>by simp[zeroCells]at h
theorem PA {M:Nat->Prop} {w:World} {β:bf}:∀{l:List AV} {cs:List Value},wB l=some cs->aO M w β l cs
 |[],cs,h=>by simp only[wB,ay]at h;subst h;exact .nil
 |a::l,cs,h=>by
  simp only[wB]at h
  cases ha:zeroCells a with
  |none=>rw[ha]at h;simp at h
  |some c=>
   cases hl:wB l with
   |none=>rw[ha,hl]at h;simp at h
   |some d=>
    rw[ha,hl]at h
    simp only[ay]at h
    subst h
    exact(Il ha).cons (PA hl)
end
def Gr (v:AV):Option Value:=
 match zeroCells v with
 |some cs=>if v.isAgg then some (.agg cs.toArray)else match cs with
  |[x]=>some x
  |_=>none
 |none=>none
theorem de {P:Program} {t:TypeId} {ti:TI} (h1:P.underlying t=some ti.desc) (h2:(P.info? t).map (fun i=>(i.size,i.bytes,i.zero))=some (ti.size,ti.bytes,Gr ti.zero))
  (h3:(Gr ti.zero).isSome=true):cm P t ti:=by
 cases hi:P.info? t with
 |none=>rw[hi]at h2;simp at h2
 |some i=>
  rw[hi]at h2
  simp only[Option.map_some,ay,Prod.mk.injEq]at h2
  refine⟨h1,⟨i,hi,h2.1,h2.2.1⟩,fun _=>?_⟩
  obtain⟨z,hz⟩:=Option.isSome_iff_exists.1 h3
  refine⟨i,z,hi,by rw[h2.2.2,hz],fun M w β=>?_⟩
  unfold Gr at hz
  cases hc:zeroCells ti.zero with
  |none=>rw[hc]at hz;simp at hz
  |some cs=>
   rw[hc]at hz
   simp only at hz
   split at hz
   ·rename_i ha
    simp only[ay]at hz
    subst hz
    exact .Eb (Il hc) ha
   ·rename_i ha
    split at hz
    ·simp only[ay]at hz
     subst hz
     exact .cz (Il hc) (by simpa using ha)
    ·simp at hz
theorem jB {P:Program} {t:TypeId} {ti:TI} (h1:P.underlying t=some ti.desc) (h2:(P.info? t).map (fun i=>(i.size,i.bytes))=some (ti.size,ti.bytes)) (h3:ti.zero=.tuple []):cm P t ti:=by
 cases hi:P.info? t with
 |none=>rw[hi]at h2;simp at h2
 |some i=>
  rw[hi]at h2
  simp only[Option.map_some,ay,Prod.mk.injEq]at h2
  exact⟨h1,⟨i,hi,h2.1,h2.2⟩,fun h=>by rw[h3]at h;simp[isTuple]at h⟩
theorem alq {P:Program}:dS P []:=fun t ti h=>by simp[look]at h
theorem cB {P:Program} {t:TypeId} {ti:TI} {T:Types} (h:cm P t ti) (hT:dS P T):dS P ((t,ti)::T):=by
 intro t' ti' ht
 simp only[look]at ht
 split at ht
 ·rename_i he
  have:t=t':=by simpa using he
  subst this
  simp only[ay]at ht
  subst ht
  exact h
 ·exact hT t' ti' ht
end Go.Am
namespace Go.Am
open AV
theorem cI.length {M:Nat->Prop} {w:World} {β:bf}:∀{us:List AV} {xs:List Value},cI M w β us xs->us.length=xs.length
 |[],[],_=>rfl
 |_::_,_::_,h=>by simp[cI.length h.2]
 |[],_::_,h=>h.elim
 |_::_,[],h=>h.elim
theorem cI.weak {c c':Ctx} {β β2:bf} {w:World} {ρ:Nat->Option Nat} {M M':Nat->Prop} (hM:∀b,M' b->M b) (hβ:∀k2 k1,ρ k2=some k1->β2 k2=β k1):∀{us vs:List AV} {xs:List Value},fM ρ us vs->cI M w β us xs->cI M' w β2 vs xs
 |[],[],[],_,_=>trivial
 |u::us,v::vs,x::xs,h,hv=>⟨hv.1.weak hM hβ h.1.2,cI.weak (c:=c) (c':=c') hM hβ h.2 hv.2⟩
 |[],_::_,_,h,_=>h.elim
 |_::_,[],_,h,_=>h.elim
 |_::_,_::_,[],_,h=>h.elim
 |[],[],_::_,_,h=>h.elim
theorem aaC {nx:Nat} {rl:List (Nat×Nat)} (hr:iA nx rl=true):∀a b k,bh rl a=some k->bh rl b=some k->a=b:=by
 intro a b k ha hb
 have:=List.all_eq_true.1 hr _ (s6 ha)
 simp only[Bool.and_eq_true,aZ]at this
 simpa using List.all_eq_true.1 this.2 _ (s6 hb)
theorem RK {nx:Nat} {rl:List (Nat×Nat)} (hr:iA nx rl=true) {a k:Nat} (ha:bh rl a=some k):a<nx:=by
 have:=List.all_eq_true.1 hr _ (s6 ha)
 simp only[Bool.and_eq_true,aZ]at this
 exact this.1
theorem ab8 {M:Nat->Prop} {w:World} {β:bf} {us:List AV} {xs:List Value} (h:cI M w β us xs):bK M w β (ji us) (if h:xs.length=1 then xs.toArray[0]'(by simpa using(show 0<xs.length by omega))else .tuple xs.toArray):=by
 have hl:=h.length
 match us,xs,h,hl with
 |[],[],_,_=>exact⟨[],rfl,trivial⟩
 |[u],[x],h,_=>exact h.1.bS
 |u::u'::us,x::x'::xs,h,_=>simp only[List.length_cons,Nat.add_eq_right,Nat.add_eq_zero_iff,Nat.succ_ne_zero,and_false,dite_false];exact⟨_,rfl,h⟩
section core
variable {P:Program} {T:Types}
structure FF (T:Types) (fn:Func) (τ:Nat->Option Nat) (pre:aF) (r:dm) (s:aM):Prop where
 ends:Ends T fn r.res s
 Kr:∀k o,look k (cO (eO r.post) pre)=some o->∃k1 o1,τ k=some k1/\look k1 s.store=some o1/\o1.row=false/\cV τ o1 o
structure vr (T:Types) (fn:Func) (τ:Nat->Option Nat) (pre:aF) (r:dm) (s:aM):Prop where
 ends:∃vs q us,fS T s fn.results.toList=some (vs,q)/\az q/\fM τ vs us/\r.res=ji us
 Kr:∀k o,look k (cO (eO r.post) pre)=some o->∃k1 o1,τ k=some k1/\look k1 s.store=some o1/\cV τ o1 o
structure wI (rl:List (Nat×Nat)) (K:Nat) (pre:aF) (τ:Nat->Option Nat):Prop where
 inj:∀a b k,τ a=some k->τ b=some k->a=b
 dom:∀k a,τ k=some a->bh rl a=some k\/(K<=k/\k<K+cT)
theorem aiz (hT:dS P T) {f:FuncId} {fn:Func} {x:Code} (hf:aT P f fn x) {args args0:List AV} {pre pre0:aF} {r:dm} {K nx:Nat} (rl:List (Nat×Nat)) (hlen:args0.length<=fn.ntmps) (hr:iA nx rl=true)
  (ha:fM (bh rl) args args0) (hp:ov (bh rl) pre pre0) (hrl:∀a k,bh rl a=some k->∃o,look k pre=some o)
  (hpost:∀k o,look k r.post=some o->(∃o',look k pre=some o')\/(K<=k/\k<K+cT))
  (h:r.need->∀c:Ctx,c.ro=none->(∀k x,c.k0 k=some x->(bh rl k).isSome=true)->ax P c fn.ntmps x ⟨aQ 0 args0,pre0,nx⟩ fun e s'=>(e=.normal\/e=.ret)/\∃τ,wI rl K pre τ/\(FF T fn τ pre r s'\/vr T fn τ pre r s')):aE P f K args pre r:=by
 intro need
 refine⟨hpost,fun c D D' β w vs hw0 hMw hrel hD hK hv=>.inl ⟨fn,hf.get,hf.name,by simp[hf.body],?_⟩⟩
 have hobj0:=Ev hp
 have hβ0:∀k2 k1,bh rl k2=some k1->(fun a=>(bh rl a).bind β) k2=β k1:=fun k2 k1 h=>by simp[h]
 have hW:bI {c with k0:=fun a=>(bh rl a).bind β,ro:=none} pre0 (fun k=>k<nx) (fun a=>(bh rl a).bind β) w:=by
  refine hrel.weak (c':={c with k0:=fun a=>(bh rl a).bind β,ro:=none}) (ρ:=bh rl) rfl rfl rfl (aaC hr) (fun k o h=>.inl (hobj0 k o h)) hβ0 (fun k2 k1 h=>RK hr h) (fun k2 x hk=>?_) (fun k2 b N hk=>?_) (fun k x hk=>hk)
  ·cases h1:bh rl k2 with
   |none=>simp[h1]at hk
   |some k1=>exact RK hr h1
  ·cases h1:bh rl k2 with
   |none=>simp[h1]at hk
   |some k1=>simp[h1]at hk;exact hrel.lt k1 b N hk
 have hv0:cI (aP {c with k0:=fun a=>(bh rl a).bind β,ro:=none} pre0 (fun a=>(bh rl a).bind β)) w (fun a=>(bh rl a).bind β) args0 vs:=
  hv.weak (c:=c) (c':=c) (ρ:=bh rl) (DT rfl (fun k o h=>.inl (hobj0 k o h)) hβ0) hβ0 ha
 have hl0:=hv0.length
 have hstart:Rel {c with k0:=fun a=>(bh rl a).bind β,ro:=none} fn.ntmps (fun k=>k<nx) (aQ 0 args0) pre0 {tmps:=vs.toArray++Array.replicate (fn.ntmps-vs.toArray.size) undef,defers:=[]} w:=by
  refine⟨.nil,by simp;omega,_,hW,?_⟩
  have:=GU (pre:=#[]) (post:=Array.replicate (fn.ntmps-vs.toArray.size) undef) hv0 rfl
  simpa using this
 refine callsIn_wide.1 (callsIn_of_wp_marks (F:=Fence.wide) (n:=3) hf.get hf.body trivial (wpIn_mono (h need {c with k0:=fun a=>(bh rl a).bind β,ro:=none} rfl (fun k x hk=>by
  cases h1:bh rl k with
  |none=>simp[h1]at hk
  |some k1=>rfl) _ w hstart) ?_))
 rintro e a' w9 ⟨ae,s',rfl,hr9,hex,τ,hτ,hends⟩
 obtain⟨w',hr',hleave⟩:=Rel.leave (P:=P) (fn:=fn) (R:=fun e w'=>∃x,e=.returned x/\er c pre D' β w (eO r.post) r.res x w') hr9
 -- what the end gives, in the function's own keys
 have hfin:∃x β1 st1,(results fn a'.tmps).run P w'=.ok x w'/\bI {c with k0:=fun a=>(bh rl a).bind β,ro:=none} st1 (fun k=>k<s'.next) β1 w'/\
   (∀k o,look k (cO (eO r.post) pre)=some o->∃k1 o1,τ k=some k1/\look k1 st1=some o1/\cV τ o1 o)/\
   bK (aP {c with k0:=fun a=>(bh rl a).bind β,ro:=none} st1 β1) w' (fun k=>(τ k).bind β1) r.res x:=by
  rcases hends with hends|hends
  ·obtain⟨hdef,x,β1,st1,hrun,hw1,hvx,hrow⟩:=RC hT hends.ends hr'
   refine⟨x,β1,st1,hrun,hw1,fun k o hk=>?_,hvx.mono (fun b o h1 h2=>⟨h2,h1⟩) fun k x hk=>by simp[bB]at hk⟩
   obtain⟨k1,o1,g1,g2,g3,g4⟩:=hends.Kr k o hk
   exact⟨k1,o1,g1,hrow k1 o1 g2 g3,g4⟩
  ·obtain⟨a1,a2,β1,a3,a4⟩:=hr'
   obtain⟨vs1,q,us,h1,hq,h2,h3⟩:=hends.ends
   obtain⟨xs,hxs,hv,hlen⟩:=ID hT a3 a4 (g:=fun x=>match x with
    |ResultVar.tmp t=>pure (a'.tmps.getD t undef)
    |ResultVar.cell r t=>do let y <-asAddr (a'.tmps.getD r undef);loadVar t y) (fun _=>rfl) (fun _ _=>rfl) h1 hq
   refine⟨if h:xs.length=1 then xs.toArray[0]'(by simpa using(show 0<xs.length by omega))else .tuple xs.toArray,β1,s'.store,?_,a3,hends.Kr,?_⟩
   ·have key:results fn a'.tmps=(do
      let vs <-fn.results.mapM fun x=>match x with
       |ResultVar.tmp t=>pure (a'.tmps.getD t undef)
       |ResultVar.cell r t=>do let y <-asAddr (a'.tmps.getD r undef);loadVar t y
      pure (if h:vs.size=1 then vs[0]else Value.tuple vs)):=rfl
    rw[key,Sem.run_bind,Array.mapM_eq_mapM_toList,Sem.run_map,hxs]
    simp only[Result.andThen_ok,Sem.run_pure]
    congr 1
   ·rw[h3]
    exact ab8 (hv.weak (c:=c) (c':=c) (ρ:=τ) (fun _ h=>h) (fun k2 k1 h=>by simp[h]) h2)
 obtain⟨x,β1,st1,hrun,hw1,hobj1,hvx⟩:=hfin
 have hkeep1:∀k a,τ k=some a->∀y,β k=some y->β1 a=some y:=by
  intro k a hka y hy
  rcases hτ.dom k a hka with h1|⟨h1,h2⟩
  ·exact hw1.keep a y (by simp only[h1,Option.bind_some];exact hy)
  ·exact absurd (hrel.dom k y hy) (hK k h1 h2).1
 have hβ2:∀k2 k1,τ k2=some k1->(fun k=>match τ k with
   |some a=>β1 a
   |none=>β k) k2=β1 k1:=fun k2 k1 h=>by simp[h]
 have hW2:bI c (cO (eO r.post) pre) D' (fun k=>match τ k with
   |some a=>β1 a
   |none=>β k) w':=by
  have hd2:∀k2 a,τ k2=some a->D' k2:=fun k2 a ha=>by
   rcases hτ.dom k2 a ha with h1|⟨h1,h2⟩
   ·obtain⟨o,ho⟩:=hrl a k2 h1
    cases hb:β k2 with
    |some x=>exact hD _ (hrel.dom k2 _ hb)
    |none=>exact hD _ (hrel.dO k2 o ho hb).2
   ·exact(hK k2 h1 h2).2
  refine hw1.weak (c':=c) (ρ:=τ) rfl rfl rfl hτ.inj (fun k o h=>.inl (hobj1 k o h)) hβ2 hd2 (fun k2 y hk=>?_) (fun k2 b N hk=>?_) (fun k y hk=>?_)
  ·split at hk
   ·rename_i a ha
    exact hd2 k2 a ha
   ·exact hD _ (hrel.dom k2 y hk)
  ·split at hk
   ·exact hw1.lt _ b N hk
   ·exact Nat.lt_of_lt_of_le (hrel.lt k2 b N hk) (by have:=hw1.size;rw[<-hw0];exact this)
  ·have hy:=hrel.keep k y hk
   split
   ·rename_i a ha
    exact hkeep1 k a ha y hy
   ·exact hy
 have hO:er c pre D' β w (eO r.post) r.res x w':=by
  refine⟨_,hW2,⟨fun b o hb ho=>?_,fun k y hk=>?_⟩,?_⟩
  ·have hlt:b<c.w0.heap.size:=by rw[hw0];exact Cp ho
   have hmw:¬c.Mw b:=fun hm=>hb (hMw b hm)
   refine⟨?_,?_⟩
   ·rw[hw1.block b hlt hmw]
    show c.w0.heap[b]?=_
    rw[hw0];exact ho
   ·rintro(hm|⟨k,o',N,h1,h2,h3⟩)
    ·exact hb (.inl hm)
    ·rcases hW2.new k o' b N h1 h2 h3 with h4|h4
     ·omega
     ·exact hmw h4
  ·split
   ·rename_i a ha
    exact hkeep1 k a ha y hk
   ·exact hk
  ·refine hvx.mono (fun b o h1 h2=>⟨h2,fun h3=>h1 (DT (c:={c with k0:=fun a=>(bh rl a).bind β,ro:=none}) rfl (fun k o h=>.inl (hobj1 k o h)) hβ2 b h3)⟩) (fun k y hk=>?_)
   cases h1:τ k with
   |none=>simp[h1]at hk
   |some a=>simpa [h1]using hk
 rcases hex with rfl|rfl
 ·exact hleave x hrun ⟨x,rfl,hO⟩
 ·exact hleave x hrun ⟨x,rfl,hO⟩
theorem nr (hT:dS P T) {f:FuncId} {fn:Func} {x:Code} (hf:aT P f fn x) {args args0:List AV} {pre pre0:aF} {r:dm} {K nx:Nat} (rl:List (Nat×Nat)) (hlen:args0.length<=fn.ntmps) (hr:iA nx rl=true)
  (ha:fM (bh rl) args args0) (hp:ov (bh rl) pre pre0) (hrl:∀a k,bh rl a=some k->∃o,look k pre=some o)
  (hpost:∀k o,look k r.post=some o->(∃o',look k pre=some o')\/(K<=k/\k<K+cT))
  (h:r.need->∀c:Ctx,(∀k x,c.k0 k=some x->(bh rl k).isSome=true)->ax P c fn.ntmps x ⟨aQ 0 args0,pre0,nx⟩ fun e s'=>(e=.normal\/e=.ret)/\∃τ,wI rl K pre τ/\(FF T fn τ pre r s'\/vr T fn τ pre r s')):aE P f K args pre r:=
 aiz hT hf rl hlen hr ha hp hrl hpost fun need c _=>h need c
end core
def jF (nx:Nat) (vs:List AV):Bool:=(vs.all fun v=>!v.isTuple)&&(bC vs).all fun k=>decide (k<nx)
def gN (nx:Nat):aF->Prop
 |[]=>True
 |(k,o)::l=>(k<nx/\∀i,i<o.len->keys (o.f i)=[])/\gN nx l
theorem Nq {nx:Nat}:∀{os:aF},gN nx os->∀{k:Nat} {o:ak},look k os=some o->k<nx/\∀i,i<o.len->keys (o.f i)=[]
 |[],_,k,o,h=>by simp[look]at h
 |(j,b)::l,h,k,o,hk=>by
  simp only[look]at hk
  split at hk
  ·rename_i he
   have:j=k:=by simpa using he
   subst this
   simp only[ay]at hk
   subst hk
   exact h.1
  ·exact Nq h.2 hk
theorem PS {nx:Nat} {u:AV} (hk:∀k∈keys u,k<nx):gu (fun k=>if k<nx then some k else none) u u:=by
 refine⟨rfl,fun M w β cs hc=>?_⟩
 have gen:∀{l:List AV} {cs:List Value},aO M w β l cs->(∀k∈bC l,k<nx)->aO M w (fun k=>(if k<nx then some k else none).bind β) l cs:=by
  intro l cs h
  generalize hβ:β=β' at h
  induction h with
  |nil=>exact fun _=>.nil
  |bool _ ih=>exact fun h=>.bool (ih hβ (by simpa [bC,keys]using h))
  |int _ ih=>exact fun h=>.int (ih hβ (by simpa [bC,keys]using h))
  |rat hs h1 h2 _ _ _ ih=>exact fun h=>.rat hs h1 h2 (ih hβ (by simpa [bC,keys]using h))
  |mag h1 h2 _ ih=>exact fun h=>.mag h1 h2 (ih hβ (by simpa [bC,keys]using h))
  |agg _ _ ih1 ih2=>exact fun h=>.agg (ih1 hβ fun k hk=>h k (by simp only[bC,keys];exact List.mem_append_left _ hk)) (ih2 hβ fun k hk=>h k (by simp only[bC];exact List.mem_append_right _ hk))
  |aq h1 h2 h3 h4 h5 _ _ ih=>exact fun h=>.aq h1 h2 h3 h4 h5 (ih hβ (by simpa [bC,keys]using h))
  |dL hq h1 h2 h3 h4 h5 _ _ ih=>exact fun h=>.dL hq h1 h2 h3 h4 h5 (ih hβ (by simpa [bC,keys]using h))
  |vnil _ ih=>exact fun h=>.vnil (ih hβ (by simpa [bC,keys]using h))
  |void hx _ ih=>exact fun h=>.void hx (ih hβ (by simpa [bC,keys]using h))
  |str _ ih=>exact fun h=>.str (ih hβ (by simpa [bC,keys]using h))
  |bF h1 h2 _ _ ih=>exact fun h=>.bF h1 h2 (ih hβ (by simpa [bC,keys]using h))
  |@ptr _ k _ _ _ _ _ _ _ _ hk _ ih=>
   intro h
   have:k<nx:=h k (by simp[bC,keys])
   exact .ptr (by simp only[this,if_true,Option.bind_some];rw[<-hβ]at hk ⊢;exact hk) (ih hβ fun k hk=>h k (by simp only[bC];exact List.mem_append_right _ hk))
  |@own _ k _ _ _ _ _ _ _ _ _ hk h1 h2 h4 h3 _ ih=>
   intro h
   have:k<nx:=h k (by simp[bC,keys])
   exact .own (by simp only[this,if_true,Option.bind_some];rw[<-hβ]at hk ⊢;exact hk) h1 h2 h4 h3 (ih hβ fun k hk=>h k (by simp only[bC];exact List.mem_append_right _ hk))
  |own0 h3 _ ih=>exact fun h=>.own0 h3 (ih hβ fun k hk=>h k (by simp only[bC];exact List.mem_append_right _ hk))
  |bJ ha _ _ ih1 ih2=>exact fun h=>.bJ ha (ih1 hβ fun k hk=>h k (by simp only[bC,keys,List.append_nil]at hk ⊢;exact List.mem_append_left _ hk)) (ih2 hβ fun k hk=>h k (by simp only[bC];exact List.mem_append_right _ hk))
  |func _ hc _ ih1 ih2=>exact fun h=>.func (ih1 hβ fun k hk=>h k (by simp only[bC,keys];exact List.mem_append_left _ hk)) hc (ih2 hβ fun k hk=>h k (by simp only[bC];exact List.mem_append_right _ hk))
 exact gen hc fun k h=>hk k (by rw[G9]at h;exact h)
theorem QL {nx:Nat}:∀{vs:List AV},jF nx vs=true->fM (fun k=>if k<nx then some k else none) vs vs
 |[],_=>trivial
 |v::vs,h=>by
  simp only[jF,List.all_cons,bC,List.all_append,Bool.and_eq_true,Bool.not_eq_true']at h
  obtain⟨⟨h1,h2⟩,h3,h4⟩:=h
  refine⟨⟨h1,PS fun k hk=>by simpa using List.all_eq_true.1 h3 k hk⟩,QL ?_⟩
  simp only[jF,Bool.and_eq_true]
  exact⟨h2,h4⟩
theorem nS {c:Ctx} {s':aM} {ls:List Nat} {vs:List AV} {os:aF} {nx:Nat} (hv:bt ls s'=some (vs,os)) (h0:∀k x,c.k0 k=some x->k<nx) (hok:jF nx vs=true) (ho:gN nx os):∃ρ,Le c ρ s' ⟨aC ls vs,os,nx⟩:=by
 unfold bt at hv
 simp only[ay,Prod.mk.injEq]at hv
 obtain⟨rfl,rfl⟩:=hv
 refine⟨fun k=>if k<nx then some k else none,?_,KW (QL hok),fun k2 o2 hk=>?_,fun k2 k1 hk=>?_,fun k x hk=>by simp[h0 k x hk]⟩
 ·intro a b k ha hb
  split at ha<;>split at hb<;>simp_all
 ·obtain⟨h1,h2⟩:=Nq ho hk
  refine .inl ⟨k2,o2,by simp[h1],?_,⟨rfl,rfl,rfl,rfl,fun i hi=>PS fun k hk=>by rw[h2 i hi]at hk;simp at hk⟩⟩
  rw[mO]at hk
  split at hk
  ·exact hk
  ·simp at hk
 ·split at hk
  ·assumption
  ·simp at hk
section rules
variable {P:Program} {c:Ctx} {nt:Nat} {s:aM} {Q:au->aM->Prop} {T:Types} {Γ:bg}
theorem ax.g9 {x y:Code} {i:Nat} (hx:x=.block i (.loop y)) (ls:List Nat) (nx:Nat) (h0:∀k x,c.k0 k=some x->k<nx) {α:Type} (vs:α->List AV) (os:α->aF) (hok:∀a,jF nx (vs a)=true) (ho:∀a,gN nx (os a)) (I:α->Prop) (μ:α->Nat) (j:α)
  (hv:bt ls s=some (vs j,os j)) (hI:I j)
  (round:∀j,I j->ax P c nt y ⟨aC ls (vs j),os j,nx⟩ (dH (fun s'=>∃k,bt ls s'=some (vs k,os k)/\I k/\μ k<μ j) (inBlock i Q))):ax P c nt x s Q:=
 ax.iw hx (fun a=>⟨aC ls (vs a),os a,nx⟩) I μ j (nS hv h0 (hok j) (ho j)) hI fun j hj=>(round j hj).mono fun e s' h=>by
  cases e with
  |normal=>
   obtain⟨k,h1,h2,h3⟩:=h
   exact⟨k,nS h1 h0 (hok k) (ho k),h2,h3⟩
  |exit i=>exact h
  |ret=>exact h
theorem ax.kj {x:Code} {ls:List Nat} {nx:Nat} {vs:List AV} {os:aF} (hv:bt ls s=some (vs,os)) (h0:∀k x,c.k0 k=some x->k<nx) (hok:jF nx vs=true) (ho:gN nx os) (h:ax P c nt x ⟨aC ls vs,os,nx⟩ Q):ax P c nt x s Q:=
 .jA (nS hv h0 hok ho) h
theorem aI.kj {l:List Code} {ls:List Nat} {nx:Nat} {vs:List AV} {os:aF} (hv:bt ls s=some (vs,os)) (h0:∀k x,c.k0 k=some x->k<nx) (hl:l.isEmpty=false) (hok:jF nx vs=true) (ho:gN nx os) (h:aI P c nt l ⟨aC ls vs,os,nx⟩ Q):aI P c nt l s Q:=
 .weak hl (nS hv h0 hok ho) h
theorem aI.Ge (hT:dS P T) (hΓ:bz P Γ) (hm:P.follows .mixedOrders=true) {fn:Func} {forks:List Nat} (n:Nat) {l:List Code} {ls:List Nat} {nx:Nat} {vs:List AV} {os:aF} (hv:bt ls s=some (vs,os)) (h0:∀k x,c.k0 k=some x->k<nx)
  (hok:jF nx vs=true) (ho:gN nx os) {t:ah (List AV)} (hc:cw T Γ forks n fn l ⟨aC ls vs,os,nx⟩=some t) (hd:(l.all fun x=>cF nt x)=true) (hl:l.isEmpty=false) {res:AV} (h:t.all fun _ us=>eF us res):aI P c nt l s (Fin T fn res):=
 .kj hv h0 hl hok ho (.fin hT hΓ hm n hc hd h)
theorem aI.fh (hT:dS P T) (hΓ:bz P Γ) (hm:P.follows .mixedOrders=true) {forks:List Nat} (n:Nat) {l:List Code} {ls:List Nat} {nx:Nat} {vs:List AV} {os:aF} (hv:bt ls s=some (vs,os)) (h0:∀k x,c.k0 k=some x->k<nx)
  (hok:jF nx vs=true) (ho:gN nx os) (ls2:List Nat) {t:ah (List AV×aF)} (hc:aH T Γ forks n ls2 l ⟨aC ls vs,os,nx⟩=some t) (hd:(l.all fun x=>cF nt x)=true) (hl:l.isEmpty=false) (h:t.all fun e v=>∀s',bt ls2 s'=some v->Q e s'):aI P c nt l s Q:=
 .kj hv h0 hl hok ho (.bA hT hΓ hm n ls2 hc hd h)
theorem ax.fh (hT:dS P T) (hΓ:bz P Γ) (hm:P.follows .mixedOrders=true) {x:Code} {forks:List Nat} (n:Nat) {ls:List Nat} {nx:Nat} {vs:List AV} {os:aF} (hv:bt ls s=some (vs,os)) (h0:∀k x,c.k0 k=some x->k<nx)
  (hok:jF nx vs=true) (ho:gN nx os) (ls2:List Nat) {t:ah (List AV×aF)} (hc:aH T Γ forks n ls2 [x] ⟨aC ls vs,os,nx⟩=some t) (hd:cF nt x=true) (h:t.all fun e v=>∀s',bt ls2 s'=some v->Q e s'):ax P c nt x s Q:=
 .kj hv h0 hok ho (.bA hT hΓ hm n ls2 hc hd h)
end rules
theorem vL {T:Types} {fn:Func} {ls:List Nat} {vs us ws:List AV} {os ps pre:aF} {s':aM} {τ:Nat->Option Nat} {r:dm} (hv:bt ls s'=some (vs,os)) (hr:mE (aC ls vs) fn.results.toList=some us) (hle:fM τ us ws) (hres:r.res=ji ws)
  (he:cO (eO r.post) pre=ps) (ho:ov τ os ps):vr T fn τ pre r s':=by
 unfold bt at hv
 simp only[ay,Prod.mk.injEq]at hv
 obtain⟨rfl,rfl⟩:=hv
 refine⟨⟨us,[],ws,Iy hr,trivial,hle,hres⟩,fun k o hk=>?_⟩
 rw[he]at hk
 obtain⟨k1,o1,g1,g2,g3⟩:=Ev ho k o hk
 refine⟨k1,o1,g1,?_,g3⟩
 rw[mO]at g2
 split at g2
 ·exact g2
 ·simp at g2
def wj (g:Nat->List AV->Option dm):Spec:=fun K args pre=>match ey pre args with
 |some as=>g K as
 |none=>none
theorem FI {P:Program} {f:FuncId} {g:Nat->List AV->Option dm} (h:∀K args r,bC args=[]->g K args=some r->aE P f K args [] r):
  ∀K args pre r,wj g K args pre=some r->aE P f K args pre r:=by
 intro K args pre r hg
 unfold wj at hg
 split at hg
 ·rename_i as has
  have hf:=h K as r (x8 has) hg
  intro need
  obtain⟨h1,h2⟩:=hf need
  refine⟨fun k o ho=>.inr ((h1 k o ho).resolve_left fun⟨o',h⟩=>by simp[look]at h),fun c D D' β w vs hw0 hMw hrel hD hK hv=>?_⟩
  have hv':cI (aP c pre β) w bB as vs:=A1 hrel (fun _ _ h=>h) has hv
  exact(hf.frame (pre':=pre) (fun k o hk=>by simp[look]at hk)).use need hrel (fun _ _ h=>h) hD hK (hv'.mono (fun b o h1 h2=>⟨h2,h1⟩) fun k x hx=>by simp[bB]at hx)
 ·simp at hg
theorem Ic {K k a:Nat} {pre:aF} (h:K<=k/\k<K+cT):wI [] K pre (bh [(k,a)]):=
 ⟨fun x y z hx hy=>by
  simp only[bh,look]at hx hy
  split at hx<;>split at hy<;>simp_all,fun x y hx=>by
  simp only[bh,look]at hx
  split at hx
  ·rename_i he
   have:k=x:=by simpa using he
   subst this
   exact .inr h
  ·simp at hx⟩
theorem ur {K k a:Nat} {pre:aF}:wI [(a,k)] K pre (bh [(k,a)]):=
 ⟨fun x y z hx hy=>by
  simp only[bh,look]at hx hy
  split at hx<;>split at hy<;>simp_all,fun x y hx=>by
  simp only[bh,look]at hx ⊢
  split at hx
  ·rename_i he
   have:k=x:=by simpa using he
   subst this
   simp only[ay]at hx
   subst hx
   exact .inl (by simp)
  ·simp at hx⟩
theorem kA {c:Ctx} (h:c.k0=bB) {nx:Nat}:∀k x,c.k0 k=some x->k<nx:=fun k x hk=>by rw[h]at hk;simp[bB]at hk
theorem dJ {ls:List Nat} {s':aM} {vs us:List AV} {os ps:aF} (hv:bt ls s'=some (vs,os)) (h1:vs=us) (h2:os=ps):bt ls s'=some (us,ps):=by rw[hv,h1,h2]
end Go.Am
namespace Go.Am
open AV
def fV (b:Bool) (n:Nat):Int:=if b then-(n:Int)else n
def sQ (b:Bool) (n d:Nat):Rat:=mkRat (fV b n) d
def cS (q:Rat):Nat:=max (bN q.num.natAbs) (bN q.den)
theorem F8 {b:Bool} {n:Nat}:(fV b n).natAbs=n:=by unfold fV;split<;>simp
theorem acQ {b:Bool}:fV b 0=0:=by unfold fV;split<;>simp
theorem Xo {b:Bool} {n g:Nat} (h:g∣n):fV b n/(g:Int)=fV b (n/g):=by
 unfold fV
 split
 ·rw[Int.neg_ediv_of_dvd (Int.natCast_dvd_natCast.2 h)];simp
 ·simp
theorem iS {q:Rat}:q<0↔q.num<0:=by rw[Rat.lt_iff];simp
theorem E4 {b:Bool} {n d:Nat} (hd:d≠0):(sQ b n d).num=fV b (n/Nat.gcd n d):=by
 unfold sQ
 rw[Rat.num_mkRat,if_neg hd,F8,Nat.gcd_comm,Xo (Nat.gcd_dvd_left n d)]
theorem RV {b:Bool} {n d:Nat} (hd:d≠0):(sQ b n d).den=d/Nat.gcd n d:=by
 unfold sQ
 rw[Rat.den_mkRat,if_neg hd,F8,Nat.gcd_comm]
theorem GW {b:Bool} {d:Nat}:sQ b 0 d=0:=by unfold sQ;rw[acQ];simp
theorem aa9 {b:Bool} {n d:Nat} (hn:n≠0) (hd:d≠0):decide (sQ b n d<0)=b:=by
 have h1:0<n/Nat.gcd n d:=Nat.div_pos (Nat.le_of_dvd aa (Nat.gcd_dvd_left n d)) (Nat.gcd_pos_of_pos_left _ aa)
 cases b
 ·simp only[bk,iS,E4 hd,fV];simp;omega
 ·simp only[aZ,iS,E4 hd,fV];simp;omega
theorem xQ {q:Rat}:Sz q (cS q):=
 ⟨Nat.lt_of_lt_of_le (jI.1 aU) (Nat.pow_le_pow_right aa (Nat.le_max_left _ _)),Nat.lt_of_lt_of_le (jI.1 aU) (Nat.pow_le_pow_right aa (Nat.le_max_right _ _))⟩
theorem acX {q:Rat} {n:Nat}:Sz q n↔cS q<=n:=by
 unfold Sz cS
 rw[<-jI,<-jI];omega
theorem dA {q r:Rat} {n k:Nat} (h:q=r) (hs:Sz r k):bG (.rat q n) (.rat r k):=by
 subst h
 refine⟨rfl,fun M w cs hc=>?_⟩
 cases hc with
 |rat _ h1 h2 h3=>cases h3;exact .rat hs h1 h2 .nil
theorem BQ {b:Bool} {n d k:Nat} (hd:d≠0) (hn:n<2^k) (hdk:d<2^k):Sz (sQ b n d) k:=by
 refine⟨?_,?_⟩
 ·rw[E4 hd,F8];exact Nat.lt_of_le_of_lt (Nat.div_le_self _ _) hn
 ·rw[RV hd];exact Nat.lt_of_le_of_lt (Nat.div_le_self _ _) hdk
theorem lJ (q:Rat):sQ (decide (q<0)) q.num.natAbs q.den=q:=by
 unfold sQ
 have:fV (decide (q<0)) q.num.natAbs=q.num:=by
  unfold fV
  by_cases h:q<0
  ·have:=iS.1 h;simp[h];omega
  ·have:¬q.num<0:=fun h'=>h (iS.2 h')
   simp[h];omega
 rw[this,Rat.mkRat_self]
theorem v8 {b:Bool} {x y n d k:Nat} (hn:n≠0) (hd:d≠0) (hx:x=n/Nat.gcd n d) (hy:y=if d/Nat.gcd n d=1 then 0 else d/Nat.gcd n d) (hs:Sz (sQ b n d) k):bG (.agg [.bool b,.mag x,.mag y]) (.rat (sQ b n d) k):=
 uj hs (aa9 hn hd).symm (by rw[E4 hd,F8,hx]) (by rw[RV hd,hy])
theorem lT {k:Nat}:bG (.agg [.bool false,.mag 0,.mag 0]) (.rat 0 (k+1)):=
 uj ⟨by simp[Nat.two_pow_pos],by simp⟩ (by decide) rfl rfl
section down
variable {P:Program} {c:Ctx} {nt:Nat} {s:aM} {Q:au->aM->Prop} {T:Types}
def dP (c:Ctx) (Q:au->aM->Prop) (e:au) (s':aM):Prop:=Q e s'\/∃s2 ρ,Le c ρ s' s2/\Q e s2
theorem ax.down {x:Code} (h:ax P c nt x s (dP c Q)):ax P c nt x s Q:=by
 intro a w hr
 refine wpIn_mono (h a w hr) ?_
 rintro e a' w' ⟨ae,s',h1,h2,hq|⟨s2,ρ,hle,hq⟩⟩
 ·exact⟨ae,s',h1,h2,hq⟩
 ·exact⟨ae,s2,h1,hle.rel h2,hq⟩
theorem x9 {fn:Func} {ls:List Nat} {vs:List AV} {os:aF} {nx:Nat} {s':aM} {e:au} {t:ah (List AV)} {res:AV} (he:j4 T fn e ⟨aC ls vs,os,nx⟩=some t) (hv:bt ls s'=some (vs,os)) (h0:∀k x,c.k0 k=some x->k<nx) (hok:jF nx vs=true) (ho:gN nx os)
  (h:t.all fun _ us=>eF us res):dP c (Fin T fn res) e s':=by
 obtain⟨ρ,hle⟩:=nS hv h0 hok ho
 exact .inr ⟨_,ρ,hle,Fk he h⟩
theorem aI.jZ (hT:dS P T) {Γ:bg} (hΓ:bz P Γ) (hm:P.follows .mixedOrders=true) {fn:Func} {forks:List Nat} (n:Nat) {l:List Code} {ls:List Nat} {nx:Nat} {vs:List AV} {os:aF} (hv:bt ls s=some (vs,os)) (h0:∀k x,c.k0 k=some x->k<nx)
  (hok:jF nx vs=true) (ho:gN nx os) {t:ah (List AV)} (hc:cw T Γ forks n fn l ⟨aC ls vs,os,nx⟩=some t) (hd:(l.all fun x=>cF nt x)=true) (hl:l.isEmpty=false) {res:AV} (h:t.all fun _ us=>eF us res):aI P c nt l s (dP c (Fin T fn res)):=
 (aI.Ge hT hΓ hm n hv h0 hok ho hc hd hl h).mono fun _ _ h=>.inl h
end down
theorem gr {P:Program} {T:Types} (hT:dS P T) {f:FuncId} {fn:Func} {x:Code} (hf:aT P f fn x) {args:List AV} {r:dm} (hk:bC args=[]) (hlen:args.length<=fn.ntmps) (hpost:r.post=[])
  (h:r.need->∀c:Ctx,(∀nx k x,c.k0 k=some x->k<nx)->ax P c fn.ntmps x ⟨aQ 0 args,[],0⟩ (dP c (Fin T fn r.res))) (K:Nat) (pre:aF):aE P f K args pre r:=
 jM hT hf hk hlen hpost (fun need c h0=>.down (h need c fun _=>kA h0)) K pre
mutual
def szA:AV->Prop
 |.rat q n=>Sz q n
 |.agg l=>vP l
 |_=>True
def vP:List AV->Prop
 |[]=>True
 |a::l=>szA a/\vP l
end
theorem aO.sz {M:Nat->Prop} {w:World} {β:bf} {l:List AV} {cs:List Value} (h:aO M w β l cs):vP l:=by
 induction h with
 |nil=>trivial
 |rat hs _ _ _ _ _ ih=>exact⟨hs,ih⟩
 |agg _ _ ih1 ih2=>exact⟨ih1,ih2⟩
 |aq _ _ _ _ _ _ _ ih=>exact⟨trivial,ih⟩
 |dL _ _ _ _ _ _ _ _ ih=>exact⟨trivial,ih⟩
 |bF _ _ _ _ ih=>exact⟨trivial,ih⟩
 |func _ _ _ _ ih=>exact⟨trivial,ih⟩
 |bJ _ _ _ _ ih=>exact⟨trivial,ih⟩
 |_=>rename_i ih;exact⟨trivial,ih⟩
theorem cI.sz {M:Nat->Prop} {w:World} {β:bf}:∀{l:List AV} {xs:List Value},cI M w β l xs->vP l
 |[],[],_=>trivial
 |a::l,x::xs,h=>by
  obtain⟨⟨cs,h1,_⟩,h2⟩:=h
  exact⟨h1.sz.1,h2.sz⟩
 |[],_::_,h=>h.elim
 |_::_,[],h=>h.elim
theorem Vd {P:Program} {f:FuncId} {K:Nat} {args:List AV} {pre:aF} {r:dm} (hp:∀k o,look k r.post=some o->(∃o',look k pre=some o')\/(K<=k/\k<K+cT)) (h:vP args->aE P f K args pre r):aE P f K args pre r:=
 fun need=>⟨hp,fun c D D' β w vs h1 h2 h3 h4 h5 hv=>(h hv.sz need).2 c D D' β w vs h1 h2 h3 h4 h5 hv⟩
theorem jn {P:Program} {f:FuncId} {K:Nat} {args:List AV} {pre:aF} {v:AV} {l:List Prop} (h:vP args->aE P f K args pre ⟨v,[],l⟩):aE P f K args pre ⟨v,[],l⟩:=
 Vd (fun k o hk=>by simp[look]at hk) h
theorem jh {N n:Nat} (h:N<2^n) (hn:n<2^44):nl N<2^40:=by
 have h1:N<2^(32*(n/32+1)):=Nat.lt_of_lt_of_le h (Nat.pow_le_pow_right aa aa)
 have:=dz.2 h1
 omega
theorem Xv {q:Rat}:(if q.den=1 then 0 else q.den)<=q.den:=by split<;>omega
theorem Sz.jz {q:Rat} {n:Nat} (h:Sz q n) (hn:n<2^44):nl q.num.natAbs<2^40/\nl q.den<2^40/\nl (if q.den=1 then 0 else q.den)<2^40:=
 ⟨jh h.1 hn,jh h.2 hn,Nat.lt_of_le_of_lt (gV Xv) (jh h.2 hn)⟩
theorem Sz.pos {q:Rat} {n:Nat} (h:Sz q n):0<n:=by
 rcases Nat.eq_zero_or_pos n with h1|h1
 ·subst h1;have:=h.2;have:=q.den_nz;omega
 ·exact h1
theorem Sz.more {q:Rat} {n m:Nat} (h:Sz q n) (hm:n<=m):Sz q m:=
 ⟨Nat.lt_of_lt_of_le h.1 (Nat.pow_le_pow_right aa hm),Nat.lt_of_lt_of_le h.2 (Nat.pow_le_pow_right aa hm)⟩
theorem Sv {a:Int} {d:Nat}:(mkRat a d).num.natAbs<=a.natAbs:=by
 rw[Rat.num_mkRat]
 split
 ·simp
 ·rw[Int.natAbs_ediv_of_dvd]
  ·exact Nat.div_le_self _ _
  ·exact Int.ofNat_dvd_left.2 (Nat.gcd_dvd_right _ _)
theorem RZ {a:Int} {d:Nat} (h:d≠0):(mkRat a d).den<=d:=by
 rw[Rat.den_mkRat,if_neg h]
 exact Nat.div_le_self _ _
theorem Sz.add {q r:Rat} {n m:Nat} (h:Sz q n) (h':Sz r m):Sz (q+r) (n+m+1):=by
 rw[Rat.add_def']
 have d0:q.den*r.den≠0:=Nat.mul_ne_zero q.den_nz r.den_nz
 have e:2^(n+m+1)=2^n*2^m+2^n*2^m:=by rw[Nat.pow_succ,Nat.pow_add];omega
 have b1:q.num.natAbs*r.den<=2^n*2^m:=Nat.mul_le_mul (Nat.le_of_lt h.1) (Nat.le_of_lt h'.2)
 have b2:r.num.natAbs*q.den<2^m*2^n:=Nat.mul_lt_mul'' h'.1 h.2
 have b3:q.den*r.den<=2^n*2^m:=Nat.mul_le_mul (Nat.le_of_lt h.2) (Nat.le_of_lt h'.2)
 have b4:0<2^n*2^m:=Nat.mul_pos (Nat.two_pow_pos _) (Nat.two_pow_pos _)
 rw[Nat.mul_comm (2^m)]at b2
 refine⟨Nat.lt_of_le_of_lt Sv ?_,Nat.lt_of_le_of_lt (RZ d0) aa⟩
 have b5:=Int.natAbs_add_le (q.num*r.den) (r.num*q.den)
 rw[Int.natAbs_mul,Int.natAbs_mul,Int.natAbs_natCast,Int.natAbs_natCast]at b5
 omega
theorem Sz.neg {q:Rat} {n:Nat} (h:Sz q n):Sz (-q) n:=by
 refine⟨?_,?_⟩
 ·rw[Rat.neg_num,Int.natAbs_neg];exact h.1
 ·rw[Rat.neg_den];exact h.2
theorem Sz.sub {q r:Rat} {n m:Nat} (h:Sz q n) (h':Sz r m):Sz (q-r) (n+m+1):=by
 rw[Rat.sub_eq_add_neg];exact h.add h'.neg
theorem Sz.mul {q r:Rat} {n m:Nat} (h:Sz q n) (h':Sz r m):Sz (q*r) (n+m):=by
 rw[Rat.mul_def']
 have d0:q.den*r.den≠0:=Nat.mul_ne_zero q.den_nz r.den_nz
 refine⟨Nat.lt_of_le_of_lt Sv ?_,Nat.lt_of_le_of_lt (RZ d0) ?_⟩
 ·rw[Int.natAbs_mul,Nat.pow_add];exact Nat.mul_lt_mul'' h.1 h'.1
 ·rw[Nat.pow_add];exact Nat.mul_lt_mul'' h.2 h'.2
theorem Sz.inv {q:Rat} {n:Nat} (h:Sz q n):Sz q⁻¹ n:=by
 by_cases h0:q=0
 ·subst h0
  rw[Rat.inv_zero]
  exact h
 ·have hn:q.num≠0:=fun h=>h0 (Rat.num_eq_zero.1 h)
  refine⟨?_,?_⟩
  ·rw[Rat.num_inv,Int.natAbs_mul,Int.natAbs_natCast,Int.natAbs_sign_of_ne_zero hn,Nat.one_mul];exact h.2
  ·rw[Rat.den_inv,if_neg hn];exact h.1
theorem Sz.div {q r:Rat} {n m:Nat} (h:Sz q n) (h':Sz r m):Sz (q/r) (n+m):=by
 rw[Rat.div_def];exact h.mul h'.inv
def eW (q:Rat):Int:=if q<0 then-1 else if 0<q then 1 else 0
def dM (q r:Rat):Int:=if q<r then-1 else if r<q then 1 else 0
end Go.Am
namespace Go.Am
open AV
def Ei (T:Types) (fn:Func) (e:au) (s:aM):Option (ah (List AV×Option ak)):=
 match j4 T fn e s with
 |some t=>t.bind fun e us=>some (.leaf e (us,look 0 s.store))
 |none=>none
def vK (T:Types) (Γ:bg) (forks:List Nat) (n:Nat) (fn:Func) (x:Code) (s:aM):Option (ah (List AV×Option ak)):=
 match dY T Γ forks n x s with
 |some t=>t.bind (Ei T fn)
 |none=>none
theorem Cm {P:Program} {T:Types} (hT:dS P T) {Γ:bg} (hΓ:bz P Γ) (hm:P.follows .mixedOrders=true) {f:FuncId} {fn:Func} {x:Code} (hf:aT P f fn x) {k idx es off:Nat} {p:List Nat} {rest:List AV} {o2 o o':ak} {res:AV} {l:List Prop}
  (hkr:bC rest=[]) (hrt:(rest.all fun v=>!v.isTuple)=true) (hlen:rest.length+1<=fn.ntmps) (ho:∀ρ,cV ρ o2 o) {forks:List Nat} (n:Nat) {t:ah (List AV×Option ak)}
  (hc:vK T Γ forks n fn x ⟨aQ 0 (.ptr 0 idx es off p::rest),[(0,o)],1⟩=some t)
  (h:az l->t.all fun _ v=>eF v.1 res/\∃o1,v.2=some o1/\o1.row=false/\cV (bh [(k,0)]) o1 o') (K:Nat):
  aE P f K (.ptr k idx es off p::rest) [(k,o2)] ⟨res,[(k,o')],l⟩:=by
 have hrest:∀{rest:List AV},bC rest=[]->(rest.all fun v=>!v.isTuple)=true->fM (bh [(0,k)]) rest rest:=by
  intro rest
  induction rest with
  |nil=>intro _ _;trivial
  |cons v r ih=>
   intro h1 h2
   simp only[bC,List.append_eq_nil_iff]at h1
   simp only[List.all_cons,Bool.and_eq_true,Bool.not_eq_true']at h2
   exact⟨⟨h2.1,aN h1.1⟩,ih h1.2 h2.2⟩
 refine nr hT hf (args0:=.ptr 0 idx es off p::rest) (pre0:=[(0,o)]) (nx:=1) [(0,k)] (by simpa using hlen) (by simp[iA]) ⟨⟨rfl,nE rfl⟩,hrest hkr hrt⟩ ⟨⟨k,o2,rfl,by simp[look],ho _⟩,trivial⟩
  (fun a x h=>?_) (fun x o h=>.inl ?_) (fun need c h0=>?_)
 ·simp only[bh,look]at h
  split at h
  ·simp only[ay]at h;subst h;exact⟨_,by simp[look];rfl⟩
  ·simp at h
 ·simp only[look]at h
  split at h
  ·rename_i he
   exact⟨_,by simp only[look,he,if_true];rfl⟩
  ·simp at h
 have h:=h need
 unfold vK at hc
 cases hx:dY T Γ forks n x ⟨aQ 0 (.ptr 0 idx es off p::rest),[(0,o)],1⟩with
 |none=>rw[hx]at hc;simp at hc
 |some u=>
  rw[hx]at hc
  refine kM hT hΓ hm n hf.dst hx (ah.fz ?_ (ah.jV hc h))
  rintro e s' ⟨v,h1,h2⟩
  unfold Ei at h1
  split at h1
  ·rename_i v' hv'
   have h3:=ah.jV h1 h2
   have h4:v'.all fun _ us=>eF us res/\∃o1,look 0 s'.store=some o1/\o1.row=false/\cV (bh [(k,0)]) o1 o':=by
    refine ah.fz ?_ h3
    rintro e us ⟨w,g1,g2⟩
    simp only[ay]at g1
    subst g1
    exact g2
   have h5:Fin T fn res e s':=Fk hv' (ah.fz (fun _ _ h=>h.1) h4)
   have h6:∃o1,look 0 s'.store=some o1/\o1.row=false/\cV (bh [(k,0)]) o1 o':=by
    have:∀{t:ah (List AV)},(t.all fun _ us=>eF us res/\∃o1,look 0 s'.store=some o1/\o1.row=false/\cV (bh [(k,0)]) o1 o')->∃o1,look 0 s'.store=some o1/\o1.row=false/\cV (bh [(k,0)]) o1 o':=by
     intro t
     induction t with
     |leaf e us=>exact fun h=>h.2
     |aj ps t ih=>exact fun h=>ih h.2
     |fork b t1 t2 ih1 ih2=>
      intro h
      cases b with
      |true=>exact ih1 (h.1 rfl)
      |false=>exact ih2 (h.2 rfl)
    exact this h4
   refine⟨h5.1,bh [(k,0)],ur,.inl ⟨h5.2,fun x ox hx=>?_⟩⟩
   obtain⟨o1,g1,g2,g3⟩:=h6
   have he:cO (eO [(k,o')]) [(k,o2)]=[(k,o')]:=by simp[cO,eO,put]
   rw[he]at hx
   simp only[look]at hx
   split at hx
   ·rename_i hk
    have:k=x:=by simpa using hk
    subst this
    simp only[ay]at hx
    subst hx
    exact⟨0,o1,by simp[bh,look],g1,g2,g3⟩
   ·simp at hx
  ·simp at h1
theorem ad1 {P:Program} {T:Types} (hT:dS P T) {Γ:bg} (hΓ:bz P Γ) (hm:P.follows .mixedOrders=true) {f:FuncId} {fn:Func} {x:Code} (hf:aT P f fn x) {args:List AV} {o o':ak} {a idx es off ls:Nat} {p:List Nat} {l:List Prop}
  (hka:bC args=[]) (hrt:(args.all fun v=>!v.isTuple)=true) (hlen:args.length<=fn.ntmps) (hres:fn.results.toList=[.tmp ls]) {forks:List Nat} (n:Nat) {e:au} {q:List Prop}
  (hc:aH T Γ forks n [ls] [x] ⟨aQ 0 args,[],0⟩=some (.leaf e ([.ptr a idx es off p],[(a,o)])))
  (he:e=.normal\/e=.ret) (h:∀ρ,cV ρ o o') (K:Nat):aE P f K args [] ⟨.ptr K idx es off p,[(K,o')],l⟩:=by
 have hrest:∀{rest:List AV},bC rest=[]->(rest.all fun v=>!v.isTuple)=true->fM (bh []) rest rest:=by
  intro rest
  induction rest with
  |nil=>intro _ _;trivial
  |cons v r ih=>
   intro h1 h2
   simp only[bC,List.append_eq_nil_iff]at h1
   simp only[List.all_cons,Bool.and_eq_true,Bool.not_eq_true']at h2
   exact⟨⟨h2.1,aN h1.1⟩,ih h1.2 h2.2⟩
 refine nr hT hf (args0:=args) (pre0:=[]) (nx:=0) [] hlen rfl (hrest hka hrt) trivial (fun a k h=>by simp[bh,look]at h) (fun k o h=>?_) (fun _ c h0=>?_)
 ·simp only[look]at h
  split at h
  ·rename_i he
   have:K=k:=by simpa using he
   subst this
   exact .inr ⟨aU,by unfold cT;omega⟩
  ·simp at h
 refine ax.bA hT hΓ hm n [ls] hc hf.dst fun s' hv=>⟨he,bh [(K,a)],Ic ⟨aU,by unfold cT;omega⟩,.inr ?_⟩
 refine vL (us:=[.ptr a idx es off p]) (ws:=[.ptr K idx es off p]) (ps:=[(K,o')]) hv ?_ ⟨⟨rfl,nE (by simp[bh,look])⟩,trivial⟩ rfl rfl ⟨⟨a,_,by simp[bh,look],by simp[look],h _⟩,trivial⟩
 rw[hres]
 simp only[mE,aC,look,beq_self_eq_true,if_true]
 rfl
mutual
def eu (b:Bool):AV->AV->Option AV
 |.rat q n,.rat r m=>some (.rat (cond b q r) (max n m))
 |.int k x,.int j y=>match isKind k j with
  |true=>some (.int k (cond b x y))
  |false=>none
 |.bool x,.bool y=>some (.bool (cond b x y))
 |.aq e n f,.aq e' m g=>match e==e' with
  |true=>some (.aq e (cond b n m) fun i=>cond b (f i) (g i))
  |false=>none
 |.nil,.nil=>some .nil
 |.nil,.aq e n f=>match Nat.blt 0 e with
  |true=>some (.aq e (cond b 0 n) f)
  |false=>none
 |.aq e n f,.nil=>match Nat.blt 0 e with
  |true=>some (.aq e (cond b n 0) f)
  |false=>none
 |.agg l,.agg m=>match oR b l m with
  |some x=>some (.agg x)
  |none=>none
 |_,_=>none
def oR (b:Bool):List AV->List AV->Option (List AV)
 |[],[]=>some []
 |u::l,v::m=>match eu b u v,oR b l m with
  |some x,some y=>some (x::y)
  |_,_=>none
 |_,_=>none
end
mutual
theorem YA:∀{u v x:AV},eu true u v=some x->bG u x
 |.rat q n,v,x,h=>by
  cases v<;>simp only[eu,ay,reduceCtorEq]at h
  subst h;exact fK (Nat.le_max_left ..)
 |.int k a,v,x,h=>by
  cases v<;>simp only[eu,reduceCtorEq]at h
  split at h
  ·simp only[ay]at h;subst h;exact .refl _
  ·simp at h
 |.bool a,v,x,h=>by
  cases v<;>simp only[eu,ay,reduceCtorEq]at h
  subst h;exact .refl _
 |.aq e n f,v,x,h=>by
  cases v<;>simp only[eu,reduceCtorEq]at h
  ·split at h
   ·simp only[ay]at h;subst h;exact .refl _
   ·simp at h
  ·split at h
   ·simp only[ay]at h;subst h;exact .refl _
   ·simp at h
 |.nil,v,x,h=>by
  cases v<;>simp only[eu,ay,reduceCtorEq]at h
  ·split at h
   ·rename_i he
    simp only[ay]at h;subst h
    exact kX (by rw[Nat.blt_eq]at he;exact he)
   ·simp at h
  ·subst h;exact .refl _
 |.agg l,v,x,h=>by
  cases v<;>simp only[eu,reduceCtorEq]at h
  split at h
  ·rename_i hl
   simp only[ay]at h;subst h;exact cC (HF hl)
  ·simp at h
 |.mag _,v,x,h=>by simp[eu]at h
 |.dL _ _ _ _,v,x,h=>by simp[eu]at h
 |.void,v,x,h=>by simp[eu]at h
 |.str _,v,x,h=>by simp[eu]at h
 |.bF _,v,x,h=>by simp[eu]at h
 |.ptr _ _ _ _ _,v,x,h=>by simp[eu]at h
 |.own _ _ _ _,v,x,h=>by simp[eu]at h
 |.func _ _,v,x,h=>by simp[eu]at h
 |.tuple _,v,x,h=>by simp[eu]at h
 |.bJ _ _,v,x,h=>by simp[eu]at h
theorem HF:∀{u v x:List AV},oR true u v=some x->eH u x
 |[],v,x,h=>by
  cases v<;>simp only[oR,ay,reduceCtorEq]at h
  subst h;trivial
 |a::l,v,x,h=>by
  cases v<;>simp only[oR,reduceCtorEq]at h
  split at h
  ·rename_i h1 h2
   simp only[ay]at h;subst h;exact⟨YA h1,HF h2⟩
  ·simp at h
end
mutual
theorem YU:∀{u v x:AV},eu false u v=some x->bG v x
 |.rat q n,v,x,h=>by
  cases v<;>simp only[eu,ay,reduceCtorEq]at h
  subst h;exact fK (Nat.le_max_right ..)
 |.int k a,v,x,h=>by
  cases v<;>simp only[eu,reduceCtorEq]at h
  split at h
  ·rename_i hk
   have:=Fi hk
   subst this
   simp only[ay]at h;subst h;exact .refl _
  ·simp at h
 |.bool a,v,x,h=>by
  cases v<;>simp only[eu,ay,reduceCtorEq]at h
  subst h;exact .refl _
 |.aq e n f,v,x,h=>by
  cases v<;>simp only[eu,reduceCtorEq]at h
  ·split at h
   ·rename_i hk
    have:=eq_of_beq hk
    subst this
    simp only[ay]at h;subst h;exact .refl _
   ·simp at h
  ·split at h
   ·rename_i he
    simp only[ay]at h;subst h
    exact kX (by rw[Nat.blt_eq]at he;exact he)
   ·simp at h
 |.nil,v,x,h=>by
  cases v<;>simp only[eu,ay,reduceCtorEq]at h
  ·split at h
   ·simp only[ay]at h;subst h;exact .refl _
   ·simp at h
  ·subst h;exact .refl _
 |.agg l,v,x,h=>by
  cases v<;>simp only[eu,reduceCtorEq]at h
  split at h
  ·rename_i hl
   simp only[ay]at h;subst h;exact cC (Lq hl)
  ·simp at h
 |.mag _,v,x,h=>by simp[eu]at h
 |.dL _ _ _ _,v,x,h=>by simp[eu]at h
 |.void,v,x,h=>by simp[eu]at h
 |.str _,v,x,h=>by simp[eu]at h
 |.bF _,v,x,h=>by simp[eu]at h
 |.ptr _ _ _ _ _,v,x,h=>by simp[eu]at h
 |.own _ _ _ _,v,x,h=>by simp[eu]at h
 |.func _ _,v,x,h=>by simp[eu]at h
 |.tuple _,v,x,h=>by simp[eu]at h
 |.bJ _ _,v,x,h=>by simp[eu]at h
theorem Lq:∀{u v x:List AV},oR false u v=some x->eH v x
 |[],v,x,h=>by
  cases v<;>simp only[oR,ay,reduceCtorEq]at h
  subst h;trivial
 |a::l,v,x,h=>by
  cases v<;>simp only[oR,reduceCtorEq]at h
  split at h
  ·rename_i h1 h2
   simp only[ay]at h;subst h;exact⟨YU h1,Lq h2⟩
  ·simp at h
end
theorem eH.trans:∀{a b c:List AV},eH a b->eH b c->eH a c
 |[],[],[],_,_=>trivial
 |_::_,_::_,_::_,h,h'=>⟨h.1.trans h'.1,h.2.trans h'.2⟩
 |[],[],_::_,_,h=>h.elim
 |[],_::_,_,h,_=>h.elim
 |_::_,[],_,h,_=>h.elim
 |_::_,_::_,[],_,h=>h.elim
def pK:ah (List AV)->Option (List AV×List Prop)
 |.leaf _ us=>some (us,[])
 |.aj ps t=>match pK t with
  |some (us,qs)=>some (us,ps++qs)
  |none=>none
 |.fork b t u=>match pK t,pK u with
  |some (x,p),some (y,q)=>match oR b x y with
   |some z=>match p,q with
    |[],[]=>some (z,[])
    |p,q=>some (z,[b=true->az p,b=false->az q])
   |none=>none
  |_,_=>none
theorem zD:∀{t:ah (List AV)} {us:List AV} {ps:List Prop},pK t=some (us,ps)->az ps->t.all fun _ vs=>eH vs us
 |.leaf e vs,us,ps,h,_=>by
  simp only[pK,ay,Prod.mk.injEq]at h
  obtain⟨rfl,rfl⟩:=h
  exact .refl _
 |.aj l t,us,ps,h,hp=>by
  simp only[pK]at h
  split at h
  ·rename_i h1
   simp only[ay,Prod.mk.injEq]at h
   obtain⟨rfl,rfl⟩:=h
   obtain⟨p1,p2⟩:=eL.1 hp
   exact⟨p1,zD h1 p2⟩
  ·simp at h
 |.fork b t u,us,ps,h,hp=>by
  simp only[pK]at h
  split at h
  ·rename_i x p y q h1 h2
   split at h
   ·rename_i z hz
    have key:us=z/\(b=true->az p)/\(b=false->az q):=by
     split at h
     ·simp only[ay,Prod.mk.injEq]at h
      exact⟨h.1.symm,fun _=>trivial,fun _=>trivial⟩
     ·simp only[ay,Prod.mk.injEq]at h
      obtain⟨rfl,rfl⟩:=h
      exact⟨rfl,hp⟩
    obtain⟨rfl,p1,p2⟩:=key
    refine⟨fun hb=>?_,fun hb=>?_⟩
    ·subst hb
     exact ah.fz (fun _ vs hv=>hv.trans (HF hz)) (zD h1 (p1 rfl))
    ·subst hb
     exact ah.fz (fun _ vs hv=>hv.trans (Lq hz)) (zD h2 (p2 rfl))
   ·simp at h
  ·simp at h
def ru (T:Types) (Γ:bg) (forks:List Nat) (fuel:Nat) (fn:Func):Spec:=bX fun args=>
 match Nat.ble args.length fn.ntmps with
 |true=>match bW T Γ forks fuel fn (aA fn) ⟨aQ 0 args,[],0⟩with
  |some t=>match pK t with
   |some (us,ps)=>match us with
    |[u]=>some ⟨u,[],ps⟩
    |us=>some ⟨.tuple us,[],ps⟩
   |none=>none
  |none=>none
 |false=>none
theorem adQ {us:List AV} {v:AV} (h:eH us [v]):eF us v:=by
 match us,h with
 |[u],h=>exact h.1
theorem Xq {us vs:List AV} (hv:∀u,vs≠[u]) (h:eH us vs):eF us (.tuple vs):=by
 match us,vs,h with
 |[],[],h=>exact h
 |[u],[v],h=>exact absurd rfl (hv v)
 |a::b::l,_::_::_,h=>exact h
 |[u],_::_::_,h=>exact absurd h.2 (by simp[eH])
 |a::b::l,[v],h=>exact absurd h.2 (by simp[eH])
 |[],_::_,h=>exact h.elim
 |_::_,[],h=>exact h.elim
theorem sX {P:Program} {T:Types} (hT:dS P T) {Γ:bg} (hΓ:bz P Γ) (hm:P.follows .mixedOrders=true) {f:FuncId} {fn:Func} (hf:aT P f fn (aA fn)) (forks:List Nat) (fuel:Nat):
  ∀K args pre r,ru T Γ forks fuel fn K args pre=some r->aE P f K args pre r:=by
 refine cK fun K args r hk hs hp=>?_
 split at hs
 ·rename_i hlen
  have hlen:=Nat.le_of_ble_eq_true hlen
  split at hs
  ·rename_i t ht
   split at hs
   ·rename_i us ps hc
    split at hs
    ·simp only[ay]at hs
     subst hs
     exact cj (r:=⟨_,[],ps⟩) hT hΓ hm hf hk hlen rfl fuel ht (fun hn=>ah.fz (fun _ vs hv=>adQ hv) (zD hc hn)) K []
    ·rename_i hne
     simp only[ay]at hs
     subst hs
     exact cj (r:=⟨_,[],ps⟩) hT hΓ hm hf hk hlen rfl fuel ht (fun hn=>ah.fz (fun _ vs hv=>Xq hne hv) (zD hc hn)) K []
   ·simp at hs
  ·simp at hs
 ·simp at hs
theorem qm {P:Program} {Γ:bg} (h:bz P Γ):bz P (sG::Γ):=aL (fun K args pre r hs=>by simp at hs) h
theorem cZ {P:Program} {Γ:bg} (h:bz P Γ):bz P (nG::Γ):=aL (fun K args pre r hs=>by simp at hs) h
end Go.Am
namespace Go.Am
open AV
def mQ (rl:List (Nat×Nat)):AV->AV
 |.ptr k i e o p=>match look k rl with
  |some j=>.ptr j i e o p
  |none=>.void
 |.own k e s n=>match look k rl with
  |some j=>.own j e s n
  |none=>match s,n,e with
   |0,0,_+1=>.nil
   |_,_,_=>.void
 |.bJ c (.own k e s n)=>match look k rl with
  |some j=>.bJ c (.own j e s n)
  |none=>.void
 |v=>v
def lX (rl:List (Nat×Nat)):AV->Bool
 |.ptr k _ _ _ _=>(look k rl).isSome
 |.own k e s n=>(look k rl).isSome||match s,n,e with
  |0,0,_+1=>true
  |_,_,_=>false
 |.tuple _=>false
 |.bJ _ (.own k _ _ _)=>(look k rl).isSome
 |v=>(keys v).isEmpty
theorem VX {ρ:Nat->Option Nat} {c c2:Nat} {u v:AV} (hc:c=c2) (hv:v.isAgg=false) (h:gu ρ u v):gu ρ (.bJ c u) (.bJ c2 v):=by
 subst hc
 refine⟨rfl,fun M w β cs hcs=>?_⟩
 cases hcs with
 |bJ _ h1 h2=>cases h2;exact .bJ hv (h.2 _ _ _ _ h1) .nil
theorem NB {rl:List (Nat×Nat)} {u v:AV} (hu:u=mQ rl v) (hv:lX rl v=true):u.isTuple=false/\gu (bh rl) u v:=by
 subst hu
 cases v with
 |ptr k i e o p=>
  simp only[lX,Option.isSome_iff_exists]at hv
  obtain⟨j,hj⟩:=hv
  simp only[mQ,hj]
  exact⟨rfl,nE hj⟩
 |own k e s n=>
  simp only[lX]at hv
  cases hj:look k rl with
  |some j=>
   simp only[mQ,hj]
   exact⟨rfl,cD hj rfl rfl⟩
  |none=>
   rw[hj]at hv
   simp only[Option.isSome_none,Bool.false_or]at hv
   split at hv
   ·simp only[mQ,hj]
    exact⟨rfl,iZ aa⟩
   ·simp at hv
 |tuple l=>simp[lX]at hv
 |bJ c v=>
  cases v with
  |own k e s n=>
   simp only[lX,Option.isSome_iff_exists]at hv
   obtain⟨j,hj⟩:=hv
   simp only[mQ,hj]
   exact⟨rfl,VX rfl rfl (cD hj rfl rfl)⟩
  |_=>
   simp only[lX,List.isEmpty_iff]at hv
   exact⟨rfl,aN hv⟩
 |_=>
  simp only[lX,List.isEmpty_iff]at hv
  exact⟨rfl,aN hv⟩
theorem Ta {rl:List (Nat×Nat)}:∀{vs us:List AV},us=vs.map (mQ rl)->vs.all (lX rl)=true->fM (bh rl) us vs
 |[],_,h,_=>by subst h;trivial
 |v::vs,_,h,hv=>by
  subst h
  simp only[List.all_cons,Bool.and_eq_true]at hv
  exact⟨NB rfl hv.1,Ta rfl hv.2⟩
def tF:AV->Bool
 |.tuple _=>false
 |v=>(keys v).isEmpty
theorem abd {rl:List (Nat×Nat)} {v:AV} (h:tF v=true):mQ rl v=v:=by
 cases v with
 |bJ c v=>cases v<;>first|rfl|simp[tF,keys]at h
 |_=>first|rfl|simp[tF,keys]at h
theorem abW {rl:List (Nat×Nat)} {v:AV} (h:tF v=true):lX rl v=true:=by
 cases v with
 |bJ c v=>cases v<;>first|exact h|simp[tF,keys]at h
 |_=>first|exact h|simp[tF,keys]at h
def eG (rl:List (Nat×Nat)) (u v:AV):Prop:=((lX rl v=true/\u=mQ rl v)\/∃us vs,u=.agg us/\v=.agg vs/\fM (bh rl) us vs)\/(keys u=[]/\bG u v)
theorem On {ρ:Nat->Option Nat} {M:Nat->Prop} {w:World} {β:bf}:∀{us vs:List AV} {cs:List Value},fM ρ us vs->aO M w β us cs->aO M w (fun k=>(ρ k).bind β) vs cs
 |[],[],_,_,h=>by cases h;exact .nil
 |u::us,v::vs,cs,hl,h=>by
  obtain⟨c1,c2,rfl,h1,h2⟩:=h.split
  exact(hl.1.2.2 M w β c1 h1).cons (On hl.2 h2)
 |[],_::_,_,h,_=>h.elim
 |_::_,[],_,h,_=>h.elim
theorem WN {ρ:Nat->Option Nat} {us vs:List AV} (h:fM ρ us vs):gu ρ (.agg us) (.agg vs):=by
 refine⟨rfl,fun M w β cs hc=>?_⟩
 cases hc with
 |agg h1 h2=>cases h2;exact .agg (On h h1) .nil
theorem fW {rl:List (Nat×Nat)} {us vs:List AV} (h:fM (bh rl) us vs):eG rl (.agg us) (.agg vs):=.inl (.inr ⟨_,_,rfl,rfl,h⟩)
theorem eG.le {rl:List (Nat×Nat)} {u v:AV} (h:eG rl u v):gu (bh rl) u v:=by
 rcases h with(h|⟨us,vs,rfl,rfl,h⟩)|h
 ·exact(NB h.2 h.1).2
 ·exact WN h
 ·exact mL h.1 h.2
def iE (nx:Nat) (rl:List (Nat×Nat)) (os:aF):aF->Prop
 |[]=>True
 |(k2,o2)::ps=>((look k2 rl=none/\wT o2/\k2<nx)\/∃k1 o1,look k2 rl=some k1/\look k1 os=some o1/\o1.row=o2.row/\o1.wr=o2.wr/\o1.es=o2.es/\o1.len=o2.len/\∀i,i<o2.len->eG rl (o1.f i) (o2.f i))/\iE nx rl os ps
theorem G0 {nx:Nat} {rl:List (Nat×Nat)} {os:aF}:∀{ps:aF},iE nx rl os ps->xW nx (bh rl) os ps
 |[],_=>trivial
 |(k2,o2)::ps,h=>by
  obtain⟨h|⟨k1,o1,h1,h2,h3,h4,h5,h6,h7⟩,h8⟩:=h
  ·exact⟨.inr h,G0 h8⟩
  ·exact⟨.inl ⟨k1,o1,h1,h2,⟨h3.symm▸rfl,h4.symm▸rfl,h5.symm▸rfl,h6.symm▸rfl,fun i hi=>(h7 i (h6▸hi)).le⟩⟩,G0 h8⟩
theorem cL {rl:List (Nat×Nat)} {u v:AV} (hk:keys u=[]) (h:u=v):eG rl u v:=.inr ⟨hk,h▸.refl _⟩
theorem bL {nx:Nat} {rl:List (Nat×Nat)} {os ps:aF} {k2 k1:Nat} {r w:Bool} {es n m:Nat} {f g:Nat->AV} (hk:look k2 rl=some k1) (ho:look k1 os=some ⟨r,w,es,n,f⟩) (hn:n=m) (h:∀i,i<m->eG rl (f i) (g i))
  (hs:iE nx rl os ps):iE nx rl os ((k2,⟨r,w,es,m,g⟩)::ps):=⟨.inr ⟨k1,_,hk,ho,rfl,rfl,rfl,hn,h⟩,hs⟩
theorem bD {nx:Nat} {rl:List (Nat×Nat)} {os ps:aF} {k2 k1:Nat} {r w:Bool} {es:Nat} {f g:Nat->AV} (hk:look k2 rl=some k1) (ho:look k1 os=some ⟨r,w,es,1,f⟩) (h:eG rl (f 0) (g 0))
  (hs:iE nx rl os ps):iE nx rl os ((k2,⟨r,w,es,1,g⟩)::ps):=bL hk ho rfl (fun i hi=>by rw[Nat.lt_one_iff.1 hi];exact h) hs
theorem gU {nx:Nat} {rl:List (Nat×Nat)} {os ps:aF} {k2 es:Nat} {w:Bool} {f:Nat->AV} (hk:look k2 rl=none) (hes:0<es) (hn:k2<nx) (hs:iE nx rl os ps):iE nx rl os ((k2,⟨true,w,es,0,f⟩)::ps):=⟨.inl ⟨hk,⟨rfl,rfl,hes⟩,hn⟩,hs⟩
theorem ot {α:Type} {k:Nat} {a:α} {l:List (Nat×α)}:look k ((k,a)::l)=some a:=by simp[look]
theorem GB {α:Type} {j k:Nat} {b:α} {l:List (Nat×α)} (h:(j==k)=false):look k ((j,b)::l)=look k l:=by simp[look,h]
theorem M0 {α:Type} {k:Nat} {b:List (Nat×α)}:∀{a:List (Nat×α)},look k (a++b)=match look k a with
  |some x=>some x
  |none=>look k b
 |[]=>rfl
 |(j,x)::a=>by
  simp only[List.cons_append,look]
  split
  ·rfl
  ·exact M0
theorem DE {P:Program} {a b:bg} (ha:bz P a) (hb:bz P b):bz P (a++b):=by
 intro f s hl
 have hl:look f (a++b)=some s:=hl
 rw[M0]at hl
 split at hl
 ·rename_i h
  simp only[ay]at hl
  subst hl
  exact ha f _ h
 ·exact hb f s hl
def Kept (kp:List Nat) (c:Ctx):Prop:=∀k x,c.k0 k=some x->k∈kp
theorem m7 {c:Ctx} (h0:∀nx k x,c.k0 k=some x->k<nx):Kept [] c:=fun k x hk=>absurd (h0 0 k x hk) aa
def cP (kp:List Nat) (v:List AV×aF) (vs:List AV) (os:aF) (nx:Nat):Prop:=
 ∃rl,(iA nx rl&&kp.all fun k=>look k rl==some k)=true/\v.1=vs.map (mQ rl)/\vs.all (lX rl)=true/\iE nx rl v.2 os
theorem cP.le {kp:List Nat} {c:Ctx} {s':aM} {ls:List Nat} {v:List AV×aF} {vs:List AV} {os:aF} {nx:Nat} (h:cP kp v vs os nx) (hv:bt ls s'=some v) (h0:Kept kp c):∃ρ,Le c ρ s' ⟨aC ls vs,os,nx⟩:=by
 obtain⟨rl,h1,h2,h3,h4⟩:=h
 simp only[Bool.and_eq_true]at h1
 exact OE rl hv (fun k x hk=>by simpa using List.all_eq_true.1 h1.2 k (h0 k x hk)) h1.1 (Ta h2 h3) (G0 h4)
theorem cP.vals {vs:List AV} {nx:Nat} (h:vs.all tF=true):cP [] (vs,[]) vs [] nx:=by
 simp only[List.all_eq_true]at h
 refine⟨[],rfl,?_,List.all_eq_true.2 fun v hv=>abW (h v hv),trivial⟩
 have:vs.map (mQ [])=vs.map id:=List.map_congr_left fun v hv=>abd (h v hv)
 rw[this,List.map_id]
theorem nZ {nt:Nat}:∀{x:Code} {p:List Nat},cF nt x=true->(before x p).all (fun x=>cF nt x)=true
 |.seq x y,0::p,h=>by
  simp only[cF,Bool.and_eq_true]at h
  exact nZ (x:=x) h.1
 |.seq x y,(n+1)::p,h=>by
  simp only[cF,Bool.and_eq_true]at h
  simp only[before,List.all_cons,Bool.and_eq_true]
  exact⟨h.1,nZ (x:=y) h.2⟩
 |.seq _ _,[],_|.cond _ _ _,_,_|.block _ _,_,_|.loop _,_,_|.region _ _ _,_,_|.skip,_,_|.label _,_,_|.exit _,_,_|.ret,_,_|.scope _,_,_|.goto _,_,_|.refuse _,_,_|.rangeFunc _ _ _ _,_,_=>by simp[before]
theorem yM {nt:Nat}:∀{x:Code} {p:List Nat},cF nt x=true->(behind x p).all (fun x=>cF nt x)=true
 |.seq x y,0::p,h=>by
  simp only[cF,Bool.and_eq_true]at h
  simp only[behind,List.all_append,List.all_cons,List.all_nil,Bool.and_true,Bool.and_eq_true]
  exact⟨yM (x:=x) h.1,h.2⟩
 |.seq x y,(n+1)::p,h=>by
  simp only[cF,Bool.and_eq_true]at h
  exact yM (x:=y) (p:=p) h.2
 |.seq _ _,[],_|.cond _ _ _,_,_|.block _ _,_,_|.loop _,_,_|.region _ _ _,_,_|.skip,_,_|.label _,_,_|.exit _,_,_|.ret,_,_|.scope _,_,_|.goto _,_,_|.refuse _,_,_|.rangeFunc _ _ _ _,_,_=>by simp[behind]
theorem zk {nt:Nat}:∀{x:Code} {p:List Nat},chain x p=true->cF nt x=true->cF nt (part x p)=true
 |x,[],_,h=>by cases x<;>exact h
 |.seq x y,0::p,hc,h=>by
  simp only[cF,Bool.and_eq_true]at h
  exact zk (x:=x) hc h.1
 |.seq x y,(n+1)::p,hc,h=>by
  simp only[cF,Bool.and_eq_true]at h
  exact zk (x:=y) hc h.2
 |.cond _ _ _,_::_,hc,_|.block _ _,_::_,hc,_|.loop _,_::_,hc,_|.region _ _ _,_::_,hc,_|.skip,_::_,hc,_|.label _,_::_,hc,_|.exit _,_::_,hc,_|.ret,_::_,hc,_|.scope _,_::_,hc,_|.goto _,_::_,hc,_|.refuse _,_::_,hc,_|.rangeFunc _ _ _ _,_::_,hc,_=>by simp[chain]at hc
section rules
variable {P:Program} {c:Ctx} {nt:Nat} {s:aM} {Q:au->aM->Prop} {T:Types} (hT:dS P T) {Γ:bg} (hΓ:bz P Γ) (hm:P.follows .mixedOrders=true)
def Round (kp:List Nat) {α:Type} (V:α->List AV) (O:α->aF) (nx:Nat) (I D:α->Prop) (μ:α->Nat) (i:Nat) (R:List AV×aF->Prop) (a:α):au->List AV×aF->Prop
 |.normal,v=>∃b,I b/\μ b<μ a/\cP kp v (V b) (O b) nx
 |.exit k,v=>k=i/\∃b,D b/\cP kp v (V b) (O b) nx
 |.ret,v=>R v
include hT hΓ hm in
theorem ax.agY {x y:Code} {i:Nat} (hx:x=.block i (.loop y)) {kp:List Nat} (h0:Kept kp c) {forks:List Nat} (n:Nat) (L:List Nat) (nx:Nat) {α:Type} (V:α->List AV) (O:α->aF) (I D:α->Prop) (μ:α->Nat) (R:List AV×aF->Prop)
  (a0:α) (hI:I a0) (hs:∃ρ,Le c ρ s ⟨aC L (V a0),O a0,nx⟩) (hd:cF nt y=true)
  (hb:∀a,I a->∃t,aH T Γ forks n L [y] ⟨aC L (V a),O a,nx⟩=some t/\t.all (Round kp V O nx I D μ i R a))
  (hD:∀b s',D b->(∃ρ,Le c ρ s' ⟨aC L (V b),O b,nx⟩)->Q .normal s') (hR:∀v s',R v->bt L s'=some v->Q .ret s'):ax P c nt x s Q:=by
 refine ax.iw hx (fun a=>⟨aC L (V a),O a,nx⟩) I μ a0 hs hI fun a ha=>?_
 obtain⟨t,h1,h2⟩:=hb a ha
 refine ax.bA hT hΓ hm n L h1 hd (ah.fz ?_ h2)
 rintro e v hv s' hs'
 cases e with
 |normal=>
  obtain⟨b,g1,g2,g3⟩:=hv
  exact⟨b,g3.le hs' h0,g1,g2⟩
 |exit k=>
  obtain⟨rfl,b,g1,g2⟩:=hv
  exact z9 (hD b s' g1 (g2.le hs' h0))
 |ret=>exact hR v s' hv hs'
theorem aI.one {x:Code} (h:ax P c nt x s Q):aI P c nt [x] s Q:=h.mono fun e s' h=>by cases e<;>exact h
theorem ax.j3 {x:Code} (h:aI P c nt [x] s Q):ax P c nt x s Q:=ax.mono h fun e s' h=>by cases e<;>exact h
def Start (kp:List Nat) {α:Type} (V:α->List AV) (O:α->aF) (nx:Nat) (I:α->Prop) (R:List AV×aF->Prop):au->List AV×aF->Prop
 |.normal,v=>∃a,I a/\cP kp v (V a) (O a) nx
 |.ret,v=>R v
 |.exit _,_=>False
include hT hΓ hm in
theorem ax.oE {x y:Code} (p:List Nat) {i:Nat} (hc:chain x p=true) (hx:part x p=.block i (.loop y)) (hd:cF nt x=true) {kp:List Nat} (h0:Kept kp c) {f1 f2:List Nat} (n:Nat) (L:List Nat) (nx:Nat) {α:Type} (V:α->List AV) (O:α->aF) (I D:α->Prop) (μ:α->Nat) (R:List AV×aF->Prop)
  (hp:∃t,aH T Γ f1 n L (before x p) s=some t/\t.all (Start kp V O nx I R))
  (hb:∀a,I a->∃t,aH T Γ f2 n L [y] ⟨aC L (V a),O a,nx⟩=some t/\t.all (Round kp V O nx I D μ i R a))
  (hD:∀b s',D b->(∃ρ,Le c ρ s' ⟨aC L (V b),O b,nx⟩)->aI P c nt (behind x p) s' Q) (hR:∀v s',R v->bt L s'=some v->Q .ret s'):ax P c nt x s Q:=by
 obtain⟨t,h1,h2⟩:=hp
 refine ax.hole p hc (aI.bA hT hΓ hm n L h1 (nZ hd) (ah.fz ?_ h2))
 rintro e v hv s' hs'
 cases e with
 |normal=>
  obtain⟨a,hI,hre⟩:=hv
  refine(show ax P c nt (part x p) s' _ from ax.agY hT hΓ hm hx h0 n L nx V O I D μ R a hI (hre.le hs' h0) ?_ hb (fun b s' hD' hle=>hD b s' hD' hle) fun v s' hv hs'=>hR v s' hv hs')
  have:=zk (nt:=nt) hc hd
  rw[hx]at this
  exact this
 |ret=>exact hR v s' hv hs'
 |exit k=>exact hv.elim
include hT hΓ hm in
theorem ax.kG {x y z:Code} (p:List Nat) {i:Nat} (hc:chain x p=true) (hx:part x p=.block i (.loop y)) (hz:behind x p=[z]) (hd:cF nt x=true) {kp:List Nat} (h0:Kept kp c) {f1 f2:List Nat} (n:Nat) (L:List Nat) (nx:Nat) {α:Type} (V:α->List AV) (O:α->aF) (I D:α->Prop) (μ:α->Nat) (R:List AV×aF->Prop)
  (hp:∃t,aH T Γ f1 n L (before x p) s=some t/\t.all (Start kp V O nx I R))
  (hb:∀a,I a->∃t,aH T Γ f2 n L [y] ⟨aC L (V a),O a,nx⟩=some t/\t.all (Round kp V O nx I D μ i R a))
  (hD:∀b,D b->ax P c nt z ⟨aC L (V b),O b,nx⟩ Q) (hR:∀v s',R v->bt L s'=some v->Q .ret s'):ax P c nt x s Q:=
 ax.oE hT hΓ hm p hc hx hd h0 n L nx V O I D μ R hp hb (fun b s' hD' hle=>by rw[hz];exact aI.weak rfl hle (aI.one (hD b hD'))) hR
def xo (c:Ctx) (L:List Nat) {α:Type} (V:α->List AV) (O:α->aF) (nx:Nat) (I D:α->Prop) (μ:α->Nat) (i:Nat) (R:aM->Prop) (a:α):au->aM->Prop
 |.normal,s'=>∃b,I b/\μ b<μ a/\∃ρ,Le c ρ s' ⟨aC L (V b),O b,nx⟩
 |.exit k,s'=>k=i/\∃b,D b/\∃ρ,Le c ρ s' ⟨aC L (V b),O b,nx⟩
 |.ret,s'=>R s'
include hT hΓ hm in
theorem ax.tY {x y z:Code} (p:List Nat) {i:Nat} (hc:chain x p=true) (hx:part x p=.block i (.loop y)) (hz:behind x p=[z]) (hd:cF nt x=true) {kp:List Nat} (h0:Kept kp c) {f1:List Nat} (n:Nat) (L:List Nat) (nx:Nat) {α:Type} (V:α->List AV) (O:α->aF) (I D:α->Prop) (μ:α->Nat) (R:List AV×aF->Prop)
  (hp:∃t,aH T Γ f1 n L (before x p) s=some t/\t.all (Start kp V O nx I R))
  (hb:∀a,I a->ax P c nt y ⟨aC L (V a),O a,nx⟩ (xo c L V O nx I D μ i (fun s'=>∃v,R v/\bt L s'=some v) a))
  (hD:∀b,D b->ax P c nt z ⟨aC L (V b),O b,nx⟩ Q) (hR:∀v s',R v->bt L s'=some v->Q .ret s'):ax P c nt x s Q:=by
 obtain⟨t,h1,h2⟩:=hp
 refine ax.hole p hc (aI.bA hT hΓ hm n L h1 (nZ hd) (ah.fz ?_ h2))
 rintro e v hv s' hs'
 cases e with
 |normal=>
  obtain⟨a,hI,hre⟩:=hv
  refine ax.iw hx (fun a=>⟨aC L (V a),O a,nx⟩) I μ a (hre.le hs' h0) hI fun a ha=>(hb a ha).mono fun e s' h=>?_
  cases e with
  |normal=>
   obtain⟨b,g1,g2,g3⟩:=h
   exact⟨b,g3,g1,g2⟩
  |exit k=>
   obtain⟨rfl,b,g1,g2⟩:=h
   refine z9 ?_
   show aI P c nt (behind x p) s' _
   rw[hz]
   exact aI.weak rfl g2 (aI.one (hD b g1))
  |ret=>
   obtain⟨v,g1,g2⟩:=h
   exact hR v s' g1 g2
 |ret=>exact hR v s' hv hs'
 |exit k=>exact hv.elim
include hT hΓ hm in
theorem ax.nP {y x1 zb:Code} (p:List Nat) {j:Nat} (hc:chain y p=true) (hx:part y p=.block j x1) (hz:behind y p=[zb]) (hd:cF nt y=true) {kp:List Nat} (h0:Kept kp c) {f1:List Nat} (n:Nat) (L:List Nat) (nx:Nat) {α:Type} (V:α->List AV) (O:α->aF) (I:α->Prop)
  (hp:∃t,aH T Γ f1 n L (before y p) s=some t/\t.all fun e v=>match e with
   |.normal=>∃a,I a/\cP kp v (V a) (O a) nx
   |e=>∀s',bt L s'=some v->Q e s')
  (hb:∀a,I a->ax P c nt x1 ⟨aC L (V a),O a,nx⟩ (inBlock j (dH (fun s'=>ax P c nt zb s' Q) Q))):ax P c nt y s Q:=by
 obtain⟨t,h1,h2⟩:=hp
 refine ax.hole p hc (aI.bA hT hΓ hm n L h1 (nZ hd) (ah.fz ?_ h2))
 rintro e v hv s' hs'
 cases e with
 |normal=>
  obtain⟨a,hI,hre⟩:=hv
  refine ax.jA (hre.le hs' h0) (ax.qh hx ((hb a hI).mono fun e s' h=>?_))
  have key:∀{e s'},dH (fun s'=>ax P c nt zb s' Q) Q e s'->dH (fun s''=>aI P c nt (behind y p) s'' Q) Q e s':=fun {e s'} h=>by
   cases e with
   |normal=>show aI P c nt (behind y p) s' Q;rw[hz];exact aI.one h
   |exit k=>exact h
   |ret=>exact h
  cases e with
  |normal=>exact key (e:=.normal) h
  |exit k=>
   simp only[inBlock]at h ⊢
   split
   ·rename_i hk;rw[if_pos hk]at h;exact key (e:=.normal) h
   ·rename_i hk;rw[if_neg hk]at h;exact key (e:=.exit k) h
  |ret=>exact key (e:=.ret) h
 |ret=>exact hv s' hs'
 |exit k=>exact hv s' hs'
theorem ax.tail {z zb:Code} {j:Nat} (hne:∀s',Q (.exit j) s'->False) (h:aI P c nt [z,zb] s Q):ax P c nt z s (inBlock j (dH (fun s'=>ax P c nt zb s' Q) Q)):=
 ax.mono h fun e s' h=>by
  cases e with
  |normal=>exact ax.mono h fun e s' h=>by cases e<;>exact h
  |exit k=>
   simp only[inBlock]
   split
   ·rename_i hk;subst hk;exact(hne _ h).elim
   ·exact h
  |ret=>exact h
def oP (fn:Func) (L:List Nat) (res:AV) (v:List AV×aF):Prop:=∃us,KH fn (aC L v.1)=some us/\eF us res
theorem oP.fin {fn:Func} {L:List Nat} {res:AV} {v:List AV×aF} {s':aM} (h:oP fn L res v) (hs':bt L s'=some v):dP c (Fin T fn res) .ret s':=by
 obtain⟨us,g1,g2⟩:=h
 exact .inl (gy (.inr rfl) hs' g1 g2)
theorem oZ {c:Prop} [Decidable c] {u v:AV} (hu:keys u=[]) (hv:keys v=[]):keys (if c then u else v)=[]:=by split<;>assumption
def rL (T:Types) (fn:Func) (L:List Nat) (res:AV) (v:List AV×aF):Prop:=
 ∃vs us nx t,v.1=vs++us/\vs.length=L.length/\bC us=[]/\j4 T fn .ret ⟨aC L vs,v.2,nx⟩=some t/\jF nx vs=true/\gN nx v.2/\t.all fun _ us=>eF us res
theorem rL.fin {fn:Func} {L L1:List Nat} {res:AV} {v:List AV×aF} {s':aM} (h0:Kept [] c) (h:rL T fn L res v) (hs':bt (L++L1) s'=some v):dP c (Fin T fn res) .ret s':=by
 obtain⟨vs,us,nx,t,h1,h2,h3,h4,h5,h6,h7⟩:=h
 obtain⟨v1,v2⟩:=v
 simp only at h1
 subst h1
 exact x9 h4 (iL hs' h2 h3) (fun k x hk=>by simpa using h0 k x hk) h5 h6 h7
include hT hΓ hm in
theorem fI {f:FuncId} {fn:Func} (hf:aT P f fn (aA fn)) {args:List AV} {r:dm} (hk:bC args=[]) (hlen:args.length<=fn.ntmps) (hpost:r.post=[]) (p:List Nat) {i:Nat} {y z:Code} (hc:chain (aA fn) p=true) (hx:part (aA fn) p=.block i (.loop y)) (hz:behind (aA fn) p=[z])
  {f1 f2 f3:List Nat} (n:Nat) (L:List Nat) (nx:Nat) {α:Type} (V:α->List AV) (O:α->aF) (I D:α->Prop) (μ:α->Nat)
  (h:r.need->(∃t,aH T Γ f1 n L (before (aA fn) p) ⟨aQ 0 args,[],0⟩=some t/\t.all (Start [] V O nx I (oP fn L r.res)))/\
   (∀a,I a->∃t,aH T Γ f2 n L [y] ⟨aC L (V a),O a,nx⟩=some t/\t.all (Round [] V O nx I D μ i (oP fn L r.res) a))/\
   ∀a,D a->∃t,cw T Γ f3 n fn [z] ⟨aC L (V a),O a,nx⟩=some t/\t.all fun _ us=>eF us r.res) (K:Nat) (pre:aF):aE P f K args pre r:=by
 refine gr hT hf hk hlen hpost (fun need c h0=>?_) K pre
 obtain⟨hp,hb,he⟩:=h need
 refine ax.kG hT hΓ hm p hc hx hz hf.dst (m7 h0) n L nx V O I D μ (oP fn L r.res) hp hb (fun a ha=>?_) fun v s' hv hs'=>hv.fin hs'
 obtain⟨t,g1,g2⟩:=he a ha
 have:=yM (x:=aA fn) (p:=p) hf.dst
 rw[hz]at this
 exact ax.j3 ((aI.fin hT hΓ hm n g1 this g2).mono fun _ _ h=>.inl h)
def Ri (T:Types) (fn:Func) (k:Nat) (res:AV) (o':ak) (e:au) (s':aM):Prop:=
 (e=.normal\/e=.ret)/\Ends T fn res s'/\∃o1,look 0 s'.store=some o1/\o1.row=false/\cV (bh [(k,0)]) o1 o'
def Ed (T:Types) (Γ:bg) (forks:List Nat) (n:Nat) (fn:Func) (l:List Code) (s:aM):Option (ah (List AV×Option ak)):=
 match qW T Γ forks n l s with
 |some t=>t.bind (Ei T fn)
 |none=>none
include hT hΓ hm in
theorem aI.MF {fn:Func} {forks:List Nat} (n:Nat) {l:List Code} {s:aM} {t:ah (List AV×Option ak)} (hc:Ed T Γ forks n fn l s=some t) (hd:(l.all fun x=>cF nt x)=true) {k:Nat} {res:AV} {o':ak}
  (h:t.all fun _ v=>eF v.1 res/\∃o1,v.2=some o1/\o1.row=false/\cV (bh [(k,0)]) o1 o'):aI P c nt l s (Ri T fn k res o'):=by
 unfold Ed at hc
 split at hc
 ·rename_i u hx
  refine yR hT hΓ hm hd hx (ah.fz ?_ (ah.jV hc h))
  rintro e s' ⟨v,h1,h2⟩
  unfold Ei at h1
  split at h1
  ·rename_i v' hv'
   have h4:v'.all fun _ us=>eF us res/\∃o1,look 0 s'.store=some o1/\o1.row=false/\cV (bh [(k,0)]) o1 o':=by
    refine ah.fz ?_ (ah.jV h1 h2)
    rintro e us ⟨w,g1,g2⟩
    simp only[ay]at g1
    subst g1
    exact g2
   have h5:Fin T fn res e s':=Fk hv' (ah.fz (fun _ _ h=>h.1) h4)
   refine⟨h5.1,h5.2,?_⟩
   have:∀{t:ah (List AV)},(t.all fun _ us=>eF us res/\∃o1,look 0 s'.store=some o1/\o1.row=false/\cV (bh [(k,0)]) o1 o')->∃o1,look 0 s'.store=some o1/\o1.row=false/\cV (bh [(k,0)]) o1 o':=by
    intro t
    induction t with
    |leaf e us=>exact fun h=>h.2
    |aj ps t ih=>exact fun h=>ih h.2
    |fork b t1 t2 ih1 ih2=>
     intro h
     cases b with
     |true=>exact ih1 (h.1 rfl)
     |false=>exact ih2 (h.2 rfl)
   exact this h4
  ·simp at h1
 ·simp at hc
theorem EX {rl:List (Nat×Nat)}:∀{rest:List AV},bC rest=[]->(rest.all fun v=>!v.isTuple)=true->fM (bh rl) rest rest
 |[],_,_=>trivial
 |v::r,h1,h2=>by
  simp only[bC,List.append_eq_nil_iff]at h1
  simp only[List.all_cons,Bool.and_eq_true,Bool.not_eq_true']at h2
  exact⟨⟨h2.1,aN h1.1⟩,EX h1.2 h2.2⟩
include hT in
theorem NZ {f:FuncId} {fn:Func} {x:Code} (hf:aT P f fn x) {k idx es off:Nat} {p:List Nat} {rest:List AV} {o2 o o':ak} {res:AV} {l:List Prop}
  (hkr:bC rest=[]) (hrt:(rest.all fun v=>!v.isTuple)=true) (hlen:rest.length+1<=fn.ntmps) (ho:∀ρ,cV ρ o2 o)
  (h:az l->∀c:Ctx,Kept [0] c->ax P c fn.ntmps x ⟨aQ 0 (.ptr 0 idx es off p::rest),[(0,o)],1⟩ (Ri T fn k res o')) (K:Nat):
  aE P f K (.ptr k idx es off p::rest) [(k,o2)] ⟨res,[(k,o')],l⟩:=by
 refine nr hT hf (args0:=.ptr 0 idx es off p::rest) (pre0:=[(0,o)]) (nx:=1) [(0,k)] (by simpa using hlen) (by simp[iA]) ⟨⟨rfl,nE rfl⟩,EX hkr hrt⟩ ⟨⟨k,o2,rfl,by simp[look],ho _⟩,trivial⟩
  (fun a x h=>?_) (fun x o h=>.inl ?_) (fun need c h0=>?_)
 ·simp only[bh,look]at h
  split at h
  ·simp only[ay]at h;subst h;exact⟨_,by simp[look];rfl⟩
  ·simp at h
 ·simp only[look]at h
  split at h
  ·rename_i he
   exact⟨_,by simp only[look,he,if_true];rfl⟩
  ·simp at h
 have hk:Kept [0] c:=fun a y hy=>by
  have:=h0 a y hy
  simp only[bh,look]at this
  split at this
  ·rename_i he;have:=eq_of_beq he;subst this;exact List.mem_singleton_self _
  ·simp at this
 refine(h need c hk).mono fun e s' ⟨h1,h2,o1,g1,g2,g3⟩=>⟨h1,bh [(k,0)],ur,.inl ⟨h2,fun x ox hx=>?_⟩⟩
 have he:cO (eO [(k,o')]) [(k,o2)]=[(k,o')]:=by simp[cO,eO,put]
 rw[he]at hx
 simp only[look]at hx
 split at hx
 ·rename_i hk
  have:k=x:=by simpa using hk
  subst this
  simp only[ay]at hx
  subst hx
  exact⟨0,o1,by simp[bh,look],g1,g2,g3⟩
 ·simp at hx
end rules
theorem aB {nx:Nat} {rl:List (Nat×Nat)} {os ps:aF} {k2 k1:Nat} {r w:Bool} {es:Nat} {f g:Nat->AV} (hs:iE nx rl os ps) (hk:look k2 rl=some k1:=by exact rfl) (ho:look k1 os=some ⟨r,w,es,1,f⟩:=by exact rfl) (h1:keys (f 0)=[]:=by exact rfl) (h2:f 0=g 0:=by exact rfl):iE nx rl os ((k2,⟨r,w,es,1,g⟩)::ps):=bD hk ho (cL h1 h2) hs
theorem bp {nx:Nat} {rl:List (Nat×Nat)} {os ps:aF} {k2 k1:Nat} {r w:Bool} {es n m:Nat} {f g:Nat->AV} (hs:iE nx rl os ps) (hk:look k2 rl=some k1:=by exact rfl) (ho:look k1 os=some ⟨r,w,es,n,f⟩:=by exact rfl) (hn:n=m:=by exact rfl) (h1:∀i,keys (f i)=[]:=by exact fun _=>rfl) (h2:∀i,f i=g i:=by exact fun _=>rfl):iE nx rl os ((k2,⟨r,w,es,m,g⟩)::ps):=bL hk ho hn (fun i _=>cL (h1 i) (h2 i)) hs
end Go.Am
namespace Go.Am
open AV
theorem Jp {ρ:Nat->Option Nat}:∀{us vs:List AV},bC us=[]->(us.all fun v=>!v.isTuple)=true->eH us vs->fM ρ us vs
 |[],[],_,_,_=>trivial
 |u::us,v::vs,h1,h2,h=>by
  simp only[bC,List.append_eq_nil_iff]at h1
  simp only[List.all_cons,Bool.and_eq_true,Bool.not_eq_true']at h2
  exact⟨⟨h2.1,mL h1.1 h.1⟩,Jp h1.2 h2.2 h.2⟩
 |[],_::_,_,_,h=>h.elim
 |_::_,[],_,_,h=>h.elim
def G6 (T:Types) (fn:Func) (e:au) (s:aM):Option (ah (List AV×Option ak×Option ak)):=match e with
 |.exit _=>none
 |e=>match fS T s fn.results.toList with
  |some (vs,q)=>some (.need q (.leaf e (vs,look 0 s.store,look 1 s.store)))
  |none=>none
def Oh (us:List AV) (o p:ak) (v:List AV×Option ak×Option ak):Prop:=
 bC v.1=[]/\(v.1.all fun v=>!v.isTuple)=true/\eH v.1 us/\(∃o1,v.2.1=some o1/\∀ρ,cV ρ o1 o)/\∃p1,v.2.2=some p1/\∀ρ,cV ρ p1 p
def S2 (T:Types) (fn:Func) (us:List AV) (o p:ak) (e:au) (s:aM):Prop:=
 (e=.normal\/e=.ret)/\(∃vs q,fS T s fn.results.toList=some (vs,q)/\az q/\bC vs=[]/\(vs.all fun v=>!v.isTuple)=true/\eH vs us)/\(∃o1,look 0 s.store=some o1/\∀ρ,cV ρ o1 o)/\∃p1,look 1 s.store=some p1/\∀ρ,cV ρ p1 p
theorem aa6 {T:Types} {fn:Func} {e:au} {s:aM} {t:ah (List AV×Option ak×Option ak)} {us:List AV} {o p:ak} (h1:G6 T fn e s=some t) (h2:t.all fun _ v=>Oh us o p v):S2 T fn us o p e s:=by
 unfold G6 at h1
 have key:∀{e':au},(match fS T s fn.results.toList with
   |some (vs,q)=>some (ah.need q (.leaf e' (vs,look 0 s.store,look 1 s.store)))
   |none=>none)=some t->(∃vs q,fS T s fn.results.toList=some (vs,q)/\az q/\bC vs=[]/\(vs.all fun v=>!v.isTuple)=true/\eH vs us)/\(∃o1,look 0 s.store=some o1/\∀ρ,cV ρ o1 o)/\∃p1,look 1 s.store=some p1/\∀ρ,cV ρ p1 p:=by
  intro e' h1
  cases hr:fS T s fn.results.toList with
  |none=>rw[hr]at h1;simp at h1
  |some r=>
   obtain⟨vs,q⟩:=r
   rw[hr]at h1
   simp only[ay]at h1
   subst h1
   obtain⟨g1,g2,g3,g4,g5,g6⟩:=ah.zX.1 h2
   exact⟨⟨vs,q,rfl,g1,g2,g3,g4⟩,g5,g6⟩
 cases e with
 |normal=>exact⟨.inl rfl,key h1⟩
 |ret=>exact⟨.inr rfl,key h1⟩
 |exit i=>simp at h1
section rules
variable {P:Program} {c:Ctx} {nt:Nat} {s:aM} {Q:au->aM->Prop} {T:Types} (hT:dS P T) {Γ:bg} (hΓ:bz P Γ) (hm:P.follows .mixedOrders=true)
def MB (T:Types) (fn:Func) (L:List Nat) (us:List AV) (o p:ak) (v:List AV×aF):Prop:=
 ∃vs ws nx t,v.1=vs++ws/\vs.length=L.length/\bC ws=[]/\G6 T fn .ret ⟨aC L vs,v.2,nx⟩=some t/\jF nx vs=true/\gN nx v.2/\2<=nx/\t.all fun _ v=>Oh us o p v
theorem MB.fin {fn:Func} {L L1:List Nat} {us:List AV} {o p:ak} {v:List AV×aF} {s':aM} (h0:Kept [0,1] c) (h:MB T fn L us o p v) (hs':bt (L++L1) s'=some v):dP c (S2 T fn us o p) .ret s':=by
 obtain⟨vs,ws,nx,t,h1,h2,h3,h4,h5,h6,hn,h7⟩:=h
 obtain⟨v1,v2⟩:=v
 simp only at h1
 subst h1
 obtain⟨ρ,hle⟩:=nS (iL hs' h2 h3) (fun k x hk=>by
  have:=h0 k x hk
  simp only[List.mem_cons,List.not_mem_nil,or_false]at this
  omega) h5 h6
 exact .inr ⟨_,ρ,hle,aa6 h4 h7⟩
end rules
end Go.Am
namespace Go.Am
open AV
def Kj (fn:Func) (k:Nat) (ws:List AV) (o':ak) (e:au) (s':aM):Prop:=
 (e=.normal\/e=.ret)/\∃ls vs us os o1,bt ls s'=some (vs,os)/\mE (aC ls vs) fn.results.toList=some us/\fM (bh [(k,0)]) us ws/\look 0 os=some o1/\cV (bh [(k,0)]) o1 o'
def CV (fn:Func) (k:Nat) (ws:List AV) (o':ak) (L:List Nat) (v:List AV×aF):Prop:=∃us o1,mE (aC L v.1) fn.results.toList=some us/\fM (bh [(k,0)]) us ws/\look 0 v.2=some o1/\cV (bh [(k,0)]) o1 o'
theorem CV.fin {fn:Func} {k:Nat} {ws:List AV} {o':ak} {L:List Nat} {v:List AV×aF} {s':aM} (h:CV fn k ws o' L v) (hs':bt L s'=some v):Kj fn k ws o' .ret s':=by
 obtain⟨us,o1,h1,h2,h3,h4⟩:=h
 exact⟨.inr rfl,L,v.1,us,v.2,o1,hs',h1,h2,h3,h4⟩
section rules
variable {P:Program} {c:Ctx} {nt:Nat} {s:aM} {Q:au->aM->Prop} {T:Types} (hT:dS P T) {Γ:bg} (hΓ:bz P Γ) (hm:P.follows .mixedOrders=true)
include hT hΓ hm in
theorem ax.branch {x u v:Code} {b:Operand} (p:List Nat) (hc:chain x p=true) (hx:part x p=.cond b u v) (hz:behind x p=[]) (hd:cF nt x=true) {kp:List Nat} (h0:Kept kp c) {f1:List Nat} (n:Nat) (L:List Nat) (nx:Nat) {α:Type} (V:α->List AV) (O:α->aF) (I:α->Prop)
  (hp:∃t,aH T Γ f1 n L (before x p) s=some t/\t.all fun e v=>match e with
   |.normal=>∃a,I a/\cP kp v (V a) (O a) nx
   |e=>∀s',bt L s'=some v->Q e s')
  (hb:∀a,I a->∃t,(⟨aC L (V a),O a,nx⟩:aM).gB b=some (.bool t)/\(t=true->ax P c nt u ⟨aC L (V a),O a,nx⟩ Q)/\(t=false->ax P c nt v ⟨aC L (V a),O a,nx⟩ Q)):ax P c nt x s Q:=by
 obtain⟨t,h1,h2⟩:=hp
 refine ax.hole p hc (aI.bA hT hΓ hm n L h1 (nZ hd) (ah.fz ?_ h2))
 rintro e v hv s' hs'
 cases e with
 |normal=>
  obtain⟨a,hI,hre⟩:=hv
  obtain⟨t,g1,g2,g3⟩:=hb a hI
  show ax P c nt (part x p) s' _
  rw[hx,hz]
  have key:∀{y:Code} {s:aM},ax P c nt y s Q->ax P c nt y s (dH (fun s''=>aI P c nt [] s'' Q) Q):=fun h=>h.mono fun e s' h=>by cases e<;>exact h
  exact ax.jA (hre.le hs' h0) (ax.cond g1 (fun ht=>key (g2 ht)) fun ht=>key (g3 ht))
 |ret=>exact hv s' hs'
 |exit k=>exact hv s' hs'
include hT in
theorem Zh {f:FuncId} {fn:Func} {x:Code} (hf:aT P f fn x) {k es st n:Nat} {rest ws:List AV} {o2 o o':ak} {l:List Prop}
  (hkr:bC rest=[]) (hrt:(rest.all fun v=>!v.isTuple)=true) (hlen:rest.length+1<=fn.ntmps) (ho:∀ρ,cV ρ o2 o)
  (h:az l->∀c:Ctx,Kept [0] c->ax P c fn.ntmps x ⟨aQ 0 (.own 0 es st n::rest),[(0,o)],1⟩ (Kj fn k ws o')) (K:Nat):
  aE P f K (.own k es st n::rest) [(k,o2)] ⟨ji ws,[(k,o')],l⟩:=by
 refine nr hT hf (args0:=.own 0 es st n::rest) (pre0:=[(0,o)]) (nx:=1) [(0,k)] (by simpa using hlen) (by simp[iA]) ⟨⟨rfl,cD rfl rfl rfl⟩,EX hkr hrt⟩ ⟨⟨k,o2,rfl,by simp[look],ho _⟩,trivial⟩
  (fun a x h=>?_) (fun x o h=>.inl ?_) (fun need c h0=>?_)
 ·simp only[bh,look]at h
  split at h
  ·simp only[ay]at h;subst h;exact⟨_,by simp[look];rfl⟩
  ·simp at h
 ·simp only[look]at h
  split at h
  ·rename_i he
   exact⟨_,by simp only[look,he,if_true];rfl⟩
  ·simp at h
 have hk:Kept [0] c:=fun a y hy=>by
  have:=h0 a y hy
  simp only[bh,look]at this
  split at this
  ·rename_i he;have:=eq_of_beq he;subst this;exact List.mem_singleton_self _
  ·simp at this
 refine(h need c hk).mono fun e s' ⟨h1,ls,vs,us,os,o1,g1,g2,g3,g4,g5⟩=>⟨h1,bh [(k,0)],ur,.inr (vL (ws:=ws) (ps:=[(k,o')]) g1 g2 g3 rfl (by simp[cO,eO,put]) ⟨⟨0,o1,by simp[bh,look],g4,g5⟩,trivial⟩)⟩
include hT in
theorem Ti {f:FuncId} {fn:Func} {x:Code} (hf:aT P f fn x) {args args0 ws:List AV} {o':ak} {K:Nat} {l:List Prop} (ha:az l->fM (bh []) args args0) (hlen:args0.length<=fn.ntmps)
  (h:az l->∀c:Ctx,Kept [] c->ax P c fn.ntmps x ⟨aQ 0 args0,[],0⟩ fun e s'=>(e=.normal\/e=.ret)/\∃ls vs us os a o,bt ls s'=some (vs,os)/\mE (aC ls vs) fn.results.toList=some us/\fM (bh [(K,a)]) us ws/\look a os=some o/\cV (bh [(K,a)]) o o'):
  aE P f K args [] ⟨ji ws,[(K,o')],l⟩:=by
 intro need
 refine(nr hT hf (args0:=args0) (pre0:=[]) (nx:=0) [] hlen rfl (ha need) trivial (fun a k h=>by simp[bh,look]at h) (fun k o h=>?_) (fun need c h0=>?_):aE P f K args [] ⟨ji ws,[(K,o')],l⟩) need
 ·simp only[look]at h
  split at h
  ·rename_i he
   have:K=k:=by simpa using he
   subst this
   exact .inr ⟨aU,by unfold cT;omega⟩
  ·simp at h
 ·refine(h need c fun k x hk=>by simpa [bh,look]using h0 k x hk).mono ?_
  rintro e s' ⟨h1,ls,vs,us,os,a,o,h2,h3,h4,h5,h6⟩
  exact⟨h1,bh [(K,a)],Ic ⟨aU,by unfold cT;omega⟩,.inr (vL (ws:=ws) (ps:=[(K,o')]) h2 h3 h4 rfl rfl ⟨⟨a,o,by simp[bh,look],h5,h6⟩,trivial⟩)⟩
end rules
end Go.Am
namespace Go.Am
open AV
section rules
variable {P:Program} {c:Ctx} {nt:Nat} {s:aM} {Q:au->aM->Prop} {T:Types} (hT:dS P T) {Γ:bg} (hΓ:bz P Γ) (hm:P.follows .mixedOrders=true)
def Head (kp:List Nat) {α:Type} (V:α->List AV) (O:α->aF) (nx:Nat) (D:α->Prop) (i:Nat) (R:List AV×aF->Prop) (G:α->Prop) (a:α):au->List AV×aF->Prop
 |.normal,v=>G a/\cP kp v (V a) (O a) nx
 |.exit k,v=>k=i/\∃b,D b/\cP kp v (V b) (O b) nx
 |.ret,v=>R v
def ZW (kp:List Nat) {α:Type} (V:α->List AV) (O:α->aF) (nx:Nat) (I:α->Prop) (μ:α->Nat) (a:α):au->List AV×aF->Prop
 |.normal,v=>∃b,I b/\μ b<μ a/\cP kp v (V b) (O b) nx
 |_,_=>False
theorem XA {i:Nat} {y:Code} (h:cF nt (.block i (.loop y))=true):cF nt y=true:=by simpa [cF]using h
theorem VD {i:Nat} {y:Code} (h:cF nt (.block i y)=true):cF nt y=true:=by simpa [cF]using h
include hT hΓ hm in
theorem ax.VZ {x y:Code} (p:List Nat) {i:Nat} (hc:chain x p=true) (hx:part x p=.block i (.loop y)) (hd:cF nt x=true) {kp:List Nat} (h0:Kept kp c) {f1:List Nat} (n:Nat) (L:List Nat) (nx:Nat) {α:Type} (V:α->List AV) (O:α->aF) (I D:α->Prop) (μ:α->Nat) (R:List AV×aF->Prop)
  (hp:∃t,aH T Γ f1 n L (before x p) s=some t/\t.all (Start kp V O nx I R))
  (hb:∀a,I a->ax P c nt y ⟨aC L (V a),O a,nx⟩ (xo c L V O nx I D μ i (fun s'=>∃v,R v/\bt L s'=some v) a))
  (hD:∀b s',D b->(∃ρ,Le c ρ s' ⟨aC L (V b),O b,nx⟩)->aI P c nt (behind x p) s' Q) (hR:∀v s',R v->bt L s'=some v->Q .ret s'):ax P c nt x s Q:=by
 obtain⟨t,h1,h2⟩:=hp
 refine ax.hole p hc (aI.bA hT hΓ hm n L h1 (nZ hd) (ah.fz ?_ h2))
 rintro e v hv s' hs'
 cases e with
 |normal=>
  obtain⟨a,hI,hre⟩:=hv
  refine ax.iw hx (fun a=>⟨aC L (V a),O a,nx⟩) I μ a (hre.le hs' h0) hI fun a ha=>(hb a ha).mono fun e s' h=>?_
  cases e with
  |normal=>
   obtain⟨b,g1,g2,g3⟩:=h
   exact⟨b,g3,g1,g2⟩
  |exit k=>
   obtain⟨rfl,b,g1,g2⟩:=h
   refine z9 ?_
   show aI P c nt (behind x p) s' _
   exact hD b s' g1 g2
  |ret=>
   obtain⟨v,g1,g2⟩:=h
   exact hR v s' g1 g2
 |ret=>exact hR v s' hv hs'
 |exit k=>exact hv.elim
include hT hΓ hm in
theorem ax.JH {x y x1 zb y2:Code} (p:List Nat) {i:Nat} (hc:chain x p=true) (hx:part x p=.block i (.loop y)) (hd:cF nt x=true)
  (q:List Nat) {j:Nat} (hcq:chain y q=true) (hxq:part y q=.block j x1) (hzq:behind y q=[zb]) (r:List Nat) {i2:Nat} (hcr:chain x1 r=true) (hxr:part x1 r=.block i2 (.loop y2)) (hij:(i==j)=false)
  {kp:List Nat} (h0:Kept kp c) {f1 f2 f3 f4 f5:List Nat} (n:Nat) (L1 L2:List Nat) (nx1 nx2:Nat) {α β:Type} (V1:α->List AV) (O1:α->aF) (I1 D1:α->Prop) (μ1:α->Nat) (G:α->Prop) (R1 R2:List AV×aF->Prop)
  (V2:α->β->List AV) (O2:α->β->aF) (I2 D2:α->β->Prop) (μ2:α->β->Nat)
  (hp:∃t,aH T Γ f1 n L1 (before x p) s=some t/\t.all (Start kp V1 O1 nx1 I1 R1))
  (ho:∀a,I1 a->∃t,aH T Γ f2 n L1 (before y q) ⟨aC L1 (V1 a),O1 a,nx1⟩=some t/\t.all (Head kp V1 O1 nx1 D1 i R1 G a))
  (hi:∀a,I1 a->G a->∃t,aH T Γ f3 n L2 (before x1 r) ⟨aC L1 (V1 a),O1 a,nx1⟩=some t/\t.all (Start kp (V2 a) (O2 a) nx2 (I2 a) R2))
  (hb:∀a,I1 a->G a->∀b,I2 a b->∃t,aH T Γ f4 n L2 [y2] ⟨aC L2 (V2 a b),O2 a b,nx2⟩=some t/\t.all (Round kp (V2 a) (O2 a) nx2 (I2 a) (D2 a) (μ2 a) i2 R2 b))
  (ht:∀a,I1 a->G a->∀b,D2 a b->∃t,aH T Γ f5 n L1 (behind x1 r++[zb]) ⟨aC L2 (V2 a b),O2 a b,nx2⟩=some t/\t.all (ZW kp V1 O1 nx1 I1 μ1 a))
  (hD:∀b s',D1 b->(∃ρ,Le c ρ s' ⟨aC L1 (V1 b),O1 b,nx1⟩)->aI P c nt (behind x p) s' Q) (hR1:∀v s',R1 v->bt L1 s'=some v->Q .ret s') (hR2:∀v s',R2 v->bt L2 s'=some v->Q .ret s'):ax P c nt x s Q:=by
 have hdy:cF nt y=true:=by
  have:=zk (nt:=nt) hc hd
  rw[hx]at this
  exact XA this
 have hdx1:cF nt x1=true:=by
  have:=zk (nt:=nt) hcq hdy
  rw[hxq]at this
  exact VD this
 have hdz:((behind x1 r++[zb]).all fun x=>cF nt x)=true:=by
  have h1:=yM (nt:=nt) (p:=r) hdx1
  have h2:=yM (nt:=nt) (p:=q) hdy
  rw[hzq]at h2
  rw[List.all_append,h1,h2];rfl
 obtain⟨t,h1,h2⟩:=hp
 refine ax.hole p hc (aI.bA hT hΓ hm n L1 h1 (nZ hd) (ah.fz ?_ h2))
 rintro e v hv s' hs'
 cases e with
 |ret=>exact hR1 v s' hv hs'
 |exit k=>exact hv.elim
 |normal=>
  obtain⟨a,hI,hre⟩:=hv
  refine(show ax P c nt (part x p) s' _ from ax.iw hx (fun a=>⟨aC L1 (V1 a),O1 a,nx1⟩) I1 μ1 a (hre.le hs' h0) hI fun a ha=>?_)
  refine ax.mono (Q:=xo c L1 V1 O1 nx1 I1 D1 μ1 i (fun s'=>Q .ret s') a) ?_ fun e s' h=>?_
  ·refine ax.nP hT hΓ hm q hcq hxq hzq hdy h0 (f1:=f2) n L1 nx1 (fun _:Unit=>V1 a) (fun _=>O1 a) (fun _=>G a) ?_ (fun _ hG=>?_)
   ·obtain⟨t,g1,g2⟩:=ho a ha
    refine⟨t,g1,ah.fz ?_ g2⟩
    rintro e v hv
    cases e with
    |normal=>exact⟨(),hv.1,hv.2⟩
    |exit k=>exact fun s' hs'=>⟨hv.1,hv.2.imp fun b hb=>⟨hb.1,hb.2.le hs' h0⟩⟩
    |ret=>exact fun s' hs'=>hR1 v s' hv hs'
   ·refine ax.oE hT hΓ hm r hcr hxr hdx1 h0 (f1:=f3) (f2:=f4) n L2 nx2 (V2 a) (O2 a) (I2 a) (D2 a) (μ2 a) R2 (hi a ha hG) (hb a ha hG) (fun b s' hb hle=>?_) (fun v s' hv hs'=>hR2 v s' hv hs')
    obtain⟨t,g1,g2⟩:=ht a ha hG b hb
    have key:aI P c nt (behind x1 r++[zb]) s' (xo c L1 V1 O1 nx1 I1 D1 μ1 i (fun s'=>Q .ret s') a):=by
     refine aI.weak (by cases behind x1 r<;>rfl) hle (aI.bA hT hΓ hm n L1 g1 hdz (ah.fz ?_ g2))
     rintro e v hv s' hs'
     cases e with
     |normal=>
      obtain⟨b,k1,k2,k3⟩:=hv
      exact⟨b,k1,k2,k3.le hs' h0⟩
     |exit k=>exact hv.elim
     |ret=>exact hv.elim
    refine aI.mono ?_ (aI.append key)
    rintro e s' h
    cases e with
    |normal=>exact ax.j3 h
    |exit k=>
     simp only[inBlock]
     have hk:k=i:=h.1
     rw[if_neg (by rw[hk];simpa using hij)]
     exact h
    |ret=>exact h
  ·cases e with
   |normal=>
    obtain⟨b,g1,g2,g3⟩:=h
    exact⟨b,g3,g1,g2⟩
   |exit k=>
    obtain⟨rfl,b,g1,g2⟩:=h
    refine z9 ?_
    show aI P c nt (behind x p) s' _
    exact hD b s' g1 g2
   |ret=>exact h
end rules
end Go.Am
namespace Go.Am
open AV
def AW (T:Types) (fn:Func) (e:au) (s:aM):Option (ah (List AV×Option ak)):=match e with
 |.exit _=>none
 |e=>match fS T s fn.results.toList with
  |some (vs,q)=>some (.need q (.leaf e (vs,look 0 s.store)))
  |none=>none
def Jm (T:Types) (Γ:bg) (forks:List Nat) (n:Nat) (fn:Func) (l:List Code) (s:aM):Option (ah (List AV×Option ak)):=
 match qW T Γ forks n l s with
 |some t=>t.bind (AW T fn)
 |none=>none
def Lc (us:List AV) (o:ak) (v:List AV×Option ak):Prop:=
 bC v.1=[]/\(v.1.all fun v=>!v.isTuple)=true/\eH v.1 us/\∃o1,v.2=some o1/\∀ρ,cV ρ o1 o
def zU (T:Types) (fn:Func) (us:List AV) (o:ak) (e:au) (s:aM):Prop:=
 (e=.normal\/e=.ret)/\(∃vs q,fS T s fn.results.toList=some (vs,q)/\az q/\bC vs=[]/\(vs.all fun v=>!v.isTuple)=true/\eH vs us)/\∃o1,look 0 s.store=some o1/\∀ρ,cV ρ o1 o
theorem OT {T:Types} {fn:Func} {e:au} {s:aM} {t:ah (List AV×Option ak)} {us:List AV} {o:ak} (h1:AW T fn e s=some t) (h2:t.all fun _ v=>Lc us o v):zU T fn us o e s:=by
 unfold AW at h1
 have key:∀{e':au},(match fS T s fn.results.toList with
   |some (vs,q)=>some (ah.need q (.leaf e' (vs,look 0 s.store)))
   |none=>none)=some t->(∃vs q,fS T s fn.results.toList=some (vs,q)/\az q/\bC vs=[]/\(vs.all fun v=>!v.isTuple)=true/\eH vs us)/\∃o1,look 0 s.store=some o1/\∀ρ,cV ρ o1 o:=by
  intro e' h1
  cases hr:fS T s fn.results.toList with
  |none=>rw[hr]at h1;simp at h1
  |some r=>
   obtain⟨vs,q⟩:=r
   rw[hr]at h1
   simp only[ay]at h1
   subst h1
   obtain⟨g1,g2,g3,g4,g5⟩:=ah.zX.1 h2
   exact⟨⟨vs,q,rfl,g1,g2,g3,g4⟩,g5⟩
 cases e with
 |normal=>exact⟨.inl rfl,key h1⟩
 |ret=>exact⟨.inr rfl,key h1⟩
 |exit i=>simp at h1
section rules
variable {P:Program} {c:Ctx} {nt:Nat} {s:aM} {Q:au->aM->Prop} {T:Types} (hT:dS P T) {Γ:bg} (hΓ:bz P Γ) (hm:P.follows .mixedOrders=true)
include hT hΓ hm in
theorem aI.adn {fn:Func} {forks:List Nat} (n:Nat) {l:List Code} {t:ah (List AV×Option ak)} (hc:Jm T Γ forks n fn l s=some t) (hd:(l.all fun x=>cF nt x)=true) {us:List AV} {o:ak}
  (h:t.all fun _ v=>Lc us o v):aI P c nt l s (zU T fn us o):=by
 unfold Jm at hc
 split at hc
 ·rename_i u hx
  refine yR hT hΓ hm hd hx (ah.fz ?_ (ah.jV hc h))
  rintro e s' ⟨v,h1,h2⟩
  exact OT h1 h2
 ·simp at hc
def CZ (T:Types) (fn:Func) (L:List Nat) (us:List AV) (o:ak) (v:List AV×aF):Prop:=
 ∃vs ws nx t,v.1=vs++ws/\vs.length=L.length/\bC ws=[]/\AW T fn .ret ⟨aC L vs,v.2,nx⟩=some t/\jF nx vs=true/\gN nx v.2/\1<=nx/\t.all fun _ v=>Lc us o v
theorem CZ.fin {fn:Func} {L L1:List Nat} {us:List AV} {o:ak} {v:List AV×aF} {s':aM} (h0:Kept [0] c) (h:CZ T fn L us o v) (hs':bt (L++L1) s'=some v):dP c (zU T fn us o) .ret s':=by
 obtain⟨vs,ws,nx,t,h1,h2,h3,h4,h5,h6,hn,h7⟩:=h
 obtain⟨v1,v2⟩:=v
 simp only at h1
 subst h1
 obtain⟨ρ,hle⟩:=nS (iL hs' h2 h3) (fun k x hk=>by
  have:=h0 k x hk
  simp only[List.mem_cons,List.not_mem_nil,or_false]at this
  omega) h5 h6
 exact .inr ⟨_,ρ,hle,OT h4 h7⟩
include hT in
theorem ahE {f:FuncId} {fn:Func} {x:Code} (hf:aT P f fn x) {args args0 us:List AV} {a:Nat} {oa oa0:ak} {l:List Prop} (hlen:args0.length<=fn.ntmps)
  (ha:fM (bh [(0,a)]) args args0) (hoa:az l->∀ρ,cV ρ oa oa0)
  (h:az l->∀c:Ctx,Kept [0] c->ax P c fn.ntmps x ⟨aQ 0 args0,[(0,oa0)],1⟩ (dP c (zU T fn us oa0))) (K:Nat):aE P f K args [(a,oa)] ⟨ji us,[(a,oa0)],l⟩:=by
 intro need
 refine(nr hT hf (args0:=args0) (pre0:=[(0,oa0)]) (nx:=1) [(0,a)] hlen (by simp[iA]) ha ⟨⟨a,oa,rfl,ot,hoa need _⟩,trivial⟩
  (fun x k h=>?_) (fun x o h=>.inl ?_) (fun need c h0=>?_):aE P f K args [(a,oa)] ⟨ji us,[(a,oa0)],l⟩) need
 ·simp only[bh,look]at h
  split at h
  ·simp only[ay]at h;subst h;exact⟨_,ot⟩
  ·simp at h
 ·simp only[look]at h ⊢
  split at h
  ·rename_i he;exact⟨oa,by rw[if_pos he]⟩
  ·simp at h
 have hk:Kept [0] c:=fun x y hy=>by
  have:=h0 x y hy
  simp only[bh,look]at this
  split at this
  ·rename_i he;have:=eq_of_beq he;subst this;simp
  ·simp at this
 refine(h need c hk).down.mono ?_
 rintro e s' ⟨h1,⟨vs,q,g1,g2,g3,g4,g5⟩,o1,g6,g7⟩
 refine⟨h1,bh [(a,0)],ur,.inr ⟨⟨vs,q,us,g1,g2,Jp g3 g4 g5,rfl⟩,fun k o hk=>?_⟩⟩
 have he:cO (eO [(a,oa0)]) [(a,oa)]=[(a,oa0)]:=by simp[cO,eO,put]
 rw[he]at hk
 simp only[look]at hk
 split at hk
 ·rename_i hx
  have:=eq_of_beq hx
  simp only[ay]at hk
  subst hk this
  exact⟨0,o1,by simp[bh,look],g6,g7 _⟩
 ·simp at hk
end rules
end Go.Am
namespace Go.Am
open Go AV
section rules
variable {P:Program} {T:Types} (hT:dS P T)
def qy (T:Types) (sl:List (Nat×AV)) (os:aF):List ResultVar->Option (List AV×List Prop)
 |[]=>some ([],[])
 |.tmp t::l=>match look t sl,qy T sl os l with
  |some v,some (m,q)=>if v.isTuple then none else some (v::m,q)
  |_,_=>none
 |.cell a t::l=>match look t T,look a sl,qy T sl os l with
  |some ti,some (.ptr k i es off p),some (m,q)=>match l8 os ti (.ptr k i es off p)with
   |some r=>some (r.val::m,r.hU++q)
   |none=>none
  |_,_,_=>none
theorem UF {st:aF} {ks:List Nat} {ti:TI} {k i es off:Nat} {p:List Nat} {r:dZ} (h:l8 (pick st ks) ti (.ptr k i es off p)=some r):l8 st ti (.ptr k i es off p)=some r:=by
 have:∀o,look k (pick st ks)=some o->look k st=some o:=fun o ho=>by
  rw[mO]at ho
  split at ho
  ·exact ho
  ·simp at ho
 simp only[l8]at h ⊢
 cases hl:look k (pick st ks)with
 |none=>simp[hl]at h
 |some o=>rw[hl]at h;rw[this o hl];exact h
theorem GV {T:Types} {s:aM} {ls ks:List Nat}:∀{l:List ResultVar} {us:List AV} {q:List Prop},qy T (aC ls (j9 s ls)) (pick s.store ks) l=some (us,q)->fS T s l=some (us,q)
 |[],us,q,h=>by simp only[qy,ay,Prod.mk.injEq]at h;obtain⟨rfl,rfl⟩:=h;rfl
 |.tmp t::l,us,q,h=>by
  simp only[qy]at h
  split at h
  ·rename_i v m q' hv hm
   split at h
   ·simp at h
   ·rename_i ht
    simp only[ay,Prod.mk.injEq]at h
    obtain⟨rfl,rfl⟩:=h
    simp only[fS,rW,yO (by simpa using ht) hv,GV hm]
    simp[ht]
  ·simp at h
 |.cell a t::l,us,q,h=>by
  simp only[qy]at h
  split at h
  ·rename_i ti k i es off p m q' h1 h2 hm
   split at h
   ·rename_i r hr
    simp only[ay,Prod.mk.injEq]at h
    obtain⟨rfl,rfl⟩:=h
    simp only[fS,rW,h1,yO rfl h2,UF hr,GV hm]
   ·simp at h
  ·simp at h
theorem abM {T:Types} {fn:Func} {ls:List Nat} {vs us ws:List AV} {os ps pre:aF} {s':aM} {τ:Nat->Option Nat} {r:dm} {q:List Prop} (hv:bt ls s'=some (vs,os)) (hr:qy T (aC ls vs) os fn.results.toList=some (us,q)) (hq:az q) (hle:fM τ us ws) (hres:r.res=ji ws)
  (he:cO (eO r.post) pre=ps) (ho:ov τ os ps):vr T fn τ pre r s':=by
 unfold bt at hv
 simp only[ay,Prod.mk.injEq]at hv
 obtain⟨rfl,rfl⟩:=hv
 refine⟨⟨us,q,ws,GV hr,hq,hle,hres⟩,fun k o hk=>?_⟩
 rw[he]at hk
 obtain⟨k1,o1,g1,g2,g3⟩:=Ev ho k o hk
 refine⟨k1,o1,g1,?_,g3⟩
 rw[mO]at g2
 split at g2
 ·exact g2
 ·simp at g2
end rules
section
variable {P:Program} {c:Ctx} {nt:Nat} {s:aM} {Q:au->aM->Prop} {T:Types} (hT:dS P T) {Γ:bg} (hΓ:bz P Γ) (hm:P.follows .mixedOrders=true)
end
end Go.Am
namespace Go.Am
open AV
theorem ahC {τ:Nat->Option Nat} {cap:Nat} {u v:AV} (hu:u.isAgg=false) (h:gu τ u v):gu τ (.bJ cap u) v:=by
 refine⟨h.1.trans hu,fun M w β cs hc=>?_⟩
 cases hc with
 |bJ ha h1 h2=>cases h2;exact h.2 _ _ _ _ h1
section rules
variable {P:Program} {c:Ctx} {nt:Nat} {x:Code} {s:aM} {Q:au->aM->Prop}
theorem ax.bJ {t k es s0 n:Nat} (ht:look t s.cR=some (.own k es s0 n)) (h:∀cap,n<=cap->ax P c nt x ⟨pQ (some t) (.bJ cap (.own k es s0 n)) s.cR,s.store,s.next⟩ Q):ax P c nt x s Q:=by
 intro a w ⟨hd,hs,β,hw,hsl⟩
 obtain⟨xv,hx,hv⟩:=hsl t _ ht
 have key:∃base cap,xv=.slice base n cap/\n<=cap:=by
  rcases hv.own with⟨b,o,cap,N,rfl,_,_,_,h4,_⟩|⟨rfl,_,rfl,_⟩
  ·exact⟨_,_,rfl,h4⟩
  ·exact⟨_,_,rfl,aU⟩
 obtain⟨base,cap,rfl,hn⟩:=key
 refine h cap hn a w ⟨hd,hs,β,hw,fun t' v' hv'=>?_⟩
 rw[zw]at hv'
 split at hv'
 ·rename_i he
  simp only[ay]at he hv'
  subst he
  subst hv'
  exact⟨_,hx,br.bS (.cz (.bJ rfl (hv.cell rfl) .nil) rfl)⟩
 ·exact hsl t' v' hv'
variable {T:Types} (hT:dS P T)
include hT in
theorem akC {f:FuncId} {fn:Func} {x:Code} (hf:aT P f fn x) {k es s0 n:Nat} {rest ws:List AV} {o2 o oa:ak} {K:Nat} {l:List Prop}
  (hkr:bC rest=[]) (hrt:(rest.all fun v=>!v.isTuple)=true) (hlen:rest.length+1<=fn.ntmps) (ho:az l->∀ρ,cV ρ o2 o)
  (h:az l->∀c:Ctx,Kept [0] c->ax P c fn.ntmps x ⟨aQ 0 (.own 0 es s0 n::rest),[(0,o)],1⟩ fun e s'=>(e=.normal\/e=.ret)/\∃ls vs us q os o1,bt ls s'=some (vs,os)/\qy T (aC ls vs) os fn.results.toList=some (us,q)/\az q/\fM (bh [(k,0)]) us ws/\
   look 0 os=some o1/\cV (bh [(k,0)]) o1 oa):
  aE P f K (.own k es s0 n::rest) [(k,o2)] ⟨ji ws,[(k,oa)],l⟩:=by
 intro need
 refine(nr hT hf (args0:=.own 0 es s0 n::rest) (pre0:=[(0,o)]) (nx:=1) [(0,k)] (by simpa using hlen) (by simp[iA]) ⟨⟨rfl,cD rfl rfl rfl⟩,EX hkr hrt⟩ ⟨⟨k,o2,rfl,ot,ho need _⟩,trivial⟩
  (fun x k' h=>?_) (fun x o h=>.inl ?_) (fun need c h0=>?_):aE P f K (.own k es s0 n::rest) [(k,o2)] ⟨ji ws,[(k,oa)],l⟩) need
 ·simp only[bh,look]at h
  split at h
  ·simp only[ay]at h;subst h;exact⟨_,ot⟩
  ·simp at h
 ·simp only[look]at h ⊢
  split at h
  ·rename_i he;exact⟨o2,by rw[if_pos he]⟩
  ·simp at h
 have hk:Kept [0] c:=fun a y hy=>by
  have:=h0 a y hy
  simp only[bh,look]at this
  split at this
  ·rename_i he;have:=eq_of_beq he;subst this;exact List.mem_singleton_self _
  ·simp at this
 refine(h need c hk).mono ?_
 rintro e s' ⟨h1,ls,vs,us,q,os,o1,h2,h3,hq,h4,h5,h6⟩
 exact⟨h1,bh [(k,0)],ur,.inr (abM (ws:=ws) (ps:=[(k,oa)]) h2 h3 hq h4 rfl (by simp[cO,eO,put]) ⟨⟨0,o1,ot,h5,h6⟩,trivial⟩)⟩
end rules
end Go.Am
namespace Go.Am
open AV
section rules
variable {P:Program} {c:Ctx} {nt:Nat} {x:Code} {s:aM} {Q:au->aM->Prop}
theorem ax.Sa {t k:Nat} {o:ak} (ht:look t s.cR=some (.ptr k 0 o.es 0 [])) (hk:look k s.store=some o) (h1:o.row=false) (h2:o.len=1) (h3:(o.f 0).keys=[])
  (h:ax P c nt x ⟨pQ (some t) (.bF (o.f 0)) s.cR,put k {o with wr:=false} s.store,s.next⟩ Q):ax P c nt x s Q:=by
 intro a w ⟨hd,hs,β,hw,hsl⟩
 have hcap:tX s.store (.ptr k 0 o.es 0 [])=some (k,o):=by
  unfold tX
  simp[hk,h1,h2,h3]
 obtain⟨xv,hx,hv⟩:=hsl t _ ht
 obtain⟨cs,hc,hx2⟩:=hv.one rfl
 have key:=Q5 (pre:=s.store) hw (fun k o hk=>⟨o,hk,.inl rfl⟩) hc
 simp only[qD,r6,hcap,cO]at key
 obtain⟨q1,q2,q3⟩:=key
 refine h a w ⟨hd.g8 hw q2,hs,β,q1,fun t' v hv'=>?_⟩
 rw[zw]at hv'
 split at hv'
 ·rename_i he
  simp only[ay]at he hv'
  subst he
  subst hv'
  refine⟨xv,hx,br.bS ⟨cs,q3,.inr ⟨rfl,?_⟩⟩⟩
  rcases hx2 with⟨g,_⟩|⟨_,g⟩
  ·exact Bool.noConfusion g
  ·exact g
 ·obtain⟨y,hy,hvy⟩:=hsl t' v hv'
  exact⟨y,hy,hvy.g8 q2⟩
end rules
end Go.Am
namespace Go.Am
open Go Go.ChangeShapes Go.WideShapes Go.ChangeAt Go.RowKit AV
inductive PK where
 |list
 |int (k:IntKind)
 |bool
def Lw (P:Program):PK->TypeId->Prop
 |.list,t=>∃e,P.underlying t=some (.slice e)/\P.underlying e=some (.int .i64)/\P.cellsOf e=1
 |.int k,t=>P.underlying t=some (.int k)
 |.bool,t=>P.underlying t=some .bool
def xJ (P:Program):List PK->List TypeId->Prop
 |[],[]=>True
 |k::ks,t::ts=>(Lw P k t/\P.readableRec t=true/\t<P.types.size)/\xJ P ks ts
 |_,_=>False
def RG:PK->AV->Prop
 |.list,a=>∃(n:Nat) (z:Nat->Int),a=.aq 1 n (fun i=>.int .i64 (z i))
 |.int k,a=>∃n,a=.int k n
 |.bool,a=>∃b,a=.bool b
def Is:List PK->List AV->Prop
 |[],as=>as=[]
 |k::ks,as=>∃a l,as=a::l/\RG k a/\Is ks l
section
variable {P:Program} {H:Type} {enc:TypeId×Value->H} {W:World} {base:Nat}
theorem ajM {k:PK} {t:TypeId} {v:Value} {d:DataW H} {p:List MemPlace} (hk:Lw P k t) (h:DataW.Trod enc P W 0 (fun _=>true) true t v d p) (hv:Value.okWide P W .any base t v):∃a,RG k a/\br (fun _=>False) W bB a v:=by
 cases k with
 |int k=>
  obtain⟨n,rfl⟩:=okWide_int hk hv
  exact⟨_,⟨n,rfl⟩,.cz (.int .nil) rfl⟩
 |bool=>
  obtain⟨b,rfl⟩:=okWide_bool hk hv
  exact⟨_,⟨b,rfl⟩,.cz (.bool .nil) rfl⟩
 |list=>
  obtain⟨e,h1,h2,h3⟩:=hk
  obtain⟨a0,len,cap,rfl⟩:=okWide_slice h1 hv
  obtain⟨fuel,hf⟩:=h
  have key:∀{z:Nat->Int},len<=cap->(len=0\/∃b o,a0=some ⟨b,o,none⟩/\∀i,i<len->W.cell? ⟨b,o+i,none⟩=some (.int .i64 (z i)))->br (fun _=>False) W bB (.aq 1 len (fun i=>.int .i64 (z i))) (.slice a0 len cap):=fun {z} hcap hr=>by
   refine .cz (.aq (cf:=fun i=>[.int .i64 (z i)]) ?_ aa hcap (fun _ _=>rfl) (fun _ _=>.int .nil) .nil) rfl
   rcases hr with hr|⟨b,o,rfl,hr⟩
   ·exact .inl hr
   ·refine .inr ⟨b,o,rfl,fun i hi=>?_⟩
    have hc:=hr i hi
    simp only[World.cell?]at hc
    split at hc
    ·rename_i cs ty fr hh
     simp only[Option.isSome_none,Bool.false_eq_true,if_false]at hc
     refine⟨cs,ty,fr,hh,id,fun j v hj=>?_⟩
     have hj0:j=0:=by have:=(List.getElem?_eq_some_iff.1 hj).1;simp at this;exact this
     subst hj0
     simp only[List.getElem?_cons_zero,ay]at hj
     subst hj
     simpa using hc
    ·simp at hc
  rcases open_ints h1 h2 h3 hf with⟨hcs,hx⟩|⟨a,len',cap',zs,hcs,_,hl,hm,hz,hx,hcell,hwz⟩
  ·simp only[Value.cells,List.cons.injEq,Value.slice.injEq,and_true]at hcs
   obtain⟨rfl,rfl,rfl⟩:=hcs
   exact⟨_,⟨0,fun _=>0,rfl⟩,key (z:=fun _=>0) aU (.inl rfl)⟩
  ·simp only[Value.cells,List.cons.injEq,Value.slice.injEq,and_true]at hcs
   obtain⟨rfl,rfl,rfl⟩:=hcs
   simp only[if_true]at hz
   refine⟨_,⟨len,fun i=>zs.getD i 0,rfl⟩,key hl ?_⟩
   rcases Nat.eq_zero_or_pos len with h0|h0
   ·exact .inl h0
   ·obtain⟨b,o,m⟩:=a
    have h1:=hcell 0 aa
    have:m=none:=by
     cases m with
     |none=>rfl
     |some y=>exfalso;simp only[Addr.add,World.cell?]at h1;split at h1<;>simp at h1
    subst this
    exact .inr ⟨b,o,rfl,fun i hi=>by
     have h2:=hcell i aa
     rcases Nat.eq_zero_or_pos i with hi|hi
     ·subst hi;simpa [Addr.add]using h2
     ·simpa [Addr.add,Nat.pos_iff_ne_zero.1 hi]using h2⟩
theorem Py:∀{ks:List PK} {ts:List TypeId} {vs:List Value} {ds:List (DataW H)} {p:List MemPlace},xJ P ks ts->DataW.TrodAll enc P W 0 (fun _=>true) true ts vs ds p->(∀(j:Nat) t v,ts[j]?=some t->vs[j]?=some v->Value.okWide P W .any base t v)->
  ∃as,Is ks as/\cI (fun _=>False) W bB as vs
 |[],[],vs,ds,p,_,h,_=>by
  obtain⟨rfl,_,_⟩:=trodAll_nil h
  exact⟨[],rfl,trivial⟩
 |k::ks,t::ts,vs,ds,p,hk,h,hv=>by
  obtain⟨v,vs',d,ds',p1,q,rfl,rfl,rfl,hd,hrest⟩:=trodAll_cons h
  obtain⟨a,h1,h2⟩:=ajM hk.1.1 hd (hv 0 t v rfl rfl)
  obtain⟨as,h3,h4⟩:=Py hk.2 hrest fun j t v h1 h2=>hv (j+1) t v h1 h2
  exact⟨a::as,⟨a,as,rfl,h1,h3⟩,h2,h4⟩
 |[],_::_,_,_,_,h,_,_=>h.elim
 |_::_,[],_,_,_,h,_,_=>h.elim
theorem Ov {b:Nat} {sp:Nat->Bool} {held:Bool}:∀{ts:List TypeId} {vs:List Value} {ds:List (DataW H)} {p:List MemPlace},DataW.TrodAll enc P W b sp held ts vs ds p->ds.length=ts.length
 |[],vs,ds,p,h=>by
  obtain⟨_,rfl,_⟩:=trodAll_nil h
  rfl
 |t::ts,vs,ds,p,h=>by
  obtain⟨v,vs',d,ds',p1,q,rfl,rfl,rfl,hd,hrest⟩:=trodAll_cons h
  simp[Ov hrest]
theorem Mr (hl:laidOutB P=true) {W':World} (hb:Below W.heap.size W W'):∀{ks:List PK} {ts:List TypeId} {vs:List Value} {ds:List (DataW H)} {p:List MemPlace},xJ P ks ts->DataW.TrodAll enc P W 0 (fun _=>true) true ts vs ds p->(∀x∈p,x.block<W.heap.size)->
  DataW.TrodAll enc P W' 0 (fun b=>decide (b<W.heap.size)) true ts vs ds p
 |[],[],vs,ds,p,_,h,_=>by
  obtain⟨rfl,rfl,rfl⟩:=trodAll_nil h
  exact trodAll_mk0
 |k::ks,t::ts,vs,ds,p,hk,h,hlt=>by
  obtain⟨v,vs',d,ds',p1,q,rfl,rfl,rfl,hd,hrest⟩:=trodAll_cons h
  exact⟨_,_,Below.trod hl hk.1.2.1 hk.1.2.2 hd hb fun x hx=>hlt x (List.mem_append_left _ hx),Mr hl hb hk.2 hrest fun x hx=>hlt x (List.mem_append_right _ hx),rfl⟩
 |[],_::_,_,_,_,h,_,_=>h.elim
 |_::_,[],_,_,_,h,_,_=>h.elim
theorem UI (hl:laidOutB P=true) {f:FuncId} {fn:Func} (hf:P.funcs[f]?=some fn) (hb:fn.body.isNone=false) {ks:List PK} {ts:List TypeId} (hk:xJ P ks ts) {args:Array Value} {ds:List (DataW H)} {p:List MemPlace}
  (hA:DataW.TrodAll enc P W 0 (fun _=>true) true ts args.toList ds p) (hv:∀(j:Nat) t v,ts[j]?=some t->args[j]?=some v->Value.okWide P W .any base t v) (hlt:∀x∈p,x.block<W.heap.size) (hF:∀as,Is ks as->aE P f 0 as [] ⟨.bool true,[],[]⟩):
  Calls P f args W fun e W'=>e=.returned (.bool true)/\Below W.heap.size W W'/\DataW.TrodAll enc P W' 0 (fun b=>decide (b<W.heap.size)) true ts args.toList ds p:=by
 obtain⟨as,h1,h2⟩:=Py hk hA fun j t v h1 h2=>hv j t v h1 (by simpa using h2)
 obtain⟨_,hF⟩:=hF as h1 trivial
 have hrel:bI ⟨fun _=>False,W,fun _=>False,bB,none⟩ [] (fun _=>False) bB W:=
  {obj:=fun k o h=>by simp[look]at h,dO:=fun k o h=>by simp[look]at h,inj:=fun k k' o o' b N N' h=>by simp[look]at h,dom:=fun k x h=>by simp[bB]at h,keep:=fun k x h=>h,lt:=fun k b N h=>by simp[bB]at h,os:=rfl,tape:=rfl,output:=rfl,size:=aU,block:=fun _ _ _=>rfl,iu:=fun b h=>h.elim,new:=fun k o b N h=>by simp[look]at h}
 have hM:aP ⟨fun _=>False,W,fun _=>False,bB,none⟩ [] bB=fun _=>False:=by
  funext b
  simp[aP,look]
 have hinv:=hF ⟨fun _=>False,W,fun _=>False,bB,none⟩ (fun _=>False) (fun _=>True) bB W _ rfl (fun b h=>h.elim) hrel (fun k h=>h.elim) (fun k _ _=>⟨id,trivial⟩) (by rw[hM];exact h2)
 rcases hinv with⟨fn',g1,g2,g3,g4⟩|⟨x,g1,_⟩
 ·have g5:=g4
  rw[show args.toList.toArray=args from by simp]at g5
  refine g5.mono fun e W' ⟨x,he,hx⟩=>?_
  obtain⟨β',q1,q2,q3⟩:=hx
  have:=q3.bool
  subst this
  have hbl:Below W.heap.size W W':=⟨q1.os,q1.tape,q1.output,q1.size,fun k hk=>q1.block k hk id⟩
  exact⟨he,hbl,Mr hl hbl hk hA hlt⟩
 ·exfalso
  simp only[callFunc,Sem.run_bind,run_program,Result.andThen_ok,hf,hb,Bool.false_eq_true,if_false]at g1
  split at g1<;>simp at g1
end
end Go.Am
