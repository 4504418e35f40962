/- Parts of code; a piece of code inside a chain; loops. -/
import Derived.Test.YtolopdkjjlfgjaaGreatZ1
import Derived.Below
import Derived.RangeFuncCalls
import Derived.TacticsIn
import Derived.ProofKit
import Derived.ChangeSlices
set_option linter.unusedVariables false
namespace Go.Am
def part:Code->List Nat->Code
 |c,[]=>c
 |.seq x _,0::p=>part x p
 |.seq _ y,_::p=>part y p
 |.cond _ x _,0::p=>part x p
 |.cond _ _ y,_::p=>part y p
 |.block _ x,_::p=>part x p
 |.loop x,_::p=>part x p
 |_,_=>.skip
def before:Code->List Nat->List Code
 |.seq x _,0::p=>before x p
 |.seq x y,_::p=>x::before y p
 |_,_=>[]
def behind:Code->List Nat->List Code
 |.seq x y,0::p=>behind x p++[y]
 |.seq _ y,_::p=>behind y p
 |_,_=>[]
def chain:Code->List Nat->Bool
 |_,[]=>true
 |.seq x _,0::p=>chain x p
 |.seq _ y,_::p=>chain y p
 |_,_=>false
def aI (fn:Func):Code:=match fn.body with
 |some x=>x
 |none=>.skip
def fF (k:aK->Prop) (Q:aq->aK->Prop):aq->aK->Prop
 |.normal,s=>k s
 |e,s=>Q e s
def aF (P:Program) (c:Ctx) (nt:Nat):List Code->aK->(aq->aK->Prop)->Prop
 |[],s,Q=>Q .normal s
 |x::l,s,Q=>au P c nt x s (fF (fun s'=>aF P c nt l s' Q) Q)
section rules
variable {P:Program} {c:Ctx} {nt:Nat} {s:aK} {Q:aq->aK->Prop}
theorem au.H8 {x y:Code} (h:au P c nt x s (fF (fun s'=>au P c nt y s' Q) Q)):au P c nt (.seq x y) s Q:=
 .seq (h.mono fun e s' h=>by cases e<;>exact h)
theorem aF.mono {Q Q':aq->aK->Prop} (hq:∀e s',Q e s'->Q' e s'):∀{l:List Code} {s:aK},aF P c nt l s Q->aF P c nt l s Q'
 |[],_,h=>hq _ _ h
 |x::l,s,h=>au.mono h fun e s' h=>by
  cases e with
  |normal=>exact aF.mono hq (l:=l) h
  |exit i=>exact hq _ _ h
  |ret=>exact hq _ _ h
theorem aF.append {Q:aq->aK->Prop}:∀{a b:List Code} {s:aK},aF P c nt (a++b) s Q->aF P c nt a s (fF (fun s'=>aF P c nt b s' Q) Q)
 |[],b,s,h=>h
 |x::a,b,s,h=>au.mono h fun e s' h=>by
  cases e with
  |normal=>exact aF.append (a:=a) h
  |exit i=>exact h
  |ret=>exact h
theorem au.hole:∀(p:List Nat) {x:Code} {s:aK} {Q:aq->aK->Prop},chain x p=true->
  aF P c nt (before x p) s (fF (fun s'=>au P c nt (part x p) s' (fF (fun s''=>aF P c nt (behind x p) s'' Q) Q)) Q)->au P c nt x s Q
 |[],x,s,Q,_,h=>by
  have hb:before x []=[]:=by cases x<;>rfl
  have hh:behind x []=[]:=by cases x<;>rfl
  have hp:part x []=x:=by cases x<;>rfl
  rw[hb,hh,hp]at h
  exact au.mono h fun e s' h=>by cases e<;>exact h
 |0::p,.seq x y,s,Q,hc,h=>by
  refine .H8 (au.hole p (x:=x) hc ?_)
  refine aF.mono ?_ h
  intro e s' h1
  cases e with
  |normal=>
   refine au.mono h1 ?_
   intro e s'' h2
   cases e with
   |normal=>
    refine aF.mono ?_ (aF.append h2)
    intro e s3 h3
    cases e with
    |normal=>exact au.mono h3 fun e s' h=>by cases e<;>exact h
    |exit i=>exact h3
    |ret=>exact h3
   |exit i=>exact h2
   |ret=>exact h2
  |exit i=>exact h1
  |ret=>exact h1
 |(n+1)::p,.seq x y,s,Q,hc,h=>by
  refine .H8 (au.mono h ?_)
  intro e s' h1
  cases e with
  |normal=>exact au.hole p (x:=y) hc h1
  |exit i=>exact h1
  |ret=>exact h1
 |_::_,.cond _ _ _,_,_,hc,_=>by simp[chain]at hc
 |_::_,.block _ _,_,_,hc,_=>by simp[chain]at hc
 |_::_,.loop _,_,_,hc,_=>by simp[chain]at hc
 |_::_,.region _ _ _,_,_,hc,_=>by simp[chain]at hc
 |_::_,.skip,_,_,hc,_=>by simp[chain]at hc
 |_::_,.label _,_,_,hc,_=>by simp[chain]at hc
 |_::_,.exit _,_,_,hc,_=>by simp[chain]at hc
 |_::_,.ret,_,_,hc,_=>by simp[chain]at hc
 |_::_,.scope _,_,_,hc,_=>by simp[chain]at hc
 |_::_,.goto _,_,_,hc,_=>by simp[chain]at hc
 |_::_,.refuse _,_,_,hc,_=>by simp[chain]at hc
 |_::_,.rangeFunc _ _ _ _,_,_,hc,_=>by simp[chain]at hc
def inBlock (i:Nat) (Q:aq->aK->Prop):aq->aK->Prop
 |.exit j,s=>if j=i then Q .normal s else Q (.exit j) s
 |e,s=>Q e s
theorem au.yG {i:Nat} {x:Code} (h:au P c nt x s (inBlock i Q)):au P c nt (.block i x) s Q:=
 .block (h.mono fun e s' h=>by cases e<;>exact h)
theorem au.iX {x y:Code} {i:Nat} (hx:x=.block i (.loop y)) {α:Type} (S:α->aK) (I:α->Prop) (μ:α->Nat) (j:α) (hs:∃ρ,Le c ρ s (S j)) (h0:I j)
  (round:∀j,I j->au P c nt y (S j) (fF (fun s'=>∃k,(∃ρ,Le c ρ s' (S k))/\I k/\μ k<μ j) (inBlock i Q))):au P c nt x s Q:=by
 subst hx
 exact .yG (.Ql S I μ j hs h0 fun j hj=>(round j hj).mono fun e s' h=>by cases e<;>exact h)
variable {T:Types} (hT:eE P T) {Γ:bz} (hΓ:bU P Γ) (hm:P.follows .mixedOrders=true)
def sH (T:Types) (Γ:bz) (forks:List Nat) (n:Nat):List Code->aK->Option (af aK)
 |[],s=>some (.leaf .normal s)
 |x::l,s=>match fu T Γ forks n x s with
  |some t=>t.bind fun e s'=>match e with
   |.normal=>sH T Γ forks n l s'
   |.exit i=>some (.leaf (.exit i) s')
   |.ret=>some (.leaf .ret s')
  |none=>none
include hT hΓ hm in
theorem CR {forks:List Nat} {n:Nat}:∀{l:List Code} {s:aK} {t:af aK},(l.all fun x=>cD nt x)=true->sH T Γ forks n l s=some t->t.all Q->aF P c nt l s Q
 |[],s,t,_,h,ht=>by
  simp only[sH,ay]at h
  subst h
  exact ht
 |x::l,s,t,hd,h,ht=>by
  simp only[List.all_cons,Bool.and_eq_true]at hd
  simp only[sH]at h
  cases hx:fu T Γ forks n x s with
  |none=>rw[hx]at h;simp at h
  |some u=>
   rw[hx]at h
   refine l6 hT hΓ hm n hd.1 hx (af.fo ?_ (af.kX h ht))
   rintro e s' ⟨v,h1,h2⟩
   cases e with
   |normal=>exact CR hd.2 h1 h2
   |exit i=>simp only[ay]at h1;subst h1;exact h2
   |ret=>simp only[ay]at h1;subst h1;exact h2
def aH (T:Types) (Γ:bz) (forks:List Nat) (n:Nat) (ls:List Nat) (l:List Code) (s:aK):Option (af (List AV×aE)):=
 match sH T Γ forks n l s with
 |some t=>t.bind (Pu ls)
 |none=>none
include hT hΓ hm in
theorem aF.bL {forks:List Nat} (n:Nat) (ls:List Nat) {l:List Code} {s:aK} {t:af (List AV×aE)} (hc:aH T Γ forks n ls l s=some t) (hd:(l.all fun x=>cD nt x)=true)
  (h:t.all fun e v=>∀s',bA ls s'=some v->Q e s'):aF P c nt l s Q:=by
 unfold aH at hc
 split at hc
 ·rename_i u hx
  refine CR hT hΓ hm hd hx (af.fo ?_ (af.kX hc h))
  rintro e s' ⟨v,h1,h2⟩
  unfold Pu at h1
  cases hv:bA ls s' with
  |none=>rw[hv]at h1;simp at h1
  |some z=>
   rw[hv]at h1
   simp only[ay]at h1
   subst h1
   exact h2 s' hv
 ·simp at hc
include hT hΓ hm in
theorem au.bL {x:Code} {forks:List Nat} (n:Nat) (ls:List Nat) {t:af (List AV×aE)} (hc:aH T Γ forks n ls [x] s=some t) (hd:cD nt x=true)
  (h:t.all fun e v=>∀s',bA ls s'=some v->Q e s'):au P c nt x s Q:=by
 have:=aF.bL (P:=P) (c:=c) (nt:=nt) (l:=[x]) (Q:=Q) hT hΓ hm n ls hc (by simp[hd]) h
 exact au.mono this fun e s' h=>by cases e<;>exact h
def cR (T:Types) (Γ:bz) (forks:List Nat) (n:Nat) (fn:Func) (l:List Code) (s:aK):Option (af (List AV)):=
 match sH T Γ forks n l s with
 |some t=>t.bind (ow T fn)
 |none=>none
def Fin (T:Types) (fn:Func) (res:AV) (e:aq) (s:aK):Prop:=(e=.normal\/e=.ret)/\Ends T fn res s
theorem CS {fn:Func} {e:aq} {s':aK} {v:af (List AV)} {res:AV} (h1:ow T fn e s'=some v) (h2:v.all fun _ us=>gJ us res):Fin T fn res e s':=by
 unfold ow at h1
 have key:∀{e':aq},(match kW T s' fn.results.toList with
   |some (vs,q)=>match fP (kU (pick s'.store (AV.bT vs))) vs with
    |some us=>some (af.need q (.leaf e' us))
    |none=>none
   |none=>none)=some v->Ends T fn res s':=by
  intro e' h1
  cases hr:kW T s' fn.results.toList with
  |none=>rw[hr]at h1;simp at h1
  |some p=>
   obtain⟨vs,q⟩:=p
   rw[hr]at h1
   simp only at h1
   cases hf:fP (kU (pick s'.store (AV.bT vs))) vs with
   |none=>rw[hf]at h1;simp at h1
   |some us=>
    rw[hf]at h1
    simp only[ay]at h1
    subst h1
    obtain⟨g1,g2⟩:=af.HI.1 h2
    exact⟨vs,q,us,hr,g1,hf,g2⟩
 cases e with
 |normal=>exact⟨.inl rfl,key h1⟩
 |ret=>exact⟨.inr rfl,key h1⟩
 |exit i=>simp at h1
include hT hΓ hm in
theorem aF.fin {fn:Func} {forks:List Nat} (n:Nat) {l:List Code} {s:aK} {t:af (List AV)} (hc:cR T Γ forks n fn l s=some t) (hd:(l.all fun x=>cD nt x)=true) {res:AV}
  (h:t.all fun _ us=>gJ us res):aF P c nt l s (Fin T fn res):=by
 unfold cR at hc
 split at hc
 ·rename_i u hx
  refine CR hT hΓ hm hd hx (af.fo ?_ (af.kX hc h))
  rintro e s' ⟨v,h1,h2⟩
  exact CS h1 h2
 ·simp at hc
theorem aF.weak {l:List Code} {s2:aK} (hl:l.isEmpty=false) (hle:∃ρ,Le c ρ s s2) (h:aF P c nt l s2 Q):aF P c nt l s Q:=by
 obtain⟨ρ,hle⟩:=hle
 cases l with
 |nil=>simp at hl
 |cons x l=>exact au.weak hle h
theorem au.nB {x:Code} {s2:aK} (hle:∃ρ,Le c ρ s s2) (h:au P c nt x s2 Q):au P c nt x s Q:=by
 obtain⟨ρ,hle⟩:=hle
 exact au.weak hle h
end rules
theorem Wu {P:Program} {f:FuncId} {fn:Func} (h:P.funcs[f]?=some fn) (hb:fn.body.isSome=true) (hn:(fn.name== "runtime.NumGoroutine")=false) (hd:cD fn.ntmps (aI fn)=true):ji P f fn (aI fn):=by
 refine⟨h,?_,hn,hd⟩
 unfold aI
 cases hbd:fn.body with
 |none=>rw[hbd]at hb;simp at hb
 |some x=>rfl
end Go.Am
namespace Go.Am
def val:Nat->(Nat->Nat)->Nat
 |0,_=>0
 |n+1,z=>val n z+z n*2^(32*n)
theorem gV {z:Nat->Nat}:∀{n:Nat},(∀i,i<n->z i<2^32)->val n z<2^(32*n)
 |0,_=>by simp[val]
 |n+1,h=>by
  have ih:=gV (z:=z) (n:=n) fun i hi=>h i aa
  have h1:=h n aa
  have:z n*2^(32*n)+2^(32*n)<=2^32*2^(32*n):=by
   rw[<-Nat.succ_mul];exact Nat.mul_le_mul_right _ h1
  have e:2^(32*(n+1))=2^32*2^(32*n):=by rw[<-Nat.pow_add];congr 1;omega
  rw[e,val];omega
theorem val_congr {z y:Nat->Nat}:∀{n:Nat},(∀i,i<n->z i=y i)->val n z=val n y
 |0,_=>rfl
 |n+1,h=>by rw[val,val,val_congr fun i hi=>h i aa,h n aa]
theorem oG {z:Nat->Nat} {k:Nat}:∀{n:Nat},k<=n->(∀i,k<=i->i<n->z i=0)->val n z=val k z
 |0,h,_=>by
    have:k=0:=aa
    subst this;rfl
 |n+1,h,hz=>by
  by_cases hk:k=n+1
  ·subst hk;rfl
  ·rw[val,oG (n:=n) aa fun i h1 h2=>hz i h1 aa,hz n aa aa]
   simp
theorem qe {z:Nat->Nat}:∀{n i:Nat},(∀j,j<n->z j<2^32)->i<n->aD (val n z) i=z i
 |0,i,_,hi=>aa
 |n+1,i,h,hi=>by
  unfold aD
  rw[val]
  by_cases he:i=n
  ·subst he
   have:=gV (z:=z) (n:=i) fun j hj=>h j aa
   rw[Nat.add_mul_div_right _ _ (Nat.two_pow_pos _),Nat.div_eq_of_lt this,Nat.zero_add]
   exact Nat.mod_eq_of_lt (h i aa)
  ·have ih:=qe (z:=z) (n:=n) (i:=i) (fun j hj=>h j aa) aa
   unfold aD at ih
   have e:2^(32*n)=2^32*2^(32*(n-i-1))*2^(32*i):=by
    rw[<-Nat.pow_add,<-Nat.pow_add];congr 1;omega
   rw[e,<-Nat.mul_assoc,Nat.add_mul_div_right _ _ (Nat.two_pow_pos _),<-ih]
   rw[show z n*(2^32*2^(32*(n-i-1)))=2^32*(z n*2^(32*(n-i-1))) by
    rw[<-Nat.mul_assoc,Nat.mul_comm (z n),Nat.mul_assoc]]
   rw[Nat.add_mul_mod_self_left]
theorem eO {N i:Nat}:aD N i<2^32:=Nat.mod_lt _ (by decide)
theorem Qc {N:Nat}:∀{n:Nat},val n (aD N)=N%2^(32*n)
 |0=>by simp[val,Nat.mod_one]
 |n+1=>by
  rw[val,Qc,aD]
  have e:2^(32*(n+1))=2^(32*n)*2^32:=by rw[<-Nat.pow_add];congr 1
  rw[e,Nat.mod_mul,Nat.mul_comm (2^(32*n))]
theorem qm {N n:Nat} (h:N<2^(32*n)):val n (aD N)=N:=by rw[Qc,Nat.mod_eq_of_lt h]
theorem eo {N n:Nat}:nl N<=n↔N<2^(32*n):=by
 unfold nl
 by_cases h:N=0
 ·subst h;simp[Nat.two_pow_pos]
 ·rw[if_neg h]
  rw[<-Nat.log2_lt h]
  omega
theorem oB {N:Nat}:N<2^(32*nl N):=eo.1 aT
theorem ic {N:Nat}:val (nl N) (aD N)=N:=qm oB
theorem aeb {z:Nat->Nat} {n:Nat} (h0:0<n) (h:z (n-1)≠0):2^(32*(n-1))<=val n z:=by
 obtain⟨m,rfl⟩:∃m,n=m+1:=⟨n-1,aa⟩
 rw[val]
 simp only[Nat.add_sub_cancel]at h ⊢
 have:1*2^(32*m)<=z m*2^(32*m):=Nat.mul_le_mul_right _ aa
 omega
theorem B1 {z:Nat->Nat} {n:Nat} (hz:∀i,i<n->z i<2^32) (h:n=0\/z (n-1)≠0):nl (val n z)=n:=by
 rcases Nat.eq_zero_or_pos n with rfl|h0
 ·simp[val,nl]
 ·have h1:nl (val n z)<=n:=eo.2 (gV hz)
  have h2:¬nl (val n z)<=n-1:=by
   rw[eo]
   have:=aeb h0 (h.resolve_left aa)
   omega
  omega
theorem FU {N:Nat} (h:N≠0):aD N (nl N-1)≠0:=by
 intro h0
 have hn:0<nl N:=by unfold nl;rw[if_neg h];omega
 have h1:val (nl N) (aD N)=val (nl N-1) (aD N):=oG aa fun i h1 h2=>by
  have:i=nl N-1:=aa
  rw[this,h0]
 rw[ic]at h1
 have h3:N<2^(32*(nl N-1)):=by
  exact Nat.lt_of_le_of_lt (Nat.le_of_eq h1) (gV (z:=aD N) (n:=nl N-1) fun i _=>eO)
 have h2:nl N<=nl N-1:=eo.2 h3
 omega
theorem iB {N:Nat}:0<nl N↔N≠0:=by
 unfold nl
 split<;>simp_all
theorem jd {a b:Nat} (h:a<=b):nl a<=nl b:=eo.2 (Nat.lt_of_le_of_lt h oB)
theorem wrap_i64 {x:Int} (h1:-2^63<=x) (h2:x<2^63):IntKind.i64.wrap x=x:=by
 simp[IntKind.wrap,IntKind.bits,IntKind.signed];omega
theorem cJ {x:Int} (h1:0<=x) (h2:x<2^64):IntKind.u64.wrap x=x:=by
 simp[IntKind.wrap,IntKind.bits,IntKind.signed];omega
theorem oT {x:Int}:IntKind.u64.wrap x=x%2^64:=by
 simp[IntKind.wrap,IntKind.bits,IntKind.signed]
theorem mE {x:Int}:IntKind.u32.wrap x=x%2^32:=by
 simp[IntKind.wrap,IntKind.bits,IntKind.signed]
theorem wrap_u32 {x:Int} (h1:0<=x) (h2:x<2^32):IntKind.u32.wrap x=x:=by
 rw[mE];omega
theorem yI {x:Nat}:IntKind.u64.wrap (x:Int)=(x%2^64:Nat):=by
 rw[oT];omega
theorem kz {x:Nat}:IntKind.u32.wrap (x:Int)=(x%2^32:Nat):=by
 rw[mE];omega
theorem vZ {a b:Nat} (ha:a<2^64) (hb:b<2^64):
  IntKind.u64.wrap ((BitVec.ofInt IntKind.u64.bits (a:Int)|||BitVec.ofInt IntKind.u64.bits (b:Int)).toNat:Int)=((a|||b:Nat):Int):=by
 have e:(BitVec.ofInt IntKind.u64.bits (a:Int)|||BitVec.ofInt IntKind.u64.bits (b:Int)).toNat=a|||b:=by
  rw[BitVec.toNat_or,BitVec.ofInt_natCast,BitVec.ofInt_natCast,BitVec.toNat_ofNat,BitVec.toNat_ofNat]
  rw[show IntKind.u64.bits=64 from rfl,Nat.mod_eq_of_lt ha,Nat.mod_eq_of_lt hb]
 rw[e]
 have:a|||b<2^64:=Nat.or_lt_two_pow ha hb
 exact cJ aa aa
theorem YP {a b:Nat} (ha:a<2^64) (hb:b<2^64):
  IntKind.u64.wrap ((BitVec.ofInt IntKind.u64.bits (a:Int)&&&BitVec.ofInt IntKind.u64.bits (b:Int)).toNat:Int)=((a&&&b:Nat):Int):=by
 have e:(BitVec.ofInt IntKind.u64.bits (a:Int)&&&BitVec.ofInt IntKind.u64.bits (b:Int)).toNat=a&&&b:=by
  rw[BitVec.toNat_and,BitVec.ofInt_natCast,BitVec.ofInt_natCast,BitVec.toNat_ofNat,BitVec.toNat_ofNat]
  rw[show IntKind.u64.bits=64 from rfl,Nat.mod_eq_of_lt ha,Nat.mod_eq_of_lt hb]
 rw[e]
 have:a&&&b<2^64:=Nat.and_lt_two_pow a hb
 exact cJ aa aa
theorem rP {a b i:Nat} (h:b<2^i):a*2^i|||b=a*2^i+b:=by
 rw[<-Nat.shiftLeft_eq,<-Nat.shiftLeft_add_eq_or_of_lt h]
theorem mO {x:Int}:x.fdiv (2^min (Int.toNat 32) IntKind.u64.bits)=x/4294967296:=by
 have:min (Int.toNat 32) IntKind.u64.bits=32:=rfl
 rw[this,Int.fdiv_eq_ediv_of_nonneg _ (by decide)]
 rfl
theorem Fi {x:Int}:x.fdiv (2^min (Int.toNat 63) IntKind.u64.bits)=x/9223372036854775808:=by
 have:min (Int.toNat 63) IntKind.u64.bits=63:=rfl
 rw[this,Int.fdiv_eq_ediv_of_nonneg _ (by decide)]
 rfl
theorem yN {x:Int}:x*2^min (Int.toNat 32) IntKind.u64.bits=x*4294967296:=by
 have:min (Int.toNat 32) IntKind.u64.bits=32:=rfl
 rw[this];rfl
theorem DZ {B c z y v t s:Nat} (hs:s=c+z+y) (h:v+c*B=t):v+s%4294967296*B+s/4294967296*(4294967296*B)=t+z*B+y*B:=by
 have h1:=Nat.div_add_mod s 4294967296
 generalize s/4294967296=q at*
 generalize s%4294967296=r at*
 subst h1 h
 have:c*B+z*B+y*B=(4294967296*q+r)*B:=by rw[<-Nat.add_mul,<-Nat.add_mul,hs]
 grind
theorem je {i:Nat}:2^(32*(i+1))=4294967296*2^(32*i):=by
 rw[show 32*(i+1)=32+32*i by omega,Nat.pow_add]
open AV
def numOf (v:AV):Nat:=match v with
 |.int _ z=>z.toNat
 |_=>0
def fe (n:Nat) (f:Nat->AV):Prop:=∀i,i<n->∃z:Nat,z<2^32/\f i=.int .u32 z
theorem Ge {z:Nat->Nat} {i:Nat}:numOf (aA z i)=z i:=by simp[numOf,aA]
theorem kq {n:Nat} {z:Nat->Nat}:(val n fun i=>numOf (aA z i))=val n z:=val_congr fun _ _=>Ge
theorem iu {n:Nat} {z:Nat->Nat} (h:∀i,i<n->z i<2^32):fe n (aA z):=fun i hi=>⟨z i,h i hi,rfl⟩
def tK:AV->Option (Nat×Nat×List Prop)
 |.mag N=>some (N,nl N,[])
 |.nil=>some (0,0,[])
 |.ak es n f=>if es==1 then some (val n fun i=>numOf (f i),n,[fe n f])else none
 |_=>none
theorem wL {a:AV} {N n:Nat} {q:List Prop} (h:tK a=some (N,n,q)) (hq:az q):∃z:Nat->Nat,(∀i,i<n->z i<2^32)/\val n z=N/\bg a (.ak 1 n (aA z)):=by
 cases a<;>simp only[tK,reduceCtorEq,ay,Prod.mk.injEq]at h
 case mag M=>
  obtain⟨rfl,rfl,rfl⟩:=h
  exact⟨aD M,fun i _=>eO,ic,PX rfl fun i _=>rfl⟩
 case nil=>
  obtain⟨rfl,rfl,rfl⟩:=h
  exact⟨fun _=>0,fun i hi=>aa,rfl,lS aa⟩
 case ak es m f=>
  split at h
  ·rename_i he
   simp only[ay,Prod.mk.injEq]at h
   obtain⟨rfl,rfl,rfl⟩:=h
   have hq:fe m f:=hq
   have he:es=1:=by simpa using he
   subst he
   refine⟨fun i=>numOf (f i),fun i hi=>?_,rfl,uZ rfl fun i hi=>?_⟩
   ·obtain⟨z,h1,h2⟩:=hq i hi
    simp only[h2,numOf];omega
   ·obtain⟨z,h1,h2⟩:=hq i hi
    simp[h2,numOf,aA]
  ·simp at h
def nj (g:Nat->Nat->dZ):List AV->Option dZ
 |[a]=>match tK a with
  |some (N,n,q)=>some ⟨(g N n).res,[],q++(g N n).iL⟩
  |none=>none
 |_=>none
def jy (g:Nat->Nat->Nat->Nat->dZ):List AV->Option dZ
 |[a,b]=>match tK a,tK b with
  |some (A,n,p),some (B,m,q)=>some ⟨(g A n B m).res,[],p++(q++(g A n B m).iL)⟩
  |_,_=>none
 |_=>none
def B6 (g:Nat->Nat->Int->dZ):List AV->Option dZ
 |[a,.int .u32 k]=>match tK a with
  |some (N,n,q)=>some ⟨(g N n k).res,[],q++(g N n k).iL⟩
  |none=>none
 |_=>none
abbrev aM (v:AV) (l:List Prop):dZ:=⟨v,[],l⟩
section oks
variable {P:Program} {f:FuncId}
theorem v7 {g:Nat->Nat->dZ} (h:∀z n K,(∀i,i<n->z i<2^32)->(g (val n z) n).need->aS P f K [.ak 1 n (aA z)] [] (aM (g (val n z) n).res [])):
  ∀K args r,bT args=[]->nj g args=some r->r.post=[]->aS P f K args [] r:=by
 intro K args r hk hs _ need
 match args,hs with
 |[a],hs=>
  simp only[nj]at hs
  split at hs
  ·rename_i N n q hn
   simp only[ay]at hs
   subst hs
   obtain⟨n1,n2⟩:=gB.1 need
   obtain⟨z,hz,rfl,hle⟩:=wL hn n1
   exact gT (h z n K hz n2) hk ⟨hle,trivial⟩ [] trivial
  ·simp at hs
theorem agH {g:Nat->Nat->Int->dZ} (h:∀z n i K,(∀i,i<n->z i<2^32)->(g (val n z) n i).need->aS P f K [.ak 1 n (aA z),.int .u32 i] [] (aM (g (val n z) n i).res [])):
  ∀K args r,bT args=[]->B6 g args=some r->r.post=[]->aS P f K args [] r:=by
 intro K args r hk hs _ need
 unfold B6 at hs
 split at hs
 ·rename_i a i
  split at hs
  ·rename_i N n q hn
   simp only[ay]at hs
   subst hs
   obtain⟨n1,n2⟩:=gB.1 need
   obtain⟨z,hz,rfl,hle⟩:=wL hn n1
   exact gT (h z n i K hz n2) hk ⟨hle,.refl _,trivial⟩ [] trivial
  ·simp at hs
 ·simp at hs
theorem wg {g:Nat->Nat->Nat->Nat->dZ} (h:∀z n y m K,(∀i,i<n->z i<2^32)->(∀i,i<m->y i<2^32)->(g (val n z) n (val m y) m).need->
   aS P f K [.ak 1 n (aA z),.ak 1 m (aA y)] [] (aM (g (val n z) n (val m y) m).res [])):
  ∀K args r,bT args=[]->jy g args=some r->r.post=[]->aS P f K args [] r:=by
 intro K args r hk hs _ need
 match args,hs with
 |[a,b],hs=>
  simp only[jy]at hs
  split at hs
  ·rename_i N n q M m p hn hm
   simp only[ay]at hs
   subst hs
   obtain⟨n1,n4⟩:=gB.1 need
   obtain⟨n2,n3⟩:=gB.1 n4
   obtain⟨z,hz,rfl,hle⟩:=wL hn n1
   obtain⟨y,hy,rfl,hle2⟩:=wL hm n2
   exact gT (h z n y m K hz hy n3) hk ⟨hle,hle2,trivial⟩ [] trivial
  ·simp at hs
theorem cG {P:Program}:bU P []:=fun f s h=>by simp[look]at h
theorem aL {f:FuncId} {s:Spec} {Γ:bz} (h:∀K args pre r,s K args pre=some r->aS P f K args pre r) (hΓ:bU P Γ):bU P ((f,s)::Γ):=by
 intro f' s' hl
 simp only[look]at hl
 split at hl
 ·rename_i he
  have:f=f':=by simpa using he
  subst this
  simp only[ay]at hl
  subst hl
  exact h
 ·exact hΓ f' s' hl
end oks
def dJ (a b:Nat):Int:=if a<b then-1 else if b<a then 1 else 0
def bX (N:Nat):Nat:=if N=0 then 0 else N.log2+1
end Go.Am
namespace Go.Am
open AV
def nL (sl:List (Nat×AV)):List ResultVar->Option (List AV)
 |[]=>some []
 |.tmp t::l=>match look t sl,nL sl l with
  |some v,some m=>if v.isTuple then none else some (v::m)
  |_,_=>none
 |_=>none
def G4 (fn:Func) (sl:List (Nat×AV)):Option (List AV):=
 match nL sl fn.results.toList with
 |some us=>match bT us with
  |[]=>fP [] us
  |_=>none
 |none=>none
theorem DR {s:aK} {t:Nat} {v:AV} (hv:v.isTuple=false):∀{ls:List Nat},look t (aB ls (kV s ls))=some v->look t s.dB=some v
 |[],h=>by simp[aB,look]at h
 |x::ls,h=>by
  simp only[kV,aB,look]at h
  split at h
  ·rename_i he
   have:x=t:=by simpa using he
   subst this
   simp only[ay]at h
   subst h
   exact KO hv
  ·exact DR hv h
theorem Ew {T:Types} {s:aK} {ls:List Nat}:∀{l:List ResultVar} {us:List AV},nL (aB ls (kV s ls)) l=some us->kW T s l=some (us,[])
 |[],us,h=>by simp only[nL,ay]at h;subst h;rfl
 |.tmp t::l,us,h=>by
  simp only[nL]at h
  split at h
  ·rename_i v m hv hm
   split at h
   ·simp at h
   ·rename_i ht
    simp only[ay]at h
    subst h
    simp only[kW,wJ,DR (by simpa using ht) hv,Ew hm]
    simp[ht]
  ·simp at h
 |.cell _ _::_,us,h=>by simp[nL]at h
theorem iG {T:Types} {fn:Func} {ls:List Nat} {vs us:List AV} {os:aE} {e:aq} {s':aK} {res:AV} (he:e=.normal\/e=.ret) (hv:bA ls s'=some (vs,os)) (hr:G4 fn (aB ls vs)=some us) (hres:gJ us res):Fin T fn res e s':=by
 unfold bA at hv
 simp only[ay,Prod.mk.injEq]at hv
 obtain⟨rfl,_⟩:=hv
 unfold G4 at hr
 split at hr
 ·rename_i rs hrs
  split at hr
  ·rename_i hk
   refine⟨he,rs,[],us,Ew hrs,trivial,?_,hres⟩
   rw[hk];exact hr
  ·simp at hr
 ·simp at hr
theorem Gm {P:Program} {f:FuncId} {K es n:Nat} {g:Nat->AV} {l:List AV} {r:dZ} (h:∀b,(b=true->n=0)->aS P f K (.eJ b es n g::l) [] r):aS P f K (.ak es n g::l) [] r:=by
 intro need
 refine⟨((h false fun h=>by simp at h) need).1,fun c D D' β w vs hw0 hMw hrel hD hK hv=>?_⟩
 match vs,hv with
 |x::xs,hv=>
  obtain⟨⟨cs,h1,h2⟩,h3⟩:=hv
  have:∃b,(b=true->n=0)/\bF (aN c [] β) w β (.eJ b es n g) x:=by
   cases h1 with
   |ak g1 g2 g3 g4 g5 g6=>
    rename_i base cap cs' cf
    cases g6
    refine⟨base.isNone,fun hb=>?_,_,.eJ rfl g1 g2 g3 g4 g5 .nil,h2⟩
    rcases g1 with g1|⟨b,o,rfl,_⟩
    ·exact g1
    ·simp at hb
  obtain⟨b,hb0,hb⟩:=this
  exact((h b hb0) need).2 c D D' β w (x::xs) hw0 hMw hrel hD hK ⟨hb,h3⟩
theorem H9 {z y:Nat->Nat} {k:Nat}:∀{n:Nat},k<n->(∀j,k<j->j<n->z j=y j)->z k<y k->(∀i,i<n->z i<2^32)->val n z<val n y
 |0,h,_,_,_=>aa
 |n+1,h,he,hk,hz=>by
  rw[val,val]
  by_cases hn:k=n
  ·subst hn
   have h1:=gV (z:=z) (n:=k) fun i hi=>hz i aa
   have h2:(z k+1)*2^(32*k)<=y k*2^(32*k):=Nat.mul_le_mul_right _ hk
   rw[Nat.add_mul,Nat.one_mul]at h2
   omega
  ·have:=H9 (n:=n) aa (fun j h1 h2=>he j h1 aa) hk fun i hi=>hz i aa
   rw[he n aa aa]
   omega
theorem Gt {A B:Nat} (hn:nl A=nl B) (h:∀i,i<nl A->aD A i=aD B i):A=B:=by
 rw[<-ic (N:=A),<-ic (N:=B),<-hn]
 exact val_congr h
theorem C1 {A B k:Nat} (hn:nl A=nl B) (hk:k<nl A) (h:∀j,k<j->j<nl A->aD A j=aD B j) (hlt:aD A k<aD B k):A<B:=by
 have:=H9 (z:=aD A) (y:=aD B) hk h hlt fun i _=>eO
 rw[ic,hn,ic]at this
 exact this
theorem CU {A B:Nat} (h:nl A<nl B):A<B:=by
 rcases Nat.lt_or_ge A B with h1|h1
 ·exact h1
 ·have:=jd h1;omega
theorem gC {ρ:Nat->Option Nat} {r w:Bool} {n m:Nat} {f:Nat->AV} {o:Nat->Nat} (hn:m=n) (h:∀j,j<n->f j=aA o j):dL ρ ⟨r,w,1,n,f⟩ ⟨r,w,1,m,aA o⟩:=
 ia hn fun j hj=>by rw[h j hj];exact fh rfl
def cQ (o:Nat->Nat) (i x:Nat):Nat->Nat:=fun j=>if j=i then x else o j
theorem kP {o:Nat->Nat} {i x:Nat}:cQ o i x i=x:=if_pos rfl
theorem gG {o:Nat->Nat} {i x j:Nat} (h:j≠i):cQ o i x j=o j:=if_neg h
theorem jn {o:Nat->Nat} {i x b:Nat} {n:Nat} (hx:x<b) (ho:∀j,j<n->o j<b):∀j,j<n->cQ o i x j<b:=fun j hj=>by
 unfold cQ
 split
 ·exact hx
 ·exact ho j hj
theorem iQ {o:Nat->Nat} {i x:Nat} {v:Int} (hv:v=(x:Nat)) (j:Nat):(if j=i then AV.int .u32 v else aA o j)=aA (cQ o i x) j:=by
 unfold aA cQ
 split
 ·rw[hv]
 ·rfl
theorem rZ {o:Nat->Nat} {i x:Nat}:∀{n:Nat},i<n->o i=0->val n (cQ o i x)=val n o+x*2^(32*i)
 |0,h,_=>aa
 |n+1,h,h0=>by
  rw[val,val]
  by_cases hn:i=n
  ·subst hn
   rw[kP,h0,val_congr (y:=o) fun j hj=>gG aa]
   omega
  ·rw[rZ (n:=n) aa h0,gG aa]
   omega
theorem sj {o:Nat->Nat} {i x:Nat}:val (i+1) (cQ o i x)=val i o+x*2^(32*i):=by
 rw[val,kP,val_congr (y:=o) fun j hj=>gG aa]
theorem vF {x k:Nat} (h:2^k<=x):bX x=k+bX (x/2^k):=by
 have hk:=Nat.two_pow_pos k
 have h0:x≠0:=aa
 have h1:x/2^k≠0:=by
  have:=(Nat.le_div_iff_mul_le hk (x:=1) (y:=x)).2 aa
  omega
 unfold bX
 rw[if_neg h0,if_neg h1]
 have:x.log2=k+(x/2^k).log2:=by
  obtain⟨g1,g2⟩:=(Nat.log2_eq_iff h1).1 rfl
  rw[Nat.log2_eq_iff h0]
  refine⟨?_,?_⟩
  ·rw[Nat.pow_add,Nat.mul_comm]
   exact(Nat.le_div_iff_mul_le hk).1 g1
  ·rw[show k+(x/2^k).log2+1=((x/2^k).log2+1)+k by omega,Nat.pow_add]
   exact(Nat.div_lt_iff_lt_mul hk).1 g2
 omega
theorem j6 {x k:Nat}:bX x<=k↔x<2^k:=by
 unfold bX
 split
 ·rename_i h;subst h;simp[Nat.two_pow_pos]
 ·rename_i h;rw[<-Nat.log2_lt h];omega
theorem KS {N:Nat} (h:N≠0):bX N=32*(nl N-1)+bX (aD N (nl N-1)):=by
 have hp:=iB.2 h
 have h1:2^(32*(nl N-1))<=N:=by
  rcases Nat.lt_or_ge N (2^(32*(nl N-1)))with h1|h1
  ·have:=eo.2 h1;omega
  ·exact h1
 have h2:N/2^(32*(nl N-1))<2^32:=by
  rw[Nat.div_lt_iff_lt_mul (Nat.two_pow_pos _),<-Nat.pow_add]
  have:=oB (N:=N)
  rw[show 32+32*(nl N-1)=32*nl N by omega]
  exact this
 rw[vF h1,aD,Nat.mod_eq_of_lt h2]
theorem Hx {o:Nat->Nat} {i x:Nat}:∀{n:Nat},i<n->val n (cQ o i x)+o i*2^(32*i)=val n o+x*2^(32*i)
 |0,h=>aa
 |n+1,h=>by
  rw[val,val]
  by_cases hn:i=n
  ·subst hn
   rw[kP,val_congr (y:=o) fun j hj=>gG aa]
   omega
  ·have:=Hx (o:=o) (x:=x) (n:=n) (i:=i) aa
   rw[gG (show n≠i by omega)]
   omega
theorem au.qF {P:Program} {c:Ctx} {nt:Nat} {s:aK} {Q:aq->aK->Prop} {x y:Code} {i:Nat} (hx:x=.block i y) (h:au P c nt y s (inBlock i Q)):au P c nt x s Q:=hx▸.yG h
theorem Nk {c x y o:Nat} (hc:c<2^32) (hx:x<2^32) (hy:y<2^32) (ho:o<2^32):
  IntKind.u64.wrap ((c:Int)+IntKind.u64.wrap (IntKind.u64.wrap (IntKind.u64.wrap (x:Int)*IntKind.u64.wrap (y:Int))+IntKind.u64.wrap (o:Int)))=((c+x*y+o:Nat):Int)/\
   c+x*y+o<2^64/\(c+x*y+o)/4294967296<2^32:=by
 have h1:x*y<=(2^32-1)*(2^32-1):=Nat.mul_le_mul aa aa
 have e:(x:Int)*(y:Int)=((x*y:Nat):Int):=by simp
 rw[cJ (x:=(x:Int)) aa aa,cJ (x:=(y:Int)) aa aa,cJ (x:=(o:Int)) aa aa,e]
 generalize x*y=p at*
 refine⟨?_,aa,aa⟩
 rw[cJ (x:=(p:Int)) aa aa,cJ (x:=(p:Int)+o) aa aa,cJ aa aa]
 omega
theorem JA {vo vo' oi c x yj B s q r v Bi Bj vy:Nat} (hs:s=c+x*yj+oi) (hq:4294967296*q+r=s) (hset:vo'+oi*B=vo+r*B) (hB:B=Bi*Bj) (h:vo+c*B=v+x*vy*Bi):
  vo'+q*(4294967296*B)=v+x*(vy+yj*Bj)*Bi:=by
 subst hB
 have e:(4294967296*q+r)*(Bi*Bj)=(c+x*yj+oi)*(Bi*Bj):=by rw[hq,hs]
 grind
theorem ON {P:Program} {f:FuncId} {K:Nat} {args:List AV} {u v:AV} {l l':List Prop} (hf:aS P f K args [] ⟨u,[],l⟩) (hl:az l'->az l) (hk:keys u=[]) (ht:u.isTuple=false) (hle:bg u v):aS P f K args [] ⟨v,[],l'⟩:=by
 intro need
 obtain⟨h1,h2⟩:=hf (hl need)
 refine⟨fun k o ho=>by simp[look]at ho,fun c D D' β w vs hw0 hMw hrel hD hK hv=>(h2 c D D' β w vs hw0 hMw hrel hD hK hv).mono ?_⟩
 rintro x w' ⟨β',g1,g2,g3⟩
 refine⟨β',g1,g2,?_⟩
 have h3:cS _ w' β' [u] [x]:=⟨bP.one g3 ht,trivial⟩
 have h4:=CP (us:=[u]) (vs:=[v]) ⟨hle,trivial⟩ (h3.bE (by rw[F9];exact hk))
 have h5:=h4.mono (fun b o h1 h2=>⟨h2,h1⟩) (β':=β') fun k x hx=>by simp[bE]at hx
 exact bF.bY h5.1
theorem uR {i:Nat} {Q:aq->aK->Prop} {s:aK} (h:Q .normal s):inBlock i Q (.exit i) s:=by
 simp only[inBlock,if_true];exact h
theorem gv {i:Nat} {k:aK->Prop} {Q:aq->aK->Prop} {s:aK} (h:Q .normal s):fF k (inBlock i Q) (.exit i) s:=by
 show inBlock i Q (.exit i) s
 exact uR h
theorem su {i:Nat} {k:aK->Prop} {Q:aq->aK->Prop} {s:aK} (h:Q (.exit i) s):fF k Q (.exit i) s:=h
theorem KK {i:Nat} {k:aK->Prop} {Q:aq->aK->Prop} {s:aK} (h:Q .ret s):fF k (inBlock i Q) .ret s:=h
theorem gr {k:aK->Prop} {Q:aq->aK->Prop} {s:aK} (h:Q .ret s):fF k Q .ret s:=h
theorem E1 {s:aK}:∀{a b:List Nat},kV s (a++b)=kV s a++kV s b
 |[],_=>rfl
 |x::a,b=>by simp only[List.cons_append,kV,E1]
theorem D6 {s:aK}:∀{a:List Nat},(kV s a).length=a.length
 |[]=>rfl
 |x::a=>by simp only[kV,List.length_cons,D6]
theorem NY {a b:List AV}:bT (a++b)=bT a++bT b:=by
 induction a with
 |nil=>rfl
 |cons x a ih=>simp only[List.cons_append,bT,ih,List.append_assoc]
theorem kB {s:aK} {ls l:List Nat} {vs us:List AV} {os:aE} (hv:bA (ls++l) s=some (vs++us,os)) (hl:vs.length=ls.length) (hk:bT us=[]):bA ls s=some (vs,os):=by
 unfold bA at hv ⊢
 simp only[ay,Prod.mk.injEq,E1]at hv ⊢
 obtain⟨h1,h2⟩:=hv
 obtain⟨h3,h4⟩:=List.append_inj h1 (by rw[D6,hl])
 subst h3
 refine⟨rfl,?_⟩
 rw[<-h2,h4,NY,hk,List.append_nil]
mutual
def zeroCells:AV->Option (List Value)
 |.bool b=>some [.bool b]
 |.int k n=>some [.int k n]
 |.nil=>some [.slice none 0 0]
 |.rat q n=>if q=0/\n=1 then some [.bool false,.slice none 0 0,.slice none 0 0]else none
 |.agg l=>vS l
 |_=>none
def vS:List AV->Option (List Value)
 |[]=>some []
 |a::l=>match zeroCells a,vS l with
  |some c,some d=>some (c++d)
  |_,_=>none
end
mutual
theorem Dl {M:Nat->Prop} {w:World} {β:aV}:∀{v:AV} {cs:List Value},zeroCells v=some cs->aO M w β [v] cs
 |.bool b,cs,h=>by simp only[zeroCells,ay]at h;subst h;exact .bool .nil
 |.int k n,cs,h=>by simp only[zeroCells,ay]at h;subst h;exact .int .nil
 |.nil,cs,h=>by simp only[zeroCells,ay]at h;subst h;exact .vnil .nil
 |.rat q n,cs,h=>by
  simp only[zeroCells]at h
  split at h
  ·rename_i hq
   obtain⟨rfl,rfl⟩:=hq
   simp only[ay]at h
   subst h
   have h0:aO M w bE [.mag 0] [.slice none 0 0]:=by
    have:=aO.mag (M:=M) (w:=w) (β:=bE) (N:=0) (base:=none) (cap:=0) (.inl rfl) (by simp[we]) .nil
    simpa [we]using this
   have:=aO.rat (M:=M) (w:=w) (β:=β) (q:=0) (n:=1) (x:=.slice none 0 0) (y:=.slice none 0 0) (l:=[]) (cs:=[]) ⟨by decide,by decide⟩ (by simpa using h0) (by simpa using h0) .nil
   simpa using this
  ·simp at h
 |.agg l,cs,h=>by
  simp only[zeroCells]at h
  simpa using aO.agg (KQ h) .nil
 |.mag _,cs,h=>by simp[zeroCells]at h
 |.ak _ _ _,cs,h=>by simp[zeroCells]at h
 |.eJ _ _ _ _,cs,h=>by simp[zeroCells]at h
 |.b9 _,cs,h=>by simp[zeroCells]at h
 |.ptr _ _ _ _ _,cs,h=>by simp[zeroCells]at h
 |.own _ _ _ _,cs,h=>by simp[zeroCells]at h
 |.func _ _,cs,h=>by simp[zeroCells]at h
 |.tuple _,cs,h=>by simp[zeroCells]at h
 |.cC _ _,cs,h=>by simp[zeroCells]at h
theorem KQ {M:Nat->Prop} {w:World} {β:aV}:∀{l:List AV} {cs:List Value},vS l=some cs->aO M w β l cs
 |[],cs,h=>by simp only[vS,ay]at h;subst h;exact .nil
 |a::l,cs,h=>by
  simp only[vS]at h
  cases ha:zeroCells a with
  |none=>rw[ha]at h;simp at h
  |some c=>
   cases hl:vS l with
   |none=>rw[ha,hl]at h;simp at h
   |some d=>
    rw[ha,hl]at h
    simp only[ay]at h
    subst h
    exact(Dl ha).cons (KQ hl)
end
def Ed (v:AV):Option Value:=
 match zeroCells v with
 |some cs=>if v.isAgg then some (.agg cs.toArray)else match cs with
  |[x]=>some x
  |_=>none
 |none=>none
theorem e9 {P:Program} {t:TypeId} {ti:TI} (h1:P.underlying t=some ti.desc) (h2:(P.info? t).map (fun i=>(i.size,i.bytes,i.zero))=some (ti.size,ti.bytes,Ed ti.zero))
  (h3:(Ed ti.zero).isSome=true):cP P t ti:=by
 cases hi:P.info? t with
 |none=>rw[hi]at h2;simp at h2
 |some i=>
  rw[hi]at h2
  simp only[Option.map_some,ay,Prod.mk.injEq]at h2
  refine⟨h1,⟨i,hi,h2.1,h2.2.1⟩,fun _=>?_⟩
  obtain⟨z,hz⟩:=Option.isSome_iff_exists.1 h3
  refine⟨i,z,hi,by rw[h2.2.2,hz],fun M w β=>?_⟩
  unfold Ed at hz
  cases hc:zeroCells ti.zero with
  |none=>rw[hc]at hz;simp at hz
  |some cs=>
   rw[hc]at hz
   simp only at hz
   split at hz
   ·rename_i ha
    simp only[ay]at hz
    subst hz
    exact .zo (Dl hc) ha
   ·rename_i ha
    split at hz
    ·simp only[ay]at hz
     subst hz
     exact .cK (Dl hc) (by simpa using ha)
    ·simp at hz
theorem jY {P:Program} {t:TypeId} {ti:TI} (h1:P.underlying t=some ti.desc) (h2:(P.info? t).map (fun i=>(i.size,i.bytes))=some (ti.size,ti.bytes)) (h3:ti.zero=.tuple []):cP P t ti:=by
 cases hi:P.info? t with
 |none=>rw[hi]at h2;simp at h2
 |some i=>
  rw[hi]at h2
  simp only[Option.map_some,ay,Prod.mk.injEq]at h2
  exact⟨h1,⟨i,hi,h2.1,h2.2⟩,fun h=>by rw[h3]at h;simp[isTuple]at h⟩
theorem Mg {P:Program} {t:TypeId} {ti:TI} (h1:P.underlying t=some ti.desc) (h2:(P.info? t).map (fun i=>(i.size,i.bytes,i.zero))=some (ti.size,ti.bytes,some .nilFunc)) (h3:ti.zero=.void):cP P t ti:=by
 cases hi:P.info? t with
 |none=>rw[hi]at h2;simp at h2
 |some i=>
  rw[hi]at h2
  simp only[Option.map_some,ay,Prod.mk.injEq]at h2
  refine⟨h1,⟨i,hi,h2.1,h2.2.1⟩,fun _=>⟨i,.nilFunc,hi,h2.2.2,fun M w β=>?_⟩⟩
  rw[h3]
  exact⟨[.nilFunc],.void rfl .nil,.inr ⟨rfl,rfl⟩⟩
theorem Tx {P:Program}:eE P []:=fun t ti h=>by simp[look]at h
theorem dr {P:Program} {t:TypeId} {ti:TI} {T:Types} (h:cP P t ti) (hT:eE P T):eE P ((t,ti)::T):=by
 intro t' ti' ht
 simp only[look]at ht
 split at ht
 ·rename_i he
  have:t=t':=by simpa using he
  subst this
  simp only[ay]at ht
  subst ht
  exact h
 ·exact hT t' ti' ht
end Go.Am
namespace Go.Am
open AV
theorem cS.length {M:Nat->Prop} {w:World} {β:aV}:∀{us:List AV} {xs:List Value},cS M w β us xs->us.length=xs.length
 |[],[],_=>rfl
 |_::_,_::_,h=>by simp[cS.length h.2]
 |[],_::_,h=>h.elim
 |_::_,[],h=>h.elim
theorem cS.weak {c c':Ctx} {β β2:aV} {w:World} {ρ:Nat->Option Nat} {M M':Nat->Prop} (hM:∀b,M' b->M b) (hβ:∀k2 k1,ρ k2=some k1->β2 k2=β k1):∀{us vs:List AV} {xs:List Value},gQ ρ us vs->cS M w β us xs->cS M' w β2 vs xs
 |[],[],[],_,_=>trivial
 |u::us,v::vs,x::xs,h,hv=>⟨hv.1.weak hM hβ h.1.2,cS.weak (c:=c) (c':=c') hM hβ h.2 hv.2⟩
 |[],_::_,_,h,_=>h.elim
 |_::_,[],_,h,_=>h.elim
 |_::_,_::_,[],_,h=>h.elim
 |[],[],_::_,_,h=>h.elim
theorem YN {nx:Nat} {rl:List (Nat×Nat)} (hr:iR nx rl=true):∀a b k,aX rl a=some k->aX rl b=some k->a=b:=by
 intro a b k ha hb
 have:=List.all_eq_true.1 hr _ (nw ha)
 simp only[Bool.and_eq_true,bD]at this
 simpa using List.all_eq_true.1 this.2 _ (nw hb)
theorem Ju {nx:Nat} {rl:List (Nat×Nat)} (hr:iR nx rl=true) {a k:Nat} (ha:aX rl a=some k):a<nx:=by
 have:=List.all_eq_true.1 hr _ (nw ha)
 simp only[Bool.and_eq_true,bD]at this
 exact this.1
theorem ahs {M:Nat->Prop} {w:World} {β:aV} {us:List AV} {xs:List Value} (h:cS M w β us xs):bP M w β (nO us) (if h:xs.length=1 then xs.toArray[0]'(by simpa using(show 0<xs.length by omega))else .tuple xs.toArray):=by
 have hl:=h.length
 match us,xs,h,hl with
 |[],[],_,_=>exact⟨[],rfl,trivial⟩
 |[u],[x],h,_=>exact h.1.bY
 |u::u'::us,x::x'::xs,h,_=>simp only[List.length_cons,Nat.add_eq_right,Nat.add_eq_zero_iff,Nat.succ_ne_zero,and_false,dite_false];exact⟨_,rfl,h⟩
section core
variable {P:Program} {T:Types}
structure Bs (T:Types) (fn:Func) (τ:Nat->Option Nat) (pre:aE) (r:dZ) (s:aK):Prop where
 ends:Ends T fn r.res s
 DK:∀k o,look k (de (gA r.post) pre)=some o->∃k1 o1,τ k=some k1/\look k1 s.store=some o1/\o1.row=false/\dL τ o1 o
structure xh (T:Types) (fn:Func) (τ:Nat->Option Nat) (pre:aE) (r:dZ) (s:aK):Prop where
 ends:∃vs q us,kW T s fn.results.toList=some (vs,q)/\az q/\gQ τ vs us/\r.res=nO us
 DK:∀k o,look k (de (gA r.post) pre)=some o->∃k1 o1,τ k=some k1/\look k1 s.store=some o1/\dL τ o1 o
structure vQ (rl:List (Nat×Nat)) (K:Nat) (pre:aE) (τ:Nat->Option Nat):Prop where
 inj:∀a b k,τ a=some k->τ b=some k->a=b
 dom:∀k a,τ k=some a->aX rl a=some k\/(K<=k/\k<K+dw)
theorem S2 (hT:eE P T) {f:FuncId} {fn:Func} {x:Code} (hf:ji P f fn x) {args args0:List AV} {pre pre0:aE} {r:dZ} {K nx:Nat} (rl:List (Nat×Nat)) (hlen:args0.length<=fn.ntmps) (hr:iR nx rl=true)
  (ha:gQ (aX rl) args args0) (hp:pq (aX rl) pre pre0) (hrl:∀a k,aX rl a=some k->∃o,look k pre=some o)
  (hpost:∀k o,look k r.post=some o->(∃o',look k pre=some o')\/(K<=k/\k<K+dw))
  (h:r.need->∀c:Ctx,c.ro=none->(∀k x,c.k0 k=some x->(aX rl k).isSome=true)->au P c fn.ntmps x ⟨aU 0 args0,pre0,nx⟩ fun e s'=>(e=.normal\/e=.ret)/\∃τ,vQ rl K pre τ/\(Bs T fn τ pre r s'\/xh T fn τ pre r s')):aS P f K args pre r:=by
 intro need
 refine⟨hpost,fun c D D' β w vs hw0 hMw hrel hD hK hv=>.inl ⟨fn,hf.get,hf.name,by simp[hf.body],?_⟩⟩
 have hobj0:=FT hp
 have hβ0:∀k2 k1,aX rl k2=some k1->(fun a=>(aX rl a).bind β) k2=β k1:=fun k2 k1 h=>by simp[h]
 have hW:bB {c with k0:=fun a=>(aX rl a).bind β,ro:=none} pre0 (fun k=>k<nx) (fun a=>(aX rl a).bind β) w:=by
  refine hrel.weak (c':={c with k0:=fun a=>(aX rl a).bind β,ro:=none}) (ρ:=aX rl) rfl rfl rfl (YN hr) (fun k o h=>.inl (hobj0 k o h)) hβ0 (fun k2 k1 h=>Ju hr h) (fun k2 x hk=>?_) (fun k2 b N hk=>?_) (fun k x hk=>hk)
  ·cases h1:aX rl k2 with
   |none=>simp[h1]at hk
   |some k1=>exact Ju hr h1
  ·cases h1:aX rl k2 with
   |none=>simp[h1]at hk
   |some k1=>simp[h1]at hk;exact hrel.lt k1 b N hk
 have hv0:cS (aN {c with k0:=fun a=>(aX rl a).bind β,ro:=none} pre0 (fun a=>(aX rl a).bind β)) w (fun a=>(aX rl a).bind β) args0 vs:=
  hv.weak (c:=c) (c':=c) (ρ:=aX rl) (CZ rfl (fun k o h=>.inl (hobj0 k o h)) hβ0) hβ0 ha
 have hl0:=hv0.length
 have hstart:Rel {c with k0:=fun a=>(aX rl a).bind β,ro:=none} fn.ntmps (fun k=>k<nx) (aU 0 args0) pre0 {tmps:=vs.toArray++Array.replicate (fn.ntmps-vs.toArray.size) undef,defers:=[]} w:=by
  refine⟨.nil,by simp;omega,_,hW,?_⟩
  have:=E5 (pre:=#[]) (post:=Array.replicate (fn.ntmps-vs.toArray.size) undef) hv0 rfl
  simpa using this
 refine callsIn_wide.1 (callsIn_of_wp_marks (F:=Fence.wide) (n:=3) hf.get hf.body trivial (wpIn_mono (h need {c with k0:=fun a=>(aX rl a).bind β,ro:=none} rfl (fun k x hk=>by
  cases h1:aX rl k with
  |none=>simp[h1]at hk
  |some k1=>rfl) _ w hstart) ?_))
 rintro e a' w9 ⟨ae,s',rfl,hr9,hex,τ,hτ,hends⟩
 obtain⟨w',hr',hleave⟩:=Rel.leave (P:=P) (fn:=fn) (R:=fun e w'=>∃x,e=.returned x/\fM c pre D' β w (gA r.post) r.res x w') hr9
 -- what the end gives, in the function's own keys
 have hfin:∃x β1 st1,(results fn a'.tmps).run P w'=.ok x w'/\bB {c with k0:=fun a=>(aX rl a).bind β,ro:=none} st1 (fun k=>k<s'.next) β1 w'/\
   (∀k o,look k (de (gA r.post) pre)=some o->∃k1 o1,τ k=some k1/\look k1 st1=some o1/\dL τ o1 o)/\
   bP (aN {c with k0:=fun a=>(aX rl a).bind β,ro:=none} st1 β1) w' (fun k=>(τ k).bind β1) r.res x:=by
  rcases hends with hends|hends
  ·obtain⟨hdef,x,β1,st1,hrun,hw1,hvx,hrow⟩:=Pn hT hends.ends hr'
   refine⟨x,β1,st1,hrun,hw1,fun k o hk=>?_,hvx.mono (fun b o h1 h2=>⟨h2,h1⟩) fun k x hk=>by simp[bE]at hk⟩
   obtain⟨k1,o1,g1,g2,g3,g4⟩:=hends.DK k o hk
   exact⟨k1,o1,g1,hrow k1 o1 g2 g3,g4⟩
  ·obtain⟨a1,a2,β1,a3,a4⟩:=hr'
   obtain⟨vs1,q,us,h1,hq,h2,h3⟩:=hends.ends
   obtain⟨xs,hxs,hv,hlen⟩:=Em hT a3 a4 (g:=fun x=>match x with
    |ResultVar.tmp t=>pure (a'.tmps.getD t undef)
    |ResultVar.cell r t=>do let y <-asAddr (a'.tmps.getD r undef);loadVar t y) (fun _=>rfl) (fun _ _=>rfl) h1 hq
   refine⟨if h:xs.length=1 then xs.toArray[0]'(by simpa using(show 0<xs.length by omega))else .tuple xs.toArray,β1,s'.store,?_,a3,hends.DK,?_⟩
   ·have key:results fn a'.tmps=(do
      let vs <-fn.results.mapM fun x=>match x with
       |ResultVar.tmp t=>pure (a'.tmps.getD t undef)
       |ResultVar.cell r t=>do let y <-asAddr (a'.tmps.getD r undef);loadVar t y
      pure (if h:vs.size=1 then vs[0]else Value.tuple vs)):=rfl
    rw[key,Sem.run_bind,Array.mapM_eq_mapM_toList,Sem.run_map,hxs]
    simp only[Result.andThen_ok,Sem.run_pure]
    congr 1
   ·rw[h3]
    exact ahs (hv.weak (c:=c) (c':=c) (ρ:=τ) (fun _ h=>h) (fun k2 k1 h=>by simp[h]) h2)
 obtain⟨x,β1,st1,hrun,hw1,hobj1,hvx⟩:=hfin
 have hkeep1:∀k a,τ k=some a->∀y,β k=some y->β1 a=some y:=by
  intro k a hka y hy
  rcases hτ.dom k a hka with h1|⟨h1,h2⟩
  ·exact hw1.keep a y (by simp only[h1,Option.bind_some];exact hy)
  ·exact absurd (hrel.dom k y hy) (hK k h1 h2).1
 have hβ2:∀k2 k1,τ k2=some k1->(fun k=>match τ k with
   |some a=>β1 a
   |none=>β k) k2=β1 k1:=fun k2 k1 h=>by simp[h]
 have hW2:bB c (de (gA r.post) pre) D' (fun k=>match τ k with
   |some a=>β1 a
   |none=>β k) w':=by
  have hd2:∀k2 a,τ k2=some a->D' k2:=fun k2 a ha=>by
   rcases hτ.dom k2 a ha with h1|⟨h1,h2⟩
   ·obtain⟨o,ho⟩:=hrl a k2 h1
    cases hb:β k2 with
    |some x=>exact hD _ (hrel.dom k2 _ hb)
    |none=>exact hD _ (hrel.eG k2 o ho hb).2
   ·exact(hK k2 h1 h2).2
  refine hw1.weak (c':=c) (ρ:=τ) rfl rfl rfl hτ.inj (fun k o h=>.inl (hobj1 k o h)) hβ2 hd2 (fun k2 y hk=>?_) (fun k2 b N hk=>?_) (fun k y hk=>?_)
  ·split at hk
   ·rename_i a ha
    exact hd2 k2 a ha
   ·exact hD _ (hrel.dom k2 y hk)
  ·split at hk
   ·exact hw1.lt _ b N hk
   ·exact Nat.lt_of_lt_of_le (hrel.lt k2 b N hk) (by have:=hw1.size;rw[<-hw0];exact this)
  ·have hy:=hrel.keep k y hk
   split
   ·rename_i a ha
    exact hkeep1 k a ha y hy
   ·exact hy
 have hO:fM c pre D' β w (gA r.post) r.res x w':=by
  refine⟨_,hW2,⟨fun b o hb ho=>?_,fun k y hk=>?_⟩,?_⟩
  ·have hlt:b<c.w0.heap.size:=by rw[hw0];exact lP ho
   have hmw:¬c.Mw b:=fun hm=>hb (hMw b hm)
   refine⟨?_,?_⟩
   ·rw[hw1.block b hlt hmw]
    show c.w0.heap[b]?=_
    rw[hw0];exact ho
   ·rintro(hm|⟨k,o',N,h1,h2,h3⟩)
    ·exact hb (.inl hm)
    ·rcases hW2.new k o' b N h1 h2 h3 with h4|h4
     ·omega
     ·exact hmw h4
  ·split
   ·rename_i a ha
    exact hkeep1 k a ha y hk
   ·exact hk
  ·refine hvx.mono (fun b o h1 h2=>⟨h2,fun h3=>h1 (CZ (c:={c with k0:=fun a=>(aX rl a).bind β,ro:=none}) rfl (fun k o h=>.inl (hobj1 k o h)) hβ2 b h3)⟩) (fun k y hk=>?_)
   cases h1:τ k with
   |none=>simp[h1]at hk
   |some a=>simpa [h1]using hk
 rcases hex with rfl|rfl
 ·exact hleave x hrun ⟨x,rfl,hO⟩
 ·exact hleave x hrun ⟨x,rfl,hO⟩
theorem pQ (hT:eE P T) {f:FuncId} {fn:Func} {x:Code} (hf:ji P f fn x) {args args0:List AV} {pre pre0:aE} {r:dZ} {K nx:Nat} (rl:List (Nat×Nat)) (hlen:args0.length<=fn.ntmps) (hr:iR nx rl=true)
  (ha:gQ (aX rl) args args0) (hp:pq (aX rl) pre pre0) (hrl:∀a k,aX rl a=some k->∃o,look k pre=some o)
  (hpost:∀k o,look k r.post=some o->(∃o',look k pre=some o')\/(K<=k/\k<K+dw))
  (h:r.need->∀c:Ctx,(∀k x,c.k0 k=some x->(aX rl k).isSome=true)->au P c fn.ntmps x ⟨aU 0 args0,pre0,nx⟩ fun e s'=>(e=.normal\/e=.ret)/\∃τ,vQ rl K pre τ/\(Bs T fn τ pre r s'\/xh T fn τ pre r s')):aS P f K args pre r:=
 S2 hT hf rl hlen hr ha hp hrl hpost fun need c _=>h need c
end core
def l8 (nx:Nat) (vs:List AV):Bool:=(vs.all fun v=>!v.isTuple)&&(bT vs).all fun k=>decide (k<nx)
def jA (nx:Nat):aE->Prop
 |[]=>True
 |(k,o)::l=>(k<nx/\∀i,i<o.len->keys (o.f i)=[])/\jA nx l
theorem PW {nx:Nat}:∀{os:aE},jA nx os->∀{k:Nat} {o:ax},look k os=some o->k<nx/\∀i,i<o.len->keys (o.f i)=[]
 |[],_,k,o,h=>by simp[look]at h
 |(j,b)::l,h,k,o,hk=>by
  simp only[look]at hk
  split at hk
  ·rename_i he
   have:j=k:=by simpa using he
   subst this
   simp only[ay]at hk
   subst hk
   exact h.1
  ·exact PW h.2 hk
theorem MJ {nx:Nat} {u:AV} (hk:∀k∈keys u,k<nx):gX (fun k=>if k<nx then some k else none) u u:=by
 refine⟨rfl,fun M w β cs hc=>?_⟩
 have gen:∀{l:List AV} {cs:List Value},aO M w β l cs->(∀k∈bT l,k<nx)->aO M w (fun k=>(if k<nx then some k else none).bind β) l cs:=by
  intro l cs h
  generalize hβ:β=β' at h
  induction h with
  |nil=>exact fun _=>.nil
  |bool _ ih=>exact fun h=>.bool (ih hβ (by simpa [bT,keys]using h))
  |int _ ih=>exact fun h=>.int (ih hβ (by simpa [bT,keys]using h))
  |rat hs h1 h2 _ _ _ ih=>exact fun h=>.rat hs h1 h2 (ih hβ (by simpa [bT,keys]using h))
  |mag h1 h2 _ ih=>exact fun h=>.mag h1 h2 (ih hβ (by simpa [bT,keys]using h))
  |agg _ _ ih1 ih2=>exact fun h=>.agg (ih1 hβ fun k hk=>h k (by simp only[bT,keys];exact List.mem_append_left _ hk)) (ih2 hβ fun k hk=>h k (by simp only[bT];exact List.mem_append_right _ hk))
  |ak h1 h2 h3 h4 h5 _ _ ih=>exact fun h=>.ak h1 h2 h3 h4 h5 (ih hβ (by simpa [bT,keys]using h))
  |eJ hq h1 h2 h3 h4 h5 _ _ ih=>exact fun h=>.eJ hq h1 h2 h3 h4 h5 (ih hβ (by simpa [bT,keys]using h))
  |vnil _ ih=>exact fun h=>.vnil (ih hβ (by simpa [bT,keys]using h))
  |void hx _ ih=>exact fun h=>.void hx (ih hβ (by simpa [bT,keys]using h))
  |str _ ih=>exact fun h=>.str (ih hβ (by simpa [bT,keys]using h))
  |b9 h1 h2 _ _ ih=>exact fun h=>.b9 h1 h2 (ih hβ (by simpa [bT,keys]using h))
  |@ptr _ k _ _ _ _ _ _ _ _ hk _ ih=>
   intro h
   have:k<nx:=h k (by simp[bT,keys])
   exact .ptr (by simp only[this,if_true,Option.bind_some];rw[<-hβ]at hk ⊢;exact hk) (ih hβ fun k hk=>h k (by simp only[bT];exact List.mem_append_right _ hk))
  |@own _ k _ _ _ _ _ _ _ _ _ hk h1 h2 h4 h3 _ ih=>
   intro h
   have:k<nx:=h k (by simp[bT,keys])
   exact .own (by simp only[this,if_true,Option.bind_some];rw[<-hβ]at hk ⊢;exact hk) h1 h2 h4 h3 (ih hβ fun k hk=>h k (by simp only[bT];exact List.mem_append_right _ hk))
  |own0 h3 _ ih=>exact fun h=>.own0 h3 (ih hβ fun k hk=>h k (by simp only[bT];exact List.mem_append_right _ hk))
  |cC ha _ _ ih1 ih2=>exact fun h=>.cC ha (ih1 hβ fun k hk=>h k (by simp only[bT,keys,List.append_nil]at hk ⊢;exact List.mem_append_left _ hk)) (ih2 hβ fun k hk=>h k (by simp only[bT];exact List.mem_append_right _ hk))
  |func _ hc _ ih1 ih2=>exact fun h=>.func (ih1 hβ fun k hk=>h k (by simp only[bT,keys];exact List.mem_append_left _ hk)) hc (ih2 hβ fun k hk=>h k (by simp only[bT];exact List.mem_append_right _ hk))
 exact gen hc fun k h=>hk k (by rw[F9]at h;exact h)
theorem P0 {nx:Nat}:∀{vs:List AV},l8 nx vs=true->gQ (fun k=>if k<nx then some k else none) vs vs
 |[],_=>trivial
 |v::vs,h=>by
  simp only[l8,List.all_cons,bT,List.all_append,Bool.and_eq_true,Bool.not_eq_true']at h
  obtain⟨⟨h1,h2⟩,h3,h4⟩:=h
  refine⟨⟨h1,MJ fun k hk=>by simpa using List.all_eq_true.1 h3 k hk⟩,P0 ?_⟩
  simp only[l8,Bool.and_eq_true]
  exact⟨h2,h4⟩
theorem qQ {c:Ctx} {s':aK} {ls:List Nat} {vs:List AV} {os:aE} {nx:Nat} (hv:bA ls s'=some (vs,os)) (h0:∀k x,c.k0 k=some x->k<nx) (hok:l8 nx vs=true) (ho:jA nx os):∃ρ,Le c ρ s' ⟨aB ls vs,os,nx⟩:=by
 unfold bA at hv
 simp only[ay,Prod.mk.injEq]at hv
 obtain⟨rfl,rfl⟩:=hv
 refine⟨fun k=>if k<nx then some k else none,?_,BQ (P0 hok),fun k2 o2 hk=>?_,fun k2 k1 hk=>?_,fun k x hk=>by simp[h0 k x hk]⟩
 ·intro a b k ha hb
  split at ha<;>split at hb<;>simp_all
 ·obtain⟨h1,h2⟩:=PW ho hk
  refine .inl ⟨k2,o2,by simp[h1],?_,⟨rfl,rfl,rfl,rfl,fun i hi=>MJ fun k hk=>by rw[h2 i hi]at hk;simp at hk⟩⟩
  rw[nC]at hk
  split at hk
  ·exact hk
  ·simp at hk
 ·split at hk
  ·assumption
  ·simp at hk
section rules
variable {P:Program} {c:Ctx} {nt:Nat} {s:aK} {Q:aq->aK->Prop} {T:Types} {Γ:bz}
theorem au.jh {x y:Code} {i:Nat} (hx:x=.block i (.loop y)) (ls:List Nat) (nx:Nat) (h0:∀k x,c.k0 k=some x->k<nx) {α:Type} (vs:α->List AV) (os:α->aE) (hok:∀a,l8 nx (vs a)=true) (ho:∀a,jA nx (os a)) (I:α->Prop) (μ:α->Nat) (j:α)
  (hv:bA ls s=some (vs j,os j)) (hI:I j)
  (round:∀j,I j->au P c nt y ⟨aB ls (vs j),os j,nx⟩ (fF (fun s'=>∃k,bA ls s'=some (vs k,os k)/\I k/\μ k<μ j) (inBlock i Q))):au P c nt x s Q:=
 au.iX hx (fun a=>⟨aB ls (vs a),os a,nx⟩) I μ j (qQ hv h0 (hok j) (ho j)) hI fun j hj=>(round j hj).mono fun e s' h=>by
  cases e with
  |normal=>
   obtain⟨k,h1,h2,h3⟩:=h
   exact⟨k,qQ h1 h0 (hok k) (ho k),h2,h3⟩
  |exit i=>exact h
  |ret=>exact h
theorem au.kZ {x:Code} {ls:List Nat} {nx:Nat} {vs:List AV} {os:aE} (hv:bA ls s=some (vs,os)) (h0:∀k x,c.k0 k=some x->k<nx) (hok:l8 nx vs=true) (ho:jA nx os) (h:au P c nt x ⟨aB ls vs,os,nx⟩ Q):au P c nt x s Q:=
 .nB (qQ hv h0 hok ho) h
theorem aF.kZ {l:List Code} {ls:List Nat} {nx:Nat} {vs:List AV} {os:aE} (hv:bA ls s=some (vs,os)) (h0:∀k x,c.k0 k=some x->k<nx) (hl:l.isEmpty=false) (hok:l8 nx vs=true) (ho:jA nx os) (h:aF P c nt l ⟨aB ls vs,os,nx⟩ Q):aF P c nt l s Q:=
 .weak hl (qQ hv h0 hok ho) h
theorem aF.Dc (hT:eE P T) (hΓ:bU P Γ) (hm:P.follows .mixedOrders=true) {fn:Func} {forks:List Nat} (n:Nat) {l:List Code} {ls:List Nat} {nx:Nat} {vs:List AV} {os:aE} (hv:bA ls s=some (vs,os)) (h0:∀k x,c.k0 k=some x->k<nx)
  (hok:l8 nx vs=true) (ho:jA nx os) {t:af (List AV)} (hc:cR T Γ forks n fn l ⟨aB ls vs,os,nx⟩=some t) (hd:(l.all fun x=>cD nt x)=true) (hl:l.isEmpty=false) {res:AV} (h:t.all fun _ us=>gJ us res):aF P c nt l s (Fin T fn res):=
 .kZ hv h0 hl hok ho (.fin hT hΓ hm n hc hd h)
theorem aF.gh (hT:eE P T) (hΓ:bU P Γ) (hm:P.follows .mixedOrders=true) {forks:List Nat} (n:Nat) {l:List Code} {ls:List Nat} {nx:Nat} {vs:List AV} {os:aE} (hv:bA ls s=some (vs,os)) (h0:∀k x,c.k0 k=some x->k<nx)
  (hok:l8 nx vs=true) (ho:jA nx os) (ls2:List Nat) {t:af (List AV×aE)} (hc:aH T Γ forks n ls2 l ⟨aB ls vs,os,nx⟩=some t) (hd:(l.all fun x=>cD nt x)=true) (hl:l.isEmpty=false) (h:t.all fun e v=>∀s',bA ls2 s'=some v->Q e s'):aF P c nt l s Q:=
 .kZ hv h0 hl hok ho (.bL hT hΓ hm n ls2 hc hd h)
theorem au.gh (hT:eE P T) (hΓ:bU P Γ) (hm:P.follows .mixedOrders=true) {x:Code} {forks:List Nat} (n:Nat) {ls:List Nat} {nx:Nat} {vs:List AV} {os:aE} (hv:bA ls s=some (vs,os)) (h0:∀k x,c.k0 k=some x->k<nx)
  (hok:l8 nx vs=true) (ho:jA nx os) (ls2:List Nat) {t:af (List AV×aE)} (hc:aH T Γ forks n ls2 [x] ⟨aB ls vs,os,nx⟩=some t) (hd:cD nt x=true) (h:t.all fun e v=>∀s',bA ls2 s'=some v->Q e s'):au P c nt x s Q:=
 .kZ hv h0 hok ho (.bL hT hΓ hm n ls2 hc hd h)
end rules
theorem uV {T:Types} {fn:Func} {ls:List Nat} {vs us ws:List AV} {os ps pre:aE} {s':aK} {τ:Nat->Option Nat} {r:dZ} (hv:bA ls s'=some (vs,os)) (hr:nL (aB ls vs) fn.results.toList=some us) (hle:gQ τ us ws) (hres:r.res=nO ws)
  (he:de (jV r.post) pre=ps) (ho:pq τ os ps):xh T fn τ pre r s':=by
 unfold bA at hv
 simp only[ay,Prod.mk.injEq]at hv
 obtain⟨rfl,rfl⟩:=hv
 refine⟨⟨us,[],ws,Ew hr,trivial,hle,hres⟩,fun k o hk=>?_⟩
 replace hk:=AR hk
 rw[he]at hk
 obtain⟨k1,o1,g1,g2,g3⟩:=FT ho k o hk
 refine⟨k1,o1,g1,?_,g3⟩
 rw[nC]at g2
 split at g2
 ·exact g2
 ·simp at g2
def rJ (g:Nat->List AV->Option dZ):Spec:=fun K args pre=>match fP pre args with
 |some as=>g K as
 |none=>none
theorem wv {P:Program} {f:FuncId} {g:Nat->List AV->Option dZ} (h:∀K args r,bT args=[]->g K args=some r->aS P f K args [] r):
  ∀K args pre r,rJ g K args pre=some r->aS P f K args pre r:=by
 intro K args pre r hg
 unfold rJ at hg
 split at hg
 ·rename_i as has
  have hf:=h K as r (xN has) hg
  intro need
  obtain⟨h1,h2⟩:=hf need
  refine⟨fun k o ho=>.inr ((h1 k o ho).resolve_left fun⟨o',h⟩=>by simp[look]at h),fun c D D' β w vs hw0 hMw hrel hD hK hv=>?_⟩
  have hv':cS (aN c pre β) w bE as vs:=Cq hrel (fun _ _ h=>h) has hv
  exact(hf.frame (pre':=pre) (fun k o hk=>by simp[look]at hk)).use need hrel (fun _ _ h=>h) hD hK (hv'.mono (fun b o h1 h2=>⟨h2,h1⟩) fun k x hx=>by simp[bE]at hx)
 ·simp at hg
theorem EG {K k a:Nat} {pre:aE} (h:K<=k/\k<K+dw):vQ [] K pre (aX [(k,a)]):=
 ⟨fun x y z hx hy=>by
  simp only[aX,look]at hx hy
  split at hx<;>split at hy<;>simp_all,fun x y hx=>by
  simp only[aX,look]at hx
  split at hx
  ·rename_i he
   have:k=x:=by simpa using he
   subst this
   exact .inr h
  ·simp at hx⟩
theorem xe {K k a:Nat} {pre:aE}:vQ [(a,k)] K pre (aX [(k,a)]):=
 ⟨fun x y z hx hy=>by
  simp only[aX,look]at hx hy
  split at hx<;>split at hy<;>simp_all,fun x y hx=>by
  simp only[aX,look]at hx ⊢
  split at hx
  ·rename_i he
   have:k=x:=by simpa using he
   subst this
   simp only[ay]at hx
   subst hx
   exact .inl (by simp)
  ·simp at hx⟩
theorem kr {c:Ctx} (h:c.k0=bE) {nx:Nat}:∀k x,c.k0 k=some x->k<nx:=fun k x hk=>by rw[h]at hk;simp[bE]at hk
theorem eP {ls:List Nat} {s':aK} {vs us:List AV} {os ps:aE} (hv:bA ls s'=some (vs,os)) (h1:vs=us) (h2:os=ps):bA ls s'=some (us,ps):=by rw[hv,h1,h2]
end Go.Am
namespace Go.Am
open AV
def ga (b:Bool) (n:Nat):Int:=if b then-(n:Int)else n
def sQ (b:Bool) (n d:Nat):Rat:=mkRat (ga b n) d
def dS (q:Rat):Nat:=max (bX q.num.natAbs) (bX q.den)
theorem CW {b:Bool} {n:Nat}:(ga b n).natAbs=n:=by unfold ga;split<;>simp
theorem UK {b:Bool}:ga b 0=0:=by unfold ga;split<;>simp
theorem abb {b:Bool} {n g:Nat} (h:g∣n):ga b n/(g:Int)=ga b (n/g):=by
 unfold ga
 split
 ·rw[Int.neg_ediv_of_dvd (Int.natCast_dvd_natCast.2 h)];simp
 ·simp
theorem jH {q:Rat}:q<0↔q.num<0:=by rw[Rat.lt_iff];simp
theorem CC {b:Bool} {n d:Nat} (hd:d≠0):(sQ b n d).num=ga b (n/Nat.gcd n d):=by
 unfold sQ
 rw[Rat.num_mkRat,if_neg hd,CW,Nat.gcd_comm,abb (Nat.gcd_dvd_left n d)]
theorem PO {b:Bool} {n d:Nat} (hd:d≠0):(sQ b n d).den=d/Nat.gcd n d:=by
 unfold sQ
 rw[Rat.den_mkRat,if_neg hd,CW,Nat.gcd_comm]
theorem Gv {b:Bool} {d:Nat}:sQ b 0 d=0:=by unfold sQ;rw[UK];simp
theorem aht {b:Bool} {n d:Nat} (hn:n≠0) (hd:d≠0):decide (sQ b n d<0)=b:=by
 have h1:0<n/Nat.gcd n d:=Nat.div_pos (Nat.le_of_dvd aa (Nat.gcd_dvd_left n d)) (Nat.gcd_pos_of_pos_left _ aa)
 cases b
 ·simp only[bI,jH,CC hd,ga];simp;omega
 ·simp only[bD,jH,CC hd,ga];simp;omega
theorem zx {q:Rat}:Sz q (dS q):=
 ⟨Nat.lt_of_lt_of_le (j6.1 aT) (Nat.pow_le_pow_right aa (Nat.le_max_left _ _)),Nat.lt_of_lt_of_le (j6.1 aT) (Nat.pow_le_pow_right aa (Nat.le_max_right _ _))⟩
theorem dY {q r:Rat} {n k:Nat} (h:q=r) (hs:Sz r k):bg (.rat q n) (.rat r k):=by
 subst h
 refine⟨rfl,fun M w cs hc=>?_⟩
 cases hc with
 |rat _ h1 h2 h3=>cases h3;exact .rat hs h1 h2 .nil
theorem DO {b:Bool} {n d k:Nat} (hd:d≠0) (hn:n<2^k) (hdk:d<2^k):Sz (sQ b n d) k:=by
 refine⟨?_,?_⟩
 ·rw[CC hd,CW];exact Nat.lt_of_le_of_lt (Nat.div_le_self _ _) hn
 ·rw[PO hd];exact Nat.lt_of_le_of_lt (Nat.div_le_self _ _) hdk
theorem l7 (q:Rat):sQ (decide (q<0)) q.num.natAbs q.den=q:=by
 unfold sQ
 have:ga (decide (q<0)) q.num.natAbs=q.num:=by
  unfold ga
  by_cases h:q<0
  ·have:=jH.1 h;simp[h];omega
  ·have:¬q.num<0:=fun h'=>h (jH.2 h')
   simp[h];omega
 rw[this,Rat.mkRat_self]
theorem uC {b:Bool} {x y n d k:Nat} (hn:n≠0) (hd:d≠0) (hx:x=n/Nat.gcd n d) (hy:y=if d/Nat.gcd n d=1 then 0 else d/Nat.gcd n d) (hs:Sz (sQ b n d) k):bg (.agg [.bool b,.mag x,.mag y]) (.rat (sQ b n d) k):=
 tT hs (aht hn hd).symm (by rw[CC hd,CW,hx]) (by rw[PO hd,hy])
theorem pF {k:Nat}:bg (.agg [.bool false,.mag 0,.mag 0]) (.rat 0 (k+1)):=
 tT ⟨by simp[Nat.two_pow_pos],by simp⟩ (by decide) rfl rfl
section down
variable {P:Program} {c:Ctx} {nt:Nat} {s:aK} {Q:aq->aK->Prop} {T:Types}
def gq (c:Ctx) (Q:aq->aK->Prop) (e:aq) (s':aK):Prop:=Q e s'\/∃s2 ρ,Le c ρ s' s2/\Q e s2
theorem au.down {x:Code} (h:au P c nt x s (gq c Q)):au P c nt x s Q:=by
 intro a w hr
 refine wpIn_mono (h a w hr) ?_
 rintro e a' w' ⟨ae,s',h1,h2,hq|⟨s2,ρ,hle,hq⟩⟩
 ·exact⟨ae,s',h1,h2,hq⟩
 ·exact⟨ae,s2,h1,hle.rel h2,hq⟩
theorem B9 {fn:Func} {ls:List Nat} {vs:List AV} {os:aE} {nx:Nat} {s':aK} {e:aq} {t:af (List AV)} {res:AV} (he:ow T fn e ⟨aB ls vs,os,nx⟩=some t) (hv:bA ls s'=some (vs,os)) (h0:∀k x,c.k0 k=some x->k<nx) (hok:l8 nx vs=true) (ho:jA nx os)
  (h:t.all fun _ us=>gJ us res):gq c (Fin T fn res) e s':=by
 obtain⟨ρ,hle⟩:=qQ hv h0 hok ho
 exact .inr ⟨_,ρ,hle,CS he h⟩
theorem aF.lI (hT:eE P T) {Γ:bz} (hΓ:bU P Γ) (hm:P.follows .mixedOrders=true) {fn:Func} {forks:List Nat} (n:Nat) {l:List Code} {ls:List Nat} {nx:Nat} {vs:List AV} {os:aE} (hv:bA ls s=some (vs,os)) (h0:∀k x,c.k0 k=some x->k<nx)
  (hok:l8 nx vs=true) (ho:jA nx os) {t:af (List AV)} (hc:cR T Γ forks n fn l ⟨aB ls vs,os,nx⟩=some t) (hd:(l.all fun x=>cD nt x)=true) (hl:l.isEmpty=false) {res:AV} (h:t.all fun _ us=>gJ us res):aF P c nt l s (gq c (Fin T fn res)):=
 (aF.Dc hT hΓ hm n hv h0 hok ho hc hd hl h).mono fun _ _ h=>.inl h
end down
theorem iE {P:Program} {T:Types} (hT:eE P T) {f:FuncId} {fn:Func} {x:Code} (hf:ji P f fn x) {args:List AV} {r:dZ} (hk:bT args=[]) (hlen:args.length<=fn.ntmps) (hpost:r.post=[])
  (h:r.need->∀c:Ctx,(∀nx k x,c.k0 k=some x->k<nx)->au P c fn.ntmps x ⟨aU 0 args,[],0⟩ (gq c (Fin T fn r.res))) (K:Nat) (pre:aE):aS P f K args pre r:=
 kI hT hf hk hlen hpost (fun need c h0=>.down (h need c fun _=>kr h0)) K pre
mutual
def szA:AV->Prop
 |.rat q n=>Sz q n
 |.agg l=>vD l
 |_=>True
def vD:List AV->Prop
 |[]=>True
 |a::l=>szA a/\vD l
end
theorem aO.sz {M:Nat->Prop} {w:World} {β:aV} {l:List AV} {cs:List Value} (h:aO M w β l cs):vD l:=by
 induction h with
 |nil=>trivial
 |rat hs _ _ _ _ _ ih=>exact⟨hs,ih⟩
 |agg _ _ ih1 ih2=>exact⟨ih1,ih2⟩
 |ak _ _ _ _ _ _ _ ih=>exact⟨trivial,ih⟩
 |eJ _ _ _ _ _ _ _ _ ih=>exact⟨trivial,ih⟩
 |b9 _ _ _ _ ih=>exact⟨trivial,ih⟩
 |func _ _ _ _ ih=>exact⟨trivial,ih⟩
 |cC _ _ _ _ ih=>exact⟨trivial,ih⟩
 |_=>rename_i ih;exact⟨trivial,ih⟩
theorem cS.sz {M:Nat->Prop} {w:World} {β:aV}:∀{l:List AV} {xs:List Value},cS M w β l xs->vD l
 |[],[],_=>trivial
 |a::l,x::xs,h=>by
  obtain⟨⟨cs,h1,_⟩,h2⟩:=h
  exact⟨h1.sz.1,h2.sz⟩
 |[],_::_,h=>h.elim
 |_::_,[],h=>h.elim
theorem Ua {P:Program} {f:FuncId} {K:Nat} {args:List AV} {pre:aE} {r:dZ} (hp:∀k o,look k r.post=some o->(∃o',look k pre=some o')\/(K<=k/\k<K+dw)) (h:vD args->aS P f K args pre r):aS P f K args pre r:=
 fun need=>⟨hp,fun c D D' β w vs h1 h2 h3 h4 h5 hv=>(h hv.sz need).2 c D D' β w vs h1 h2 h3 h4 h5 hv⟩
theorem lQ {P:Program} {f:FuncId} {K:Nat} {args:List AV} {pre:aE} {v:AV} {l:List Prop} (h:vD args->aS P f K args pre ⟨v,[],l⟩):aS P f K args pre ⟨v,[],l⟩:=
 Ua (fun k o hk=>by simp[look]at hk) h
theorem kS {N n:Nat} (h:N<2^n) (hn:n<2^44):nl N<2^40:=by
 have h1:N<2^(32*(n/32+1)):=Nat.lt_of_lt_of_le h (Nat.pow_le_pow_right aa aa)
 have:=eo.2 h1
 omega
theorem Xu {q:Rat}:(if q.den=1 then 0 else q.den)<=q.den:=by split<;>omega
theorem Sz.kQ {q:Rat} {n:Nat} (h:Sz q n) (hn:n<2^44):nl q.num.natAbs<2^40/\nl q.den<2^40/\nl (if q.den=1 then 0 else q.den)<2^40:=
 ⟨kS h.1 hn,kS h.2 hn,Nat.lt_of_le_of_lt (jd Xu) (kS h.2 hn)⟩
theorem Sz.pos {q:Rat} {n:Nat} (h:Sz q n):0<n:=by
 rcases Nat.eq_zero_or_pos n with h1|h1
 ·subst h1;have:=h.2;have:=q.den_nz;omega
 ·exact h1
theorem Sz.more {q:Rat} {n m:Nat} (h:Sz q n) (hm:n<=m):Sz q m:=
 ⟨Nat.lt_of_lt_of_le h.1 (Nat.pow_le_pow_right aa hm),Nat.lt_of_lt_of_le h.2 (Nat.pow_le_pow_right aa hm)⟩
theorem OI {a:Int} {d:Nat}:(mkRat a d).num.natAbs<=a.natAbs:=by
 rw[Rat.num_mkRat]
 split
 ·simp
 ·rw[Int.natAbs_ediv_of_dvd]
  ·exact Nat.div_le_self _ _
  ·exact Int.ofNat_dvd_left.2 (Nat.gcd_dvd_right _ _)
theorem Lr {a:Int} {d:Nat} (h:d≠0):(mkRat a d).den<=d:=by
 rw[Rat.den_mkRat,if_neg h]
 exact Nat.div_le_self _ _
theorem Sz.add {q r:Rat} {n m:Nat} (h:Sz q n) (h':Sz r m):Sz (q+r) (n+m+1):=by
 rw[Rat.add_def']
 have d0:q.den*r.den≠0:=Nat.mul_ne_zero q.den_nz r.den_nz
 have e:2^(n+m+1)=2^n*2^m+2^n*2^m:=by rw[Nat.pow_succ,Nat.pow_add];omega
 have b1:q.num.natAbs*r.den<=2^n*2^m:=Nat.mul_le_mul (Nat.le_of_lt h.1) (Nat.le_of_lt h'.2)
 have b2:r.num.natAbs*q.den<2^m*2^n:=Nat.mul_lt_mul'' h'.1 h.2
 have b3:q.den*r.den<=2^n*2^m:=Nat.mul_le_mul (Nat.le_of_lt h.2) (Nat.le_of_lt h'.2)
 have b4:0<2^n*2^m:=Nat.mul_pos (Nat.two_pow_pos _) (Nat.two_pow_pos _)
 rw[Nat.mul_comm (2^m)]at b2
 refine⟨Nat.lt_of_le_of_lt OI ?_,Nat.lt_of_le_of_lt (Lr d0) aa⟩
 have b5:=Int.natAbs_add_le (q.num*r.den) (r.num*q.den)
 rw[Int.natAbs_mul,Int.natAbs_mul,Int.natAbs_natCast,Int.natAbs_natCast]at b5
 omega
theorem Sz.neg {q:Rat} {n:Nat} (h:Sz q n):Sz (-q) n:=by
 refine⟨?_,?_⟩
 ·rw[Rat.neg_num,Int.natAbs_neg];exact h.1
 ·rw[Rat.neg_den];exact h.2
theorem Sz.sub {q r:Rat} {n m:Nat} (h:Sz q n) (h':Sz r m):Sz (q-r) (n+m+1):=by
 rw[Rat.sub_eq_add_neg];exact h.add h'.neg
theorem Sz.mul {q r:Rat} {n m:Nat} (h:Sz q n) (h':Sz r m):Sz (q*r) (n+m):=by
 rw[Rat.mul_def']
 have d0:q.den*r.den≠0:=Nat.mul_ne_zero q.den_nz r.den_nz
 refine⟨Nat.lt_of_le_of_lt OI ?_,Nat.lt_of_le_of_lt (Lr d0) ?_⟩
 ·rw[Int.natAbs_mul,Nat.pow_add];exact Nat.mul_lt_mul'' h.1 h'.1
 ·rw[Nat.pow_add];exact Nat.mul_lt_mul'' h.2 h'.2
theorem Sz.inv {q:Rat} {n:Nat} (h:Sz q n):Sz q⁻¹ n:=by
 by_cases h0:q=0
 ·subst h0
  rw[Rat.inv_zero]
  exact h
 ·have hn:q.num≠0:=fun h=>h0 (Rat.num_eq_zero.1 h)
  refine⟨?_,?_⟩
  ·rw[Rat.num_inv,Int.natAbs_mul,Int.natAbs_natCast,Int.natAbs_sign_of_ne_zero hn,Nat.one_mul];exact h.2
  ·rw[Rat.den_inv,if_neg hn];exact h.1
theorem Sz.div {q r:Rat} {n m:Nat} (h:Sz q n) (h':Sz r m):Sz (q/r) (n+m):=by
 rw[Rat.div_def];exact h.mul h'.inv
def bN (q:Rat):Int:=if q<0 then-1 else if 0<q then 1 else 0
def js (q r:Rat):Int:=if q<r then-1 else if r<q then 1 else 0
end Go.Am
namespace Go.Am
open AV
def AL (T:Types) (fn:Func) (e:aq) (s:aK):Option (af (List AV×Option ax)):=
 match ow T fn e s with
 |some t=>t.bind fun e us=>some (.leaf e (us,look 0 s.store))
 |none=>none
def BO (T:Types) (Γ:bz) (forks:List Nat) (n:Nat) (fn:Func) (x:Code) (s:aK):Option (af (List AV×Option ax)):=
 match fu T Γ forks n x s with
 |some t=>t.bind (AL T fn)
 |none=>none
theorem JM {P:Program} {T:Types} (hT:eE P T) {Γ:bz} (hΓ:bU P Γ) (hm:P.follows .mixedOrders=true) {f:FuncId} {fn:Func} {x:Code} (hf:ji P f fn x) {k idx es off:Nat} {p:List Nat} {rest:List AV} {o2 o o':ax} {res:AV} {l:List Prop}
  (hkr:bT rest=[]) (hrt:(rest.all fun v=>!v.isTuple)=true) (hlen:rest.length+1<=fn.ntmps) (ho:∀ρ,dL ρ o2 o) {forks:List Nat} (n:Nat) {t:af (List AV×Option ax)}
  (hc:BO T Γ forks n fn x ⟨aU 0 (.ptr 0 idx es off p::rest),[(0,o)],1⟩=some t)
  (h:az l->t.all fun _ v=>gJ v.1 res/\∃o1,v.2=some o1/\o1.row=false/\dL (aX [(k,0)]) o1 o') (K:Nat):
  aS P f K (.ptr k idx es off p::rest) [(k,o2)] ⟨res,[(k,o')],l⟩:=by
 have hrest:∀{rest:List AV},bT rest=[]->(rest.all fun v=>!v.isTuple)=true->gQ (aX [(0,k)]) rest rest:=by
  intro rest
  induction rest with
  |nil=>intro _ _;trivial
  |cons v r ih=>
   intro h1 h2
   simp only[bT,List.append_eq_nil_iff]at h1
   simp only[List.all_cons,Bool.and_eq_true,Bool.not_eq_true']at h2
   exact⟨⟨h2.1,fh h1.1⟩,ih h1.2 h2.2⟩
 refine pQ hT hf (args0:=.ptr 0 idx es off p::rest) (pre0:=[(0,o)]) (nx:=1) [(0,k)] (by simpa using hlen) (by simp[iR]) ⟨⟨rfl,iw rfl⟩,hrest hkr hrt⟩ ⟨⟨k,o2,rfl,by simp[look],ho _⟩,trivial⟩
  (fun a x h=>?_) (fun x o h=>.inl ?_) (fun need c h0=>?_)
 ·simp only[aX,look]at h
  split at h
  ·simp only[ay]at h;subst h;exact⟨_,by simp[look];rfl⟩
  ·simp at h
 ·simp only[look]at h
  split at h
  ·rename_i he
   exact⟨_,by simp only[look,he,if_true];rfl⟩
  ·simp at h
 have h:=h need
 unfold BO at hc
 cases hx:fu T Γ forks n x ⟨aU 0 (.ptr 0 idx es off p::rest),[(0,o)],1⟩with
 |none=>rw[hx]at hc;simp at hc
 |some u=>
  rw[hx]at hc
  refine l6 hT hΓ hm n hf.dst hx (af.fo ?_ (af.kX hc h))
  rintro e s' ⟨v,h1,h2⟩
  unfold AL at h1
  split at h1
  ·rename_i v' hv'
   have h3:=af.kX h1 h2
   have h4:v'.all fun _ us=>gJ us res/\∃o1,look 0 s'.store=some o1/\o1.row=false/\dL (aX [(k,0)]) o1 o':=by
    refine af.fo ?_ h3
    rintro e us ⟨w,g1,g2⟩
    simp only[ay]at g1
    subst g1
    exact g2
   have h5:Fin T fn res e s':=CS hv' (af.fo (fun _ _ h=>h.1) h4)
   have h6:∃o1,look 0 s'.store=some o1/\o1.row=false/\dL (aX [(k,0)]) o1 o':=by
    have:∀{t:af (List AV)},(t.all fun _ us=>gJ us res/\∃o1,look 0 s'.store=some o1/\o1.row=false/\dL (aX [(k,0)]) o1 o')->∃o1,look 0 s'.store=some o1/\o1.row=false/\dL (aX [(k,0)]) o1 o':=by
     intro t
     induction t with
     |leaf e us=>exact fun h=>h.2
     |aj ps t ih=>exact fun h=>ih h.2
     |fork b t1 t2 ih1 ih2=>
      intro h
      cases b with
      |true=>exact ih1 (h.1 rfl)
      |false=>exact ih2 (h.2 rfl)
    exact this h4
   refine⟨h5.1,aX [(k,0)],xe,.inl ⟨h5.2,fun x ox hx=>?_⟩⟩
   obtain⟨o1,g1,g2,g3⟩:=h6
   have he:de (jV [(k,o')]) [(k,o2)]=[(k,o')]:=by simp[de,jV,put]
   replace hx:=AR hx
   rw[he]at hx
   simp only[look]at hx
   split at hx
   ·rename_i hk
    have:k=x:=by simpa using hk
    subst this
    simp only[ay]at hx
    subst hx
    exact⟨0,o1,by simp[aX,look],g1,g2,g3⟩
   ·simp at hx
  ·simp at h1
theorem adn {P:Program} {T:Types} (hT:eE P T) {Γ:bz} (hΓ:bU P Γ) (hm:P.follows .mixedOrders=true) {f:FuncId} {fn:Func} {x:Code} (hf:ji P f fn x) {args:List AV} {o o':ax} {a idx es off ls:Nat} {p:List Nat} {l:List Prop}
  (hka:bT args=[]) (hrt:(args.all fun v=>!v.isTuple)=true) (hlen:args.length<=fn.ntmps) (hres:fn.results.toList=[.tmp ls]) {forks:List Nat} (n:Nat) {e:aq} {q:List Prop}
  (hc:aH T Γ forks n [ls] [x] ⟨aU 0 args,[],0⟩=some (.leaf e ([.ptr a idx es off p],[(a,o)])))
  (he:e=.normal\/e=.ret) (h:∀ρ,dL ρ o o') (K:Nat):aS P f K args [] ⟨.ptr K idx es off p,[(K,o')],l⟩:=by
 have hrest:∀{rest:List AV},bT rest=[]->(rest.all fun v=>!v.isTuple)=true->gQ (aX []) rest rest:=by
  intro rest
  induction rest with
  |nil=>intro _ _;trivial
  |cons v r ih=>
   intro h1 h2
   simp only[bT,List.append_eq_nil_iff]at h1
   simp only[List.all_cons,Bool.and_eq_true,Bool.not_eq_true']at h2
   exact⟨⟨h2.1,fh h1.1⟩,ih h1.2 h2.2⟩
 refine pQ hT hf (args0:=args) (pre0:=[]) (nx:=0) [] hlen rfl (hrest hka hrt) trivial (fun a k h=>by simp[aX,look]at h) (fun k o h=>?_) (fun _ c h0=>?_)
 ·simp only[look]at h
  split at h
  ·rename_i he
   have:K=k:=by simpa using he
   subst this
   exact .inr ⟨aT,by unfold dw;omega⟩
  ·simp at h
 refine au.bL hT hΓ hm n [ls] hc hf.dst fun s' hv=>⟨he,aX [(K,a)],EG ⟨aT,by unfold dw;omega⟩,.inr ?_⟩
 refine uV (us:=[.ptr a idx es off p]) (ws:=[.ptr K idx es off p]) (ps:=[(K,o')]) hv ?_ ⟨⟨rfl,iw (by simp[aX,look])⟩,trivial⟩ rfl rfl ⟨⟨a,_,by simp[aX,look],by simp[look],h _⟩,trivial⟩
 rw[hres]
 simp only[nL,aB,look,beq_self_eq_true,if_true]
 rfl
mutual
def fI (b:Bool):AV->AV->Option AV
 |.rat q n,.rat r m=>some (.rat (cond b q r) (max n m))
 |.int k x,.int j y=>match isKind k j with
  |true=>some (.int k (cond b x y))
  |false=>none
 |.bool x,.bool y=>some (.bool (cond b x y))
 |.ak e n f,.ak e' m g=>match e==e' with
  |true=>some (.ak e (cond b n m) fun i=>cond b (f i) (g i))
  |false=>none
 |.nil,.nil=>some .nil
 |.nil,.ak e n f=>match Nat.blt 0 e with
  |true=>some (.ak e (cond b 0 n) f)
  |false=>none
 |.ak e n f,.nil=>match Nat.blt 0 e with
  |true=>some (.ak e (cond b n 0) f)
  |false=>none
 |.agg l,.agg m=>match oW b l m with
  |some x=>some (.agg x)
  |none=>none
 |_,_=>none
def oW (b:Bool):List AV->List AV->Option (List AV)
 |[],[]=>some []
 |u::l,v::m=>match fI b u v,oW b l m with
  |some x,some y=>some (x::y)
  |_,_=>none
 |_,_=>none
end
mutual
theorem XP:∀{u v x:AV},fI true u v=some x->bg u x
 |.rat q n,v,x,h=>by
  cases v<;>simp only[fI,ay,reduceCtorEq]at h
  subst h;exact oN (Nat.le_max_left ..)
 |.int k a,v,x,h=>by
  cases v<;>simp only[fI,reduceCtorEq]at h
  split at h
  ·simp only[ay]at h;subst h;exact .refl _
  ·simp at h
 |.bool a,v,x,h=>by
  cases v<;>simp only[fI,ay,reduceCtorEq]at h
  subst h;exact .refl _
 |.ak e n f,v,x,h=>by
  cases v<;>simp only[fI,reduceCtorEq]at h
  ·split at h
   ·simp only[ay]at h;subst h;exact .refl _
   ·simp at h
  ·split at h
   ·simp only[ay]at h;subst h;exact .refl _
   ·simp at h
 |.nil,v,x,h=>by
  cases v<;>simp only[fI,ay,reduceCtorEq]at h
  ·split at h
   ·rename_i he
    simp only[ay]at h;subst h
    exact lS (by rw[Nat.blt_eq]at he;exact he)
   ·simp at h
  ·subst h;exact .refl _
 |.agg l,v,x,h=>by
  cases v<;>simp only[fI,reduceCtorEq]at h
  split at h
  ·rename_i hl
   simp only[ay]at h;subst h;exact p8 (Ee hl)
  ·simp at h
 |.mag _,v,x,h=>by simp[fI]at h
 |.eJ _ _ _ _,v,x,h=>by simp[fI]at h
 |.void,v,x,h=>by simp[fI]at h
 |.str _,v,x,h=>by simp[fI]at h
 |.b9 _,v,x,h=>by simp[fI]at h
 |.ptr _ _ _ _ _,v,x,h=>by simp[fI]at h
 |.own _ _ _ _,v,x,h=>by simp[fI]at h
 |.func _ _,v,x,h=>by simp[fI]at h
 |.tuple _,v,x,h=>by simp[fI]at h
 |.cC _ _,v,x,h=>by simp[fI]at h
theorem Ee:∀{u v x:List AV},oW true u v=some x->g7 u x
 |[],v,x,h=>by
  cases v<;>simp only[oW,ay,reduceCtorEq]at h
  subst h;trivial
 |a::l,v,x,h=>by
  cases v<;>simp only[oW,reduceCtorEq]at h
  split at h
  ·rename_i h1 h2
   simp only[ay]at h;subst h;exact⟨XP h1,Ee h2⟩
  ·simp at h
end
mutual
theorem aaF:∀{u v x:AV},fI false u v=some x->bg v x
 |.rat q n,v,x,h=>by
  cases v<;>simp only[fI,ay,reduceCtorEq]at h
  subst h;exact oN (Nat.le_max_right ..)
 |.int k a,v,x,h=>by
  cases v<;>simp only[fI,reduceCtorEq]at h
  split at h
  ·rename_i hk
   have:=By hk
   subst this
   simp only[ay]at h;subst h;exact .refl _
  ·simp at h
 |.bool a,v,x,h=>by
  cases v<;>simp only[fI,ay,reduceCtorEq]at h
  subst h;exact .refl _
 |.ak e n f,v,x,h=>by
  cases v<;>simp only[fI,reduceCtorEq]at h
  ·split at h
   ·rename_i hk
    have:=eq_of_beq hk
    subst this
    simp only[ay]at h;subst h;exact .refl _
   ·simp at h
  ·split at h
   ·rename_i he
    simp only[ay]at h;subst h
    exact lS (by rw[Nat.blt_eq]at he;exact he)
   ·simp at h
 |.nil,v,x,h=>by
  cases v<;>simp only[fI,ay,reduceCtorEq]at h
  ·split at h
   ·simp only[ay]at h;subst h;exact .refl _
   ·simp at h
  ·subst h;exact .refl _
 |.agg l,v,x,h=>by
  cases v<;>simp only[fI,reduceCtorEq]at h
  split at h
  ·rename_i hl
   simp only[ay]at h;subst h;exact p8 (Gj hl)
  ·simp at h
 |.mag _,v,x,h=>by simp[fI]at h
 |.eJ _ _ _ _,v,x,h=>by simp[fI]at h
 |.void,v,x,h=>by simp[fI]at h
 |.str _,v,x,h=>by simp[fI]at h
 |.b9 _,v,x,h=>by simp[fI]at h
 |.ptr _ _ _ _ _,v,x,h=>by simp[fI]at h
 |.own _ _ _ _,v,x,h=>by simp[fI]at h
 |.func _ _,v,x,h=>by simp[fI]at h
 |.tuple _,v,x,h=>by simp[fI]at h
 |.cC _ _,v,x,h=>by simp[fI]at h
theorem Gj:∀{u v x:List AV},oW false u v=some x->g7 v x
 |[],v,x,h=>by
  cases v<;>simp only[oW,ay,reduceCtorEq]at h
  subst h;trivial
 |a::l,v,x,h=>by
  cases v<;>simp only[oW,reduceCtorEq]at h
  split at h
  ·rename_i h1 h2
   simp only[ay]at h;subst h;exact⟨aaF h1,Gj h2⟩
  ·simp at h
end
theorem g7.trans:∀{a b c:List AV},g7 a b->g7 b c->g7 a c
 |[],[],[],_,_=>trivial
 |_::_,_::_,_::_,h,h'=>⟨h.1.trans h'.1,h.2.trans h'.2⟩
 |[],[],_::_,_,h=>h.elim
 |[],_::_,_,h,_=>h.elim
 |_::_,[],_,h,_=>h.elim
 |_::_,_::_,[],_,h=>h.elim
def qV:af (List AV)->Option (List AV×List Prop)
 |.leaf _ us=>some (us,[])
 |.aj ps t=>match qV t with
  |some (us,qs)=>some (us,ps++qs)
  |none=>none
 |.fork b t u=>match qV t,qV u with
  |some (x,p),some (y,q)=>match oW b x y with
   |some z=>match p,q with
    |[],[]=>some (z,[])
    |p,q=>some (z,[b=true->az p,b=false->az q])
   |none=>none
  |_,_=>none
theorem zw:∀{t:af (List AV)} {us:List AV} {ps:List Prop},qV t=some (us,ps)->az ps->t.all fun _ vs=>g7 vs us
 |.leaf e vs,us,ps,h,_=>by
  simp only[qV,ay,Prod.mk.injEq]at h
  obtain⟨rfl,rfl⟩:=h
  exact .refl _
 |.aj l t,us,ps,h,hp=>by
  simp only[qV]at h
  split at h
  ·rename_i h1
   simp only[ay,Prod.mk.injEq]at h
   obtain⟨rfl,rfl⟩:=h
   obtain⟨p1,p2⟩:=gB.1 hp
   exact⟨p1,zw h1 p2⟩
  ·simp at h
 |.fork b t u,us,ps,h,hp=>by
  simp only[qV]at h
  split at h
  ·rename_i x p y q h1 h2
   split at h
   ·rename_i z hz
    have key:us=z/\(b=true->az p)/\(b=false->az q):=by
     split at h
     ·simp only[ay,Prod.mk.injEq]at h
      exact⟨h.1.symm,fun _=>trivial,fun _=>trivial⟩
     ·simp only[ay,Prod.mk.injEq]at h
      obtain⟨rfl,rfl⟩:=h
      exact⟨rfl,hp⟩
    obtain⟨rfl,p1,p2⟩:=key
    refine⟨fun hb=>?_,fun hb=>?_⟩
    ·subst hb
     exact af.fo (fun _ vs hv=>hv.trans (Ee hz)) (zw h1 (p1 rfl))
    ·subst hb
     exact af.fo (fun _ vs hv=>hv.trans (Gj hz)) (zw h2 (p2 rfl))
   ·simp at h
  ·simp at h
def ET (T:Types) (Γ:bz) (forks:List Nat) (fuel:Nat) (fn:Func):Spec:=cw fun args=>
 match Nat.ble args.length fn.ntmps with
 |true=>match cB T Γ forks fuel fn (aI fn) ⟨aU 0 args,[],0⟩with
  |some t=>match qV t with
   |some (us,ps)=>match us with
    |[u]=>some ⟨u,[],ps⟩
    |us=>some ⟨.tuple us,[],ps⟩
   |none=>none
  |none=>none
 |false=>none
theorem ag6 {us:List AV} {v:AV} (h:g7 us [v]):gJ us v:=by
 match us,h with
 |[u],h=>exact h.1
theorem Wq {us vs:List AV} (hv:∀u,vs≠[u]) (h:g7 us vs):gJ us (.tuple vs):=by
 match us,vs,h with
 |[],[],h=>exact h
 |[u],[v],h=>exact absurd rfl (hv v)
 |a::b::l,_::_::_,h=>exact h
 |[u],_::_::_,h=>exact absurd h.2 (by simp[g7])
 |a::b::l,[v],h=>exact absurd h.2 (by simp[g7])
 |[],_::_,h=>exact h.elim
 |_::_,[],h=>exact h.elim
theorem LK {P:Program} {T:Types} (hT:eE P T) {Γ:bz} (hΓ:bU P Γ) (hm:P.follows .mixedOrders=true) {f:FuncId} {fn:Func} (hf:ji P f fn (aI fn)) (forks:List Nat) (fuel:Nat):
  ∀K args pre r,ET T Γ forks fuel fn K args pre=some r->aS P f K args pre r:=by
 refine dc fun K args r hk hs hp=>?_
 split at hs
 ·rename_i hlen
  have hlen:=Nat.le_of_ble_eq_true hlen
  split at hs
  ·rename_i t ht
   split at hs
   ·rename_i us ps hc
    split at hs
    ·simp only[ay]at hs
     subst hs
     exact cF (r:=⟨_,[],ps⟩) hT hΓ hm hf hk hlen rfl fuel ht (fun hn=>af.fo (fun _ vs hv=>ag6 hv) (zw hc hn)) K []
    ·rename_i hne
     simp only[ay]at hs
     subst hs
     exact cF (r:=⟨_,[],ps⟩) hT hΓ hm hf hk hlen rfl fuel ht (fun hn=>af.fo (fun _ vs hv=>Wq hne hv) (zw hc hn)) K []
   ·simp at hs
  ·simp at hs
 ·simp at hs
theorem Aw {P:Program} {Γ:bz} (h:bU P Γ):bU P (sG::Γ):=aL (fun K args pre r hs=>by simp at hs) h
theorem gH {P:Program} {Γ:bz} (h:bU P Γ):bU P (zG::Γ):=aL (fun K args pre r hs=>by simp at hs) h
theorem jq {P:Program} {Γ:bz} (h:bU P Γ):bU P (nG::Γ):=aL (fun K args pre r hs=>by simp at hs) h
end Go.Am
namespace Go.Am
open AV
def kO (rl:List (Nat×Nat)):AV->AV
 |.ptr k i e o p=>match look k rl with
  |some j=>.ptr j i e o p
  |none=>.void
 |.own k e s n=>match look k rl with
  |some j=>.own j e s n
  |none=>match s,n,e with
   |0,0,_+1=>.nil
   |_,_,_=>.void
 |.cC c (.own k e s n)=>match look k rl with
  |some j=>.cC c (.own j e s n)
  |none=>.void
 |v=>v
def mh (rl:List (Nat×Nat)):AV->Bool
 |.ptr k _ _ _ _=>(look k rl).isSome
 |.own k e s n=>(look k rl).isSome||match s,n,e with
  |0,0,_+1=>true
  |_,_,_=>false
 |.tuple _=>false
 |.cC _ (.own k _ _ _)=>(look k rl).isSome
 |v=>(keys v).isEmpty
theorem TY {ρ:Nat->Option Nat} {c c2:Nat} {u v:AV} (hc:c=c2) (hv:v.isAgg=false) (h:gX ρ u v):gX ρ (.cC c u) (.cC c2 v):=by
 subst hc
 refine⟨rfl,fun M w β cs hcs=>?_⟩
 cases hcs with
 |cC _ h1 h2=>cases h2;exact .cC hv (h.2 _ _ _ _ h1) .nil
theorem NT {rl:List (Nat×Nat)} {u v:AV} (hu:u=kO rl v) (hv:mh rl v=true):u.isTuple=false/\gX (aX rl) u v:=by
 subst hu
 cases v with
 |ptr k i e o p=>
  simp only[mh,Option.isSome_iff_exists]at hv
  obtain⟨j,hj⟩:=hv
  simp only[kO,hj]
  exact⟨rfl,iw hj⟩
 |own k e s n=>
  simp only[mh]at hv
  cases hj:look k rl with
  |some j=>
   simp only[kO,hj]
   exact⟨rfl,ec hj rfl rfl⟩
  |none=>
   rw[hj]at hv
   simp only[Option.isSome_none,Bool.false_or]at hv
   split at hv
   ·simp only[kO,hj]
    exact⟨rfl,YR aa⟩
   ·simp at hv
 |tuple l=>simp[mh]at hv
 |cC c v=>
  cases v with
  |own k e s n=>
   simp only[mh,Option.isSome_iff_exists]at hv
   obtain⟨j,hj⟩:=hv
   simp only[kO,hj]
   exact⟨rfl,TY rfl rfl (ec hj rfl rfl)⟩
  |_=>
   simp only[mh,List.isEmpty_iff]at hv
   exact⟨rfl,fh hv⟩
 |_=>
  simp only[mh,List.isEmpty_iff]at hv
  exact⟨rfl,fh hv⟩
theorem G7 {rl:List (Nat×Nat)}:∀{vs us:List AV},us=vs.map (kO rl)->vs.all (mh rl)=true->gQ (aX rl) us vs
 |[],_,h,_=>by subst h;trivial
 |v::vs,_,h,hv=>by
  subst h
  simp only[List.all_cons,Bool.and_eq_true]at hv
  exact⟨NT rfl hv.1,G7 rfl hv.2⟩
def rN:AV->Bool
 |.tuple _=>false
 |v=>(keys v).isEmpty
theorem afw {rl:List (Nat×Nat)} {v:AV} (h:rN v=true):kO rl v=v:=by
 cases v with
 |cC c v=>cases v<;>first|rfl|simp[rN,keys]at h
 |_=>first|rfl|simp[rN,keys]at h
theorem Vr {rl:List (Nat×Nat)} {v:AV} (h:rN v=true):mh rl v=true:=by
 cases v with
 |cC c v=>cases v<;>first|exact h|simp[rN,keys]at h
 |_=>first|exact h|simp[rN,keys]at h
def ng (rl:List (Nat×Nat)) (u v:AV):Prop:=((mh rl v=true/\u=kO rl v)\/gX (aX rl) u v)\/(keys u=[]/\bg u v)
theorem JO {ρ:Nat->Option Nat} {M:Nat->Prop} {w:World} {β:aV}:∀{us vs:List AV} {cs:List Value},gQ ρ us vs->aO M w β us cs->aO M w (fun k=>(ρ k).bind β) vs cs
 |[],[],_,_,h=>by cases h;exact .nil
 |u::us,v::vs,cs,hl,h=>by
  obtain⟨c1,c2,rfl,h1,h2⟩:=h.split
  exact(hl.1.2.2 M w β c1 h1).cons (JO hl.2 h2)
 |[],_::_,_,h,_=>h.elim
 |_::_,[],_,h,_=>h.elim
theorem ng.le {rl:List (Nat×Nat)} {u v:AV} (h:ng rl u v):gX (aX rl) u v:=by
 rcases h with(h|h)|h
 ·exact(NT h.2 h.1).2
 ·exact h
 ·exact iS h.1 h.2
def jG (nx:Nat) (rl:List (Nat×Nat)) (os:aE):aE->Prop
 |[]=>True
 |(k2,o2)::ps=>((look k2 rl=none/\vY o2/\k2<nx)\/∃k1 o1,look k2 rl=some k1/\look k1 os=some o1/\o1.row=o2.row/\o1.wr=o2.wr/\o1.es=o2.es/\o1.len=o2.len/\∀i,i<o2.len->ng rl (o1.f i) (o2.f i))/\jG nx rl os ps
theorem uL {nx:Nat} {rl:List (Nat×Nat)} {os:aE}:∀{ps:aE},jG nx rl os ps->u5 nx (aX rl) os ps
 |[],_=>trivial
 |(k2,o2)::ps,h=>by
  obtain⟨h|⟨k1,o1,h1,h2,h3,h4,h5,h6,h7⟩,h8⟩:=h
  ·exact⟨.inr h,uL h8⟩
  ·exact⟨.inl ⟨k1,o1,h1,h2,⟨h3.symm▸rfl,h4.symm▸rfl,h5.symm▸rfl,h6.symm▸rfl,fun i hi=>(h7 i (h6▸hi)).le⟩⟩,uL h8⟩
theorem bK {rl:List (Nat×Nat)} {u v:AV} (hk:keys u=[]) (h:u=v):ng rl u v:=.inr ⟨hk,h▸.refl _⟩
theorem bk {nx:Nat} {rl:List (Nat×Nat)} {os ps:aE} {k2 k1:Nat} {r w:Bool} {es n m:Nat} {f g:Nat->AV} (hk:look k2 rl=some k1) (ho:look k1 os=some ⟨r,w,es,n,f⟩) (hn:n=m) (h:∀i,i<m->ng rl (f i) (g i))
  (hs:jG nx rl os ps):jG nx rl os ((k2,⟨r,w,es,m,g⟩)::ps):=⟨.inr ⟨k1,_,hk,ho,rfl,rfl,rfl,hn,h⟩,hs⟩
theorem kj {nx:Nat} {rl:List (Nat×Nat)} {os ps:aE} {k2 k1:Nat} {r w:Bool} {es:Nat} {f g:Nat->AV} (hk:look k2 rl=some k1) (ho:look k1 os=some ⟨r,w,es,1,f⟩) (h:ng rl (f 0) (g 0))
  (hs:jG nx rl os ps):jG nx rl os ((k2,⟨r,w,es,1,g⟩)::ps):=bk hk ho rfl (fun i hi=>by rw[Nat.lt_one_iff.1 hi];exact h) hs
theorem lF {nx:Nat} {rl:List (Nat×Nat)} {os ps:aE} {k2 es:Nat} {w:Bool} {f:Nat->AV} (hk:look k2 rl=none) (hes:0<es) (hn:k2<nx) (hs:jG nx rl os ps):jG nx rl os ((k2,⟨true,w,es,0,f⟩)::ps):=⟨.inl ⟨hk,⟨rfl,rfl,hes⟩,hn⟩,hs⟩
def Kept (kp:List Nat) (c:Ctx):Prop:=∀k x,c.k0 k=some x->k∈kp
theorem mR {c:Ctx} (h0:∀nx k x,c.k0 k=some x->k<nx):Kept [] c:=fun k x hk=>absurd (h0 0 k x hk) aa
def dP (kp:List Nat) (v:List AV×aE) (vs:List AV) (os:aE) (nx:Nat):Prop:=
 ∃rl,(iR nx rl&&kp.all fun k=>look k rl==some k)=true/\v.1=vs.map (kO rl)/\vs.all (mh rl)=true/\jG nx rl v.2 os
theorem dP.le {kp:List Nat} {c:Ctx} {s':aK} {ls:List Nat} {v:List AV×aE} {vs:List AV} {os:aE} {nx:Nat} (h:dP kp v vs os nx) (hv:bA ls s'=some v) (h0:Kept kp c):∃ρ,Le c ρ s' ⟨aB ls vs,os,nx⟩:=by
 obtain⟨rl,h1,h2,h3,h4⟩:=h
 simp only[Bool.and_eq_true]at h1
 exact C8 rl hv (fun k x hk=>by simpa using List.all_eq_true.1 h1.2 k (h0 k x hk)) h1.1 (G7 h2 h3) (uL h4)
theorem dP.vals {vs:List AV} {nx:Nat} (h:vs.all rN=true):dP [] (vs,[]) vs [] nx:=by
 simp only[List.all_eq_true]at h
 refine⟨[],rfl,?_,List.all_eq_true.2 fun v hv=>Vr (h v hv),trivial⟩
 have:vs.map (kO [])=vs.map id:=List.map_congr_left fun v hv=>afw (h v hv)
 rw[this,List.map_id]
theorem nq {nt:Nat}:∀{x:Code} {p:List Nat},cD nt x=true->(before x p).all (fun x=>cD nt x)=true
 |.seq x y,0::p,h=>by
  simp only[cD,Bool.and_eq_true]at h
  exact nq (x:=x) h.1
 |.seq x y,(n+1)::p,h=>by
  simp only[cD,Bool.and_eq_true]at h
  simp only[before,List.all_cons,Bool.and_eq_true]
  exact⟨h.1,nq (x:=y) h.2⟩
 |.seq _ _,[],_|.cond _ _ _,_,_|.block _ _,_,_|.loop _,_,_|.region _ _ _,_,_|.skip,_,_|.label _,_,_|.exit _,_,_|.ret,_,_|.scope _,_,_|.goto _,_,_|.refuse _,_,_|.rangeFunc _ _ _ _,_,_=>by simp[before]
theorem vK {nt:Nat}:∀{x:Code} {p:List Nat},cD nt x=true->(behind x p).all (fun x=>cD nt x)=true
 |.seq x y,0::p,h=>by
  simp only[cD,Bool.and_eq_true]at h
  simp only[behind,List.all_append,List.all_cons,List.all_nil,Bool.and_true,Bool.and_eq_true]
  exact⟨vK (x:=x) h.1,h.2⟩
 |.seq x y,(n+1)::p,h=>by
  simp only[cD,Bool.and_eq_true]at h
  exact vK (x:=y) (p:=p) h.2
 |.seq _ _,[],_|.cond _ _ _,_,_|.block _ _,_,_|.loop _,_,_|.region _ _ _,_,_|.skip,_,_|.label _,_,_|.exit _,_,_|.ret,_,_|.scope _,_,_|.goto _,_,_|.refuse _,_,_|.rangeFunc _ _ _ _,_,_=>by simp[behind]
theorem oA {nt:Nat}:∀{x:Code} {p:List Nat},chain x p=true->cD nt x=true->cD nt (part x p)=true
 |x,[],_,h=>by cases x<;>exact h
 |.seq x y,0::p,hc,h=>by
  simp only[cD,Bool.and_eq_true]at h
  exact oA (x:=x) hc h.1
 |.seq x y,(n+1)::p,hc,h=>by
  simp only[cD,Bool.and_eq_true]at h
  exact oA (x:=y) hc h.2
 |.cond _ _ _,_::_,hc,_|.block _ _,_::_,hc,_|.loop _,_::_,hc,_|.region _ _ _,_::_,hc,_|.skip,_::_,hc,_|.label _,_::_,hc,_|.exit _,_::_,hc,_|.ret,_::_,hc,_|.scope _,_::_,hc,_|.goto _,_::_,hc,_|.refuse _,_::_,hc,_|.rangeFunc _ _ _ _,_::_,hc,_=>by simp[chain]at hc
section rules
variable {P:Program} {c:Ctx} {nt:Nat} {s:aK} {Q:aq->aK->Prop} {T:Types} (hT:eE P T) {Γ:bz} (hΓ:bU P Γ) (hm:P.follows .mixedOrders=true)
def Round (kp:List Nat) {α:Type} (V:α->List AV) (O:α->aE) (nx:Nat) (I D:α->Prop) (μ:α->Nat) (i:Nat) (R:List AV×aE->Prop) (a:α):aq->List AV×aE->Prop
 |.normal,v=>∃b,I b/\μ b<μ a/\dP kp v (V b) (O b) nx
 |.exit k,v=>k=i/\∃b,D b/\dP kp v (V b) (O b) nx
 |.ret,v=>R v
include hT hΓ hm in
theorem au.ad3 {x y:Code} {i:Nat} (hx:x=.block i (.loop y)) {kp:List Nat} (h0:Kept kp c) {forks:List Nat} (n:Nat) (L:List Nat) (nx:Nat) {α:Type} (V:α->List AV) (O:α->aE) (I D:α->Prop) (μ:α->Nat) (R:List AV×aE->Prop)
  (a0:α) (hI:I a0) (hs:∃ρ,Le c ρ s ⟨aB L (V a0),O a0,nx⟩) (hd:cD nt y=true)
  (hb:∀a,I a->∃t,aH T Γ forks n L [y] ⟨aB L (V a),O a,nx⟩=some t/\t.all (Round kp V O nx I D μ i R a))
  (hD:∀b s',D b->(∃ρ,Le c ρ s' ⟨aB L (V b),O b,nx⟩)->Q .normal s') (hR:∀v s',R v->bA L s'=some v->Q .ret s'):au P c nt x s Q:=by
 refine au.iX hx (fun a=>⟨aB L (V a),O a,nx⟩) I μ a0 hs hI fun a ha=>?_
 obtain⟨t,h1,h2⟩:=hb a ha
 refine au.bL hT hΓ hm n L h1 hd (af.fo ?_ h2)
 rintro e v hv s' hs'
 cases e with
 |normal=>
  obtain⟨b,g1,g2,g3⟩:=hv
  exact⟨b,g3.le hs' h0,g1,g2⟩
 |exit k=>
  obtain⟨rfl,b,g1,g2⟩:=hv
  exact uR (hD b s' g1 (g2.le hs' h0))
 |ret=>exact hR v s' hv hs'
theorem aF.one {x:Code} (h:au P c nt x s Q):aF P c nt [x] s Q:=h.mono fun e s' h=>by cases e<;>exact h
theorem au.mQ {x:Code} (h:aF P c nt [x] s Q):au P c nt x s Q:=au.mono h fun e s' h=>by cases e<;>exact h
def Start (kp:List Nat) {α:Type} (V:α->List AV) (O:α->aE) (nx:Nat) (I:α->Prop) (R:List AV×aE->Prop):aq->List AV×aE->Prop
 |.normal,v=>∃a,I a/\dP kp v (V a) (O a) nx
 |.ret,v=>R v
 |.exit _,_=>False
include hT hΓ hm in
theorem au.yS {x y:Code} (p:List Nat) {i:Nat} (hc:chain x p=true) (hx:part x p=.block i (.loop y)) (hd:cD nt x=true) {kp:List Nat} (h0:Kept kp c) {f1 f2:List Nat} (n:Nat) (L:List Nat) (nx:Nat) {α:Type} (V:α->List AV) (O:α->aE) (I D:α->Prop) (μ:α->Nat) (R:List AV×aE->Prop)
  (hp:∃t,aH T Γ f1 n L (before x p) s=some t/\t.all (Start kp V O nx I R))
  (hb:∀a,I a->∃t,aH T Γ f2 n L [y] ⟨aB L (V a),O a,nx⟩=some t/\t.all (Round kp V O nx I D μ i R a))
  (hD:∀b s',D b->(∃ρ,Le c ρ s' ⟨aB L (V b),O b,nx⟩)->aF P c nt (behind x p) s' Q) (hR:∀v s',R v->bA L s'=some v->Q .ret s'):au P c nt x s Q:=by
 obtain⟨t,h1,h2⟩:=hp
 refine au.hole p hc (aF.bL hT hΓ hm n L h1 (nq hd) (af.fo ?_ h2))
 rintro e v hv s' hs'
 cases e with
 |normal=>
  obtain⟨a,hI,hre⟩:=hv
  refine(show au P c nt (part x p) s' _ from au.ad3 hT hΓ hm hx h0 n L nx V O I D μ R a hI (hre.le hs' h0) ?_ hb (fun b s' hD' hle=>hD b s' hD' hle) fun v s' hv hs'=>hR v s' hv hs')
  have:=oA (nt:=nt) hc hd
  rw[hx]at this
  exact this
 |ret=>exact hR v s' hv hs'
 |exit k=>exact hv.elim
include hT hΓ hm in
theorem au.rz {x y z:Code} (p:List Nat) {i:Nat} (hc:chain x p=true) (hx:part x p=.block i (.loop y)) (hz:behind x p=[z]) (hd:cD nt x=true) {kp:List Nat} (h0:Kept kp c) {f1 f2:List Nat} (n:Nat) (L:List Nat) (nx:Nat) {α:Type} (V:α->List AV) (O:α->aE) (I D:α->Prop) (μ:α->Nat) (R:List AV×aE->Prop)
  (hp:∃t,aH T Γ f1 n L (before x p) s=some t/\t.all (Start kp V O nx I R))
  (hb:∀a,I a->∃t,aH T Γ f2 n L [y] ⟨aB L (V a),O a,nx⟩=some t/\t.all (Round kp V O nx I D μ i R a))
  (hD:∀b,D b->au P c nt z ⟨aB L (V b),O b,nx⟩ Q) (hR:∀v s',R v->bA L s'=some v->Q .ret s'):au P c nt x s Q:=
 au.yS hT hΓ hm p hc hx hd h0 n L nx V O I D μ R hp hb (fun b s' hD' hle=>by rw[hz];exact aF.weak rfl hle (aF.one (hD b hD'))) hR
def nM (c:Ctx) (L:List Nat) {α:Type} (V:α->List AV) (O:α->aE) (nx:Nat) (I D:α->Prop) (μ:α->Nat) (i:Nat) (R:aK->Prop) (a:α):aq->aK->Prop
 |.normal,s'=>∃b,I b/\μ b<μ a/\∃ρ,Le c ρ s' ⟨aB L (V b),O b,nx⟩
 |.exit k,s'=>k=i/\∃b,D b/\∃ρ,Le c ρ s' ⟨aB L (V b),O b,nx⟩
 |.ret,s'=>R s'
include hT hΓ hm in
theorem au.Zf {x y z:Code} (p:List Nat) {i:Nat} (hc:chain x p=true) (hx:part x p=.block i (.loop y)) (hz:behind x p=[z]) (hd:cD nt x=true) {kp:List Nat} (h0:Kept kp c) {f1:List Nat} (n:Nat) (L:List Nat) (nx:Nat) {α:Type} (V:α->List AV) (O:α->aE) (I D:α->Prop) (μ:α->Nat) (R:List AV×aE->Prop)
  (hp:∃t,aH T Γ f1 n L (before x p) s=some t/\t.all (Start kp V O nx I R))
  (hb:∀a,I a->au P c nt y ⟨aB L (V a),O a,nx⟩ (nM c L V O nx I D μ i (fun s'=>∃v,R v/\bA L s'=some v) a))
  (hD:∀b,D b->au P c nt z ⟨aB L (V b),O b,nx⟩ Q) (hR:∀v s',R v->bA L s'=some v->Q .ret s'):au P c nt x s Q:=by
 obtain⟨t,h1,h2⟩:=hp
 refine au.hole p hc (aF.bL hT hΓ hm n L h1 (nq hd) (af.fo ?_ h2))
 rintro e v hv s' hs'
 cases e with
 |normal=>
  obtain⟨a,hI,hre⟩:=hv
  refine au.iX hx (fun a=>⟨aB L (V a),O a,nx⟩) I μ a (hre.le hs' h0) hI fun a ha=>(hb a ha).mono fun e s' h=>?_
  cases e with
  |normal=>
   obtain⟨b,g1,g2,g3⟩:=h
   exact⟨b,g3,g1,g2⟩
  |exit k=>
   obtain⟨rfl,b,g1,g2⟩:=h
   refine uR ?_
   show aF P c nt (behind x p) s' _
   rw[hz]
   exact aF.weak rfl g2 (aF.one (hD b g1))
  |ret=>
   obtain⟨v,g1,g2⟩:=h
   exact hR v s' g1 g2
 |ret=>exact hR v s' hv hs'
 |exit k=>exact hv.elim
include hT hΓ hm in
theorem au.DA {y x1 zb:Code} (p:List Nat) {j:Nat} (hc:chain y p=true) (hx:part y p=.block j x1) (hz:behind y p=[zb]) (hd:cD nt y=true) {kp:List Nat} (h0:Kept kp c) {f1:List Nat} (n:Nat) (L:List Nat) (nx:Nat) {α:Type} (V:α->List AV) (O:α->aE) (I:α->Prop)
  (hp:∃t,aH T Γ f1 n L (before y p) s=some t/\t.all fun e v=>match e with
   |.normal=>∃a,I a/\dP kp v (V a) (O a) nx
   |e=>∀s',bA L s'=some v->Q e s')
  (hb:∀a,I a->au P c nt x1 ⟨aB L (V a),O a,nx⟩ (inBlock j (fF (fun s'=>au P c nt zb s' Q) Q))):au P c nt y s Q:=by
 obtain⟨t,h1,h2⟩:=hp
 refine au.hole p hc (aF.bL hT hΓ hm n L h1 (nq hd) (af.fo ?_ h2))
 rintro e v hv s' hs'
 cases e with
 |normal=>
  obtain⟨a,hI,hre⟩:=hv
  refine au.nB (hre.le hs' h0) (au.qF hx ((hb a hI).mono fun e s' h=>?_))
  have key:∀{e s'},fF (fun s'=>au P c nt zb s' Q) Q e s'->fF (fun s''=>aF P c nt (behind y p) s'' Q) Q e s':=fun {e s'} h=>by
   cases e with
   |normal=>show aF P c nt (behind y p) s' Q;rw[hz];exact aF.one h
   |exit k=>exact h
   |ret=>exact h
  cases e with
  |normal=>exact key (e:=.normal) h
  |exit k=>
   simp only[inBlock]at h ⊢
   split
   ·rename_i hk;rw[if_pos hk]at h;exact key (e:=.normal) h
   ·rename_i hk;rw[if_neg hk]at h;exact key (e:=.exit k) h
  |ret=>exact key (e:=.ret) h
 |ret=>exact hv s' hs'
 |exit k=>exact hv s' hs'
def tV (fn:Func) (L:List Nat) (res:AV) (v:List AV×aE):Prop:=∃us,G4 fn (aB L v.1)=some us/\gJ us res
theorem tV.fin {fn:Func} {L:List Nat} {res:AV} {v:List AV×aE} {s':aK} (h:tV fn L res v) (hs':bA L s'=some v):gq c (Fin T fn res) .ret s':=by
 obtain⟨us,g1,g2⟩:=h
 exact .inl (iG (.inr rfl) hs' g1 g2)
include hT hΓ hm in
theorem iW {f:FuncId} {fn:Func} (hf:ji P f fn (aI fn)) {args:List AV} {r:dZ} (hk:bT args=[]) (hlen:args.length<=fn.ntmps) (hpost:r.post=[]) (p:List Nat) {i:Nat} {y z:Code} (hc:chain (aI fn) p=true) (hx:part (aI fn) p=.block i (.loop y)) (hz:behind (aI fn) p=[z])
  {f1 f2 f3:List Nat} (n:Nat) (L:List Nat) (nx:Nat) {α:Type} (V:α->List AV) (O:α->aE) (I D:α->Prop) (μ:α->Nat)
  (h:r.need->(∃t,aH T Γ f1 n L (before (aI fn) p) ⟨aU 0 args,[],0⟩=some t/\t.all (Start [] V O nx I (tV fn L r.res)))/\
   (∀a,I a->∃t,aH T Γ f2 n L [y] ⟨aB L (V a),O a,nx⟩=some t/\t.all (Round [] V O nx I D μ i (tV fn L r.res) a))/\
   ∀a,D a->∃t,cR T Γ f3 n fn [z] ⟨aB L (V a),O a,nx⟩=some t/\t.all fun _ us=>gJ us r.res) (K:Nat) (pre:aE):aS P f K args pre r:=by
 refine iE hT hf hk hlen hpost (fun need c h0=>?_) K pre
 obtain⟨hp,hb,he⟩:=h need
 refine au.rz hT hΓ hm p hc hx hz hf.dst (mR h0) n L nx V O I D μ (tV fn L r.res) hp hb (fun a ha=>?_) fun v s' hv hs'=>hv.fin hs'
 obtain⟨t,g1,g2⟩:=he a ha
 have:=vK (x:=aI fn) (p:=p) hf.dst
 rw[hz]at this
 exact au.mQ ((aF.fin hT hΓ hm n g1 this g2).mono fun _ _ h=>.inl h)
def M7 (T:Types) (fn:Func) (k:Nat) (res:AV) (o':ax) (e:aq) (s':aK):Prop:=
 (e=.normal\/e=.ret)/\Ends T fn res s'/\∃o1,look 0 s'.store=some o1/\o1.row=false/\dL (aX [(k,0)]) o1 o'
def Bm (T:Types) (Γ:bz) (forks:List Nat) (n:Nat) (fn:Func) (l:List Code) (s:aK):Option (af (List AV×Option ax)):=
 match sH T Γ forks n l s with
 |some t=>t.bind (AL T fn)
 |none=>none
include hT hΓ hm in
theorem aF.N3 {fn:Func} {forks:List Nat} (n:Nat) {l:List Code} {s:aK} {t:af (List AV×Option ax)} (hc:Bm T Γ forks n fn l s=some t) (hd:(l.all fun x=>cD nt x)=true) {k:Nat} {res:AV} {o':ax}
  (h:t.all fun _ v=>gJ v.1 res/\∃o1,v.2=some o1/\o1.row=false/\dL (aX [(k,0)]) o1 o'):aF P c nt l s (M7 T fn k res o'):=by
 unfold Bm at hc
 split at hc
 ·rename_i u hx
  refine CR hT hΓ hm hd hx (af.fo ?_ (af.kX hc h))
  rintro e s' ⟨v,h1,h2⟩
  unfold AL at h1
  split at h1
  ·rename_i v' hv'
   have h4:v'.all fun _ us=>gJ us res/\∃o1,look 0 s'.store=some o1/\o1.row=false/\dL (aX [(k,0)]) o1 o':=by
    refine af.fo ?_ (af.kX h1 h2)
    rintro e us ⟨w,g1,g2⟩
    simp only[ay]at g1
    subst g1
    exact g2
   have h5:Fin T fn res e s':=CS hv' (af.fo (fun _ _ h=>h.1) h4)
   refine⟨h5.1,h5.2,?_⟩
   have:∀{t:af (List AV)},(t.all fun _ us=>gJ us res/\∃o1,look 0 s'.store=some o1/\o1.row=false/\dL (aX [(k,0)]) o1 o')->∃o1,look 0 s'.store=some o1/\o1.row=false/\dL (aX [(k,0)]) o1 o':=by
    intro t
    induction t with
    |leaf e us=>exact fun h=>h.2
    |aj ps t ih=>exact fun h=>ih h.2
    |fork b t1 t2 ih1 ih2=>
     intro h
     cases b with
     |true=>exact ih1 (h.1 rfl)
     |false=>exact ih2 (h.2 rfl)
   exact this h4
  ·simp at h1
 ·simp at hc
theorem GY {rl:List (Nat×Nat)}:∀{rest:List AV},bT rest=[]->(rest.all fun v=>!v.isTuple)=true->gQ (aX rl) rest rest
 |[],_,_=>trivial
 |v::r,h1,h2=>by
  simp only[bT,List.append_eq_nil_iff]at h1
  simp only[List.all_cons,Bool.and_eq_true,Bool.not_eq_true']at h2
  exact⟨⟨h2.1,fh h1.1⟩,GY h1.2 h2.2⟩
include hT in
theorem LV {f:FuncId} {fn:Func} {x:Code} (hf:ji P f fn x) {k idx es off:Nat} {p:List Nat} {rest:List AV} {o2 o o':ax} {res:AV} {l:List Prop}
  (hkr:bT rest=[]) (hrt:(rest.all fun v=>!v.isTuple)=true) (hlen:rest.length+1<=fn.ntmps) (ho:∀ρ,dL ρ o2 o)
  (h:az l->∀c:Ctx,Kept [0] c->au P c fn.ntmps x ⟨aU 0 (.ptr 0 idx es off p::rest),[(0,o)],1⟩ (M7 T fn k res o')) (K:Nat):
  aS P f K (.ptr k idx es off p::rest) [(k,o2)] ⟨res,[(k,o')],l⟩:=by
 refine pQ hT hf (args0:=.ptr 0 idx es off p::rest) (pre0:=[(0,o)]) (nx:=1) [(0,k)] (by simpa using hlen) (by simp[iR]) ⟨⟨rfl,iw rfl⟩,GY hkr hrt⟩ ⟨⟨k,o2,rfl,by simp[look],ho _⟩,trivial⟩
  (fun a x h=>?_) (fun x o h=>.inl ?_) (fun need c h0=>?_)
 ·simp only[aX,look]at h
  split at h
  ·simp only[ay]at h;subst h;exact⟨_,by simp[look];rfl⟩
  ·simp at h
 ·simp only[look]at h
  split at h
  ·rename_i he
   exact⟨_,by simp only[look,he,if_true];rfl⟩
  ·simp at h
 have hk:Kept [0] c:=fun a y hy=>by
  have:=h0 a y hy
  simp only[aX,look]at this
  split at this
  ·rename_i he;have:=eq_of_beq he;subst this;exact List.mem_singleton_self _
  ·simp at this
 refine(h need c hk).mono fun e s' ⟨h1,h2,o1,g1,g2,g3⟩=>⟨h1,aX [(k,0)],xe,.inl ⟨h2,fun x ox hx=>?_⟩⟩
 have he:de (jV [(k,o')]) [(k,o2)]=[(k,o')]:=by simp[de,jV,put]
 replace hx:=AR hx
 rw[he]at hx
 simp only[look]at hx
 split at hx
 ·rename_i hk
  have:k=x:=by simpa using hk
  subst this
  simp only[ay]at hx
  subst hx
  exact⟨0,o1,by simp[aX,look],g1,g2,g3⟩
 ·simp at hx
end rules
theorem dx {nx:Nat} {rl:List (Nat×Nat)} {os ps:aE} {k2 k1:Nat} {r w:Bool} {es:Nat} {f g:Nat->AV} (hs:jG nx rl os ps) (hk:look k2 rl=some k1:=by exact rfl) (ho:look k1 os=some ⟨r,w,es,1,f⟩:=by exact rfl) (h1:keys (f 0)=[]:=by exact rfl) (h2:f 0=g 0:=by exact rfl):jG nx rl os ((k2,⟨r,w,es,1,g⟩)::ps):=kj hk ho (bK h1 h2) hs
theorem nD {nx:Nat} {rl:List (Nat×Nat)} {os ps:aE} {k2 k1:Nat} {r w:Bool} {es n m:Nat} {f g:Nat->AV} (hs:jG nx rl os ps) (hk:look k2 rl=some k1:=by exact rfl) (ho:look k1 os=some ⟨r,w,es,n,f⟩:=by exact rfl) (hn:n=m:=by exact rfl) (h1:∀i,keys (f i)=[]:=by exact fun _=>rfl) (h2:∀i,f i=g i:=by exact fun _=>rfl):jG nx rl os ((k2,⟨r,w,es,m,g⟩)::ps):=bk hk ho hn (fun i _=>bK (h1 i) (h2 i)) hs
end Go.Am
namespace Go.Am
open AV
theorem C6 {ρ:Nat->Option Nat}:∀{us vs:List AV},bT us=[]->(us.all fun v=>!v.isTuple)=true->g7 us vs->gQ ρ us vs
 |[],[],_,_,_=>trivial
 |u::us,v::vs,h1,h2,h=>by
  simp only[bT,List.append_eq_nil_iff]at h1
  simp only[List.all_cons,Bool.and_eq_true,Bool.not_eq_true']at h2
  exact⟨⟨h2.1,iS h1.1 h.1⟩,C6 h1.2 h2.2 h.2⟩
 |[],_::_,_,_,h=>h.elim
 |_::_,[],_,_,h=>h.elim
section rules
variable {P:Program} {c:Ctx} {nt:Nat} {s:aK} {Q:aq->aK->Prop} {T:Types} (hT:eE P T) {Γ:bz} (hΓ:bU P Γ) (hm:P.follows .mixedOrders=true)
end rules
end Go.Am
namespace Go.Am
open AV
def Hq (fn:Func) (k:Nat) (ws:List AV) (o':ax) (e:aq) (s':aK):Prop:=
 (e=.normal\/e=.ret)/\∃ls vs us os o1,bA ls s'=some (vs,os)/\nL (aB ls vs) fn.results.toList=some us/\gQ (aX [(k,0)]) us ws/\look 0 os=some o1/\dL (aX [(k,0)]) o1 o'
section rules
variable {P:Program} {c:Ctx} {nt:Nat} {s:aK} {Q:aq->aK->Prop} {T:Types} (hT:eE P T) {Γ:bz} (hΓ:bU P Γ) (hm:P.follows .mixedOrders=true)
include hT in
theorem I5 {f:FuncId} {fn:Func} {x:Code} (hf:ji P f fn x) {k es st n:Nat} {rest ws:List AV} {o2 o o':ax} {l:List Prop}
  (hkr:bT rest=[]) (hrt:(rest.all fun v=>!v.isTuple)=true) (hlen:rest.length+1<=fn.ntmps) (ho:∀ρ,dL ρ o2 o)
  (h:az l->∀c:Ctx,Kept [0] c->au P c fn.ntmps x ⟨aU 0 (.own 0 es st n::rest),[(0,o)],1⟩ (Hq fn k ws o')) (K:Nat):
  aS P f K (.own k es st n::rest) [(k,o2)] ⟨nO ws,[(k,o')],l⟩:=by
 refine pQ hT hf (args0:=.own 0 es st n::rest) (pre0:=[(0,o)]) (nx:=1) [(0,k)] (by simpa using hlen) (by simp[iR]) ⟨⟨rfl,ec rfl rfl rfl⟩,GY hkr hrt⟩ ⟨⟨k,o2,rfl,by simp[look],ho _⟩,trivial⟩
  (fun a x h=>?_) (fun x o h=>.inl ?_) (fun need c h0=>?_)
 ·simp only[aX,look]at h
  split at h
  ·simp only[ay]at h;subst h;exact⟨_,by simp[look];rfl⟩
  ·simp at h
 ·simp only[look]at h
  split at h
  ·rename_i he
   exact⟨_,by simp only[look,he,if_true];rfl⟩
  ·simp at h
 have hk:Kept [0] c:=fun a y hy=>by
  have:=h0 a y hy
  simp only[aX,look]at this
  split at this
  ·rename_i he;have:=eq_of_beq he;subst this;exact List.mem_singleton_self _
  ·simp at this
 refine(h need c hk).mono fun e s' ⟨h1,ls,vs,us,os,o1,g1,g2,g3,g4,g5⟩=>⟨h1,aX [(k,0)],xe,.inr (uV (ws:=ws) (ps:=[(k,o')]) g1 g2 g3 rfl (by simp[de,jV,put]) ⟨⟨0,o1,by simp[aX,look],g4,g5⟩,trivial⟩)⟩
include hT in
theorem CG {f:FuncId} {fn:Func} {x:Code} (hf:ji P f fn x) {args args0 ws:List AV} {o':ax} {K:Nat} {l:List Prop} (ha:az l->gQ (aX []) args args0) (hlen:args0.length<=fn.ntmps)
  (h:az l->∀c:Ctx,Kept [] c->au P c fn.ntmps x ⟨aU 0 args0,[],0⟩ fun e s'=>(e=.normal\/e=.ret)/\∃ls vs us os a o,bA ls s'=some (vs,os)/\nL (aB ls vs) fn.results.toList=some us/\gQ (aX [(K,a)]) us ws/\look a os=some o/\dL (aX [(K,a)]) o o'):
  aS P f K args [] ⟨nO ws,[(K,o')],l⟩:=by
 intro need
 refine(pQ hT hf (args0:=args0) (pre0:=[]) (nx:=0) [] hlen rfl (ha need) trivial (fun a k h=>by simp[aX,look]at h) (fun k o h=>?_) (fun need c h0=>?_):aS P f K args [] ⟨nO ws,[(K,o')],l⟩) need
 ·simp only[look]at h
  split at h
  ·rename_i he
   have:K=k:=by simpa using he
   subst this
   exact .inr ⟨aT,by unfold dw;omega⟩
  ·simp at h
 ·refine(h need c fun k x hk=>by simpa [aX,look]using h0 k x hk).mono ?_
  rintro e s' ⟨h1,ls,vs,us,os,a,o,h2,h3,h4,h5,h6⟩
  exact⟨h1,aX [(K,a)],EG ⟨aT,by unfold dw;omega⟩,.inr (uV (ws:=ws) (ps:=[(K,o')]) h2 h3 h4 rfl rfl ⟨⟨a,o,by simp[aX,look],h5,h6⟩,trivial⟩)⟩
end rules
end Go.Am
namespace Go.Am
open AV
section rules
variable {P:Program} {c:Ctx} {nt:Nat} {s:aK} {Q:aq->aK->Prop} {T:Types} (hT:eE P T) {Γ:bz} (hΓ:bU P Γ) (hm:P.follows .mixedOrders=true)
def Head (kp:List Nat) {α:Type} (V:α->List AV) (O:α->aE) (nx:Nat) (D:α->Prop) (i:Nat) (R:List AV×aE->Prop) (G:α->Prop) (a:α):aq->List AV×aE->Prop
 |.normal,v=>G a/\dP kp v (V a) (O a) nx
 |.exit k,v=>k=i/\∃b,D b/\dP kp v (V b) (O b) nx
 |.ret,v=>R v
def ES (kp:List Nat) {α:Type} (V:α->List AV) (O:α->aE) (nx:Nat) (I:α->Prop) (μ:α->Nat) (a:α):aq->List AV×aE->Prop
 |.normal,v=>∃b,I b/\μ b<μ a/\dP kp v (V b) (O b) nx
 |_,_=>False
theorem FB {i:Nat} {y:Code} (h:cD nt (.block i (.loop y))=true):cD nt y=true:=by simpa [cD]using h
theorem F8 {i:Nat} {y:Code} (h:cD nt (.block i y)=true):cD nt y=true:=by simpa [cD]using h
include hT hΓ hm in
theorem au.FM {x:Code} (p:List Nat) (hc:chain x p=true) (hz:behind x p=[]) (hd:cD nt x=true) {kp:List Nat} (h0:Kept kp c) {f1:List Nat} (n:Nat) (L:List Nat) (nx:Nat) {α:Type} (V:α->List AV) (O:α->aE) (I:α->Prop)
  (hp:∃t,aH T Γ f1 n L (before x p) s=some t/\t.all fun e v=>match e with
   |.normal=>∃a,I a/\dP kp v (V a) (O a) nx
   |e=>∀s',bA L s'=some v->Q e s')
  (hb:∀a,I a->au P c nt (part x p) ⟨aB L (V a),O a,nx⟩ Q):au P c nt x s Q:=by
 obtain⟨t,h1,h2⟩:=hp
 refine au.hole p hc (aF.bL hT hΓ hm n L h1 (nq hd) (af.fo ?_ h2))
 rintro e v hv s' hs'
 cases e with
 |normal=>
  obtain⟨a,hI,hre⟩:=hv
  show au P c nt (part x p) s' _
  rw[hz]
  exact au.nB (hre.le hs' h0) ((hb a hI).mono fun e s' h=>by cases e<;>exact h)
 |ret=>exact hv s' hs'
 |exit k=>exact hv s' hs'
include hT hΓ hm in
theorem au.agP {x y x1 zb y2:Code} (p:List Nat) {i:Nat} (hc:chain x p=true) (hx:part x p=.block i (.loop y)) (hd:cD nt x=true)
  (q:List Nat) {j:Nat} (hcq:chain y q=true) (hxq:part y q=.block j x1) (hzq:behind y q=[zb]) (r:List Nat) {i2:Nat} (hcr:chain x1 r=true) (hxr:part x1 r=.block i2 (.loop y2)) (hij:(i==j)=false)
  {kp:List Nat} (h0:Kept kp c) {f1 f2 f3 f4 f5:List Nat} (n:Nat) (L1 L2:List Nat) (nx1 nx2:Nat) {α β:Type} (V1:α->List AV) (O1:α->aE) (I1 D1:α->Prop) (μ1:α->Nat) (G:α->Prop) (R1 R2:List AV×aE->Prop)
  (V2:α->β->List AV) (O2:α->β->aE) (I2 D2:α->β->Prop) (μ2:α->β->Nat)
  (hp:∃t,aH T Γ f1 n L1 (before x p) s=some t/\t.all (Start kp V1 O1 nx1 I1 R1))
  (ho:∀a,I1 a->∃t,aH T Γ f2 n L1 (before y q) ⟨aB L1 (V1 a),O1 a,nx1⟩=some t/\t.all (Head kp V1 O1 nx1 D1 i R1 G a))
  (hi:∀a,I1 a->G a->∃t,aH T Γ f3 n L2 (before x1 r) ⟨aB L1 (V1 a),O1 a,nx1⟩=some t/\t.all (Start kp (V2 a) (O2 a) nx2 (I2 a) R2))
  (hb:∀a,I1 a->G a->∀b,I2 a b->∃t,aH T Γ f4 n L2 [y2] ⟨aB L2 (V2 a b),O2 a b,nx2⟩=some t/\t.all (Round kp (V2 a) (O2 a) nx2 (I2 a) (D2 a) (μ2 a) i2 R2 b))
  (ht:∀a,I1 a->G a->∀b,D2 a b->∃t,aH T Γ f5 n L1 (behind x1 r++[zb]) ⟨aB L2 (V2 a b),O2 a b,nx2⟩=some t/\t.all (ES kp V1 O1 nx1 I1 μ1 a))
  (hD:∀b s',D1 b->(∃ρ,Le c ρ s' ⟨aB L1 (V1 b),O1 b,nx1⟩)->aF P c nt (behind x p) s' Q) (hR1:∀v s',R1 v->bA L1 s'=some v->Q .ret s') (hR2:∀v s',R2 v->bA L2 s'=some v->Q .ret s'):au P c nt x s Q:=by
 have hdy:cD nt y=true:=by
  have:=oA (nt:=nt) hc hd
  rw[hx]at this
  exact FB this
 have hdx1:cD nt x1=true:=by
  have:=oA (nt:=nt) hcq hdy
  rw[hxq]at this
  exact F8 this
 have hdz:((behind x1 r++[zb]).all fun x=>cD nt x)=true:=by
  have h1:=vK (nt:=nt) (p:=r) hdx1
  have h2:=vK (nt:=nt) (p:=q) hdy
  rw[hzq]at h2
  rw[List.all_append,h1,h2];rfl
 obtain⟨t,h1,h2⟩:=hp
 refine au.hole p hc (aF.bL hT hΓ hm n L1 h1 (nq hd) (af.fo ?_ h2))
 rintro e v hv s' hs'
 cases e with
 |ret=>exact hR1 v s' hv hs'
 |exit k=>exact hv.elim
 |normal=>
  obtain⟨a,hI,hre⟩:=hv
  refine(show au P c nt (part x p) s' _ from au.iX hx (fun a=>⟨aB L1 (V1 a),O1 a,nx1⟩) I1 μ1 a (hre.le hs' h0) hI fun a ha=>?_)
  refine au.mono (Q:=nM c L1 V1 O1 nx1 I1 D1 μ1 i (fun s'=>Q .ret s') a) ?_ fun e s' h=>?_
  ·refine au.DA hT hΓ hm q hcq hxq hzq hdy h0 (f1:=f2) n L1 nx1 (fun _:Unit=>V1 a) (fun _=>O1 a) (fun _=>G a) ?_ (fun _ hG=>?_)
   ·obtain⟨t,g1,g2⟩:=ho a ha
    refine⟨t,g1,af.fo ?_ g2⟩
    rintro e v hv
    cases e with
    |normal=>exact⟨(),hv.1,hv.2⟩
    |exit k=>exact fun s' hs'=>⟨hv.1,hv.2.imp fun b hb=>⟨hb.1,hb.2.le hs' h0⟩⟩
    |ret=>exact fun s' hs'=>hR1 v s' hv hs'
   ·refine au.yS hT hΓ hm r hcr hxr hdx1 h0 (f1:=f3) (f2:=f4) n L2 nx2 (V2 a) (O2 a) (I2 a) (D2 a) (μ2 a) R2 (hi a ha hG) (hb a ha hG) (fun b s' hb hle=>?_) (fun v s' hv hs'=>hR2 v s' hv hs')
    obtain⟨t,g1,g2⟩:=ht a ha hG b hb
    have key:aF P c nt (behind x1 r++[zb]) s' (nM c L1 V1 O1 nx1 I1 D1 μ1 i (fun s'=>Q .ret s') a):=by
     refine aF.weak (by cases behind x1 r<;>rfl) hle (aF.bL hT hΓ hm n L1 g1 hdz (af.fo ?_ g2))
     rintro e v hv s' hs'
     cases e with
     |normal=>
      obtain⟨b,k1,k2,k3⟩:=hv
      exact⟨b,k1,k2,k3.le hs' h0⟩
     |exit k=>exact hv.elim
     |ret=>exact hv.elim
    refine aF.mono ?_ (aF.append key)
    rintro e s' h
    cases e with
    |normal=>exact au.mQ h
    |exit k=>
     simp only[inBlock]
     have hk:k=i:=h.1
     rw[if_neg (by rw[hk];simpa using hij)]
     exact h
    |ret=>exact h
  ·cases e with
   |normal=>
    obtain⟨b,g1,g2,g3⟩:=h
    exact⟨b,g3,g1,g2⟩
   |exit k=>
    obtain⟨rfl,b,g1,g2⟩:=h
    refine uR ?_
    show aF P c nt (behind x p) s' _
    exact hD b s' g1 g2
   |ret=>exact h
include hT hΓ hm in
theorem au.qp {x y z x1 zb y2:Code} (p:List Nat) {i:Nat} (hc:chain x p=true) (hx:part x p=.block i (.loop y)) (hz:behind x p=[z]) (hd:cD nt x=true)
  (q:List Nat) {j:Nat} (hcq:chain y q=true) (hxq:part y q=.block j x1) (hzq:behind y q=[zb]) (r:List Nat) {i2:Nat} (hcr:chain x1 r=true) (hxr:part x1 r=.block i2 (.loop y2)) (hij:(i==j)=false)
  {kp:List Nat} (h0:Kept kp c) {f1 f2 f3 f4 f5:List Nat} (n:Nat) (L1 L2:List Nat) (nx1 nx2:Nat) {α β:Type} (V1:α->List AV) (O1:α->aE) (I1 D1:α->Prop) (μ1:α->Nat) (G:α->Prop) (R1 R2:List AV×aE->Prop)
  (V2:α->β->List AV) (O2:α->β->aE) (I2 D2:α->β->Prop) (μ2:α->β->Nat)
  (hp:∃t,aH T Γ f1 n L1 (before x p) s=some t/\t.all (Start kp V1 O1 nx1 I1 R1))
  (ho:∀a,I1 a->∃t,aH T Γ f2 n L1 (before y q) ⟨aB L1 (V1 a),O1 a,nx1⟩=some t/\t.all (Head kp V1 O1 nx1 D1 i R1 G a))
  (hi:∀a,I1 a->G a->∃t,aH T Γ f3 n L2 (before x1 r) ⟨aB L1 (V1 a),O1 a,nx1⟩=some t/\t.all (Start kp (V2 a) (O2 a) nx2 (I2 a) R2))
  (hb:∀a,I1 a->G a->∀b,I2 a b->∃t,aH T Γ f4 n L2 [y2] ⟨aB L2 (V2 a b),O2 a b,nx2⟩=some t/\t.all (Round kp (V2 a) (O2 a) nx2 (I2 a) (D2 a) (μ2 a) i2 R2 b))
  (ht:∀a,I1 a->G a->∀b,D2 a b->∃t,aH T Γ f5 n L1 (behind x1 r++[zb]) ⟨aB L2 (V2 a b),O2 a b,nx2⟩=some t/\t.all (ES kp V1 O1 nx1 I1 μ1 a))
  (hD:∀b,D1 b->au P c nt z ⟨aB L1 (V1 b),O1 b,nx1⟩ Q) (hR1:∀v s',R1 v->bA L1 s'=some v->Q .ret s') (hR2:∀v s',R2 v->bA L2 s'=some v->Q .ret s'):au P c nt x s Q:=
 au.agP hT hΓ hm p hc hx hd q hcq hxq hzq r hcr hxr hij h0 n L1 L2 nx1 nx2 V1 O1 I1 D1 μ1 G R1 R2 V2 O2 I2 D2 μ2 hp ho hi hb ht (fun b s' hb hle=>by rw[hz];exact aF.weak rfl hle (aF.one (hD b hb))) hR1 hR2
end rules
end Go.Am
namespace Go.Am
open AV
section rules
variable {P:Program} {c:Ctx} {nt:Nat} {s:aK} {Q:aq->aK->Prop} {T:Types} (hT:eE P T) {Γ:bz} (hΓ:bU P Γ) (hm:P.follows .mixedOrders=true)
include hT hΓ hm in
theorem au.abC {x y x1 y2:Code} (p:List Nat) {i:Nat} (hc:chain x p=true) (hx:part x p=.block i (.loop y)) (hd:cD nt x=true)
  (q:List Nat) {j:Nat} (hcq:chain y q=true) (hxq:part y q=.block j x1) (hzq:behind y q=[]) (r:List Nat) {i2:Nat} (hcr:chain x1 r=true) (hxr:part x1 r=.block i2 (.loop y2)) (hij:(i==j)=false) (hbe:(behind x1 r).isEmpty=false)
  {kp:List Nat} (h0:Kept kp c) {f1 f2 f3 f4 f5:List Nat} (n:Nat) (L1 L2:List Nat) (nx1 nx2:Nat) {α β:Type} (V1:α->List AV) (O1:α->aE) (I1 D1:α->Prop) (μ1:α->Nat) (G:α->Prop) (R1 R2:List AV×aE->Prop)
  (V2:α->β->List AV) (O2:α->β->aE) (I2 D2:α->β->Prop) (μ2:α->β->Nat)
  (hp:∃t,aH T Γ f1 n L1 (before x p) s=some t/\t.all (Start kp V1 O1 nx1 I1 R1))
  (ho:∀a,I1 a->∃t,aH T Γ f2 n L1 (before y q) ⟨aB L1 (V1 a),O1 a,nx1⟩=some t/\t.all (Head kp V1 O1 nx1 D1 i R1 G a))
  (hi:∀a,I1 a->G a->∃t,aH T Γ f3 n L2 (before x1 r) ⟨aB L1 (V1 a),O1 a,nx1⟩=some t/\t.all (Start kp (V2 a) (O2 a) nx2 (I2 a) R2))
  (hb:∀a,I1 a->G a->∀b,I2 a b->∃t,aH T Γ f4 n L2 [y2] ⟨aB L2 (V2 a b),O2 a b,nx2⟩=some t/\t.all (Round kp (V2 a) (O2 a) nx2 (I2 a) (D2 a) (μ2 a) i2 R2 b))
  (ht:∀a,I1 a->G a->∀b,D2 a b->∃t,aH T Γ f5 n L1 (behind x1 r) ⟨aB L2 (V2 a b),O2 a b,nx2⟩=some t/\t.all (ES kp V1 O1 nx1 I1 μ1 a))
  (hD:∀b s',D1 b->(∃ρ,Le c ρ s' ⟨aB L1 (V1 b),O1 b,nx1⟩)->aF P c nt (behind x p) s' Q) (hR1:∀v s',R1 v->bA L1 s'=some v->Q .ret s') (hR2:∀v s',R2 v->bA L2 s'=some v->Q .ret s'):au P c nt x s Q:=by
 have hdy:cD nt y=true:=by
  have:=oA (nt:=nt) hc hd
  rw[hx]at this
  exact FB this
 have hdx1:cD nt x1=true:=by
  have:=oA (nt:=nt) hcq hdy
  rw[hxq]at this
  exact F8 this
 have hdz:((behind x1 r).all fun x=>cD nt x)=true:=vK (nt:=nt) (p:=r) hdx1
 obtain⟨t,h1,h2⟩:=hp
 refine au.hole p hc (aF.bL hT hΓ hm n L1 h1 (nq hd) (af.fo ?_ h2))
 rintro e v hv s' hs'
 cases e with
 |ret=>exact hR1 v s' hv hs'
 |exit k=>exact hv.elim
 |normal=>
  obtain⟨a,hI,hre⟩:=hv
  refine(show au P c nt (part x p) s' _ from au.iX hx (fun a=>⟨aB L1 (V1 a),O1 a,nx1⟩) I1 μ1 a (hre.le hs' h0) hI fun a ha=>?_)
  refine au.mono (Q:=nM c L1 V1 O1 nx1 I1 D1 μ1 i (fun s'=>Q .ret s') a) ?_ fun e s' h=>?_
  ·refine au.FM hT hΓ hm q hcq hzq hdy h0 (f1:=f2) n L1 nx1 (fun _:Unit=>V1 a) (fun _=>O1 a) (fun _=>G a) ?_ (fun _ hG=>?_)
   ·obtain⟨t,g1,g2⟩:=ho a ha
    refine⟨t,g1,af.fo ?_ g2⟩
    rintro e v hv
    cases e with
    |normal=>exact⟨(),hv.1,hv.2⟩
    |exit k=>exact fun s' hs'=>⟨hv.1,hv.2.imp fun b hb=>⟨hb.1,hb.2.le hs' h0⟩⟩
    |ret=>exact fun s' hs'=>hR1 v s' hv hs'
   ·rw[hxq]
    refine au.yG (au.yS hT hΓ hm r hcr hxr hdx1 h0 (f1:=f3) (f2:=f4) n L2 nx2 (V2 a) (O2 a) (I2 a) (D2 a) (μ2 a) R2 (hi a ha hG) (hb a ha hG) (fun b s' hb hle=>?_) (fun v s' hv hs'=>hR2 v s' hv hs'))
    obtain⟨t,g1,g2⟩:=ht a ha hG b hb
    have key:aF P c nt (behind x1 r) s' (nM c L1 V1 O1 nx1 I1 D1 μ1 i (fun s'=>Q .ret s') a):=by
     refine aF.weak hbe hle (aF.bL hT hΓ hm n L1 g1 hdz (af.fo ?_ g2))
     rintro e v hv s' hs'
     cases e with
     |normal=>
      obtain⟨b,k1,k2,k3⟩:=hv
      exact⟨b,k1,k2,k3.le hs' h0⟩
     |exit k=>exact hv.elim
     |ret=>exact hv.elim
    refine aF.mono ?_ key
    rintro e s' h
    cases e with
    |normal=>exact h
    |exit k=>
     simp only[inBlock]
     have hk:k=i:=h.1
     rw[if_neg (by rw[hk];simpa using hij)]
     exact h
    |ret=>exact h
  ·cases e with
   |normal=>
    obtain⟨b,g1,g2,g3⟩:=h
    exact⟨b,g3,g1,g2⟩
   |exit k=>
    obtain⟨rfl,b,g1,g2⟩:=h
    refine uR ?_
    show aF P c nt (behind x p) s' _
    exact hD b s' g1 g2
   |ret=>exact h
include hT hΓ hm in
theorem au.ag5 {x y x1 y2:Code} (p:List Nat) {i:Nat} (hc:chain x p=true) (hx:part x p=.block i (.loop y)) (hd:cD nt x=true)
  (q:List Nat) {j:Nat} (hcq:chain y q=true) (hxq:part y q=.block j x1) (hzq:behind y q=[]) (r:List Nat) {i2:Nat} (hcr:chain x1 r=true) (hxr:part x1 r=.block i2 (.loop y2)) (hij:(i==j)=false) (hbe:(behind x1 r).isEmpty=false)
  {kp:List Nat} (h0:Kept kp c) {f1 f2 f3 f4:List Nat} (n:Nat) (L1 L2:List Nat) (nx1 nx2:Nat) {α β:Type} (V1:α->List AV) (O1:α->aE) (I1 D1:α->Prop) (μ1:α->Nat) (G:α->Prop) (R1 R2:List AV×aE->Prop)
  (V2:α->β->List AV) (O2:α->β->aE) (I2 D2:α->β->Prop) (μ2:α->β->Nat)
  (hp:∃t,aH T Γ f1 n L1 (before x p) s=some t/\t.all (Start kp V1 O1 nx1 I1 R1))
  (ho:∀a,I1 a->∃t,aH T Γ f2 n L1 (before y q) ⟨aB L1 (V1 a),O1 a,nx1⟩=some t/\t.all (Head kp V1 O1 nx1 D1 i R1 G a))
  (hi:∀a,I1 a->G a->∃t,aH T Γ f3 n L2 (before x1 r) ⟨aB L1 (V1 a),O1 a,nx1⟩=some t/\t.all (Start kp (V2 a) (O2 a) nx2 (I2 a) R2))
  (hb:∀a,I1 a->G a->∀b,I2 a b->∃t,aH T Γ f4 n L2 [y2] ⟨aB L2 (V2 a b),O2 a b,nx2⟩=some t/\t.all (Round kp (V2 a) (O2 a) nx2 (I2 a) (D2 a) (μ2 a) i2 R2 b))
  (ht:∀a,I1 a->G a->∀b,D2 a b->aF P c nt (behind x1 r) ⟨aB L2 (V2 a b),O2 a b,nx2⟩ (nM c L1 V1 O1 nx1 I1 D1 μ1 i (fun _=>False) a))
  (hD:∀b s',D1 b->(∃ρ,Le c ρ s' ⟨aB L1 (V1 b),O1 b,nx1⟩)->aF P c nt (behind x p) s' Q) (hR1:∀v s',R1 v->bA L1 s'=some v->Q .ret s') (hR2:∀v s',R2 v->bA L2 s'=some v->Q .ret s'):au P c nt x s Q:=by
 have hdy:cD nt y=true:=by
  have:=oA (nt:=nt) hc hd
  rw[hx]at this
  exact FB this
 have hdx1:cD nt x1=true:=by
  have:=oA (nt:=nt) hcq hdy
  rw[hxq]at this
  exact F8 this
 obtain⟨t,h1,h2⟩:=hp
 refine au.hole p hc (aF.bL hT hΓ hm n L1 h1 (nq hd) (af.fo ?_ h2))
 rintro e v hv s' hs'
 cases e with
 |ret=>exact hR1 v s' hv hs'
 |exit k=>exact hv.elim
 |normal=>
  obtain⟨a,hI,hre⟩:=hv
  refine(show au P c nt (part x p) s' _ from au.iX hx (fun a=>⟨aB L1 (V1 a),O1 a,nx1⟩) I1 μ1 a (hre.le hs' h0) hI fun a ha=>?_)
  refine au.mono (Q:=nM c L1 V1 O1 nx1 I1 D1 μ1 i (fun s'=>Q .ret s') a) ?_ fun e s' h=>?_
  ·refine au.FM hT hΓ hm q hcq hzq hdy h0 (f1:=f2) n L1 nx1 (fun _:Unit=>V1 a) (fun _=>O1 a) (fun _=>G a) ?_ (fun _ hG=>?_)
   ·obtain⟨t,g1,g2⟩:=ho a ha
    refine⟨t,g1,af.fo ?_ g2⟩
    rintro e v hv
    cases e with
    |normal=>exact⟨(),hv.1,hv.2⟩
    |exit k=>exact fun s' hs'=>⟨hv.1,hv.2.imp fun b hb=>⟨hb.1,hb.2.le hs' h0⟩⟩
    |ret=>exact fun s' hs'=>hR1 v s' hv hs'
   ·rw[hxq]
    refine au.yG (au.yS hT hΓ hm r hcr hxr hdx1 h0 (f1:=f3) (f2:=f4) n L2 nx2 (V2 a) (O2 a) (I2 a) (D2 a) (μ2 a) R2 (hi a ha hG) (hb a ha hG) (fun b s' hb hle=>?_) (fun v s' hv hs'=>hR2 v s' hv hs'))
    have key:aF P c nt (behind x1 r) s' (nM c L1 V1 O1 nx1 I1 D1 μ1 i (fun s'=>Q .ret s') a):=by
     refine aF.weak hbe hle (aF.mono ?_ (ht a ha hG b hb))
     rintro e s' h
     cases e with
     |normal=>exact h
     |exit k=>exact h
     |ret=>exact h.elim
    refine aF.mono ?_ key
    rintro e s' h
    cases e with
    |normal=>exact h
    |exit k=>
     simp only[inBlock]
     have hk:k=i:=h.1
     rw[if_neg (by rw[hk];simpa using hij)]
     exact h
    |ret=>exact h
  ·cases e with
   |normal=>
    obtain⟨b,g1,g2,g3⟩:=h
    exact⟨b,g3,g1,g2⟩
   |exit k=>
    obtain⟨rfl,b,g1,g2⟩:=h
    refine uR ?_
    show aF P c nt (behind x p) s' _
    exact hD b s' g1 g2
   |ret=>exact h
theorem au.dF {x:Code} {t k es s0 n:Nat} {o:ax} (ht:look t s.dB=some (.own k es s0 n)) (hk:look k s.store=some o) (h1:o.row=true) (h2:o.es=es)
  (h:au P c nt x ⟨qC (some t) (.ak es n fun i=>o.f (i+s0)) s.dB,put k {o with wr:=false} s.store,s.next⟩ Q):au P c nt x s Q:=by
 intro a w ⟨hd,hs,β,hw,hsl⟩
 obtain⟨q1,q2⟩:=hw.freeze hk
 refine h a w ⟨hd.iT hw q2,hs,β,q1,fun t' v hv'=>?_⟩
 rw[Db]at hv'
 split at hv'
 ·rename_i he
  simp only[ay]at he hv'
  subst he
  subst hv'
  obtain⟨xv,hx,hv⟩:=hsl t _ ht
  obtain⟨cs,hc,hx2⟩:=(hv.iT q2).one rfl
  have hf:Go.Am.dF (put k {o with wr:=false} s.store) (.own k es s0 n)=some (.ak es n fun i=>o.f (i+s0)):=by
   simp[Go.Am.dF,wW,h1,h2]
  obtain⟨f1,f2⟩:=zq q1 (fun k o h=>h) hf hc
  refine⟨xv,hx,bF.bY ⟨cs,f1.mono (fun b o h1 h2=>⟨h2,h1⟩) _ fun k x hx=>by simp[bE]at hx,.inr ⟨rfl,?_⟩⟩⟩
  rcases hx2 with⟨g,_⟩|⟨_,g⟩
  ·exact Bool.noConfusion g
  ·exact g
 ·obtain⟨y,hy,hvy⟩:=hsl t' v hv'
  exact⟨y,hy,hvy.iT q2⟩
end rules
end Go.Am
namespace Go.Am
open AV
theorem JS {ro:Option Nat} {n m:Nat} {P:Program} {x:Code} {Q:Exit->Act->World->Prop} {a:Act} {w:World} (h:x.wpIn (iy ro) n P Q a w):x.wpIn (iy ro) m P Q a w:=
 fun b k cs h1 h2 _=>h b k cs h1 h2 fun d hd=>by simp[iy]at hd
def nZ (st:aE) (β:aV):Nat->Prop:=fun b=>∃k o,∃N:Nat×Nat,look k st=some o/\o.wr=true/\β k=some (b,N)
section base
variable {c c1:Ctx} {st st':aE} {D D':Nat->Prop} {β β':aV} {w w':World}
theorem bB.H7 (h:bB c st D β w) {b:Nat} (hb:nZ st β b):∃cs ty,w.heap[b]?=some (.cells cs ty (0,0)):=by
 obtain⟨k,o,N,h1,_,h3⟩:=hb
 obtain⟨b',N',cs,ty,q1,q2,_⟩:=h.obj k o h1 _ h3
 rw[h3]at q1
 cases q1
 exact⟨cs,ty,q2⟩
theorem bB.base (h:bB c st D β w) (k0:aV) (ro:Option Nat) (hk:∀k x,k0 k=some x->β k=some x):bB {c with w0:=w,Mw:=nZ st β,k0:=k0,ro:=ro} st D β w:=
 {obj:=h.obj,eG:=h.eG,inj:=h.inj,dom:=h.dom,keep:=hk,lt:=h.lt,os:=rfl,tape:=rfl,output:=rfl,size:=aT,block:=fun _ _ _=>rfl,ig:=fun b hb=>⟨Nat.lt_of_lt_of_le (h.ig b hb).1 h.size,fun⟨k,o,N,h1,h2,h3⟩=>(h.new k o b N h1 h2 h3).elim (fun h4=>Nat.not_lt.2 h4 (h.ig b hb).1) (h.ig b hb).2⟩,new:=fun k o b N h1 h2 h3=>.inr ⟨k,o,N,h1,h2,h3⟩}
theorem bB.back {k0:aV} {ro:Option Nat} (h0:bB c st D β w) (hk:∀k x,c.k0 k=some x->k0 k=some x) (h:bB {c with w0:=w,Mw:=nZ st β,k0:=k0,ro:=ro} st' D' β' w'):bB c st' D' β' w':=by
 have hnw:∀b,b<c.w0.heap.size->¬c.Mw b->¬nZ st β b:=fun b hb hm ⟨k,o,N,h1,h2,h3⟩=>(h0.new k o b N h1 h2 h3).elim (fun h4=>aa) hm
 exact {obj:=h.obj,eG:=h.eG,inj:=h.inj,dom:=h.dom,keep:=fun k x hx=>h.keep k x (hk k x hx),lt:=h.lt,os:=h.os.trans h0.os,tape:=h.tape.trans h0.tape,output:=h.output.trans h0.output,size:=Nat.le_trans h0.size h.size,block:=fun b hb hm=>(h.block b (Nat.lt_of_lt_of_le hb h0.size) (hnw b hb hm)).trans (h0.block b hb hm),ig:=h0.ig,new:=fun k o b N h1 h2 h3=>(h.new k o b N h1 h2 h3).elim (fun h4=>.inl (Nat.le_trans h0.size h4)) fun⟨k',o',N',g1,g2,g3⟩=>h0.new k' o' b N' g1 g2 g3}
theorem bB.hc {k0:aV} {ro:Option Nat} {c':Ctx} (hMf:c'.Mf=c.Mf) (h:bB {c with w0:=w,Mw:=nZ st β,k0:=k0,ro:=ro} st' D' β' w'):HC (aN c st β) w (aN c' st' β') w':=by
 intro b x ty fr hm hb
 have hlt:=lP hb
 refine⟨(h.block b hlt fun hw=>hm (.inr hw)).trans hb,?_⟩
 rintro(hf|⟨k,o,N,g1,g2,g3⟩)
 ·exact hm (.inl (hMf▸hf))
 ·rcases h.new k o b N g1 g2 g3 with g|g
  ·exact absurd hlt (Nat.not_lt.2 g)
  ·exact hm (.inr g)
end base
def QL (P:Program) (gf:FuncId) (lb:Array Value) (n:Nat) (encs:Nat->Array Value) (I:World->Prop):Prop:=
 ∀(l:Nat) (J:Nat->World->Prop),(∀i W,J i W->I W)->(∀i W,i<n->J i W->YieldAt Fence.wide 1 P l (encs i) W fun e W'=>e=.returned (.bool true)/\J (i+1) W')->
  ∀W,J 0 W->CallsIn Fence.wide 2 P gf (#[.func (.yield l) #[] #[]]++lb) W fun e W'=>(∃v,e=.returned v)/\J n W'
def A3 (P:Program) (gf:FuncId) (caps:List AV) (n:Nat) (u v:Nat->AV):Prop:=
 ∀(M:Nat->Prop) (w:World) (β:aV) (lb:List Value),aO M w β caps lb->∃x y:Nat->Value,(∀i,i<n->bP M w bE (u i) (x i)/\bP M w bE (v i) (y i))/\
  QL P gf lb.toArray n (fun i=>#[x i,y i]) fun W=>∀b cs ty fr,¬M b->w.heap[b]?=some (.cells cs ty fr)->W.heap[b]?=some (.cells cs ty fr)
section rule
variable {P:Program} {c:Ctx} {nt:Nat} {s:aK} {Q:aq->aK->Prop}
theorem au.Yh {g:Operand} {p0 p1:Tmp} {assign body:Code} {gf:FuncId} {caps:List AV} {n:Nat} {u v:Nat->AV} {sl:List (Nat×AV)} {st:Nat->aE} {nx:Nat->Nat} {ρ:Nat->Option Nat} (hro:c.ro=none) (h0:Le c ρ s ⟨sl,st 0,nx 0⟩)
  (hg:aK.iI ⟨sl,st 0,nx 0⟩ g=some (.func gf caps)) (heg:∀args w,(callFunc gf args).run P w=.ok (.enter gf args) w) (hit:A3 P gf caps n u v) (hp0:p0<nt) (hp1:p1<nt) (hne:p0≠p1)
  (hround:∀c':Ctx,(∀k x,c'.k0 k=some x->(ρ k).isSome=true)->∀i,i<n->au P c' nt assign ⟨put p1 (v i) (put p0 (u i) sl),st i,nx i⟩ fun e s'=>e=.normal/\
   ∀c':Ctx,(∀k x,c'.k0 k=some x->(ρ k).isSome=true)->au P c' nt body s' fun e s'=>e=.normal/\∃ρ',Le c' ρ' ⟨[],s'.store,s'.next⟩ ⟨[],st (i+1),nx (i+1)⟩)
  (hend:Q .normal ⟨sl,st n,nx n⟩):au P c nt (.rangeFunc g #[p0,p1] assign body) s Q:=by
 intro a w hr
 obtain⟨hdf,hsz,β',hW',hs'⟩:=id hr
 have hr1:=h0.rel hr
 -- the keys at the start
 obtain⟨β0,hβk,hW,hs⟩:∃β0:aV,(∀k x,β0 k=some x->(ρ k).isSome=true)/\bB c (st 0) (fun k=>k<nx 0) β0 w/\qd (aN c (st 0) β0) w β0 sl a.tmps:=by
  exact⟨_,fun k x hk=>by cases h:ρ k<;>simp[h]at hk ⊢,h0.Gi hW' hs'⟩
 obtain⟨lb,hev,hcaps,-⟩:=(Gq hs g _ hg).func
 obtain⟨x,y,hxy,hiter⟩:=hit _ _ _ _ hcaps
 have hro':iy c.ro=Fence.wide:=by rw[hro];rfl
 rw[hro']
 refine wpIn_rangeFunc ?_
 intro fn _
 let rec':LoopState->Loop:=fun q=>{state:=q,pending:=none,fn,tmps:=a.tmps,params:=#[p0,p1],assign,body,defers:=w.heap.size}
 let W1:=(w.alloc (.deferred (some []))).alloc (.loop (rec' .ready))
 let c1:Ctx:={c with w0:=w,Mw:=nZ (st 0) β0,k0:=β0,ro:=none}
 have hc1:bB c1 (st 0) (fun k=>k<nx 0) β0 w:=hW.base β0 none fun _ _ h=>h
 let J:Nat->World->Prop:=fun i W=>∃β,bB c1 (st i) (fun k=>k<nx i) β W/\W.heap[w.heap.size+1]?=some (.loop (rec' .ready))/\W.heap[w.heap.size]?=some (.deferred (some []))
 have hcells:∀{W W':World} {l:Nat} {o o':Obj},W.heap[l]?=some o->o.isCells=false->∀(b:Nat) x ty fr,W.heap[b]?=some (Obj.cells x ty fr)->(W.putObj l o').heap[b]?=some (Obj.cells x ty fr):=by
  intro W W' l o o' h1 h2 b x ty fr h3
  rw[World.putObj_heap_other (fun e=>by subst e;rw[h1]at h3;cases h3;cases h2)];exact h3
 have hJ0:J 0 W1:=by
  refine⟨β0,hc1.xJ (fun b x ty fr hb=>?_) rfl rfl rfl (by simp[W1];omega) (fun b hb=>?_),?_,?_⟩
  ·have hlt:=lP hb
   rw[show W1.heap[b]?=w.heap[b]? from(uf (by simp;omega)).trans (uf hlt)];exact hb
  ·exact(uf (by simp;exact Nat.lt_succ_of_lt hb)).trans (uf hb)
  ·have:=World.alloc_heap_new (w.alloc (.deferred (some []))) (.loop (rec' .ready));rwa [World.size_alloc]at this
  ·exact(uf (by simp)).trans (World.alloc_heap_new w _)
 refine⟨w.heap.size+1,[Lu w.heap.size],W1,{target:=.fn (.func gf) lb.toArray,args:=#[.func (.yield (w.heap.size+1)) #[] #[]]},W1,gf,#[.func (.yield (w.heap.size+1)) #[] #[]]++lb.toArray,W1,?_,?_,fun _ _=>trivial,?_,fun _=>by decide,?_⟩
 ·exact run_enterLoop_outer _ _ _ _ _
 ·simp only[resolve,hev]
  simp[go_sem]
 ·simp[invoke,go_sem,heg]
 have hnl:∀{st:aE} {β:aV} {D:Nat->Prop} {W:World} {c:Ctx} {r:Loop} {l:Nat},bB c st D β W->W.heap[l]?=some (.loop r)->¬nZ st β l:=by
  intro st β D W c r l h h1 h2
  obtain⟨cs,ty,h3⟩:=h.H7 h2
  rw[h1]at h3
  cases h3
 have hnd:∀{st:aE} {β:aV} {D:Nat->Prop} {W:World} {c:Ctx} {l:Nat},bB c st D β W->W.heap[l]?=some (.deferred (some []))->¬nZ st β l:=by
  intro st β D W c l h h1 h2
  obtain⟨cs,ty,h3⟩:=h.H7 h2
  rw[h1]at h3
  cases h3
 have hsl:∀{i:Nat} {β:aV} {W W':World},bB c1 (st i) (fun k=>k<nx i) β W->(∀(b:Nat) x ty fr,W.heap[b]?=some (Obj.cells x ty fr)->W'.heap[b]?=some (Obj.cells x ty fr))->qd (aN c (st i) β) W' β sl a.tmps:=by
  intro i β W W' h hh t v ht
  obtain⟨z,hz,hv⟩:=hs t v ht
  exact⟨z,hz,hv.iN (fun b x ty fr m g=>let ⟨g1,g2⟩:=bB.hc (c':=c) rfl h b x ty fr m g;⟨hh _ _ _ _ g1,g2⟩) fun k x hk=>h.keep k x hk⟩
 refine CallsIn.mono (hiter (w.heap.size+1) J ?_ ?_ W1 hJ0) ?_
 ·rintro i W ⟨β,h,_,_⟩ b cs ty fr hm hb
  exact(bB.hc (c':=c) rfl h b cs ty fr hm hb).1
 ·rintro i W hi ⟨β,h,hl,hk⟩
  refine⟨fn,_,assign,body,run_yield (P:=P) (args:=#[x i,y i]) hl rfl,roundIn_of_wpIn trivial ?_⟩
  have hwl:=lP hl
  refine JS (ro:=some (w.heap.size+1)) (wpIn_mono (hround {c1 with w0:=W,Mw:=nZ (st i) β,k0:=β0,ro:=some (w.heap.size+1)} hβk i hi _ W ⟨.nil,?_,β,h.base β0 _ fun k x hx=>h.keep k x hx,?_⟩) ?_)
  ·simp[rec',hsz]
  ·intro t z ht
   have hsl1:=hsl h (fun _ _ _ _ h=>h)
   have hxy1:=hxy i hi
   have hmono:∀{v:AV} {z:Value},bP (aN c (st 0) β0) w bE v z->bP (aN c (st i) β) W β v z:=fun hv=>
    hv.iN (bB.hc (c':=c) rfl h) fun k x hk=>by simp[bE]at hk
   simp only[wW]at ht
   split at ht
   ·rename_i e
    subst e
    simp only[ay]at ht
    subst ht
    exact⟨y i,by simp[rec',hsz,hp1],hmono hxy1.2⟩
   ·rename_i e1
    split at ht
    ·rename_i e2
     subst e2
     simp only[ay]at ht
     subst ht
     exact⟨x i,by simp[rec',hsz,hp0,Ne.symm hne],hmono hxy1.1⟩
    ·rename_i e2
     obtain⟨q,hq,hv⟩:=hsl1 t z ht
     exact⟨q,by simp[rec',Ne.symm e1,Ne.symm e2,hq],hv⟩
  ·rintro e a1 Wa ⟨ae,s1,rfl,hr2,rfl,hB⟩
   obtain⟨hd1,hsz1,β1,h3,hs1⟩:=hr2
   have hl1:Wa.heap[w.heap.size+1]?=some (.loop (rec' .ready)):=(h3.block _ hwl (hnl h hl)).trans hl
   have hk1:Wa.heap[w.heap.size]?=some (.deferred (some [])):=(h3.block _ (lP hk) (hnd h hk)).trans hk
   refine⟨_,run_beginRound hl1 rfl,?_⟩
   have h3':bB c1 s1.store (fun k=>k<s1.next) β1 Wa:=h.back (fun _ _ h=>h) h3
   obtain⟨Wb,hWb⟩:∃Wb,Wa.putObj (w.heap.size+1) (.loop {rec' .ready with state:=.busy})=Wb:=⟨_,rfl⟩
   have hcb:∀(b:Nat) x ty fr,Wa.heap[b]?=some (Obj.cells x ty fr)->Wb.heap[b]?=some (Obj.cells x ty fr):=by
    rw[<-hWb];exact hcells (W':=w) hl1 rfl
   have h4:bB c1 s1.store (fun k=>k<s1.next) β1 Wb:=h3'.xJ hcb (by rw[<-hWb];rfl) (by rw[<-hWb];rfl) (by rw[<-hWb];rfl) (by rw[<-hWb];simp) (fun b hb=>by rw[<-hWb];exact World.putObj_heap_other (by have:b<w.heap.size:=hb;omega))
   have hlb:Wb.heap[w.heap.size+1]?=some (.loop {rec' .ready with state:=.busy}):=by rw[<-hWb];exact World.putObj_heap_same (lP hl1)
   have hkb:Wb.heap[w.heap.size]?=some (.deferred (some [])):=by rw[<-hWb];exact(World.putObj_heap_other aa).trans hk1
   rw[hWb]
   refine JS (ro:=some (w.heap.size+1)) (wpIn_mono (hB {c1 with w0:=Wb,Mw:=nZ s1.store β1,k0:=β0,ro:=some (w.heap.size+1)} hβk a1 Wb ⟨?_,hsz1,β1,h4.base β0 _ fun k x hx=>h4.keep k x hx,?_⟩) ?_)
   ·rw[hd1.1 rfl];exact .nil
   ·intro t z ht
    obtain⟨q,hq,hv⟩:=hs1 t z ht
    exact⟨q,hq,hv.iN (fun b x ty fr m g=>⟨hcb _ _ _ _ g,m⟩) fun _ _ h=>h⟩
   ·rintro e a3 W3 ⟨ae,s2,rfl,hr3,rfl,ρ',hle⟩
    obtain⟨_,_,β2,h6,_⟩:=hr3
    have hl3:W3.heap[w.heap.size+1]?=some (.loop {rec' .ready with state:=.busy}):=(h6.block _ (lP hlb) (hnl h4 hlb)).trans hlb
    have hk3:W3.heap[w.heap.size]?=some (.deferred (some [])):=(h6.block _ (lP hkb) (hnd h4 hkb)).trans hkb
    have h7:=(hle.Gi (tmps:=#[]) h6 fun t v ht=>by simp[look]at ht).1
    have h8:=h4.back (fun _ _ h=>h) h7
    refine⟨_,_,run_endRound none hl3,rfl,_,h8.xJ (hcells (W':=w) hl3 rfl) rfl rfl rfl (by simp) (fun b hb=>World.putObj_heap_other (by have:b<w.heap.size:=hb;omega)),World.putObj_heap_same (lP hl3),(World.putObj_heap_other aa).trans hk3⟩
 ·rintro e W2 ⟨⟨v,rfl⟩,β,h,hl,hk⟩
  refine⟨none,_,run_endLoop hl (by simp[rec']),.normal,_,rfl,⟨⟨fun h=>by rw[hro]at h;simp at h,?_⟩,hsz,β,(hW.back (fun k x hk=>hW.keep k x hk) h).xJ (hcells (W':=w) hl rfl) rfl rfl rfl (by simp) (fun b hb=>World.putObj_heap_other (by have:=hW.size;omega)),hsl h (hcells (W':=w) hl rfl)⟩,hend⟩
  obtain⟨_,Ds,e1,e2,e3⟩:=hdf
  refine⟨w.heap.size::Ds,by simp[e1],List.nodup_cons.2 ⟨fun hm=>?_,e2⟩,fun D hD=>?_⟩
  ·have:=lP (e3 _ hm).1
   omega
  ·rcases List.mem_cons.1 hD with rfl|hD
   ·exact⟨(World.putObj_heap_other aa).trans hk,hW.size⟩
   ·have hlt:=lP (e3 D hD).1
    refine⟨(World.putObj_heap_other aa).trans ((h.block D hlt (hnd hW (e3 D hD).1)).trans (e3 D hD).1),(e3 D hD).2⟩
end rule
end Go.Am
namespace Go.Am
open AV
def TP (c:Code) (p:List Nat):Array Oper:=match part c p with
 |.region _ ops _=>ops
 |_=>#[]
def AW (c:Code) (p:List Nat):Nat:=match part c p with
 |.region i _ _=>i
 |_=>0
def adV:Oper:={dst:=none,op:=.move (.const undef),type:=0,pos:= "",after:=#[],guard:=none}
def eR (c:Code) (p:List Nat) (i:Nat):Oper:=match(TP c p).toList[i]? with
 |some o=>o
 |none=>adV
def gO (o:Oper) (d:Tmp) (op:Op):Prop:=o.dst=some d/\o.op=op/\o.guard=none
structure M3 (x:Code) (tS tE tI:TypeId):Prop where
 shape:x=.seq (.region (AW x [0]) #[eR x [0] 0,eR x [0] 1,eR x [0] 2,eR x [0] 3] false) (.block 0 (.loop (.seq
  (.seq (.region (AW x [1,0,0,0,0]) #[eR x [1,0,0,0,0] 0,eR x [1,0,0,0,0] 1] false) (.cond (.tmp 8) .skip (.exit 0)))
  (.seq (.block 1 (.seq (.region (AW x [1,0,0,1,0,0,0]) #[eR x [1,0,0,1,0,0,0] 0,eR x [1,0,0,1,0,0,0] 1,eR x [1,0,0,1,0,0,0] 2,eR x [1,0,0,1,0,0,0] 3,eR x [1,0,0,1,0,0,0] 4,eR x [1,0,0,1,0,0,0] 5,eR x [1,0,0,1,0,0,0] 6,eR x [1,0,0,1,0,0,0] 7] false) (.cond (.tmp 18) .ret .skip)))
   (.region (AW x [1,0,0,1,1]) #[eR x [1,0,0,1,1] 0,eR x [1,0,0,1,1] 1,eR x [1,0,0,1,1] 2] false)))))
 o0:gO (eR x [0] 0) 4 (.load tS (.tmp 1))
 o1:gO (eR x [0] 1) 5 (.call ⟨.builtin .len,#[.tmp 4],#[tS]⟩)
 o2:gO (eR x [0] 2) 6 (.binOp .sub tI (.tmp 5) (.const (.int .i64 1)) tI)
 o3:gO (eR x [0] 3) 3 (.assign (.tmp 6))
 p0:gO (eR x [1,0,0,0,0] 0) 7 (.move (.tmp 3))
 p1:gO (eR x [1,0,0,0,0] 1) 8 (.binOp .geq tI (.tmp 7) (.const (.int .i64 0)) tI)
 q0:gO (eR x [1,0,0,1,0,0,0] 0) 11 (.move (.tmp 0))
 q1:gO (eR x [1,0,0,1,0,0,0] 1) 12 (.move (.tmp 3))
 q2:gO (eR x [1,0,0,1,0,0,0] 2) 13 (.load tS (.tmp 1))
 q3:gO (eR x [1,0,0,1,0,0,0] 3) 14 (.move (.tmp 3))
 q4:gO (eR x [1,0,0,1,0,0,0] 4) 15 (.indexAddr tS (.tmp 13) (.tmp 14))
 q5:gO (eR x [1,0,0,1,0,0,0] 5) 16 (.load tE (.tmp 15))
 q6:∃ts,gO (eR x [1,0,0,1,0,0,0] 6) 17 (.call ⟨.value (.tmp 11),#[.tmp 12,.tmp 16],ts⟩)
 q7:∃t,gO (eR x [1,0,0,1,0,0,0] 7) 18 (.unOp .not t (.tmp 17))
 s0:gO (eR x [1,0,0,1,1] 0) 9 (.move (.tmp 3))
 s1:gO (eR x [1,0,0,1,1] 1) 10 (.binOp .sub tI (.tmp 9) (.const (.int .i64 1)) tI)
 s2:gO (eR x [1,0,0,1,1] 2) 3 (.assign (.tmp 10))
section steps
variable {P:Program} {n:Nat} {ops:Array Oper} {Q:Exit->Act->World->Prop} {a:Act} {w:World} {rest:List Oper}
theorem jW {o:Oper} {d:Tmp} {op:Op} (h:gO o d op) (hd:∀c,op≠.defer c) {v:Value} (hrun:(execOp a.eval o).run P w=.ok (.value v) w)
  (hn:wpListIn Fence.wide n P ops Q rest (a.put (some d) v) w):wpListIn Fence.wide n P ops Q (o::rest) a w:=by
 refine wpListIn_plain h.2.2 fun K hK=>⟨fun _ _=>trivial,?_⟩
 rw[Oper.semAt_eq _ _ _ (by rw[h.2.1];exact hd),hrun]
 show K (a.put o.dst v) w
 rw[h.1];exact hK _ _ hn
theorem gL {d t:Tmp} {v:Value}:(a.put (some d) v).tmps[t]?=if t=d then(if d<a.tmps.size then some v else none)else a.tmps[t]?:=by
 simp only[Act.put,Array.getElem?_setIfInBounds]
 by_cases h:d=t
 ·subst h;simp
 ·have:¬t=d:=fun e=>h e.symm
  simp[h,this]
theorem gI {d:Tmp} {v:Value}:(a.put (some d) v).tmps.size=a.tmps.size:=by simp[Act.put]
theorem put_defers {d:Tmp} {v:Value}:(a.put (some d) v).defers=a.defers:=rfl
theorem iO {t:Tmp} {v:Value} (h:a.tmps[t]?=some v):a.eval (.tmp t)=v:=by simp[Act.eval,Array.getD_eq_getD_getElem?,h]
theorem xD {o:Oper} {d:Tmp} {x:Operand} (h:gO o d (.move x)):(execOp a.eval o).run P w=.ok (.value (a.eval x)) w:=by
 simp[execOp,h.2.1]
theorem MB {o:Oper} {d:Tmp} {x:Operand} (h:gO o d (.assign x)):(execOp a.eval o).run P w=.ok (.value (a.eval x)) w:=by
 simp[execOp,h.2.1]
theorem NQ {T:Types} (hT:eE P T) {o:Oper} {d:Tmp} {b:BinOp} {t u:TypeId} {x y:Operand} (h:gO o d (.binOp b t x y u)) {m k:Int} (hx:a.eval x=.int .i64 m) (hy:a.eval y=.int .i64 k) {r:fm} (hr:pg T t b (.int .i64 m) (.int .i64 k)=some r) (need:r.need)
  {v:Value} (hv:∀z,bF (fun _=>False) w bE r.val z->z=v):(execOp a.eval o).run P w=.ok (.value v) w:=by
 have hint:∀k,bP (aN {Mf:=fun _=>False,w0:=w,Mw:=fun _=>False,k0:=bE} [] bE) w bE (.int .i64 k) (.int .i64 k):=fun k=>bF.bY (.cK (.int .nil) rfl)
 have hM:aN {Mf:=fun _=>False,w0:=w,Mw:=fun _=>False,k0:=bE} [] bE=fun _=>False:=by
  funext b;simp[aN,look]
 obtain⟨_,z,hz,hz2⟩:=OB (P:=P) hT (t':=t) (x:=x) (y:=y) (hint m) (hint k) hr need
 rw[hM]at hz2
 have:=hv z hz2
 subst this
 simp only[execOp,h.2.1,hx,hy]
 simp only[Sem.run_bind]at hz ⊢
 revert hz
 cases (eqGuard b t x y (.int .i64 m) (.int .i64 k)).run P w with
 |ok u w'=>
  simp only[Result.andThen_ok]
  intro hz
  rw[hz];rfl
 |_=>intro hz;simp[Result.andThen]at hz
theorem run_load {o:Oper} {d:Tmp} {t:TypeId} {x:Operand} (h:gO o d (.load t x)) {v:Value} (hv:(Instr.loadAt t (a.eval x)).run P w=.ok v w):(execOp a.eval o).run P w=.ok (.value v) w:=by
 simp only[execOp,h.2.1,Sem.run_bind,hv,Result.andThen_ok,Sem.run_pure]
theorem Uh {o:Oper} {d:Tmp} {t:TypeId} {x y:Operand} (h:gO o d (.indexAddr t x y)) {v:Value} (hv:(Instr.indexAt t (a.eval x) (a.eval y)).run P w=.ok v w):(execOp a.eval o).run P w=.ok (.value v) w:=by
 simp only[execOp,h.2.1,Sem.run_bind,hv,Result.andThen_ok,Sem.run_pure]
theorem QE {o:Oper} {d:Tmp} {t:TypeId} {x:Operand} (h:gO o d (.unOp .not t x)) {b:Bool} (hv:a.eval x=.bool b):(execOp a.eval o).run P w=.ok (.value (.bool !b)) w:=by
 simp[execOp,h.2.1,hv,Op.unary]
theorem ZE {o:Oper} {d:Tmp} {t e:TypeId} {x:Operand} (h:gO o d (.call ⟨.builtin .len,#[x],#[t]⟩)) (hu:P.underlying t=some (.slice e)) {base:Option Addr} {m cap:Nat} (hv:a.eval x=.slice base m cap):
  (execOp a.eval o).run P w=.ok (.value (.int .i64 m)) w:=by
 have hres:(execOp a.eval o:Sem Next)=builtin .len #[t] o.type (#[x].map fun|.const _=>true|_=>false) (Array.map a.eval #[x]):=by
  simp only[execOp,h.2.1];rfl
 rw[hres]
 simp[builtin,Builtin.len_,run_underlying hu,goInt,hv]
theorem SK {o:Oper} {d:Tmp} {f:Operand} {xs:Array Operand} {ts:Array TypeId} (h:gO o d (.call ⟨.value f,xs,ts⟩)) {l:Nat} (hf:a.eval f=.func (.yield l) #[] #[]) {vs:Array Value} (hvs:xs.map a.eval=vs)
  {R:Ending->World->Prop} (hy:YieldAt Fence.wide n P l vs w R) (hR:∀e w',R e w'->∃v,e=.returned v/\wpListIn Fence.wide (n+1) P ops Q rest (a.put (some d) v) w'):wpListIn Fence.wide (n+1) P ops Q (o::rest) a w:=by
 refine wpListIn_plain h.2.2 fun K hK=>⟨fun _ _=>trivial,?_⟩
 rw[Oper.semAt_eq _ _ _ (by rw[h.2.1];intro c hc;cases hc)]
 obtain⟨fn,tmps,assign,body,h1,h2⟩:=hy
 have hrun:(execOp a.eval o).run P w=.ok (.round l fn tmps assign body) w:=by
  have:(execOp a.eval o:Sem Next)=Instr.yield l vs:=by
   simp only[execOp,h.2.1,resolve,hf,Deferred.ofValue,hvs]
   simp[invoke]
  rw[this];exact h1
 rw[hrun]
 refine⟨fun _=>aa,RoundIn.mono h2 ?_⟩
 intro e w' he
 obtain⟨v,rfl,hv⟩:=hR e w' he
 show K (a.put o.dst v) w'
 rw[h.1];exact hK _ _ hv
end steps
theorem ae3 {P:Program} {T:Types} (hT:eE P T) {t:TypeId} {ti:TI} (ht:look t T=some ti) (ha:lG ti.desc=true) {w:World} {b o:Nat} {ps:List Value} (hr:w.rangeAt b o ps) (hl:ps.length=ti.size):
  (Instr.loadAt t (.pointer (some ⟨b,o,none⟩))).run P w=.ok (.agg ps.toArray) w:=by
 obtain⟨i,hi,his,_⟩:=(hT t ti ht).info
 refine run_loadAt_mid (P:=P) w b o t ps ti.desc hr (hT t ti ht).dR ?_ (by rw[hi];simp[his,hl])
 cases hd:ti.desc<;>simp_all [lG,TypeDesc.isRow]
theorem afB {P:Program} {T:Types} (hT:eE P T) {t:TypeId} {ti:TI} (ht:look t T=some ti) {e:TypeId} (hd:ti.desc=.slice e) {w:World} {b o:Nat} {x:Value} (hr:w.rangeAt b o [x]):
  (Instr.loadAt t (.pointer (some ⟨b,o,none⟩))).run P w=.ok x w:=by
 have hc:w.cell? ⟨b,o,none⟩=some x:=by simpa using hr 0 x (by simp)
 have hg:(isAgg t).run P w=.ok false w:=by
  unfold Go.isAgg
  rw[Sem.run_bind,run_underlying (hT t ti ht).dR w,hd];simp
 simp[Instr.loadAt,Instr.sureAddr,loadVar,Sem.run_bind,hg,hc]
def Oo (n l b0 off0:Nat) (J:Nat->World->Prop) (i:Nat) (a:Act) (W:World):Prop:=
 i<=n/\a.tmps.size=19/\a.tmps[0]?=some (.func (.yield l) #[] #[])/\a.tmps[1]?=some (.pointer (some ⟨b0,off0,none⟩))/\a.tmps[3]?=some (.int .i64 ((n:Int)-1-i))/\a.defers=[]/\J i W
set_option maxHeartbeats 400000 in
theorem Th {P:Program} {T:Types} (hT:eE P T) {tS tE tI:TypeId} {tiS tiE:TI} (hS:look tS T=some tiS) (hdS:tiS.desc=.slice tE) (hE:look tE T=some tiE) (hA:lG tiE.desc=true) {gf:FuncId} {fn:Func} {x:Code}
  (hf:P.funcs[gf]?=some fn) (hb:fn.body=some x) (hnt:fn.ntmps=19) (hres:fn.results=#[]) (hx:M3 x tS tE tI) {n es:Nat} {f:Nat->AV} (hn:n<2^62) (hes:tiE.size=es) (hag:∀i,i<n->(f i).isAgg=true/\(f i).isTuple=false):
  A3 P gf [.b9 (.ak es n f)] n (fun i=>.int .i64 ((n:Int)-1-i)) (fun i=>f (n-1-i)):=by
 intro M w β lb hlb
 obtain⟨b0,off0,ps0,hlb0,hps,hmem⟩:∃b o ps,lb=[.pointer (some ⟨b,o,none⟩)]/\aO M w bE [.ak es n f] ps/\iz M w b o ps:=by
  cases hlb with
  |b9 h1 h2 h3=>cases h3;exact⟨_,_,_,rfl,h1,h2⟩
 subst hlb0
 obtain⟨base,cap,cf,hps0,g1,g2,g3,g4,g5⟩:∃base cap,∃cf:Nat->List Value,ps0=[.slice base n cap]/\(n=0\/∃b o,base=some ⟨b,o,none⟩/\∀i,i<n->iz M w b (o+i*es) (cf i))/\0<es/\n<=cap/\
   (∀i,i<n->(cf i).length=es)/\∀i,i<n->aO M w bE [f i] (cf i):=by
  cases hps with
  |ak h1 h2 h3 h4 h5 h6=>cases h6;exact⟨_,_,_,rfl,h1,h2,h3,h4,h5⟩
 subst hps0
 refine⟨fun i=>.int .i64 ((n:Int)-1-i),fun i=>.agg (cf (n-1-i)).toArray,fun i hi=>⟨bF.bY (.cK (.int .nil) rfl),?_⟩,?_⟩
 ·exact bF.bY (bF.zo (g5 _ aa) (hag _ aa).1)
 intro l J hJ hY W0 hW0
 have hu:=hdS▸(hT tS tiS hS).dR
 have hls:∀i W,J i W->(Instr.loadAt tS (.pointer (some ⟨b0,off0,none⟩))).run P W=.ok (.slice base n cap) W:=fun i W hj=>by
  obtain⟨c,ty,fr,h1,h2,h3⟩:=hmem
  refine afB hT hS hdS ?_
  intro j v hv
  rw[uv (hJ i W hj _ _ _ _ h2 h1)]
  exact h3 j v hv
 refine callsIn_of_wp hf hb trivial ?_ rfl
 generalize ha0:({tmps:=(#[Value.func (.yield l) #[] #[]]++[Value.pointer (some ⟨b0,off0,none⟩)].toArray)++Array.replicate (fn.ntmps-(#[Value.func (.yield l) #[] #[]]++[Value.pointer (some ⟨b0,off0,none⟩)].toArray).size) undef,defers:=[]}:Act)=a0
 have hB:a0.tmps.size=19/\a0.tmps[0]?=some (.func (.yield l) #[] #[])/\a0.tmps[1]?=some (.pointer (some ⟨b0,off0,none⟩))/\a0.defers=[]:=by
  subst ha0;rw[hnt];exact⟨by simp,by simp,by simp,rfl⟩
 clear ha0
 rw[hx.shape]
 have key:∀{F:Fence} {n:Nat} {Q:Exit->Act->World->Prop} {a:Act} {w:World} {i:Nat} {l:List Oper},wpListIn F n P l.toArray Q l a w->(Code.region i l.toArray false).wpIn F n P Q a w:=fun h=>wpIn_region_lit h
 have sb:∀{a:Act} {w:World} {o:Oper} {d t s:Tmp} {m:Int},gO o d (.binOp .sub tI (.tmp t) (.const (.int .i64 1)) tI)->a.tmps[t]?=some (.int .i64 m)->-2^62<=m->m<=2^62->(execOp a.eval o).run P w=.ok (.value (.int .i64 (m-1))) w:=by
  intro a w o d t s m ho ht h1 h2
  refine NQ hT ho (iO ht) rfl (r:=⟨.int .i64 (IntKind.i64.wrap (m-1)),[],[]⟩) rfl trivial fun z hz=>?_
  rw[wrap64 (n:=m-1) aa]at hz
  exact hz.bY.int
 have ge:∀{a:Act} {w:World} {o:Oper} {d t s:Tmp} {m:Int},gO o d (.binOp .geq tI (.tmp t) (.const (.int .i64 0)) tI)->a.tmps[t]?=some (.int .i64 m)->(execOp a.eval o).run P w=.ok (.value (.bool (decide (m>=0)))) w:=by
  intro a w o d t s m ho ht
  exact NQ hT ho (iO ht) rfl (r:=⟨.bool (decide (m>=0)),[],[]⟩) rfl trivial fun z hz=>hz.bY.bool
 refine wpIn_seq (wpIn_mono (Q:=fun e a w=>e=.normal/\w=W0/\a.tmps.size=19/\a.tmps[0]?=some (.func (.yield l) #[] #[])/\a.tmps[1]?=some (.pointer (some ⟨b0,off0,none⟩))/\a.tmps[3]?=some (.int .i64 ((n:Int)-1))/\a.defers=[]) (key (l:=[_,_,_,_]) ?_) ?_)
 ·obtain⟨z1,z2,z3,z4⟩:=hB
  refine jW hx.o0 (fun _ h=>by cases h) (run_load hx.o0 (by rw[iO z3];exact hls 0 W0 hW0)) ?_
  refine jW hx.o1 (fun _ h=>by cases h) (ZE hx.o1 hu (base:=base) (m:=n) (cap:=cap) (iO (by simp only[gL,z1,Nat.reduceLT,if_true]))) ?_
  refine jW hx.o2 (fun _ h=>by cases h) (sb (s:=0) (m:=n) hx.o2 (by simp only[gL,gI,z1,Nat.reduceEqDiff,Nat.reduceLT,if_true,if_false]) aa aa) ?_
  refine jW hx.o3 (fun _ h=>by cases h) (MB hx.o3) (wpListIn_nil ?_)
  rw[iO (v:=.int .i64 ((n:Int)-1)) (by simp only[gL,gI,z1,Nat.reduceEqDiff,Nat.reduceLT,if_true,if_false])]
  refine⟨rfl,rfl,by simp only[gI];exact z1,?_,?_,?_,by simp only[put_defers];exact z4⟩
  ·simp only[gL,gI,z1,z2,Nat.reduceEqDiff,Nat.reduceLT,if_true,if_false]
  ·simp only[gL,gI,z1,z3,Nat.reduceEqDiff,Nat.reduceLT,if_true,if_false]
  ·simp only[gL,gI,z1,Nat.reduceEqDiff,Nat.reduceLT,if_true,if_false]
 rintro e a1 W1 ⟨rfl,rfl,z1,z2,z3,z4,z5⟩
 show(Code.block 0 _).wpIn Fence.wide 2 P (bodyPost P fn _) a1 W1
 refine wpIn_block (Dg (P:=P) (Oo n l b0 off0 J) (fun i=>n-i) (s:=0) ?_ ⟨aa,z1,z2,z3,by rw[z4];congr 2;omega,z5,hW0⟩)
 rintro i a W ⟨hi,y1,y2,y3,y4,y5,hj⟩
 refine wpIn_seq (wpIn_mono (Q:=fun e a' w'=>(e=.normal/\i<n/\W=w'/\a'.tmps.size=19/\a'.tmps[0]?=some (.func (.yield l) #[] #[])/\a'.tmps[1]?=some (.pointer (some ⟨b0,off0,none⟩))/\a'.tmps[3]?=some (.int .i64 ((n:Int)-1-i))/\a'.defers=[])\/(e=.exit 0/\i=n/\W=w'/\a'.defers=[])) ?_ ?_)
 ·refine wpIn_seq (key (l:=[_,_]) ?_)
  refine jW hx.p0 (fun _ h=>by cases h) (xD hx.p0) ?_
  rw[iO y4]
  refine jW hx.p1 (fun _ h=>by cases h) (ge (s:=0) (m:=(n:Int)-1-i) hx.p1 (by simp only[gL,y1,Nat.reduceLT,if_true])) (wpListIn_nil ?_)
  have q8:((a.put (some 7) (Value.int .i64 ((n:Int)-1-i))).put (some 8) (.bool (decide ((n:Int)-1-i>=0)))).eval (.tmp 8)=.bool (decide ((n:Int)-1-i>=0)):=iO (by simp only[gL,gI,y1,Nat.reduceEqDiff,Nat.reduceLT,if_true,if_false])
  by_cases hlt:i<n
  ·rw[show decide ((n:Int)-1-i>=0)=true by simp;omega]at q8 ⊢
   refine wpIn_cond_true q8 (wpIn_skip (.inl ⟨rfl,hlt,rfl,by simp only[gI];exact y1,?_,?_,?_,by simp only[put_defers];exact y5⟩))
   ·simp only[gL,gI,y1,y2,Nat.reduceEqDiff,Nat.reduceLT,if_true,if_false]
   ·simp only[gL,gI,y1,y3,Nat.reduceEqDiff,Nat.reduceLT,if_true,if_false]
   ·simp only[gL,gI,y1,y4,Nat.reduceEqDiff,Nat.reduceLT,if_true,if_false]
  ·rw[show decide ((n:Int)-1-i>=0)=false by simp;omega]at q8 ⊢
   exact wpIn_cond_false q8 (wpIn_exit (.inr ⟨rfl,aa,rfl,by simp only[put_defers];exact y5⟩))
 rintro e a2 W2 (⟨rfl,hlt,rfl,y1,y2,y3,y4,y5⟩|⟨rfl,rfl,rfl,y5⟩)
 rotate_left
 ·exact⟨y5,.tuple #[],results_none hres _ _ _,⟨_,rfl⟩,hj⟩
 obtain⟨b,off,rfl,g1'⟩:=g1.resolve_left aa
 have hle:(Instr.loadAt tE (.pointer (some ⟨b,off+(n-1-i)*es,none⟩))).run P W=.ok (.agg (cf (n-1-i)).toArray) W:=by
  refine ae3 hT hE hA ?_ (by rw[g4 _ aa,hes])
  obtain⟨c,ty,fr,h1,h2,h3⟩:=g1' (n-1-i) aa
  intro j v hv
  rw[uv (hJ i W hj _ _ _ _ h2 h1)]
  exact h3 j v hv
 have hix:(Instr.indexAt tS (.slice (some ⟨b,off,none⟩) n cap) (.int .i64 ((n:Int)-1-i))).run P W=.ok (.pointer (some ⟨b,off+(n-1-i)*es,none⟩)) W:=by
  have:=zD (P:=P) (w:=W) hT hS hdS hE (b:=b) (o:=off) (n:=n) (cap:=cap) (kd:=.i64) (i:=(n:Int)-1-i) aa aa
  rw[this,hes,show((n:Int)-1-i).toNat=n-1-i by omega]
 obtain⟨ts,hq6⟩:=hx.q6
 obtain⟨tn,hq7⟩:=hx.q7
 show(Code.seq _ _).wpIn Fence.wide 2 P _ a2 W
 refine wpIn_seq (wpIn_block (wpIn_seq (key (l:=[_,_,_,_,_,_,_,_]) ?_)))
 refine jW hx.q0 (fun _ h=>by cases h) (xD hx.q0) ?_
 rw[iO y2]
 refine jW hx.q1 (fun _ h=>by cases h) (xD hx.q1) ?_
 rw[iO (v:=.int .i64 ((n:Int)-1-i)) (by simp only[gL,y1,y4,Nat.reduceEqDiff,Nat.reduceLT,if_true,if_false])]
 refine jW hx.q2 (fun _ h=>by cases h) (run_load hx.q2 (by rw[iO (v:=.pointer (some ⟨b0,off0,none⟩)) (by simp only[gL,gI,y1,y3,Nat.reduceEqDiff,Nat.reduceLT,if_true,if_false])];exact hls i W hj)) ?_
 refine jW hx.q3 (fun _ h=>by cases h) (xD hx.q3) ?_
 rw[iO (v:=.int .i64 ((n:Int)-1-i)) (by simp only[gL,gI,y1,y4,Nat.reduceEqDiff,Nat.reduceLT,if_true,if_false])]
 refine jW hx.q4 (fun _ h=>by cases h) (Uh hx.q4 (v:=.pointer (some ⟨b,off+(n-1-i)*es,none⟩)) ?_) ?_
 ·rw[iO (v:=.slice (some ⟨b,off,none⟩) n cap) (by simp only[gL,gI,y1,Nat.reduceEqDiff,Nat.reduceLT,if_true,if_false]),iO (v:=.int .i64 ((n:Int)-1-i)) (by simp only[gL,gI,y1,Nat.reduceEqDiff,Nat.reduceLT,if_true,if_false])]
  exact hix
 refine jW hx.q5 (fun _ h=>by cases h) (run_load hx.q5 (by rw[iO (v:=.pointer (some ⟨b,off+(n-1-i)*es,none⟩)) (by simp only[gL,gI,y1,Nat.reduceEqDiff,Nat.reduceLT,if_true,if_false])];exact hle)) ?_
 refine SK hq6 (l:=l) (iO (by simp only[gL,gI,y1,Nat.reduceEqDiff,Nat.reduceLT,if_true,if_false])) (vs:=#[.int .i64 ((n:Int)-1-i),.agg (cf (n-1-i)).toArray]) ?_ (hY i W hlt hj) ?_
 ·simp only[List.map_toArray,List.map_cons,List.map_nil]
  rw[iO (v:=.int .i64 ((n:Int)-1-i)) (by simp only[gL,gI,y1,Nat.reduceEqDiff,Nat.reduceLT,if_true,if_false]),iO (v:=.agg (cf (n-1-i)).toArray) (by simp only[gL,gI,y1,Nat.reduceEqDiff,Nat.reduceLT,if_true,if_false])]
 rintro e W3 ⟨rfl,hj3⟩
 refine⟨_,rfl,?_⟩
 refine jW hq7 (fun _ h=>by cases h) (QE hq7 (b:=true) (iO (by simp only[gL,gI,y1,Nat.reduceEqDiff,Nat.reduceLT,if_true,if_false]))) (wpListIn_nil ?_)
 refine wpIn_cond_false (iO (by simp only[gL,gI,y1,Nat.reduceEqDiff,Nat.reduceLT,if_true,if_false,Bool.not_true])) (wpIn_skip ?_)
 refine key (l:=[_,_,_]) ?_
 refine jW hx.s0 (fun _ h=>by cases h) (xD hx.s0) ?_
 rw[iO (v:=.int .i64 ((n:Int)-1-i)) (by simp only[gL,gI,y1,y4,Nat.reduceEqDiff,Nat.reduceLT,if_true,if_false])]
 refine jW hx.s1 (fun _ h=>by cases h) (sb (s:=0) (m:=(n:Int)-1-i) hx.s1 (by simp only[gL,gI,y1,Nat.reduceEqDiff,Nat.reduceLT,if_true,if_false]) aa aa) ?_
 refine jW hx.s2 (fun _ h=>by cases h) (MB hx.s2) (wpListIn_nil ?_)
 rw[iO (v:=.int .i64 ((n:Int)-1-i-1)) (by simp only[gL,gI,y1,Nat.reduceEqDiff,Nat.reduceLT,if_true,if_false])]
 have hI:Oo n l b0 off0 J (i+1) ((((a2.put (some 11) (.func (.yield l) #[] #[])).put (some 12) (.int .i64 ((n:Int)-1-i))).put (some 13) (.slice (some ⟨b,off,none⟩) n cap)|>.put (some 14) (.int .i64 ((n:Int)-1-i))|>.put (some 15) (.pointer (some ⟨b,off+(n-1-i)*es,none⟩))|>.put (some 16) (.agg (cf (n-1-i)).toArray)|>.put (some 17) (.bool true)|>.put (some 18) (.bool !true)|>.put (some 9) (.int .i64 ((n:Int)-1-i))|>.put (some 10) (.int .i64 ((n:Int)-1-i-1))|>.put (some 3) (.int .i64 ((n:Int)-1-i-1)))) W3:=by
  refine⟨aa,by simp only[gI];exact y1,?_,?_,?_,by simp only[put_defers];exact y5,hj3⟩
  ·simp only[gL,gI,y1,y2,Nat.reduceEqDiff,Nat.reduceLT,if_true,if_false]
  ·simp only[gL,gI,y1,y3,Nat.reduceEqDiff,Nat.reduceLT,if_true,if_false]
  ·simp only[gL,gI,y1,y4,Nat.reduceEqDiff,Nat.reduceLT,if_true,if_false];congr 2;omega
 have hμ:n-(i+1)<n-i:=aa
 exact⟨i+1,hI,hμ⟩
section funcs
variable {P:Program} {T:Types} (hT:eE P T)
include hT in
theorem WD {f:FuncId} {fn:Func} {x:Code} (hf:ji P f fn x) {args:List AV} {r:dZ} (hk:bT args=[]) (hlen:args.length<=fn.ntmps) (hpost:r.post=[])
  (h:r.need->∀c:Ctx,c.ro=none->Kept [] c->au P c fn.ntmps x ⟨aU 0 args,[],0⟩ (gq c (Fin T fn r.res))) (K:Nat) (pre:aE):aS P f K args pre r:=
 Nr hT hf hk hlen hpost (fun need c h0 hro=>.down (h need c hro (mR fun _=>kr h0))) K pre
end funcs
theorem Le.bare {c:Ctx} {ρ:Nat->Option Nat} {s s2:aK} (h:Le c ρ s s2):Le c ρ ⟨[],s.store,s.next⟩ ⟨[],s2.store,s2.next⟩:=
 ⟨h.inj,fun t v ht=>by simp[look]at ht,h.store,h.dom,h.keep⟩
theorem af6 {c:Ctx} {s':aK} {ls:List Nat} {us vs:List AV} {os ps:aE} {nx:Nat} (rl:List (Nat×Nat)) (hv:bA ls s'=some (us,os)) (hk0:∀k x,c.k0 k=some x->look k rl=some k) (hr:iR nx rl=true)
  (hs:gQ (aX rl) us vs) (ho:u5 nx (aX rl) os ps):Le c (aX rl) s' ⟨aB ls vs,ps,nx⟩:=by
 unfold bA at hv
 simp only[ay,Prod.mk.injEq]at hv
 obtain⟨rfl,rfl⟩:=hv
 have hall:∀p∈rl,p.1<nx/\∀q∈rl,p.2=q.2->p.1=q.1:=fun p hp=>by
  have:=List.all_eq_true.1 hr p hp
  simp only[Bool.and_eq_true,bD]at this
  refine⟨this.1,fun q hq he=>?_⟩
  have h3:=List.all_eq_true.1 this.2 q hq
  simpa [he]using h3
 refine⟨?_,BQ hs,fun k2 o2 hk=>?_,fun k2 k1 hk=>(hall _ (nw hk)).1,hk0⟩
 ·intro a b k ha hb
  exact(hall _ (nw ha)).2 _ (nw hb) rfl
 ·refine(Ej ho k2 o2 hk).imp (fun⟨k1,o1,g1,g2,g3⟩=>⟨k1,o1,g1,?_,g3⟩) id
  rw[nC]at g2
  split at g2
  ·exact g2
  ·simp at g2
theorem ji.enters {P:Program} {f:FuncId} {fn:Func} {x:Code} (h:ji P f fn x):∀args w,(callFunc f args).run P w=.ok (.enter f args) w:=fun args w=>by
 have hb:fn.body.isNone=false:=by rw[h.body];rfl
 simp only[callFunc,Sem.run_bind,run_program,Result.andThen_ok,h.get,h.name,hb,Bool.false_eq_true,if_false,Sem.run_pure]
section rule
variable {P:Program} {c:Ctx} {nt:Nat} {s:aK} {Q:aq->aK->Prop} {T:Types} (hT:eE P T) {Γ:bz} (hΓ:bU P Γ) (hm:P.follows .mixedOrders=true)
include hT hΓ hm in
theorem au.adW {x assign body:Code} {g p0 p1:Tmp} (p:List Nat) {i:Nat} (hc:chain x p=true) (hx:part x p=.block i (.rangeFunc (.tmp g) #[p0,p1] assign body)) (hd:cD nt x=true) (hro:c.ro=none) (h0:Kept [] c)
  {gf:FuncId} {caps:List AV} {n:Nat} {u v:Nat->AV} (heg:∀args w,(callFunc gf args).run P w=.ok (.enter gf args) w) (hit:A3 P gf caps n u v) (hp0:p0<nt) (hp1:p1<nt) (hne:p0≠p1)
  {f1 f2 f3:List Nat} (N:Nat) (L LA:List Nat) (V:List AV) (hL:∀i,put p1 (v i) (put p0 (u i) (aB L V))=aB (L++[p0,p1]) (V++[u i,v i])) (hg:look g (aB L V)=some (.func gf caps)) (st:Nat->aE) (nx nA:Nat) (VA:Nat->List AV) (OA:Nat->aE) (kp:List Nat)
  (hp:∃t,aH T Γ f1 N L (before x p) s=some t/\t.all fun e w=>e=.normal/\∃rl,(iR nx rl&&rl.all fun q=>kp.contains q.1)=true/\w.1=V.map (kO rl)/\V.all (mh rl)=true/\jG nx rl w.2 (st 0))
  (ha:∀i,i<n->∃t,aH T Γ f2 N LA [assign] ⟨aB (L++[p0,p1]) (V++[u i,v i]),st i,nx⟩=some t/\t.all fun e w=>e=.normal/\dP kp w (VA i) (OA i) nA)
  (hb:∀i,i<n->∃t,aH T Γ f3 N L [body] ⟨aB LA (VA i),OA i,nA⟩=some t/\t.all fun e w=>e=.normal/\dP kp w V (st (i+1)) nx)
  (hend:aF P c nt (behind x p) ⟨aB L V,st n,nx⟩ Q):au P c nt x s Q:=by
 obtain⟨t,h1,h2⟩:=hp
 have hdb:=oA (p:=p) hc hd
 rw[hx]at hdb
 simp only[cD,Bool.and_eq_true]at hdb
 refine au.hole p hc (aF.bL hT hΓ hm N L h1 (nq hd) (af.fo ?_ h2))
 rintro e w ⟨rfl,rl,g1,g2,g3,g4⟩ s' hs'
 simp only[Bool.and_eq_true]at g1
 show au P c nt (part x p) s' _
 rw[hx]
 refine au.yG (au.Yh (gf:=gf) (caps:=caps) (n:=n) (u:=u) (v:=v) (sl:=aB L V) (st:=st) (nx:=fun _=>nx) hro (af6 rl hs' (fun k y hk=>absurd (h0 k y hk) (by simp)) g1.1 (G7 g2 g3) (uL g4)) hg heg hit hp0 hp1 hne ?_ ?_)
 ·intro c' hk' i hi
  have hkp:∀{c':Ctx},(∀k y,c'.k0 k=some y->(aX rl k).isSome=true)->Kept kp c':=fun {c'} hk' k y hk=>by
   obtain⟨j,hj⟩:=Option.isSome_iff_exists.1 (hk' k y hk)
   have:=List.all_eq_true.1 g1.2 _ (nw hj)
   simpa using this
  rw[hL]
  obtain⟨t,a1,a2⟩:=ha i hi
  refine au.bL hT hΓ hm N LA a1 hdb.1 (af.fo ?_ a2)
  rintro e w ⟨rfl,hre⟩ s2 hs2
  refine⟨rfl,fun c2 hk2=>au.nB (hre.le hs2 (hkp hk2)) ?_⟩
  obtain⟨t,b1,b2⟩:=hb i hi
  refine au.bL hT hΓ hm N L b1 hdb.2 (af.fo ?_ b2)
  rintro e w ⟨rfl,hre⟩ s3 hs3
  obtain⟨ρ',hle⟩:=hre.le hs3 (hkp hk2)
  exact⟨rfl,ρ',hle.bare⟩
 ·show aF P c nt (behind x p) _ Q
  exact hend
end rule
end Go.Am
namespace Go.Am
open Go AV IntKind
theorem G0 {ρ:Nat->Option Nat} {f:FuncId} {us vs:List AV} (h:gQ ρ us vs) (hv:(vs.all fun v=>!v.isAgg&&!v.isTuple)=true):gX ρ (.func f us) (.func f vs):=by
 refine⟨rfl,fun M w β cs hc=>?_⟩
 cases hc with
 |func h1 h2 h3=>cases h3;exact .func (JO h h1) hv .nil
theorem tA {α:Type} {k a b d:Nat} {x y z v:α} (h:look k [(a,x),(b,y),(d,z)]=some v):(k=a/\v=x)\/(k=b/\k≠a/\v=y)\/(k=d/\k≠a/\k≠b/\v=z):=by
 simp only[look]at h
 split at h
 ·rename_i he
  simp only[ay]at h
  exact .inl ⟨(eq_of_beq he).symm,h.symm⟩
 ·rename_i hn
  split at h
  ·rename_i he
   simp only[ay]at h
   exact .inr (.inl ⟨(eq_of_beq he).symm,fun e=>hn (by simp[e]),h.symm⟩)
  ·rename_i hn2
   split at h
   ·rename_i he
    simp only[ay]at h
    exact .inr (.inr ⟨(eq_of_beq he).symm,fun e=>hn (by simp[e]),fun e=>hn2 (by simp[e]),h.symm⟩)
   ·simp at h
section rules
variable {P:Program} {T:Types} (hT:eE P T)
include hT in
theorem abU {f:FuncId} {fn:Func} {x:Code} (hf:ji P f fn x) {args args0:List AV} {kf kl k0 K:Nat} {oa ob oc oa0 ob0 oc0 oa' ob' oc' g:ax} {l:List Prop} (hres:fn.results.toList=[]) (hg:g.es=0) (h1:kl≠kf) (h2:k0≠kf) (h3:k0≠kl) (g1:kf<K) (g2:kl<K) (g3:k0<K)
  (ha:az l->gQ (aX [(0,kf),(1,kl),(2,k0)]) args args0) (hlen:args0.length<=fn.ntmps)
  (hp:az l->dL (aX [(0,kf),(1,kl),(2,k0)]) oa oa0/\dL (aX [(0,kf),(1,kl),(2,k0)]) ob ob0/\dL (aX [(0,kf),(1,kl),(2,k0)]) oc oc0)
  (h:az l->∀c:Ctx,Kept [0,1,2] c->au P c fn.ntmps x ⟨aU 0 args0,[(0,oa0),(1,ob0),(2,oc0)],3⟩ fun e s'=>(e=.normal\/e=.ret)/\∃ls vs os kx o1 o2 o3,bA ls s'=some (vs,os)/\2<=kx/\
   look 0 os=some o1/\dL (aX [(kf,0),(kl,1),(K,kx)]) o1 oa'/\look 1 os=some o2/\dL (aX [(kf,0),(kl,1),(K,kx)]) o2 ob'/\look kx os=some o3/\dL (aX [(kf,0),(kl,1),(K,kx)]) o3 oc'):
  aS P f K args [(kf,oa),(kl,ob),(k0,oc)] ⟨.tuple [],[(kf,oa'),(kl,ob'),(K,oc'),(k0,g)],l⟩:=by
 intro need
 refine(pQ hT hf (args0:=args0) (pre0:=[(0,oa0),(1,ob0),(2,oc0)]) (nx:=3) [(0,kf),(1,kl),(2,k0)] hlen ?_ (ha need) ⟨⟨kf,oa,rfl,by simp[look],(hp need).1⟩,⟨kl,ob,rfl,by simp[look,h1.symm],(hp need).2.1⟩,⟨k0,oc,rfl,by simp[look,h2.symm,h3.symm],(hp need).2.2⟩,trivial⟩
  (fun a x h=>?_) (fun x o h=>?_) (fun need c h0=>?_):aS P f K args [(kf,oa),(kl,ob),(k0,oc)] ⟨.tuple [],[(kf,oa'),(kl,ob'),(K,oc'),(k0,g)],l⟩) need
 ·simp[iR,h1,h2,h3,h1.symm,h2.symm,h3.symm]
 ·rcases tA h with⟨_,e⟩|⟨_,_,e⟩|⟨_,_,_,e⟩<;>subst e
  ·exact⟨oa,by simp[look]⟩
  ·exact⟨ob,by simp[look,h1.symm]⟩
  ·exact⟨oc,by simp[look,h2.symm,h3.symm]⟩
 ·by_cases e1:x=kf
  ·subst e1;exact .inl ⟨oa,by simp[look]⟩
  ·by_cases e2:x=kl
   ·subst e2;exact .inl ⟨ob,by simp[look,h1.symm]⟩
   ·by_cases e3:x=k0
    ·subst e3;exact .inl ⟨oc,by simp[look,h2.symm,h3.symm]⟩
    ·by_cases e4:x=K
     ·subst e4;exact .inr (by unfold dw;omega)
     ·have n1:¬kf=x:=fun e=>e1 e.symm
      have n2:¬kl=x:=fun e=>e2 e.symm
      have n3:¬k0=x:=fun e=>e3 e.symm
      have n4:¬K=x:=fun e=>e4 e.symm
      simp[look,n1,n2,n3,n4]at h
 have hk:Kept [0,1,2] c:=fun a y hy=>by
  have:=h0 a y hy
  cases hr:aX [(0,kf),(1,kl),(2,k0)] a with
  |none=>rw[hr]at this;simp at this
  |some z=>rcases tA hr with⟨e,_⟩|⟨e,_,_⟩|⟨e,_,_,_⟩<;>subst e<;>simp
 refine(h need c hk).mono ?_
 rintro e s' ⟨q1,ls,vs,os,kx,o1,o2,o3,hv,hkx,l1,p1,l2,p2,l3,p3⟩
 unfold bA at hv
 simp only[ay,Prod.mk.injEq]at hv
 obtain⟨rfl,rfl⟩:=hv
 have hlk:∀{k o},look k (pick s'.store (K0 s'.store (bT (kV s' ls))))=some o->look k s'.store=some o:=fun {k o} hk=>by
  rw[nC]at hk
  split at hk
  ·exact hk
  ·simp at hk
 refine⟨q1,aX [(kf,0),(kl,1),(K,kx)],⟨fun x y z hx hy=>?_,fun x y hx=>?_⟩,.inr ⟨⟨[],[],[],by rw[hres];rfl,trivial,trivial,rfl⟩,fun k o hk=>?_⟩⟩
 ·rcases tA hx with⟨e1,e2⟩|⟨e1,_,e2⟩|⟨e1,_,_,e2⟩<;>rcases tA hy with⟨e3,e4⟩|⟨e3,_,e4⟩|⟨e3,_,_,e4⟩<;>omega
 ·rcases tA hx with⟨e1,e2⟩|⟨e1,_,e2⟩|⟨e1,_,_,e2⟩<;>subst e1<;>subst e2
  ·exact .inl rfl
  ·exact .inl rfl
  ·exact .inr (by unfold dw;omega)
 ·by_cases e3:k=k0
  ·exfalso
   subst e3
   have:dA (gA [(kf,oa'),(kl,ob'),(K,oc'),(k,g)]) k=some none:=by
    simp[gA,dA,hg]
   rw[kK,this]at hk
   simp at hk
  ·replace hk:=AR hk
   have n3:¬k0=k:=fun e=>e3 e.symm
   have he:look k (de (jV [(kf,oa'),(kl,ob'),(K,oc'),(k0,g)]) [(kf,oa),(kl,ob),(k0,oc)])=look k [(kf,oa'),(kl,ob'),(K,oc')]:=by
    rw[kK]
    by_cases e1:kf=k
    ·subst e1
     simp[jV,dA,look,n3,h1,show¬K=kf by omega]
    ·by_cases e2:kl=k
     ·subst e2
      simp[jV,dA,look,n3,h1.symm,show¬K=kl by omega]
     ·by_cases e4:K=k
      ·subst e4
       simp[jV,dA,look,n3,e1,e2]
      ·simp[jV,dA,look,n3,e1,e2,e4]
   have hk:look k (de (jV [(kf,oa'),(kl,ob'),(K,oc'),(k0,g)]) [(kf,oa),(kl,ob),(k0,oc)])=some o:=hk
   rw[he]at hk
   rcases tA hk with⟨e1,e2⟩|⟨e1,_,e2⟩|⟨e1,_,_,e2⟩<;>subst e1<;>subst e2
   ·exact⟨0,o1,by simp[aX,look],hlk l1,p1⟩
   ·exact⟨1,o2,by simp[aX,look,h1.symm],hlk l2,p2⟩
   ·exact⟨kx,o3,by simp[aX,look,show¬kf=k by omega,show¬kl=k by omega],hlk l3,p3⟩
end rules
section
variable {P:Program} {c:Ctx} {nt:Nat} {s:aK} {Q:aq->aK->Prop} {T:Types} (hT:eE P T) {Γ:bz} (hΓ:bU P Γ) (hm:P.follows .mixedOrders=true)
include hT hΓ hm in
theorem au.Jm {x:Code} (p:List Nat) (hc:chain x p=true) (hz:behind x p=[]) (hd:cD nt x=true) {f1:List Nat} (n:Nat) (L:List Nat)
  (hp:∃t,aH T Γ f1 n L (before x p) s=some t/\t.all fun e v=>match e with
   |.normal=>∀s',bA L s'=some v->au P c nt (part x p) s' Q
   |e=>∀s',bA L s'=some v->Q e s'):au P c nt x s Q:=by
 obtain⟨t,h1,h2⟩:=hp
 refine au.hole p hc (aF.bL hT hΓ hm n L h1 (nq hd) (af.fo ?_ h2))
 rintro e v hv s' hs'
 cases e with
 |normal=>
  show au P c nt (part x p) s' _
  rw[hz]
  exact(hv s' hs').mono fun e s' h=>by cases e<;>exact h
 |ret=>exact hv s' hs'
 |exit k=>exact hv s' hs'
theorem au.vg {x:Code} {L:List Nat} {us vs:List AV} {os ps:aE} {nx:Nat} {kp:List Nat} (h0:Kept kp c) (rl:List (Nat×Nat)) (hv:bA L s=some (us,os)) (hr:(iR nx rl&&kp.all fun k=>look k rl==some k)=true) (hs:gQ (aX rl) us vs) (ho:jG nx rl os ps) (h:au P c nt x ⟨aB L vs,ps,nx⟩ Q):au P c nt x s Q:=by
 simp only[Bool.and_eq_true]at hr
 exact .nB (C8 rl hv (fun k x hk=>by simpa using List.all_eq_true.1 hr.2 k (h0 k x hk)) hr.1 hs (uL ho)) h
end
end Go.Am
namespace Go.Am
open Go Go.ChangeShapes Go.WideShapes Go.ChangeAt Go.RowKit AV IntKind
inductive PK where
 |list
 |int (k:IntKind)
 |bool
def Jc (P:Program):PK->TypeId->Prop
 |.list,t=>∃e,P.underlying t=some (.slice e)/\P.underlying e=some (.int .i64)/\P.cellsOf e=1
 |.int k,t=>P.underlying t=some (.int k)
 |.bool,t=>P.underlying t=some .bool
def xS (P:Program):List PK->List TypeId->Prop
 |[],[]=>True
 |k::ks,t::ts=>(Jc P k t/\P.readableRec t=true/\t<P.types.size)/\xS P ks ts
 |_,_=>False
def NV:PK->AV->Prop
 |.list,a=>∃(n:Nat) (z:Nat->Int),a=.ak 1 n (fun i=>.int .i64 (z i))
 |.int k,a=>∃n,a=.int k n
 |.bool,a=>∃b,a=.bool b
def Gf:List PK->List AV->Prop
 |[],as=>as=[]
 |k::ks,as=>∃a l,as=a::l/\NV k a/\Gf ks l
section
variable {P:Program} {H:Type} {enc:TypeId×Value->H} {W:World} {base:Nat}
theorem aez {k:PK} {t:TypeId} {v:Value} {d:DataW H} {p:List MemPlace} (hk:Jc P k t) (h:DataW.Trod enc P W 0 (fun _=>true) true t v d p) (hv:Value.okWide P W .any base t v):∃a,NV k a/\bF (fun _=>False) W bE a v:=by
 cases k with
 |int k=>
  obtain⟨n,rfl⟩:=okWide_int hk hv
  exact⟨_,⟨n,rfl⟩,.cK (.int .nil) rfl⟩
 |bool=>
  obtain⟨b,rfl⟩:=okWide_bool hk hv
  exact⟨_,⟨b,rfl⟩,.cK (.bool .nil) rfl⟩
 |list=>
  obtain⟨e,h1,h2,h3⟩:=hk
  obtain⟨a0,len,cap,rfl⟩:=okWide_slice h1 hv
  obtain⟨fuel,hf⟩:=h
  have key:∀{z:Nat->Int},len<=cap->(len=0\/∃b o,a0=some ⟨b,o,none⟩/\∀i,i<len->W.cell? ⟨b,o+i,none⟩=some (.int .i64 (z i)))->bF (fun _=>False) W bE (.ak 1 len (fun i=>.int .i64 (z i))) (.slice a0 len cap):=fun {z} hcap hr=>by
   refine .cK (.ak (cf:=fun i=>[.int .i64 (z i)]) ?_ aa hcap (fun _ _=>rfl) (fun _ _=>.int .nil) .nil) rfl
   rcases hr with hr|⟨b,o,rfl,hr⟩
   ·exact .inl hr
   ·refine .inr ⟨b,o,rfl,fun i hi=>?_⟩
    have hc:=hr i hi
    simp only[World.cell?]at hc
    split at hc
    ·rename_i cs ty fr hh
     simp only[Option.isSome_none,Bool.false_eq_true,if_false]at hc
     refine⟨cs,ty,fr,hh,id,fun j v hj=>?_⟩
     have hj0:j=0:=by have:=(List.getElem?_eq_some_iff.1 hj).1;simp at this;exact this
     subst hj0
     simp only[List.getElem?_cons_zero,ay]at hj
     subst hj
     simpa using hc
    ·simp at hc
  rcases open_ints h1 h2 h3 hf with⟨hcs,hx⟩|⟨a,len',cap',zs,hcs,_,hl,hm,hz,hx,hcell,hwz⟩
  ·simp only[Value.cells,List.cons.injEq,Value.slice.injEq,and_true]at hcs
   obtain⟨rfl,rfl,rfl⟩:=hcs
   exact⟨_,⟨0,fun _=>0,rfl⟩,key (z:=fun _=>0) aT (.inl rfl)⟩
  ·simp only[Value.cells,List.cons.injEq,Value.slice.injEq,and_true]at hcs
   obtain⟨rfl,rfl,rfl⟩:=hcs
   simp only[if_true]at hz
   refine⟨_,⟨len,fun i=>zs.getD i 0,rfl⟩,key hl ?_⟩
   rcases Nat.eq_zero_or_pos len with h0|h0
   ·exact .inl h0
   ·obtain⟨b,o,m⟩:=a
    have h1:=hcell 0 aa
    have:m=none:=by
     cases m with
     |none=>rfl
     |some y=>exfalso;simp only[Addr.add,World.cell?]at h1;split at h1<;>simp at h1
    subst this
    exact .inr ⟨b,o,rfl,fun i hi=>by
     have h2:=hcell i aa
     rcases Nat.eq_zero_or_pos i with hi|hi
     ·subst hi;simpa [Addr.add]using h2
     ·simpa [Addr.add,Nat.pos_iff_ne_zero.1 hi]using h2⟩
theorem LG:∀{ks:List PK} {ts:List TypeId} {vs:List Value} {ds:List (DataW H)} {p:List MemPlace},xS P ks ts->DataW.TrodAll enc P W 0 (fun _=>true) true ts vs ds p->(∀(j:Nat) t v,ts[j]?=some t->vs[j]?=some v->Value.okWide P W .any base t v)->
  ∃as,Gf ks as/\cS (fun _=>False) W bE as vs
 |[],[],vs,ds,p,_,h,_=>by
  obtain⟨rfl,_,_⟩:=trodAll_nil h
  exact⟨[],rfl,trivial⟩
 |k::ks,t::ts,vs,ds,p,hk,h,hv=>by
  obtain⟨v,vs',d,ds',p1,q,rfl,rfl,rfl,hd,hrest⟩:=trodAll_cons h
  obtain⟨a,h1,h2⟩:=aez hk.1.1 hd (hv 0 t v rfl rfl)
  obtain⟨as,h3,h4⟩:=LG hk.2 hrest fun j t v h1 h2=>hv (j+1) t v h1 h2
  exact⟨a::as,⟨a,as,rfl,h1,h3⟩,h2,h4⟩
 |[],_::_,_,_,_,h,_,_=>h.elim
 |_::_,[],_,_,_,h,_,_=>h.elim
theorem H6 {b:Nat} {sp:Nat->Bool} {held:Bool}:∀{ts:List TypeId} {vs:List Value} {ds:List (DataW H)} {p:List MemPlace},DataW.TrodAll enc P W b sp held ts vs ds p->ds.length=ts.length
 |[],vs,ds,p,h=>by
  obtain⟨_,rfl,_⟩:=trodAll_nil h
  rfl
 |t::ts,vs,ds,p,h=>by
  obtain⟨v,vs',d,ds',p1,q,rfl,rfl,rfl,hd,hrest⟩:=trodAll_cons h
  simp[H6 hrest]
theorem Ld (hl:laidOutB P=true) {W':World} (hb:Below W.heap.size W W'):∀{ks:List PK} {ts:List TypeId} {vs:List Value} {ds:List (DataW H)} {p:List MemPlace},xS P ks ts->DataW.TrodAll enc P W 0 (fun _=>true) true ts vs ds p->(∀x∈p,x.block<W.heap.size)->
  DataW.TrodAll enc P W' 0 (fun b=>decide (b<W.heap.size)) true ts vs ds p
 |[],[],vs,ds,p,_,h,_=>by
  obtain⟨rfl,rfl,rfl⟩:=trodAll_nil h
  exact trodAll_mk0
 |k::ks,t::ts,vs,ds,p,hk,h,hlt=>by
  obtain⟨v,vs',d,ds',p1,q,rfl,rfl,rfl,hd,hrest⟩:=trodAll_cons h
  exact⟨_,_,Below.trod hl hk.1.2.1 hk.1.2.2 hd hb fun x hx=>hlt x (List.mem_append_left _ hx),Ld hl hb hk.2 hrest fun x hx=>hlt x (List.mem_append_right _ hx),rfl⟩
 |[],_::_,_,_,_,h,_,_=>h.elim
 |_::_,[],_,_,_,h,_,_=>h.elim
theorem afe (hl:laidOutB P=true) {f:FuncId} {fn:Func} (hf:P.funcs[f]?=some fn) (hb:fn.body.isNone=false) {ks:List PK} {ts:List TypeId} (hk:xS P ks ts) {args:Array Value} {ds:List (DataW H)} {p:List MemPlace}
  (hA:DataW.TrodAll enc P W 0 (fun _=>true) true ts args.toList ds p) (hv:∀(j:Nat) t v,ts[j]?=some t->args[j]?=some v->Value.okWide P W .any base t v) (hlt:∀x∈p,x.block<W.heap.size) (hF:∀as,Gf ks as->aS P f 0 as [] ⟨.bool true,[],[]⟩):
  Calls P f args W fun e W'=>e=.returned (.bool true)/\Below W.heap.size W W'/\DataW.TrodAll enc P W' 0 (fun b=>decide (b<W.heap.size)) true ts args.toList ds p:=by
 obtain⟨as,h1,h2⟩:=LG hk hA fun j t v h1 h2=>hv j t v h1 (by simpa using h2)
 obtain⟨_,hF⟩:=hF as h1 trivial
 have hrel:bB ⟨fun _=>False,W,fun _=>False,bE,none⟩ [] (fun _=>False) bE W:=
  {obj:=fun k o h=>by simp[look]at h,eG:=fun k o h=>by simp[look]at h,inj:=fun k k' o o' b N N' h=>by simp[look]at h,dom:=fun k x h=>by simp[bE]at h,keep:=fun k x h=>h,lt:=fun k b N h=>by simp[bE]at h,os:=rfl,tape:=rfl,output:=rfl,size:=aT,block:=fun _ _ _=>rfl,ig:=fun b h=>h.elim,new:=fun k o b N h=>by simp[look]at h}
 have hM:aN ⟨fun _=>False,W,fun _=>False,bE,none⟩ [] bE=fun _=>False:=by
  funext b
  simp[aN,look]
 have hinv:=hF ⟨fun _=>False,W,fun _=>False,bE,none⟩ (fun _=>False) (fun _=>True) bE W _ rfl (fun b h=>h.elim) hrel (fun k h=>h.elim) (fun k _ _=>⟨id,trivial⟩) (by rw[hM];exact h2)
 rcases hinv with⟨fn',g1,g2,g3,g4⟩|⟨x,g1,_⟩
 ·have g5:=g4
  rw[show args.toList.toArray=args from by simp]at g5
  refine g5.mono fun e W' ⟨x,he,hx⟩=>?_
  obtain⟨β',q1,q2,q3⟩:=hx
  have:=q3.bool
  subst this
  have hbl:Below W.heap.size W W':=⟨q1.os,q1.tape,q1.output,q1.size,fun k hk=>q1.block k hk id⟩
  exact⟨he,hbl,Ld hl hbl hk hA hlt⟩
 ·exfalso
  simp only[callFunc,Sem.run_bind,run_program,Result.andThen_ok,hf,hb,Bool.false_eq_true,if_false]at g1
  split at g1<;>simp at g1
end
end Go.Am
