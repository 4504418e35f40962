/- Parts of code; a piece of code inside a chain; loops. -/
import Derived.Test.YtgfjdngnneoeoaaGreatZ1
import Derived.Below
import Derived.RangeFuncCalls
import Derived.TacticsIn
import Derived.ProofKit
import Derived.ChangeSlices
set_option linter.unusedVariables false
namespace Go.Am
def part:Code->List Nat->Code
 |c,[]=>c
 |.seq x _,0::p=>part x p
 |.seq _ y,_::p=>part y p
 |.cond _ x _,0::p=>part x p
 |.cond _ _ y,_::p=>part y p
 |.block _ x,_::p=>part x p
 |.loop x,_::p=>part x p
 |_,_=>.skip
def before:Code->List Nat->List Code
 |.seq x _,0::p=>before x p
 |.seq x y,_::p=>x::before y p
 |_,_=>[]
def behind:Code->List Nat->List Code
 |.seq x y,0::p=>behind x p++[y]
 |.seq _ y,_::p=>behind y p
 |_,_=>[]
def chain:Code->List Nat->Bool
 |_,[]=>true
 |.seq x _,0::p=>chain x p
 |.seq _ y,_::p=>chain y p
 |_,_=>false
def aF (fn:Func):Code:=match fn.body with
 |some x=>x
 |none=>.skip
def ej (k:aL->Prop) (Q:ak->aL->Prop):ak->aL->Prop
 |.normal,s=>k s
 |e,s=>Q e s
def aJ (P:Program) (c:Ctx) (nt:Nat):List Code->aL->(ak->aL->Prop)->Prop
 |[],s,Q=>Q .normal s
 |x::l,s,Q=>ay P c nt x s (ej (fun s'=>aJ P c nt l s' Q) Q)
section rules
variable {P:Program} {c:Ctx} {nt:Nat} {s:aL} {Q:ak->aL->Prop}
theorem ay.Jy {x y:Code} (h:ay P c nt x s (ej (fun s'=>ay P c nt y s' Q) Q)):ay P c nt (.seq x y) s Q:=
 .seq (h.mono fun e s' h=>by cases e<;>exact h)
theorem aJ.mono {Q Q':ak->aL->Prop} (hq:∀e s',Q e s'->Q' e s'):∀{l:List Code} {s:aL},aJ P c nt l s Q->aJ P c nt l s Q'
 |[],_,h=>hq _ _ h
 |x::l,s,h=>ay.mono h fun e s' h=>by
  cases e with
  |normal=>exact aJ.mono hq (l:=l) h
  |exit i=>exact hq _ _ h
  |ret=>exact hq _ _ h
theorem aJ.append {Q:ak->aL->Prop}:∀{a b:List Code} {s:aL},aJ P c nt (a++b) s Q->aJ P c nt a s (ej (fun s'=>aJ P c nt b s' Q) Q)
 |[],b,s,h=>h
 |x::a,b,s,h=>ay.mono h fun e s' h=>by
  cases e with
  |normal=>exact aJ.append (a:=a) h
  |exit i=>exact h
  |ret=>exact h
theorem ay.hole:∀(p:List Nat) {x:Code} {s:aL} {Q:ak->aL->Prop},chain x p=true->
  aJ P c nt (before x p) s (ej (fun s'=>ay P c nt (part x p) s' (ej (fun s''=>aJ P c nt (behind x p) s'' Q) Q)) Q)->ay P c nt x s Q
 |[],x,s,Q,_,h=>by
  have hb:before x []=[]:=by cases x<;>rfl
  have hh:behind x []=[]:=by cases x<;>rfl
  have hp:part x []=x:=by cases x<;>rfl
  rw[hb,hh,hp]at h
  exact ay.mono h fun e s' h=>by cases e<;>exact h
 |0::p,.seq x y,s,Q,hc,h=>by
  refine .Jy (ay.hole p (x:=x) hc ?_)
  refine aJ.mono ?_ h
  intro e s' h1
  cases e with
  |normal=>
   refine ay.mono h1 ?_
   intro e s'' h2
   cases e with
   |normal=>
    refine aJ.mono ?_ (aJ.append h2)
    intro e s3 h3
    cases e with
    |normal=>exact ay.mono h3 fun e s' h=>by cases e<;>exact h
    |exit i=>exact h3
    |ret=>exact h3
   |exit i=>exact h2
   |ret=>exact h2
  |exit i=>exact h1
  |ret=>exact h1
 |(n+1)::p,.seq x y,s,Q,hc,h=>by
  refine .Jy (ay.mono h ?_)
  intro e s' h1
  cases e with
  |normal=>exact ay.hole p (x:=y) hc h1
  |exit i=>exact h1
  |ret=>exact h1
 |_::_,.cond _ _ _,_,_,hc,_=>by simp[chain]at hc
 |_::_,.block _ _,_,_,hc,_=>by simp[chain]at hc
 |_::_,.loop _,_,_,hc,_=>by simp[chain]at hc
 |_::_,.region _ _ _,_,_,hc,_=>by simp[chain]at hc
 |_::_,.skip,_,_,hc,_=>by simp[chain]at hc
 |_::_,.label _,_,_,hc,_=>by simp[chain]at hc
 |_::_,.exit _,_,_,hc,_=>by simp[chain]at hc
 |_::_,.ret,_,_,hc,_=>by simp[chain]at hc
 |_::_,.scope _,_,_,hc,_=>by simp[chain]at hc
 |_::_,.goto _,_,_,hc,_=>by simp[chain]at hc
 |_::_,.refuse _,_,_,hc,_=>by simp[chain]at hc
 |_::_,.rangeFunc _ _ _ _,_,_,hc,_=>by simp[chain]at hc
def inBlock (i:Nat) (Q:ak->aL->Prop):ak->aL->Prop
 |.exit j,s=>if j=i then Q .normal s else Q (.exit j) s
 |e,s=>Q e s
theorem ay.C3 {i:Nat} {x:Code} (h:ay P c nt x s (inBlock i Q)):ay P c nt (.block i x) s Q:=
 .block (h.mono fun e s' h=>by cases e<;>exact h)
theorem ay.iO {x y:Code} {i:Nat} (hx:x=.block i (.loop y)) {α:Type} (S:α->aL) (I:α->Prop) (μ:α->Nat) (j:α) (hs:∃ρ,Le c ρ s (S j)) (h0:I j)
  (round:∀j,I j->ay P c nt y (S j) (ej (fun s'=>∃k,(∃ρ,Le c ρ s' (S k))/\I k/\μ k<μ j) (inBlock i Q))):ay P c nt x s Q:=by
 subst hx
 exact .C3 (.afo S I μ j hs h0 fun j hj=>(round j hj).mono fun e s' h=>by cases e<;>exact h)
variable {T:Types} (hT:dF P T) {Γ:aU} (hΓ:aZ P Γ) (hm:P.follows .mixedOrders=true)
def rm (T:Types) (Γ:aU) (forks:List Nat) (n:Nat):List Code->aL->Option (ag aL)
 |[],s=>some (.leaf .normal s)
 |x::l,s=>match en T Γ forks n x s with
  |some t=>t.bind fun e s'=>match e with
   |.normal=>rm T Γ forks n l s'
   |.exit i=>some (.leaf (.exit i) s')
   |.ret=>some (.leaf .ret s')
  |none=>none
include hT hΓ hm in
theorem yz {forks:List Nat} {n:Nat}:∀{l:List Code} {s:aL} {t:ag aL},(l.all fun x=>cw nt x)=true->rm T Γ forks n l s=some t->t.all Q->aJ P c nt l s Q
 |[],s,t,_,h,ht=>by
  simp only[rm,ax]at h
  subst h
  exact ht
 |x::l,s,t,hd,h,ht=>by
  simp only[List.all_cons,Bool.and_eq_true]at hd
  simp only[rm]at h
  cases hx:en T Γ forks n x s with
  |none=>rw[hx]at h;simp at h
  |some u=>
   rw[hx]at h
   refine j6 hT hΓ hm n hd.1 hx (ag.fI ?_ (ag.kg h ht))
   rintro e s' ⟨v,h1,h2⟩
   cases e with
   |normal=>exact yz hd.2 h1 h2
   |exit i=>simp only[ax]at h1;subst h1;exact h2
   |ret=>simp only[ax]at h1;subst h1;exact h2
def aM (T:Types) (Γ:aU) (forks:List Nat) (n:Nat) (ls:List Nat) (l:List Code) (s:aL):Option (ag (List AV×aD)):=
 match rm T Γ forks n l s with
 |some t=>t.bind (Km ls)
 |none=>none
include hT hΓ hm in
theorem aJ.bE {forks:List Nat} (n:Nat) (ls:List Nat) {l:List Code} {s:aL} {t:ag (List AV×aD)} (hc:aM T Γ forks n ls l s=some t) (hd:(l.all fun x=>cw nt x)=true)
  (h:t.all fun e v=>∀s',bC ls s'=some v->Q e s'):aJ P c nt l s Q:=by
 unfold aM at hc
 split at hc
 ·rename_i u hx
  refine yz hT hΓ hm hd hx (ag.fI ?_ (ag.kg hc h))
  rintro e s' ⟨v,h1,h2⟩
  unfold Km at h1
  cases hv:bC ls s' with
  |none=>rw[hv]at h1;simp at h1
  |some z=>
   rw[hv]at h1
   simp only[ax]at h1
   subst h1
   exact h2 s' hv
 ·simp at hc
include hT hΓ hm in
theorem ay.bE {x:Code} {forks:List Nat} (n:Nat) (ls:List Nat) {t:ag (List AV×aD)} (hc:aM T Γ forks n ls [x] s=some t) (hd:cw nt x=true)
  (h:t.all fun e v=>∀s',bC ls s'=some v->Q e s'):ay P c nt x s Q:=by
 have:=aJ.bE (P:=P) (c:=c) (nt:=nt) (l:=[x]) (Q:=Q) hT hΓ hm n ls hc (by simp[hd]) h
 exact ay.mono this fun e s' h=>by cases e<;>exact h
def cR (T:Types) (Γ:aU) (forks:List Nat) (n:Nat) (fn:Func) (l:List Code) (s:aL):Option (ag (List AV)):=
 match rm T Γ forks n l s with
 |some t=>t.bind (mO T fn)
 |none=>none
def Fin (T:Types) (fn:Func) (res:AV) (e:ak) (s:aL):Prop:=(e=.normal\/e=.ret)/\Ends T fn res s
theorem DR {fn:Func} {e:ak} {s':aL} {v:ag (List AV)} {res:AV} (h1:mO T fn e s'=some v) (h2:v.all fun _ us=>fz us res):Fin T fn res e s':=by
 unfold mO at h1
 have key:∀{e':ak},(match gV T s' fn.results.toList with
   |some (vs,q)=>match eU (jY (pick s'.store (AV.bH vs))) vs with
    |some us=>some (ag.need q (.leaf e' us))
    |none=>none
   |none=>none)=some v->Ends T fn res s':=by
  intro e' h1
  cases hr:gV T s' fn.results.toList with
  |none=>rw[hr]at h1;simp at h1
  |some p=>
   obtain⟨vs,q⟩:=p
   rw[hr]at h1
   simp only at h1
   cases hf:eU (jY (pick s'.store (AV.bH vs))) vs with
   |none=>rw[hf]at h1;simp at h1
   |some us=>
    rw[hf]at h1
    simp only[ax]at h1
    subst h1
    obtain⟨g1,g2⟩:=ag.xm.1 h2
    exact⟨vs,q,us,hr,g1,hf,g2⟩
 cases e with
 |normal=>exact⟨.inl rfl,key h1⟩
 |ret=>exact⟨.inr rfl,key h1⟩
 |exit i=>simp at h1
include hT hΓ hm in
theorem aJ.fin {fn:Func} {forks:List Nat} (n:Nat) {l:List Code} {s:aL} {t:ag (List AV)} (hc:cR T Γ forks n fn l s=some t) (hd:(l.all fun x=>cw nt x)=true) {res:AV}
  (h:t.all fun _ us=>fz us res):aJ P c nt l s (Fin T fn res):=by
 unfold cR at hc
 split at hc
 ·rename_i u hx
  refine yz hT hΓ hm hd hx (ag.fI ?_ (ag.kg hc h))
  rintro e s' ⟨v,h1,h2⟩
  exact DR h1 h2
 ·simp at hc
theorem aJ.weak {l:List Code} {s2:aL} (hl:l.isEmpty=false) (hle:∃ρ,Le c ρ s s2) (h:aJ P c nt l s2 Q):aJ P c nt l s Q:=by
 obtain⟨ρ,hle⟩:=hle
 cases l with
 |nil=>simp at hl
 |cons x l=>exact ay.weak hle h
theorem ay.lP {x:Code} {s2:aL} (hle:∃ρ,Le c ρ s s2) (h:ay P c nt x s2 Q):ay P c nt x s Q:=by
 obtain⟨ρ,hle⟩:=hle
 exact ay.weak hle h
end rules
theorem T7 {P:Program} {f:FuncId} {fn:Func} (h:P.funcs[f]?=some fn) (hb:fn.body.isSome=true) (hn:(fn.name== "runtime.NumGoroutine")=false) (hd:cw fn.ntmps (aF fn)=true):iL P f fn (aF fn):=by
 refine⟨h,?_,hn,hd⟩
 unfold aF
 cases hbd:fn.body with
 |none=>rw[hbd]at hb;simp at hb
 |some x=>rfl
end Go.Am
namespace Go.Am
def val:Nat->(Nat->Nat)->Nat
 |0,_=>0
 |n+1,z=>val n z+z n*2^(32*n)
theorem ga {z:Nat->Nat}:∀{n:Nat},(∀i,i<n->z i<2^32)->val n z<2^(32*n)
 |0,_=>by simp[val]
 |n+1,h=>by
  have ih:=ga (z:=z) (n:=n) fun i hi=>h i aa
  have h1:=h n aa
  have:z n*2^(32*n)+2^(32*n)<=2^32*2^(32*n):=by
   rw[<-Nat.succ_mul];exact Nat.mul_le_mul_right _ h1
  have e:2^(32*(n+1))=2^32*2^(32*n):=by rw[<-Nat.pow_add];congr 1;omega
  rw[e,val];omega
theorem val_congr {z y:Nat->Nat}:∀{n:Nat},(∀i,i<n->z i=y i)->val n z=val n y
 |0,_=>rfl
 |n+1,h=>by rw[val,val,val_congr fun i hi=>h i aa,h n aa]
theorem mQ {z:Nat->Nat} {k:Nat}:∀{n:Nat},k<=n->(∀i,k<=i->i<n->z i=0)->val n z=val k z
 |0,h,_=>by
    have:k=0:=aa
    subst this;rfl
 |n+1,h,hz=>by
  by_cases hk:k=n+1
  ·subst hk;rfl
  ·rw[val,mQ (n:=n) aa fun i h1 h2=>hz i h1 aa,hz n aa aa]
   simp
theorem pe {z:Nat->Nat}:∀{n i:Nat},(∀j,j<n->z j<2^32)->i<n->aB (val n z) i=z i
 |0,i,_,hi=>aa
 |n+1,i,h,hi=>by
  unfold aB
  rw[val]
  by_cases he:i=n
  ·subst he
   have:=ga (z:=z) (n:=i) fun j hj=>h j aa
   rw[Nat.add_mul_div_right _ _ (Nat.two_pow_pos _),Nat.div_eq_of_lt this,Nat.zero_add]
   exact Nat.mod_eq_of_lt (h i aa)
  ·have ih:=pe (z:=z) (n:=n) (i:=i) (fun j hj=>h j aa) aa
   unfold aB at ih
   have e:2^(32*n)=2^32*2^(32*(n-i-1))*2^(32*i):=by
    rw[<-Nat.pow_add,<-Nat.pow_add];congr 1;omega
   rw[e,<-Nat.mul_assoc,Nat.add_mul_div_right _ _ (Nat.two_pow_pos _),<-ih]
   rw[show z n*(2^32*2^(32*(n-i-1)))=2^32*(z n*2^(32*(n-i-1))) by
    rw[<-Nat.mul_assoc,Nat.mul_comm (z n),Nat.mul_assoc]]
   rw[Nat.add_mul_mod_self_left]
theorem dO {N i:Nat}:aB N i<2^32:=Nat.mod_lt _ (by decide)
theorem JF {N:Nat}:∀{n:Nat},val n (aB N)=N%2^(32*n)
 |0=>by simp[val,Nat.mod_one]
 |n+1=>by
  rw[val,JF,aB]
  have e:2^(32*(n+1))=2^(32*n)*2^32:=by rw[<-Nat.pow_add];congr 1
  rw[e,Nat.mod_mul,Nat.mul_comm (2^(32*n))]
theorem oD {N n:Nat} (h:N<2^(32*n)):val n (aB N)=N:=by rw[JF,Nat.mod_eq_of_lt h]
theorem dy {N n:Nat}:nl N<=n↔N<2^(32*n):=by
 unfold nl
 by_cases h:N=0
 ·subst h;simp[Nat.two_pow_pos]
 ·rw[if_neg h]
  rw[<-Nat.log2_lt h]
  omega
theorem nr {N:Nat}:N<2^(32*nl N):=dy.1 bq
theorem gp {N:Nat}:val (nl N) (aB N)=N:=oD nr
theorem RH {z:Nat->Nat} {n:Nat} (h0:0<n) (h:z (n-1)≠0):2^(32*(n-1))<=val n z:=by
 obtain⟨m,rfl⟩:∃m,n=m+1:=⟨n-1,aa⟩
 rw[val]
 simp only[Nat.add_sub_cancel]at h ⊢
 have:1*2^(32*m)<=z m*2^(32*m):=Nat.mul_le_mul_right _ aa
 omega
theorem yX {z:Nat->Nat} {n:Nat} (hz:∀i,i<n->z i<2^32) (h:n=0\/z (n-1)≠0):nl (val n z)=n:=by
 rcases Nat.eq_zero_or_pos n with rfl|h0
 ·simp[val,nl]
 ·have h1:nl (val n z)<=n:=dy.2 (ga hz)
  have h2:¬nl (val n z)<=n-1:=by
   rw[dy]
   have:=RH h0 (h.resolve_left aa)
   omega
  omega
theorem CN {N:Nat} (h:N≠0):aB N (nl N-1)≠0:=by
 intro h0
 have hn:0<nl N:=by unfold nl;rw[if_neg h];omega
 have h1:val (nl N) (aB N)=val (nl N-1) (aB N):=mQ aa fun i h1 h2=>by
  have:i=nl N-1:=aa
  rw[this,h0]
 rw[gp]at h1
 have h3:N<2^(32*(nl N-1)):=by
  exact Nat.lt_of_le_of_lt (Nat.le_of_eq h1) (ga (z:=aB N) (n:=nl N-1) fun i _=>dO)
 have h2:nl N<=nl N-1:=dy.2 h3
 omega
theorem gA {N:Nat}:0<nl N↔N≠0:=by
 unfold nl
 split<;>simp_all
theorem ic {a b:Nat} (h:a<=b):nl a<=nl b:=dy.2 (Nat.lt_of_le_of_lt h nr)
theorem wrap_i64 {x:Int} (h1:-2^63<=x) (h2:x<2^63):IntKind.i64.wrap x=x:=by
 simp[IntKind.wrap,IntKind.bits,IntKind.signed];omega
theorem ck {x:Int} (h1:0<=x) (h2:x<2^64):IntKind.u64.wrap x=x:=by
 simp[IntKind.wrap,IntKind.bits,IntKind.signed];omega
theorem nB {x:Int}:IntKind.u64.wrap x=x%2^64:=by
 simp[IntKind.wrap,IntKind.bits,IntKind.signed]
theorem kT {x:Int}:IntKind.u32.wrap x=x%2^32:=by
 simp[IntKind.wrap,IntKind.bits,IntKind.signed]
theorem wrap_u32 {x:Int} (h1:0<=x) (h2:x<2^32):IntKind.u32.wrap x=x:=by
 rw[kT];omega
theorem wB {x:Nat}:IntKind.u64.wrap (x:Int)=(x%2^64:Nat):=by
 rw[nB];omega
theorem jC {x:Nat}:IntKind.u32.wrap (x:Int)=(x%2^32:Nat):=by
 rw[kT];omega
theorem tf {a b:Nat} (ha:a<2^64) (hb:b<2^64):
  IntKind.u64.wrap ((BitVec.ofInt IntKind.u64.bits (a:Int)|||BitVec.ofInt IntKind.u64.bits (b:Int)).toNat:Int)=((a|||b:Nat):Int):=by
 have e:(BitVec.ofInt IntKind.u64.bits (a:Int)|||BitVec.ofInt IntKind.u64.bits (b:Int)).toNat=a|||b:=by
  rw[BitVec.toNat_or,BitVec.ofInt_natCast,BitVec.ofInt_natCast,BitVec.toNat_ofNat,BitVec.toNat_ofNat]
  rw[show IntKind.u64.bits=64 from rfl,Nat.mod_eq_of_lt ha,Nat.mod_eq_of_lt hb]
 rw[e]
 have:a|||b<2^64:=Nat.or_lt_two_pow ha hb
 exact ck aa aa
theorem Uw {a b:Nat} (ha:a<2^64) (hb:b<2^64):
  IntKind.u64.wrap ((BitVec.ofInt IntKind.u64.bits (a:Int)&&&BitVec.ofInt IntKind.u64.bits (b:Int)).toNat:Int)=((a&&&b:Nat):Int):=by
 have e:(BitVec.ofInt IntKind.u64.bits (a:Int)&&&BitVec.ofInt IntKind.u64.bits (b:Int)).toNat=a&&&b:=by
  rw[BitVec.toNat_and,BitVec.ofInt_natCast,BitVec.ofInt_natCast,BitVec.toNat_ofNat,BitVec.toNat_ofNat]
  rw[show IntKind.u64.bits=64 from rfl,Nat.mod_eq_of_lt ha,Nat.mod_eq_of_lt hb]
 rw[e]
 have:a&&&b<2^64:=Nat.and_lt_two_pow a hb
 exact ck aa aa
theorem qH {a b i:Nat} (h:b<2^i):a*2^i|||b=a*2^i+b:=by
 rw[<-Nat.shiftLeft_eq,<-Nat.shiftLeft_add_eq_or_of_lt h]
theorem lN {x:Int}:x.fdiv (2^min (Int.toNat 32) IntKind.u64.bits)=x/4294967296:=by
 have:min (Int.toNat 32) IntKind.u64.bits=32:=rfl
 rw[this,Int.fdiv_eq_ediv_of_nonneg _ (by decide)]
 rfl
theorem AW {x:Int}:x.fdiv (2^min (Int.toNat 63) IntKind.u64.bits)=x/9223372036854775808:=by
 have:min (Int.toNat 63) IntKind.u64.bits=63:=rfl
 rw[this,Int.fdiv_eq_ediv_of_nonneg _ (by decide)]
 rfl
theorem vK {x:Int}:x*2^min (Int.toNat 32) IntKind.u64.bits=x*4294967296:=by
 have:min (Int.toNat 32) IntKind.u64.bits=32:=rfl
 rw[this];rfl
theorem DH {B c z y v t s:Nat} (hs:s=c+z+y) (h:v+c*B=t):v+s%4294967296*B+s/4294967296*(4294967296*B)=t+z*B+y*B:=by
 have h1:=Nat.div_add_mod s 4294967296
 generalize s/4294967296=q at*
 generalize s%4294967296=r at*
 subst h1 h
 have:c*B+z*B+y*B=(4294967296*q+r)*B:=by rw[<-Nat.add_mul,<-Nat.add_mul,hs]
 grind
theorem iw {i:Nat}:2^(32*(i+1))=4294967296*2^(32*i):=by
 rw[show 32*(i+1)=32+32*i by omega,Nat.pow_add]
open AV
def numOf (v:AV):Nat:=match v with
 |.int _ z=>z.toNat
 |_=>0
def ee (n:Nat) (f:Nat->AV):Prop:=∀i,i<n->∃z:Nat,z<2^32/\f i=.int .u32 z
theorem AL {z:Nat->Nat} {i:Nat}:numOf (aA z i)=z i:=by simp[numOf,aA]
theorem jE {n:Nat} {z:Nat->Nat}:(val n fun i=>numOf (aA z i))=val n z:=val_congr fun _ _=>AL
theorem gG {n:Nat} {z:Nat->Nat} (h:∀i,i<n->z i<2^32):ee n (aA z):=fun i hi=>⟨z i,h i hi,rfl⟩
def qE:AV->Option (Nat×Nat×List Prop)
 |.mag N=>some (N,nl N,[])
 |.nil=>some (0,0,[])
 |.aq es n f=>if es==1 then some (val n fun i=>numOf (f i),n,[ee n f])else none
 |_=>none
theorem xh {a:AV} {N n:Nat} {q:List Prop} (h:qE a=some (N,n,q)) (hq:au q):∃z:Nat->Nat,(∀i,i<n->z i<2^32)/\val n z=N/\bg a (.aq 1 n (aA z)):=by
 cases a<;>simp only[qE,reduceCtorEq,ax,Prod.mk.injEq]at h
 case mag M=>
  obtain⟨rfl,rfl,rfl⟩:=h
  exact⟨aB M,fun i _=>dO,gp,Ib rfl fun i _=>rfl⟩
 case nil=>
  obtain⟨rfl,rfl,rfl⟩:=h
  exact⟨fun _=>0,fun i hi=>aa,rfl,lO aa⟩
 case aq es m f=>
  split at h
  ·rename_i he
   simp only[ax,Prod.mk.injEq]at h
   obtain⟨rfl,rfl,rfl⟩:=h
   have hq:ee m f:=hq
   have he:es=1:=by simpa using he
   subst he
   refine⟨fun i=>numOf (f i),fun i hi=>?_,rfl,tF rfl fun i hi=>?_⟩
   ·obtain⟨z,h1,h2⟩:=hq i hi
    simp only[h2,numOf];omega
   ·obtain⟨z,h1,h2⟩:=hq i hi
    simp[h2,numOf,aA]
  ·simp at h
def lW (g:Nat->Nat->dm):List AV->Option dm
 |[a]=>match qE a with
  |some (N,n,q)=>some ⟨(g N n).res,[],q++(g N n).ia⟩
  |none=>none
 |_=>none
def iN (g:Nat->Nat->Nat->Nat->dm):List AV->Option dm
 |[a,b]=>match qE a,qE b with
  |some (A,n,p),some (B,m,q)=>some ⟨(g A n B m).res,[],p++(q++(g A n B m).ia)⟩
  |_,_=>none
 |_=>none
def yu (g:Nat->Nat->Int->dm):List AV->Option dm
 |[a,.int .u32 k]=>match qE a with
  |some (N,n,q)=>some ⟨(g N n k).res,[],q++(g N n k).ia⟩
  |none=>none
 |_=>none
abbrev aI (v:AV) (l:List Prop):dm:=⟨v,[],l⟩
section oks
variable {P:Program} {f:FuncId}
theorem tv {g:Nat->Nat->dm} (h:∀z n K,(∀i,i<n->z i<2^32)->(g (val n z) n).need->aO P f K [.aq 1 n (aA z)] [] (aI (g (val n z) n).res [])):
  ∀K args r,bH args=[]->lW g args=some r->r.post=[]->aO P f K args [] r:=by
 intro K args r hk hs _ need
 match args,hs with
 |[a],hs=>
  simp only[lW]at hs
  split at hs
  ·rename_i N n q hn
   simp only[ax]at hs
   subst hs
   obtain⟨n1,n2⟩:=dP.1 need
   obtain⟨z,hz,rfl,hle⟩:=xh hn n1
   exact eW (h z n K hz n2) hk ⟨hle,trivial⟩ [] trivial
  ·simp at hs
theorem ZO {g:Nat->Nat->Int->dm} (h:∀z n i K,(∀i,i<n->z i<2^32)->(g (val n z) n i).need->aO P f K [.aq 1 n (aA z),.int .u32 i] [] (aI (g (val n z) n i).res [])):
  ∀K args r,bH args=[]->yu g args=some r->r.post=[]->aO P f K args [] r:=by
 intro K args r hk hs _ need
 unfold yu at hs
 split at hs
 ·rename_i a i
  split at hs
  ·rename_i N n q hn
   simp only[ax]at hs
   subst hs
   obtain⟨n1,n2⟩:=dP.1 need
   obtain⟨z,hz,rfl,hle⟩:=xh hn n1
   exact eW (h z n i K hz n2) hk ⟨hle,.refl _,trivial⟩ [] trivial
  ·simp at hs
 ·simp at hs
theorem rJ {g:Nat->Nat->Nat->Nat->dm} (h:∀z n y m K,(∀i,i<n->z i<2^32)->(∀i,i<m->y i<2^32)->(g (val n z) n (val m y) m).need->
   aO P f K [.aq 1 n (aA z),.aq 1 m (aA y)] [] (aI (g (val n z) n (val m y) m).res [])):
  ∀K args r,bH args=[]->iN g args=some r->r.post=[]->aO P f K args [] r:=by
 intro K args r hk hs _ need
 match args,hs with
 |[a,b],hs=>
  simp only[iN]at hs
  split at hs
  ·rename_i N n q M m p hn hm
   simp only[ax]at hs
   subst hs
   obtain⟨n1,n4⟩:=dP.1 need
   obtain⟨n2,n3⟩:=dP.1 n4
   obtain⟨z,hz,rfl,hle⟩:=xh hn n1
   obtain⟨y,hy,rfl,hle2⟩:=xh hm n2
   exact eW (h z n y m K hz hy n3) hk ⟨hle,hle2,trivial⟩ [] trivial
  ·simp at hs
theorem bA {P:Program}:aZ P []:=fun f s h=>by simp[look]at h
theorem aE {f:FuncId} {s:Spec} {Γ:aU} (h:∀K args pre r,s K args pre=some r->aO P f K args pre r) (hΓ:aZ P Γ):aZ P ((f,s)::Γ):=by
 intro f' s' hl
 simp only[look]at hl
 split at hl
 ·rename_i he
  have:f=f':=by simpa using he
  subst this
  simp only[ax]at hl
  subst hl
  exact h
 ·exact hΓ f' s' hl
end oks
def cV (a b:Nat):Int:=if a<b then-1 else if b<a then 1 else 0
def bO (N:Nat):Nat:=if N=0 then 0 else N.log2+1
end Go.Am
namespace Go.Am
open AV
def k9 (sl:List (Nat×AV)):List ResultVar->Option (List AV)
 |[]=>some []
 |.tmp t::l=>match look t sl,k9 sl l with
  |some v,some m=>if v.isTuple then none else some (v::m)
  |_,_=>none
 |_=>none
def Bn (fn:Func) (sl:List (Nat×AV)):Option (List AV):=
 match k9 sl fn.results.toList with
 |some us=>match bH us with
  |[]=>eU [] us
  |_=>none
 |none=>none
theorem tZ {s:aL} {t:Nat} {v:AV} (hv:v.isTuple=false):∀{ls:List Nat},look t (aH ls (jL s ls))=some v->look t s.cN=some v
 |[],h=>by simp[aH,look]at h
 |x::ls,h=>by
  simp only[jL,aH,look]at h
  split at h
  ·rename_i he
   have:x=t:=by simpa using he
   subst this
   simp only[ax]at h
   subst h
   exact FC hv
  ·exact tZ hv h
theorem Cd {T:Types} {s:aL} {ls:List Nat}:∀{l:List ResultVar} {us:List AV},k9 (aH ls (jL s ls)) l=some us->gV T s l=some (us,[])
 |[],us,h=>by simp only[k9,ax]at h;subst h;rfl
 |.tmp t::l,us,h=>by
  simp only[k9]at h
  split at h
  ·rename_i v m hv hm
   split at h
   ·simp at h
   ·rename_i ht
    simp only[ax]at h
    subst h
    simp only[gV,qo,tZ (by simpa using ht) hv,Cd hm]
    simp[ht]
  ·simp at h
 |.cell _ _::_,us,h=>by simp[k9]at h
theorem gL {T:Types} {fn:Func} {ls:List Nat} {vs us:List AV} {os:aD} {e:ak} {s':aL} {res:AV} (he:e=.normal\/e=.ret) (hv:bC ls s'=some (vs,os)) (hr:Bn fn (aH ls vs)=some us) (hres:fz us res):Fin T fn res e s':=by
 unfold bC at hv
 simp only[ax,Prod.mk.injEq]at hv
 obtain⟨rfl,_⟩:=hv
 unfold Bn at hr
 split at hr
 ·rename_i rs hrs
  split at hr
  ·rename_i hk
   refine⟨he,rs,[],us,Cd hrs,trivial,?_,hres⟩
   rw[hk];exact hr
  ·simp at hr
 ·simp at hr
theorem Uo {P:Program} {f:FuncId} {K es n:Nat} {g:Nat->AV} {l:List AV} {r:dm} (h:∀b,(b=true->n=0)->aO P f K (.ew b es n g::l) [] r):aO P f K (.aq es n g::l) [] r:=by
 intro need
 refine⟨((h false fun h=>by simp at h) need).1,fun c D D' β w vs hw0 hMw hrel hD hK hv=>?_⟩
 match vs,hv with
 |x::xs,hv=>
  obtain⟨⟨cs,h1,h2⟩,h3⟩:=hv
  have:∃b,(b=true->n=0)/\bt (aP c [] β) w β (.ew b es n g) x:=by
   cases h1 with
   |aq g1 g2 g3 g4 g5 g6=>
    rename_i base cap cs' cf
    cases g6
    refine⟨base.isNone,fun hb=>?_,_,.ew rfl g1 g2 g3 g4 g5 .nil,h2⟩
    rcases g1 with g1|⟨b,o,rfl,_⟩
    ·exact g1
    ·simp at hb
  obtain⟨b,hb0,hb⟩:=this
  exact((h b hb0) need).2 c D D' β w (x::xs) hw0 hMw hrel hD hK ⟨hb,h3⟩
theorem EF {z y:Nat->Nat} {k:Nat}:∀{n:Nat},k<n->(∀j,k<j->j<n->z j=y j)->z k<y k->(∀i,i<n->z i<2^32)->val n z<val n y
 |0,h,_,_,_=>aa
 |n+1,h,he,hk,hz=>by
  rw[val,val]
  by_cases hn:k=n
  ·subst hn
   have h1:=ga (z:=z) (n:=k) fun i hi=>hz i aa
   have h2:(z k+1)*2^(32*k)<=y k*2^(32*k):=Nat.mul_le_mul_right _ hk
   rw[Nat.add_mul,Nat.one_mul]at h2
   omega
  ·have:=EF (n:=n) aa (fun j h1 h2=>he j h1 aa) hk fun i hi=>hz i aa
   rw[he n aa aa]
   omega
theorem D5 {A B:Nat} (hn:nl A=nl B) (h:∀i,i<nl A->aB A i=aB B i):A=B:=by
 rw[<-gp (N:=A),<-gp (N:=B),<-hn]
 exact val_congr h
theorem y8 {A B k:Nat} (hn:nl A=nl B) (hk:k<nl A) (h:∀j,k<j->j<nl A->aB A j=aB B j) (hlt:aB A k<aB B k):A<B:=by
 have:=EF (z:=aB A) (y:=aB B) hk h hlt fun i _=>dO
 rw[gp,hn,gp]at this
 exact this
theorem zh {A B:Nat} (h:nl A<nl B):A<B:=by
 rcases Nat.lt_or_ge A B with h1|h1
 ·exact h1
 ·have:=ic h1;omega
theorem fL {ρ:Nat->Option Nat} {r w:Bool} {n m:Nat} {f:Nat->AV} {o:Nat->Nat} (hn:m=n) (h:∀j,j<n->f j=aA o j):dZ ρ ⟨r,w,1,n,f⟩ ⟨r,w,1,m,aA o⟩:=
 iX hn fun j hj=>by rw[h j hj];exact gu rfl
def cA (o:Nat->Nat) (i x:Nat):Nat->Nat:=fun j=>if j=i then x else o j
theorem jP {o:Nat->Nat} {i x:Nat}:cA o i x i=x:=if_pos rfl
theorem fR {o:Nat->Nat} {i x j:Nat} (h:j≠i):cA o i x j=o j:=if_neg h
theorem iG {o:Nat->Nat} {i x b:Nat} {n:Nat} (hx:x<b) (ho:∀j,j<n->o j<b):∀j,j<n->cA o i x j<b:=fun j hj=>by
 unfold cA
 split
 ·exact hx
 ·exact ho j hj
theorem gZ {o:Nat->Nat} {i x:Nat} {v:Int} (hv:v=(x:Nat)) (j:Nat):(if j=i then AV.int .u32 v else aA o j)=aA (cA o i x) j:=by
 unfold aA cA
 split
 ·rw[hv]
 ·rfl
theorem p8 {o:Nat->Nat} {i x:Nat}:∀{n:Nat},i<n->o i=0->val n (cA o i x)=val n o+x*2^(32*i)
 |0,h,_=>aa
 |n+1,h,h0=>by
  rw[val,val]
  by_cases hn:i=n
  ·subst hn
   rw[jP,h0,val_congr (y:=o) fun j hj=>fR aa]
   omega
  ·rw[p8 (n:=n) aa h0,fR aa]
   omega
theorem qi {o:Nat->Nat} {i x:Nat}:val (i+1) (cA o i x)=val i o+x*2^(32*i):=by
 rw[val,jP,val_congr (y:=o) fun j hj=>fR aa]
theorem tH {x k:Nat} (h:2^k<=x):bO x=k+bO (x/2^k):=by
 have hk:=Nat.two_pow_pos k
 have h0:x≠0:=aa
 have h1:x/2^k≠0:=by
  have:=(Nat.le_div_iff_mul_le hk (x:=1) (y:=x)).2 aa
  omega
 unfold bO
 rw[if_neg h0,if_neg h1]
 have:x.log2=k+(x/2^k).log2:=by
  obtain⟨g1,g2⟩:=(Nat.log2_eq_iff h1).1 rfl
  rw[Nat.log2_eq_iff h0]
  refine⟨?_,?_⟩
  ·rw[Nat.pow_add,Nat.mul_comm]
   exact(Nat.le_div_iff_mul_le hk).1 g1
  ·rw[show k+(x/2^k).log2+1=((x/2^k).log2+1)+k by omega,Nat.pow_add]
   exact(Nat.div_lt_iff_lt_mul hk).1 g2
 omega
theorem j5 {x k:Nat}:bO x<=k↔x<2^k:=by
 unfold bO
 split
 ·rename_i h;subst h;simp[Nat.two_pow_pos]
 ·rename_i h;rw[<-Nat.log2_lt h];omega
theorem LJ {N:Nat} (h:N≠0):bO N=32*(nl N-1)+bO (aB N (nl N-1)):=by
 have hp:=gA.2 h
 have h1:2^(32*(nl N-1))<=N:=by
  rcases Nat.lt_or_ge N (2^(32*(nl N-1)))with h1|h1
  ·have:=dy.2 h1;omega
  ·exact h1
 have h2:N/2^(32*(nl N-1))<2^32:=by
  rw[Nat.div_lt_iff_lt_mul (Nat.two_pow_pos _),<-Nat.pow_add]
  have:=nr (N:=N)
  rw[show 32+32*(nl N-1)=32*nl N by omega]
  exact this
 rw[tH h1,aB,Nat.mod_eq_of_lt h2]
theorem CG {o:Nat->Nat} {i x:Nat}:∀{n:Nat},i<n->val n (cA o i x)+o i*2^(32*i)=val n o+x*2^(32*i)
 |0,h=>aa
 |n+1,h=>by
  rw[val,val]
  by_cases hn:i=n
  ·subst hn
   rw[jP,val_congr (y:=o) fun j hj=>fR aa]
   omega
  ·have:=CG (o:=o) (x:=x) (n:=n) (i:=i) aa
   rw[fR (show n≠i by omega)]
   omega
theorem ay.oF {P:Program} {c:Ctx} {nt:Nat} {s:aL} {Q:ak->aL->Prop} {x y:Code} {i:Nat} (hx:x=.block i y) (h:ay P c nt y s (inBlock i Q)):ay P c nt x s Q:=hx▸.C3 h
theorem JK {c x y o:Nat} (hc:c<2^32) (hx:x<2^32) (hy:y<2^32) (ho:o<2^32):
  IntKind.u64.wrap ((c:Int)+IntKind.u64.wrap (IntKind.u64.wrap (IntKind.u64.wrap (x:Int)*IntKind.u64.wrap (y:Int))+IntKind.u64.wrap (o:Int)))=((c+x*y+o:Nat):Int)/\
   c+x*y+o<2^64/\(c+x*y+o)/4294967296<2^32:=by
 have h1:x*y<=(2^32-1)*(2^32-1):=Nat.mul_le_mul aa aa
 have e:(x:Int)*(y:Int)=((x*y:Nat):Int):=by simp
 rw[ck (x:=(x:Int)) aa aa,ck (x:=(y:Int)) aa aa,ck (x:=(o:Int)) aa aa,e]
 generalize x*y=p at*
 refine⟨?_,aa,aa⟩
 rw[ck (x:=(p:Int)) aa aa,ck (x:=(p:Int)+o) aa aa,ck aa aa]
 omega
theorem JM {vo vo' oi c x yj B s q r v Bi Bj vy:Nat} (hs:s=c+x*yj+oi) (hq:4294967296*q+r=s) (hset:vo'+oi*B=vo+r*B) (hB:B=Bi*Bj) (h:vo+c*B=v+x*vy*Bi):
  vo'+q*(4294967296*B)=v+x*(vy+yj*Bj)*Bi:=by
 subst hB
 have e:(4294967296*q+r)*(Bi*Bj)=(c+x*yj+oi)*(Bi*Bj):=by rw[hq,hs]
 grind
theorem nH {P:Program} {f:FuncId} {K:Nat} {args:List AV} {u v:AV} {l l':List Prop} (hf:aO P f K args [] ⟨u,[],l⟩) (hl:au l'->au l) (hk:keys u=[]) (ht:u.isTuple=false) (hle:bg u v):aO P f K args [] ⟨v,[],l'⟩:=by
 intro need
 obtain⟨h1,h2⟩:=hf (hl need)
 refine⟨fun k o ho=>by simp[look]at ho,fun c D D' β w vs hw0 hMw hrel hD hK hv=>(h2 c D D' β w vs hw0 hMw hrel hD hK hv).mono ?_⟩
 rintro x w' ⟨β',g1,g2,g3⟩
 refine⟨β',g1,g2,?_⟩
 have h3:cD _ w' β' [u] [x]:=⟨bG.one g3 ht,trivial⟩
 have h4:=vQ (us:=[u]) (vs:=[v]) ⟨hle,trivial⟩ (h3.bu (by rw[CB];exact hk))
 have h5:=h4.mono (fun b o h1 h2=>⟨h2,h1⟩) (β':=β') fun k x hx=>by simp[bu]at hx
 exact bt.bM h5.1
theorem xO {i:Nat} {Q:ak->aL->Prop} {s:aL} (h:Q .normal s):inBlock i Q (.exit i) s:=by
 simp only[inBlock,if_true];exact h
theorem fG {i:Nat} {k:aL->Prop} {Q:ak->aL->Prop} {s:aL} (h:Q .normal s):ej k (inBlock i Q) (.exit i) s:=by
 show inBlock i Q (.exit i) s
 exact xO h
theorem pY {i:Nat} {k:aL->Prop} {Q:ak->aL->Prop} {s:aL} (h:Q (.exit i) s):ej k Q (.exit i) s:=h
theorem Kf {i:Nat} {k:aL->Prop} {Q:ak->aL->Prop} {s:aL} (h:Q .ret s):ej k (inBlock i Q) .ret s:=h
theorem fA {k:aL->Prop} {Q:ak->aL->Prop} {s:aL} (h:Q .ret s):ej k Q .ret s:=h
theorem Ce {s:aL}:∀{a b:List Nat},jL s (a++b)=jL s a++jL s b
 |[],_=>rfl
 |x::a,b=>by simp only[List.cons_append,jL,Ce]
theorem Ef {s:aL}:∀{a:List Nat},(jL s a).length=a.length
 |[]=>rfl
 |x::a=>by simp only[jL,List.length_cons,Ef]
theorem Ns {a b:List AV}:bH (a++b)=bH a++bH b:=by
 induction a with
 |nil=>rfl
 |cons x a ih=>simp only[List.cons_append,bH,ih,List.append_assoc]
theorem jn {s:aL} {ls l:List Nat} {vs us:List AV} {os:aD} (hv:bC (ls++l) s=some (vs++us,os)) (hl:vs.length=ls.length) (hk:bH us=[]):bC ls s=some (vs,os):=by
 unfold bC at hv ⊢
 simp only[ax,Prod.mk.injEq,Ce]at hv ⊢
 obtain⟨h1,h2⟩:=hv
 obtain⟨h3,h4⟩:=List.append_inj h1 (by rw[Ef,hl])
 subst h3
 refine⟨rfl,?_⟩
 rw[<-h2,h4,Ns,hk,List.append_nil]
mutual
def zeroCells:AV->Option (List Value)
 |.bool b=>some [.bool b]
 |.int k n=>some [.int k n]
 |.nil=>some [.slice none 0 0]
 |.rat q n=>if q=0/\n=1 then some [.bool false,.slice none 0 0,.slice none 0 0]else none
 |.agg l=>tW l
 |_=>none
def tW:List AV->Option (List Value)
 |[]=>some []
 |a::l=>match zeroCells a,tW l with
  |some c,some d=>some (c++d)
  |_,_=>none
end
mutual
theorem Dt {M:Nat->Prop} {w:World} {β:aX}:∀{v:AV} {cs:List Value},zeroCells v=some cs->aR M w β [v] cs
 |.bool b,cs,h=>by simp only[zeroCells,ax]at h;subst h;exact .bool .nil
 |.int k n,cs,h=>by simp only[zeroCells,ax]at h;subst h;exact .int .nil
 |.nil,cs,h=>by simp only[zeroCells,ax]at h;subst h;exact .vnil .nil
 |.rat q n,cs,h=>by
  simp only[zeroCells]at h
  split at h
  ·rename_i hq
   obtain⟨rfl,rfl⟩:=hq
   simp only[ax]at h
   subst h
   have h0:aR M w bu [.mag 0] [.slice none 0 0]:=by
    have:=aR.mag (M:=M) (w:=w) (β:=bu) (N:=0) (base:=none) (cap:=0) (.inl rfl) (by simp[rH]) .nil
    simpa [rH]using this
   have:=aR.rat (M:=M) (w:=w) (β:=β) (q:=0) (n:=1) (x:=.slice none 0 0) (y:=.slice none 0 0) (l:=[]) (cs:=[]) ⟨by decide,by decide⟩ (by simpa using h0) (by simpa using h0) .nil
   simpa using this
  ·simp at h
 |.agg l,cs,h=>by
  simp only[zeroCells]at h
  simpa using aR.agg (Ip h) .nil
 |.mag _,cs,h=>by simp[zeroCells]at h
 |.aq _ _ _,cs,h=>by simp[zeroCells]at h
 |.ew _ _ _ _,cs,h=>by simp[zeroCells]at h
 |.bn _,cs,h=>by simp[zeroCells]at h
 |.ptr _ _ _ _ _,cs,h=>by simp[zeroCells]at h
 |.own _ _ _ _,cs,h=>by simp[zeroCells]at h
 |.func _ _,cs,h=>by simp[zeroCells]at h
 |.tuple _,cs,h=>by simp[zeroCells]at h
 |.bP _ _,cs,h=>by simp[zeroCells]at h
theorem Ip {M:Nat->Prop} {w:World} {β:aX}:∀{l:List AV} {cs:List Value},tW l=some cs->aR M w β l cs
 |[],cs,h=>by simp only[tW,ax]at h;subst h;exact .nil
 |a::l,cs,h=>by
  simp only[tW]at h
  cases ha:zeroCells a with
  |none=>rw[ha]at h;simp at h
  |some c=>
   cases hl:tW l with
   |none=>rw[ha,hl]at h;simp at h
   |some d=>
    rw[ha,hl]at h
    simp only[ax]at h
    subst h
    exact(Dt ha).cons (Ip hl)
end
def DB (v:AV):Option Value:=
 match zeroCells v with
 |some cs=>if v.isAgg then some (.agg cs.toArray)else match cs with
  |[x]=>some x
  |_=>none
 |none=>none
theorem cX {P:Program} {t:TypeId} {ti:TI} (h1:P.underlying t=some ti.desc) (h2:(P.info? t).map (fun i=>(i.size,i.bytes,i.zero))=some (ti.size,ti.bytes,DB ti.zero))
  (h3:(DB ti.zero).isSome=true):bZ P t ti:=by
 cases hi:P.info? t with
 |none=>rw[hi]at h2;simp at h2
 |some i=>
  rw[hi]at h2
  simp only[Option.map_some,ax,Prod.mk.injEq]at h2
  refine⟨h1,⟨i,hi,h2.1,h2.2.1⟩,fun _=>?_⟩
  obtain⟨z,hz⟩:=Option.isSome_iff_exists.1 h3
  refine⟨i,z,hi,by rw[h2.2.2,hz],fun M w β=>?_⟩
  unfold DB at hz
  cases hc:zeroCells ti.zero with
  |none=>rw[hc]at hz;simp at hz
  |some cs=>
   rw[hc]at hz
   simp only at hz
   split at hz
   ·rename_i ha
    simp only[ax]at hz
    subst hz
    exact .wN (Dt hc) ha
   ·rename_i ha
    split at hz
    ·simp only[ax]at hz
     subst hz
     exact .cq (Dt hc) (by simpa using ha)
    ·simp at hz
theorem jk {P:Program} {t:TypeId} {ti:TI} (h1:P.underlying t=some ti.desc) (h2:(P.info? t).map (fun i=>(i.size,i.bytes))=some (ti.size,ti.bytes)) (h3:ti.zero=.tuple []):bZ P t ti:=by
 cases hi:P.info? t with
 |none=>rw[hi]at h2;simp at h2
 |some i=>
  rw[hi]at h2
  simp only[Option.map_some,ax,Prod.mk.injEq]at h2
  exact⟨h1,⟨i,hi,h2.1,h2.2⟩,fun h=>by rw[h3]at h;simp[isTuple]at h⟩
theorem Qw {P:Program} {t:TypeId} {ti:TI} (h1:P.underlying t=some ti.desc) (h2:(P.info? t).map (fun i=>(i.size,i.bytes,i.zero))=some (ti.size,ti.bytes,some .nilFunc)) (h3:ti.zero=.void):bZ P t ti:=by
 cases hi:P.info? t with
 |none=>rw[hi]at h2;simp at h2
 |some i=>
  rw[hi]at h2
  simp only[Option.map_some,ax,Prod.mk.injEq]at h2
  refine⟨h1,⟨i,hi,h2.1,h2.2.1⟩,fun _=>⟨i,.nilFunc,hi,h2.2.2,fun M w β=>?_⟩⟩
  rw[h3]
  exact⟨[.nilFunc],.void rfl .nil,.inr ⟨rfl,rfl⟩⟩
theorem ad5 {P:Program}:dF P []:=fun t ti h=>by simp[look]at h
theorem cr {P:Program} {t:TypeId} {ti:TI} {T:Types} (h:bZ P t ti) (hT:dF P T):dF P ((t,ti)::T):=by
 intro t' ti' ht
 simp only[look]at ht
 split at ht
 ·rename_i he
  have:t=t':=by simpa using he
  subst this
  simp only[ax]at ht
  subst ht
  exact h
 ·exact hT t' ti' ht
end Go.Am
namespace Go.Am
open AV
theorem cD.length {M:Nat->Prop} {w:World} {β:aX}:∀{us:List AV} {xs:List Value},cD M w β us xs->us.length=xs.length
 |[],[],_=>rfl
 |_::_,_::_,h=>by simp[cD.length h.2]
 |[],_::_,h=>h.elim
 |_::_,[],h=>h.elim
theorem cD.weak {c c':Ctx} {β β2:aX} {w:World} {ρ:Nat->Option Nat} {M M':Nat->Prop} (hM:∀b,M' b->M b) (hβ:∀k2 k1,ρ k2=some k1->β2 k2=β k1):∀{us vs:List AV} {xs:List Value},fT ρ us vs->cD M w β us xs->cD M' w β2 vs xs
 |[],[],[],_,_=>trivial
 |u::us,v::vs,x::xs,h,hv=>⟨hv.1.weak hM hβ h.1.2,cD.weak (c:=c) (c':=c') hM hβ h.2 hv.2⟩
 |[],_::_,_,h,_=>h.elim
 |_::_,[],_,h,_=>h.elim
 |_::_,_::_,[],_,h=>h.elim
 |[],[],_::_,_,h=>h.elim
theorem aeH {nx:Nat} {rl:List (Nat×Nat)} (hr:jc nx rl=true):∀a b k,bB rl a=some k->bB rl b=some k->a=b:=by
 intro a b k ha hb
 have:=List.all_eq_true.1 hr _ (l7 ha)
 simp only[Bool.and_eq_true,bz]at this
 simpa using List.all_eq_true.1 this.2 _ (l7 hb)
theorem LV {nx:Nat} {rl:List (Nat×Nat)} (hr:jc nx rl=true) {a k:Nat} (ha:bB rl a=some k):a<nx:=by
 have:=List.all_eq_true.1 hr _ (l7 ha)
 simp only[Bool.and_eq_true,bz]at this
 exact this.1
theorem ag2 {M:Nat->Prop} {w:World} {β:aX} {us:List AV} {xs:List Value} (h:cD M w β us xs):bG M w β (js us) (if h:xs.length=1 then xs.toArray[0]'(by simpa using(show 0<xs.length by omega))else .tuple xs.toArray):=by
 have hl:=h.length
 match us,xs,h,hl with
 |[],[],_,_=>exact⟨[],rfl,trivial⟩
 |[u],[x],h,_=>exact h.1.bM
 |u::u'::us,x::x'::xs,h,_=>simp only[List.length_cons,Nat.add_eq_right,Nat.add_eq_zero_iff,Nat.succ_ne_zero,and_false,dite_false];exact⟨_,rfl,h⟩
section core
variable {P:Program} {T:Types}
structure yc (T:Types) (fn:Func) (τ:Nat->Option Nat) (pre:aD) (r:dm) (s:aL):Prop where
 ends:Ends T fn r.res s
 Ci:∀k o,look k (cK (fV r.post) pre)=some o->∃k1 o1,τ k=some k1/\look k1 s.store=some o1/\o1.row=false/\dZ τ o1 o
structure rZ (T:Types) (fn:Func) (τ:Nat->Option Nat) (pre:aD) (r:dm) (s:aL):Prop where
 ends:∃vs q us,gV T s fn.results.toList=some (vs,q)/\au q/\fT τ vs us/\r.res=js us
 Ci:∀k o,look k (cK (fV r.post) pre)=some o->∃k1 o1,τ k=some k1/\look k1 s.store=some o1/\dZ τ o1 o
structure tq (rl:List (Nat×Nat)) (K:Nat) (pre:aD) (τ:Nat->Option Nat):Prop where
 inj:∀a b k,τ a=some k->τ b=some k->a=b
 dom:∀k a,τ k=some a->bB rl a=some k\/(K<=k/\k<K+cM)
theorem Rf (hT:dF P T) {f:FuncId} {fn:Func} {x:Code} (hf:iL P f fn x) {args args0:List AV} {pre pre0:aD} {r:dm} {K nx:Nat} (rl:List (Nat×Nat)) (hlen:args0.length<=fn.ntmps) (hr:jc nx rl=true)
  (ha:fT (bB rl) args args0) (hp:mM (bB rl) pre pre0) (hrl:∀a k,bB rl a=some k->∃o,look k pre=some o)
  (hpost:∀k o,look k r.post=some o->(∃o',look k pre=some o')\/(K<=k/\k<K+cM))
  (h:r.need->∀c:Ctx,c.ro=none->(∀k x,c.k0 k=some x->(bB rl k).isSome=true)->ay P c fn.ntmps x ⟨aT 0 args0,pre0,nx⟩ fun e s'=>(e=.normal\/e=.ret)/\∃τ,tq rl K pre τ/\(yc T fn τ pre r s'\/rZ T fn τ pre r s')):aO P f K args pre r:=by
 intro need
 refine⟨hpost,fun c D D' β w vs hw0 hMw hrel hD hK hv=>.inl ⟨fn,hf.get,hf.name,by simp[hf.body],?_⟩⟩
 have hobj0:=yp hp
 have hβ0:∀k2 k1,bB rl k2=some k1->(fun a=>(bB rl a).bind β) k2=β k1:=fun k2 k1 h=>by simp[h]
 have hW:br {c with k0:=fun a=>(bB rl a).bind β,ro:=none} pre0 (fun k=>k<nx) (fun a=>(bB rl a).bind β) w:=by
  refine hrel.weak (c':={c with k0:=fun a=>(bB rl a).bind β,ro:=none}) (ρ:=bB rl) rfl rfl rfl (aeH hr) (fun k o h=>.inl (hobj0 k o h)) hβ0 (fun k2 k1 h=>LV hr h) (fun k2 x hk=>?_) (fun k2 b N hk=>?_) (fun k x hk=>hk)
  ·cases h1:bB rl k2 with
   |none=>simp[h1]at hk
   |some k1=>exact LV hr h1
  ·cases h1:bB rl k2 with
   |none=>simp[h1]at hk
   |some k1=>simp[h1]at hk;exact hrel.lt k1 b N hk
 have hv0:cD (aP {c with k0:=fun a=>(bB rl a).bind β,ro:=none} pre0 (fun a=>(bB rl a).bind β)) w (fun a=>(bB rl a).bind β) args0 vs:=
  hv.weak (c:=c) (c':=c) (ρ:=bB rl) (y6 rfl (fun k o h=>.inl (hobj0 k o h)) hβ0) hβ0 ha
 have hl0:=hv0.length
 have hstart:Rel {c with k0:=fun a=>(bB rl a).bind β,ro:=none} fn.ntmps (fun k=>k<nx) (aT 0 args0) pre0 {tmps:=vs.toArray++Array.replicate (fn.ntmps-vs.toArray.size) undef,defers:=[]} w:=by
  refine⟨.nil,by simp;omega,_,hW,?_⟩
  have:=AE (pre:=#[]) (post:=Array.replicate (fn.ntmps-vs.toArray.size) undef) hv0 rfl
  simpa using this
 refine callsIn_wide.1 (callsIn_of_wp_marks (F:=Fence.wide) (n:=3) hf.get hf.body trivial (wpIn_mono (h need {c with k0:=fun a=>(bB rl a).bind β,ro:=none} rfl (fun k x hk=>by
  cases h1:bB rl k with
  |none=>simp[h1]at hk
  |some k1=>rfl) _ w hstart) ?_))
 rintro e a' w9 ⟨ae,s',rfl,hr9,hex,τ,hτ,hends⟩
 obtain⟨w',hr',hleave⟩:=Rel.leave (P:=P) (fn:=fn) (R:=fun e w'=>∃x,e=.returned x/\eJ c pre D' β w (fV r.post) r.res x w') hr9
 -- what the end gives, in the function's own keys
 have hfin:∃x β1 st1,(results fn a'.tmps).run P w'=.ok x w'/\br {c with k0:=fun a=>(bB rl a).bind β,ro:=none} st1 (fun k=>k<s'.next) β1 w'/\
   (∀k o,look k (cK (fV r.post) pre)=some o->∃k1 o1,τ k=some k1/\look k1 st1=some o1/\dZ τ o1 o)/\
   bG (aP {c with k0:=fun a=>(bB rl a).bind β,ro:=none} st1 β1) w' (fun k=>(τ k).bind β1) r.res x:=by
  rcases hends with hends|hends
  ·obtain⟨hdef,x,β1,st1,hrun,hw1,hvx,hrow⟩:=FD hT hends.ends hr'
   refine⟨x,β1,st1,hrun,hw1,fun k o hk=>?_,hvx.mono (fun b o h1 h2=>⟨h2,h1⟩) fun k x hk=>by simp[bu]at hk⟩
   obtain⟨k1,o1,g1,g2,g3,g4⟩:=hends.Ci k o hk
   exact⟨k1,o1,g1,hrow k1 o1 g2 g3,g4⟩
  ·obtain⟨a1,a2,β1,a3,a4⟩:=hr'
   obtain⟨vs1,q,us,h1,hq,h2,h3⟩:=hends.ends
   obtain⟨xs,hxs,hv,hlen⟩:=Bm hT a3 a4 (g:=fun x=>match x with
    |ResultVar.tmp t=>pure (a'.tmps.getD t undef)
    |ResultVar.cell r t=>do let y <-asAddr (a'.tmps.getD r undef);loadVar t y) (fun _=>rfl) (fun _ _=>rfl) h1 hq
   refine⟨if h:xs.length=1 then xs.toArray[0]'(by simpa using(show 0<xs.length by omega))else .tuple xs.toArray,β1,s'.store,?_,a3,hends.Ci,?_⟩
   ·have key:results fn a'.tmps=(do
      let vs <-fn.results.mapM fun x=>match x with
       |ResultVar.tmp t=>pure (a'.tmps.getD t undef)
       |ResultVar.cell r t=>do let y <-asAddr (a'.tmps.getD r undef);loadVar t y
      pure (if h:vs.size=1 then vs[0]else Value.tuple vs)):=rfl
    rw[key,Sem.run_bind,Array.mapM_eq_mapM_toList,Sem.run_map,hxs]
    simp only[Result.andThen_ok,Sem.run_pure]
    congr 1
   ·rw[h3]
    exact ag2 (hv.weak (c:=c) (c':=c) (ρ:=τ) (fun _ h=>h) (fun k2 k1 h=>by simp[h]) h2)
 obtain⟨x,β1,st1,hrun,hw1,hobj1,hvx⟩:=hfin
 have hkeep1:∀k a,τ k=some a->∀y,β k=some y->β1 a=some y:=by
  intro k a hka y hy
  rcases hτ.dom k a hka with h1|⟨h1,h2⟩
  ·exact hw1.keep a y (by simp only[h1,Option.bind_some];exact hy)
  ·exact absurd (hrel.dom k y hy) (hK k h1 h2).1
 have hβ2:∀k2 k1,τ k2=some k1->(fun k=>match τ k with
   |some a=>β1 a
   |none=>β k) k2=β1 k1:=fun k2 k1 h=>by simp[h]
 have hW2:br c (cK (fV r.post) pre) D' (fun k=>match τ k with
   |some a=>β1 a
   |none=>β k) w':=by
  have hd2:∀k2 a,τ k2=some a->D' k2:=fun k2 a ha=>by
   rcases hτ.dom k2 a ha with h1|⟨h1,h2⟩
   ·obtain⟨o,ho⟩:=hrl a k2 h1
    cases hb:β k2 with
    |some x=>exact hD _ (hrel.dom k2 _ hb)
    |none=>exact hD _ (hrel.dK k2 o ho hb).2
   ·exact(hK k2 h1 h2).2
  refine hw1.weak (c':=c) (ρ:=τ) rfl rfl rfl hτ.inj (fun k o h=>.inl (hobj1 k o h)) hβ2 hd2 (fun k2 y hk=>?_) (fun k2 b N hk=>?_) (fun k y hk=>?_)
  ·split at hk
   ·rename_i a ha
    exact hd2 k2 a ha
   ·exact hD _ (hrel.dom k2 y hk)
  ·split at hk
   ·exact hw1.lt _ b N hk
   ·exact Nat.lt_of_lt_of_le (hrel.lt k2 b N hk) (by have:=hw1.size;rw[<-hw0];exact this)
  ·have hy:=hrel.keep k y hk
   split
   ·rename_i a ha
    exact hkeep1 k a ha y hy
   ·exact hy
 have hO:eJ c pre D' β w (fV r.post) r.res x w':=by
  refine⟨_,hW2,⟨fun b o hb ho=>?_,fun k y hk=>?_⟩,?_⟩
  ·have hlt:b<c.w0.heap.size:=by rw[hw0];exact kQ ho
   have hmw:¬c.Mw b:=fun hm=>hb (hMw b hm)
   refine⟨?_,?_⟩
   ·rw[hw1.block b hlt hmw]
    show c.w0.heap[b]?=_
    rw[hw0];exact ho
   ·rintro(hm|⟨k,o',N,h1,h2,h3⟩)
    ·exact hb (.inl hm)
    ·rcases hW2.new k o' b N h1 h2 h3 with h4|h4
     ·omega
     ·exact hmw h4
  ·split
   ·rename_i a ha
    exact hkeep1 k a ha y hk
   ·exact hk
  ·refine hvx.mono (fun b o h1 h2=>⟨h2,fun h3=>h1 (y6 (c:={c with k0:=fun a=>(bB rl a).bind β,ro:=none}) rfl (fun k o h=>.inl (hobj1 k o h)) hβ2 b h3)⟩) (fun k y hk=>?_)
   cases h1:τ k with
   |none=>simp[h1]at hk
   |some a=>simpa [h1]using hk
 rcases hex with rfl|rfl
 ·exact hleave x hrun ⟨x,rfl,hO⟩
 ·exact hleave x hrun ⟨x,rfl,hO⟩
theorem nE (hT:dF P T) {f:FuncId} {fn:Func} {x:Code} (hf:iL P f fn x) {args args0:List AV} {pre pre0:aD} {r:dm} {K nx:Nat} (rl:List (Nat×Nat)) (hlen:args0.length<=fn.ntmps) (hr:jc nx rl=true)
  (ha:fT (bB rl) args args0) (hp:mM (bB rl) pre pre0) (hrl:∀a k,bB rl a=some k->∃o,look k pre=some o)
  (hpost:∀k o,look k r.post=some o->(∃o',look k pre=some o')\/(K<=k/\k<K+cM))
  (h:r.need->∀c:Ctx,(∀k x,c.k0 k=some x->(bB rl k).isSome=true)->ay P c fn.ntmps x ⟨aT 0 args0,pre0,nx⟩ fun e s'=>(e=.normal\/e=.ret)/\∃τ,tq rl K pre τ/\(yc T fn τ pre r s'\/rZ T fn τ pre r s')):aO P f K args pre r:=
 Rf hT hf rl hlen hr ha hp hrl hpost fun need c _=>h need c
end core
def jM (nx:Nat) (vs:List AV):Bool:=(vs.all fun v=>!v.isTuple)&&(bH vs).all fun k=>decide (k<nx)
def iE (nx:Nat):aD->Prop
 |[]=>True
 |(k,o)::l=>(k<nx/\∀i,i<o.len->keys (o.f i)=[])/\iE nx l
theorem Kp {nx:Nat}:∀{os:aD},iE nx os->∀{k:Nat} {o:az},look k os=some o->k<nx/\∀i,i<o.len->keys (o.f i)=[]
 |[],_,k,o,h=>by simp[look]at h
 |(j,b)::l,h,k,o,hk=>by
  simp only[look]at hk
  split at hk
  ·rename_i he
   have:j=k:=by simpa using he
   subst this
   simp only[ax]at hk
   subst hk
   exact h.1
  ·exact Kp h.2 hk
theorem Mg {nx:Nat} {u:AV} (hk:∀k∈keys u,k<nx):gM (fun k=>if k<nx then some k else none) u u:=by
 refine⟨rfl,fun M w β cs hc=>?_⟩
 have gen:∀{l:List AV} {cs:List Value},aR M w β l cs->(∀k∈bH l,k<nx)->aR M w (fun k=>(if k<nx then some k else none).bind β) l cs:=by
  intro l cs h
  generalize hβ:β=β' at h
  induction h with
  |nil=>exact fun _=>.nil
  |bool _ ih=>exact fun h=>.bool (ih hβ (by simpa [bH,keys]using h))
  |int _ ih=>exact fun h=>.int (ih hβ (by simpa [bH,keys]using h))
  |rat hs h1 h2 _ _ _ ih=>exact fun h=>.rat hs h1 h2 (ih hβ (by simpa [bH,keys]using h))
  |mag h1 h2 _ ih=>exact fun h=>.mag h1 h2 (ih hβ (by simpa [bH,keys]using h))
  |agg _ _ ih1 ih2=>exact fun h=>.agg (ih1 hβ fun k hk=>h k (by simp only[bH,keys];exact List.mem_append_left _ hk)) (ih2 hβ fun k hk=>h k (by simp only[bH];exact List.mem_append_right _ hk))
  |aq h1 h2 h3 h4 h5 _ _ ih=>exact fun h=>.aq h1 h2 h3 h4 h5 (ih hβ (by simpa [bH,keys]using h))
  |ew hq h1 h2 h3 h4 h5 _ _ ih=>exact fun h=>.ew hq h1 h2 h3 h4 h5 (ih hβ (by simpa [bH,keys]using h))
  |vnil _ ih=>exact fun h=>.vnil (ih hβ (by simpa [bH,keys]using h))
  |void hx _ ih=>exact fun h=>.void hx (ih hβ (by simpa [bH,keys]using h))
  |str _ ih=>exact fun h=>.str (ih hβ (by simpa [bH,keys]using h))
  |bn h1 h2 _ _ ih=>exact fun h=>.bn h1 h2 (ih hβ (by simpa [bH,keys]using h))
  |@ptr _ k _ _ _ _ _ _ _ _ hk _ ih=>
   intro h
   have:k<nx:=h k (by simp[bH,keys])
   exact .ptr (by simp only[this,if_true,Option.bind_some];rw[<-hβ]at hk ⊢;exact hk) (ih hβ fun k hk=>h k (by simp only[bH];exact List.mem_append_right _ hk))
  |@own _ k _ _ _ _ _ _ _ _ _ hk h1 h2 h4 h3 _ ih=>
   intro h
   have:k<nx:=h k (by simp[bH,keys])
   exact .own (by simp only[this,if_true,Option.bind_some];rw[<-hβ]at hk ⊢;exact hk) h1 h2 h4 h3 (ih hβ fun k hk=>h k (by simp only[bH];exact List.mem_append_right _ hk))
  |own0 h3 _ ih=>exact fun h=>.own0 h3 (ih hβ fun k hk=>h k (by simp only[bH];exact List.mem_append_right _ hk))
  |bP ha _ _ ih1 ih2=>exact fun h=>.bP ha (ih1 hβ fun k hk=>h k (by simp only[bH,keys,List.append_nil]at hk ⊢;exact List.mem_append_left _ hk)) (ih2 hβ fun k hk=>h k (by simp only[bH];exact List.mem_append_right _ hk))
  |func _ hc _ ih1 ih2=>exact fun h=>.func (ih1 hβ fun k hk=>h k (by simp only[bH,keys];exact List.mem_append_left _ hk)) hc (ih2 hβ fun k hk=>h k (by simp only[bH];exact List.mem_append_right _ hk))
 exact gen hc fun k h=>hk k (by rw[CB]at h;exact h)
theorem JP {nx:Nat}:∀{vs:List AV},jM nx vs=true->fT (fun k=>if k<nx then some k else none) vs vs
 |[],_=>trivial
 |v::vs,h=>by
  simp only[jM,List.all_cons,bH,List.all_append,Bool.and_eq_true,Bool.not_eq_true']at h
  obtain⟨⟨h1,h2⟩,h3,h4⟩:=h
  refine⟨⟨h1,Mg fun k hk=>by simpa using List.all_eq_true.1 h3 k hk⟩,JP ?_⟩
  simp only[jM,Bool.and_eq_true]
  exact⟨h2,h4⟩
theorem ow {c:Ctx} {s':aL} {ls:List Nat} {vs:List AV} {os:aD} {nx:Nat} (hv:bC ls s'=some (vs,os)) (h0:∀k x,c.k0 k=some x->k<nx) (hok:jM nx vs=true) (ho:iE nx os):∃ρ,Le c ρ s' ⟨aH ls vs,os,nx⟩:=by
 unfold bC at hv
 simp only[ax,Prod.mk.injEq]at hv
 obtain⟨rfl,rfl⟩:=hv
 refine⟨fun k=>if k<nx then some k else none,?_,xS (JP hok),fun k2 o2 hk=>?_,fun k2 k1 hk=>?_,fun k x hk=>by simp[h0 k x hk]⟩
 ·intro a b k ha hb
  split at ha<;>split at hb<;>simp_all
 ·obtain⟨h1,h2⟩:=Kp ho hk
  refine .inl ⟨k2,o2,by simp[h1],?_,⟨rfl,rfl,rfl,rfl,fun i hi=>Mg fun k hk=>by rw[h2 i hi]at hk;simp at hk⟩⟩
  rw[lg]at hk
  split at hk
  ·exact hk
  ·simp at hk
 ·split at hk
  ·assumption
  ·simp at hk
section rules
variable {P:Program} {c:Ctx} {nt:Nat} {s:aL} {Q:ak->aL->Prop} {T:Types} {Γ:aU}
theorem ay.ij {x y:Code} {i:Nat} (hx:x=.block i (.loop y)) (ls:List Nat) (nx:Nat) (h0:∀k x,c.k0 k=some x->k<nx) {α:Type} (vs:α->List AV) (os:α->aD) (hok:∀a,jM nx (vs a)=true) (ho:∀a,iE nx (os a)) (I:α->Prop) (μ:α->Nat) (j:α)
  (hv:bC ls s=some (vs j,os j)) (hI:I j)
  (round:∀j,I j->ay P c nt y ⟨aH ls (vs j),os j,nx⟩ (ej (fun s'=>∃k,bC ls s'=some (vs k,os k)/\I k/\μ k<μ j) (inBlock i Q))):ay P c nt x s Q:=
 ay.iO hx (fun a=>⟨aH ls (vs a),os a,nx⟩) I μ j (ow hv h0 (hok j) (ho j)) hI fun j hj=>(round j hj).mono fun e s' h=>by
  cases e with
  |normal=>
   obtain⟨k,h1,h2,h3⟩:=h
   exact⟨k,ow h1 h0 (hok k) (ho k),h2,h3⟩
  |exit i=>exact h
  |ret=>exact h
theorem ay.jQ {x:Code} {ls:List Nat} {nx:Nat} {vs:List AV} {os:aD} (hv:bC ls s=some (vs,os)) (h0:∀k x,c.k0 k=some x->k<nx) (hok:jM nx vs=true) (ho:iE nx os) (h:ay P c nt x ⟨aH ls vs,os,nx⟩ Q):ay P c nt x s Q:=
 .lP (ow hv h0 hok ho) h
theorem aJ.jQ {l:List Code} {ls:List Nat} {nx:Nat} {vs:List AV} {os:aD} (hv:bC ls s=some (vs,os)) (h0:∀k x,c.k0 k=some x->k<nx) (hl:l.isEmpty=false) (hok:jM nx vs=true) (ho:iE nx os) (h:aJ P c nt l ⟨aH ls vs,os,nx⟩ Q):aJ P c nt l s Q:=
 .weak hl (ow hv h0 hok ho) h
theorem aJ.y7 (hT:dF P T) (hΓ:aZ P Γ) (hm:P.follows .mixedOrders=true) {fn:Func} {forks:List Nat} (n:Nat) {l:List Code} {ls:List Nat} {nx:Nat} {vs:List AV} {os:aD} (hv:bC ls s=some (vs,os)) (h0:∀k x,c.k0 k=some x->k<nx)
  (hok:jM nx vs=true) (ho:iE nx os) {t:ag (List AV)} (hc:cR T Γ forks n fn l ⟨aH ls vs,os,nx⟩=some t) (hd:(l.all fun x=>cw nt x)=true) (hl:l.isEmpty=false) {res:AV} (h:t.all fun _ us=>fz us res):aJ P c nt l s (Fin T fn res):=
 .jQ hv h0 hl hok ho (.fin hT hΓ hm n hc hd h)
theorem aJ.fu (hT:dF P T) (hΓ:aZ P Γ) (hm:P.follows .mixedOrders=true) {forks:List Nat} (n:Nat) {l:List Code} {ls:List Nat} {nx:Nat} {vs:List AV} {os:aD} (hv:bC ls s=some (vs,os)) (h0:∀k x,c.k0 k=some x->k<nx)
  (hok:jM nx vs=true) (ho:iE nx os) (ls2:List Nat) {t:ag (List AV×aD)} (hc:aM T Γ forks n ls2 l ⟨aH ls vs,os,nx⟩=some t) (hd:(l.all fun x=>cw nt x)=true) (hl:l.isEmpty=false) (h:t.all fun e v=>∀s',bC ls2 s'=some v->Q e s'):aJ P c nt l s Q:=
 .jQ hv h0 hl hok ho (.bE hT hΓ hm n ls2 hc hd h)
theorem ay.fu (hT:dF P T) (hΓ:aZ P Γ) (hm:P.follows .mixedOrders=true) {x:Code} {forks:List Nat} (n:Nat) {ls:List Nat} {nx:Nat} {vs:List AV} {os:aD} (hv:bC ls s=some (vs,os)) (h0:∀k x,c.k0 k=some x->k<nx)
  (hok:jM nx vs=true) (ho:iE nx os) (ls2:List Nat) {t:ag (List AV×aD)} (hc:aM T Γ forks n ls2 [x] ⟨aH ls vs,os,nx⟩=some t) (hd:cw nt x=true) (h:t.all fun e v=>∀s',bC ls2 s'=some v->Q e s'):ay P c nt x s Q:=
 .jQ hv h0 hok ho (.bE hT hΓ hm n ls2 hc hd h)
end rules
theorem rV {T:Types} {fn:Func} {ls:List Nat} {vs us ws:List AV} {os ps pre:aD} {s':aL} {τ:Nat->Option Nat} {r:dm} (hv:bC ls s'=some (vs,os)) (hr:k9 (aH ls vs) fn.results.toList=some us) (hle:fT τ us ws) (hres:r.res=js ws)
  (he:cK (lT r.post) pre=ps) (ho:mM τ os ps):rZ T fn τ pre r s':=by
 unfold bC at hv
 simp only[ax,Prod.mk.injEq]at hv
 obtain⟨rfl,rfl⟩:=hv
 refine⟨⟨us,[],ws,Cd hr,trivial,hle,hres⟩,fun k o hk=>?_⟩
 replace hk:=zK hk
 rw[he]at hk
 obtain⟨k1,o1,g1,g2,g3⟩:=yp ho k o hk
 refine⟨k1,o1,g1,?_,g3⟩
 rw[lg]at g2
 split at g2
 ·exact g2
 ·simp at g2
def nM (g:Nat->List AV->Option dm):Spec:=fun K args pre=>match eU pre args with
 |some as=>g K as
 |none=>none
theorem qS {P:Program} {f:FuncId} {g:Nat->List AV->Option dm} (h:∀K args r,bH args=[]->g K args=some r->aO P f K args [] r):
  ∀K args pre r,nM g K args pre=some r->aO P f K args pre r:=by
 intro K args pre r hg
 unfold nM at hg
 split at hg
 ·rename_i as has
  have hf:=h K as r (uV has) hg
  intro need
  obtain⟨h1,h2⟩:=hf need
  refine⟨fun k o ho=>.inr ((h1 k o ho).resolve_left fun⟨o',h⟩=>by simp[look]at h),fun c D D' β w vs hw0 hMw hrel hD hK hv=>?_⟩
  have hv':cD (aP c pre β) w bu as vs:=xR hrel (fun _ _ h=>h) has hv
  exact(hf.frame (pre':=pre) (fun k o hk=>by simp[look]at hk)).use need hrel (fun _ _ h=>h) hD hK (hv'.mono (fun b o h1 h2=>⟨h2,h1⟩) fun k x hx=>by simp[bu]at hx)
 ·simp at hg
theorem yZ {K k a:Nat} {pre:aD} (h:K<=k/\k<K+cM):tq [] K pre (bB [(k,a)]):=
 ⟨fun x y z hx hy=>by
  simp only[bB,look]at hx hy
  split at hx<;>split at hy<;>simp_all,fun x y hx=>by
  simp only[bB,look]at hx
  split at hx
  ·rename_i he
   have:k=x:=by simpa using he
   subst this
   exact .inr h
  ·simp at hx⟩
theorem xb {K k a:Nat} {pre:aD}:tq [(a,k)] K pre (bB [(k,a)]):=
 ⟨fun x y z hx hy=>by
  simp only[bB,look]at hx hy
  split at hx<;>split at hy<;>simp_all,fun x y hx=>by
  simp only[bB,look]at hx ⊢
  split at hx
  ·rename_i he
   have:k=x:=by simpa using he
   subst this
   simp only[ax]at hx
   subst hx
   exact .inl (by simp)
  ·simp at hx⟩
theorem jz {c:Ctx} (h:c.k0=bu) {nx:Nat}:∀k x,c.k0 k=some x->k<nx:=fun k x hk=>by rw[h]at hk;simp[bu]at hk
theorem dS {ls:List Nat} {s':aL} {vs us:List AV} {os ps:aD} (hv:bC ls s'=some (vs,os)) (h1:vs=us) (h2:os=ps):bC ls s'=some (us,ps):=by rw[hv,h1,h2]
end Go.Am
namespace Go.Am
open AV
def gd (b:Bool) (n:Nat):Int:=if b then-(n:Int)else n
def sQ (b:Bool) (n d:Nat):Rat:=mkRat (gd b n) d
def dj (q:Rat):Nat:=max (bO q.num.natAbs) (bO q.den)
theorem yW {b:Bool} {n:Nat}:(gd b n).natAbs=n:=by unfold gd;split<;>simp
theorem Xi {b:Bool}:gd b 0=0:=by unfold gd;split<;>simp
theorem aas {b:Bool} {n g:Nat} (h:g∣n):gd b n/(g:Int)=gd b (n/g):=by
 unfold gd
 split
 ·rw[Int.neg_ediv_of_dvd (Int.natCast_dvd_natCast.2 h)];simp
 ·simp
theorem iZ {q:Rat}:q<0↔q.num<0:=by rw[Rat.lt_iff];simp
theorem xF {b:Bool} {n d:Nat} (hd:d≠0):(sQ b n d).num=gd b (n/Nat.gcd n d):=by
 unfold sQ
 rw[Rat.num_mkRat,if_neg hd,yW,Nat.gcd_comm,aas (Nat.gcd_dvd_left n d)]
theorem Mx {b:Bool} {n d:Nat} (hd:d≠0):(sQ b n d).den=d/Nat.gcd n d:=by
 unfold sQ
 rw[Rat.den_mkRat,if_neg hd,yW,Nat.gcd_comm]
theorem BS {b:Bool} {d:Nat}:sQ b 0 d=0:=by unfold sQ;rw[Xi];simp
theorem aaT {b:Bool} {n d:Nat} (hn:n≠0) (hd:d≠0):decide (sQ b n d<0)=b:=by
 have h1:0<n/Nat.gcd n d:=Nat.div_pos (Nat.le_of_dvd aa (Nat.gcd_dvd_left n d)) (Nat.gcd_pos_of_pos_left _ aa)
 cases b
 ·simp only[bF,iZ,xF hd,gd];simp;omega
 ·simp only[bz,iZ,xF hd,gd];simp;omega
theorem uY {q:Rat}:Sz q (dj q):=
 ⟨Nat.lt_of_lt_of_le (j5.1 bq) (Nat.pow_le_pow_right aa (Nat.le_max_left _ _)),Nat.lt_of_lt_of_le (j5.1 bq) (Nat.pow_le_pow_right aa (Nat.le_max_right _ _))⟩
theorem er {q r:Rat} {n k:Nat} (h:q=r) (hs:Sz r k):bg (.rat q n) (.rat r k):=by
 subst h
 refine⟨rfl,fun M w cs hc=>?_⟩
 cases hc with
 |rat _ h1 h2 h3=>cases h3;exact .rat hs h1 h2 .nil
theorem AI {b:Bool} {n d k:Nat} (hd:d≠0) (hn:n<2^k) (hdk:d<2^k):Sz (sQ b n d) k:=by
 refine⟨?_,?_⟩
 ·rw[xF hd,yW];exact Nat.lt_of_le_of_lt (Nat.div_le_self _ _) hn
 ·rw[Mx hd];exact Nat.lt_of_le_of_lt (Nat.div_le_self _ _) hdk
theorem kB (q:Rat):sQ (decide (q<0)) q.num.natAbs q.den=q:=by
 unfold sQ
 have:gd (decide (q<0)) q.num.natAbs=q.num:=by
  unfold gd
  by_cases h:q<0
  ·have:=iZ.1 h;simp[h];omega
  ·have:¬q.num<0:=fun h'=>h (iZ.2 h')
   simp[h];omega
 rw[this,Rat.mkRat_self]
theorem rW {b:Bool} {x y n d k:Nat} (hn:n≠0) (hd:d≠0) (hx:x=n/Nat.gcd n d) (hy:y=if d/Nat.gcd n d=1 then 0 else d/Nat.gcd n d) (hs:Sz (sQ b n d) k):bg (.agg [.bool b,.mag x,.mag y]) (.rat (sQ b n d) k):=
 rz hs (aaT hn hd).symm (by rw[xF hd,yW,hx]) (by rw[Mx hd,hy])
theorem mT {k:Nat}:bg (.agg [.bool false,.mag 0,.mag 0]) (.rat 0 (k+1)):=
 rz ⟨by simp[Nat.two_pow_pos],by simp⟩ (by decide) rfl rfl
section down
variable {P:Program} {c:Ctx} {nt:Nat} {s:aL} {Q:ak->aL->Prop} {T:Types}
def eG (c:Ctx) (Q:ak->aL->Prop) (e:ak) (s':aL):Prop:=Q e s'\/∃s2 ρ,Le c ρ s' s2/\Q e s2
theorem ay.down {x:Code} (h:ay P c nt x s (eG c Q)):ay P c nt x s Q:=by
 intro a w hr
 refine wpIn_mono (h a w hr) ?_
 rintro e a' w' ⟨ae,s',h1,h2,hq|⟨s2,ρ,hle,hq⟩⟩
 ·exact⟨ae,s',h1,h2,hq⟩
 ·exact⟨ae,s2,h1,hle.rel h2,hq⟩
theorem zA {fn:Func} {ls:List Nat} {vs:List AV} {os:aD} {nx:Nat} {s':aL} {e:ak} {t:ag (List AV)} {res:AV} (he:mO T fn e ⟨aH ls vs,os,nx⟩=some t) (hv:bC ls s'=some (vs,os)) (h0:∀k x,c.k0 k=some x->k<nx) (hok:jM nx vs=true) (ho:iE nx os)
  (h:t.all fun _ us=>fz us res):eG c (Fin T fn res) e s':=by
 obtain⟨ρ,hle⟩:=ow hv h0 hok ho
 exact .inr ⟨_,ρ,hle,DR he h⟩
theorem aJ.jN (hT:dF P T) {Γ:aU} (hΓ:aZ P Γ) (hm:P.follows .mixedOrders=true) {fn:Func} {forks:List Nat} (n:Nat) {l:List Code} {ls:List Nat} {nx:Nat} {vs:List AV} {os:aD} (hv:bC ls s=some (vs,os)) (h0:∀k x,c.k0 k=some x->k<nx)
  (hok:jM nx vs=true) (ho:iE nx os) {t:ag (List AV)} (hc:cR T Γ forks n fn l ⟨aH ls vs,os,nx⟩=some t) (hd:(l.all fun x=>cw nt x)=true) (hl:l.isEmpty=false) {res:AV} (h:t.all fun _ us=>fz us res):aJ P c nt l s (eG c (Fin T fn res)):=
 (aJ.y7 hT hΓ hm n hv h0 hok ho hc hd hl h).mono fun _ _ h=>.inl h
end down
theorem ji {P:Program} {T:Types} (hT:dF P T) {f:FuncId} {fn:Func} {x:Code} (hf:iL P f fn x) {args:List AV} {r:dm} (hk:bH args=[]) (hlen:args.length<=fn.ntmps) (hpost:r.post=[])
  (h:r.need->∀c:Ctx,(∀nx k x,c.k0 k=some x->k<nx)->ay P c fn.ntmps x ⟨aT 0 args,[],0⟩ (eG c (Fin T fn r.res))) (K:Nat) (pre:aD):aO P f K args pre r:=
 jF hT hf hk hlen hpost (fun need c h0=>.down (h need c fun _=>jz h0)) K pre
mutual
def RP:AV->Prop
 |.rat q n=>Sz q n
 |.agg l=>rL l
 |_=>True
def rL:List AV->Prop
 |[]=>True
 |a::l=>RP a/\rL l
end
theorem aR.sz {M:Nat->Prop} {w:World} {β:aX} {l:List AV} {cs:List Value} (h:aR M w β l cs):rL l:=by
 induction h with
 |nil=>trivial
 |rat hs _ _ _ _ _ ih=>exact⟨hs,ih⟩
 |agg _ _ ih1 ih2=>exact⟨ih1,ih2⟩
 |aq _ _ _ _ _ _ _ ih=>exact⟨trivial,ih⟩
 |ew _ _ _ _ _ _ _ _ ih=>exact⟨trivial,ih⟩
 |bn _ _ _ _ ih=>exact⟨trivial,ih⟩
 |func _ _ _ _ ih=>exact⟨trivial,ih⟩
 |bP _ _ _ _ ih=>exact⟨trivial,ih⟩
 |_=>rename_i ih;exact⟨trivial,ih⟩
theorem cD.sz {M:Nat->Prop} {w:World} {β:aX}:∀{l:List AV} {xs:List Value},cD M w β l xs->rL l
 |[],[],_=>trivial
 |a::l,x::xs,h=>by
  obtain⟨⟨cs,h1,_⟩,h2⟩:=h
  exact⟨h1.sz.1,h2.sz⟩
 |[],_::_,h=>h.elim
 |_::_,[],h=>h.elim
theorem abu {P:Program} {f:FuncId} {K:Nat} {args:List AV} {pre:aD} {r:dm} (hp:∀k o,look k r.post=some o->(∃o',look k pre=some o')\/(K<=k/\k<K+cM)) (h:rL args->aO P f K args pre r):aO P f K args pre r:=
 fun need=>⟨hp,fun c D D' β w vs h1 h2 h3 h4 h5 hv=>(h hv.sz need).2 c D D' β w vs h1 h2 h3 h4 h5 hv⟩
theorem j8 {P:Program} {f:FuncId} {K:Nat} {args:List AV} {pre:aD} {v:AV} {l:List Prop} (h:rL args->aO P f K args pre ⟨v,[],l⟩):aO P f K args pre ⟨v,[],l⟩:=
 abu (fun k o hk=>by simp[look]at hk) h
theorem jU {N n:Nat} (h:N<2^n) (hn:n<2^44):nl N<2^40:=by
 have h1:N<2^(32*(n/32+1)):=Nat.lt_of_lt_of_le h (Nat.pow_le_pow_right aa aa)
 have:=dy.2 h1
 omega
theorem VQ {q:Rat}:(if q.den=1 then 0 else q.den)<=q.den:=by split<;>omega
theorem Sz.jV {q:Rat} {n:Nat} (h:Sz q n) (hn:n<2^44):nl q.num.natAbs<2^40/\nl q.den<2^40/\nl (if q.den=1 then 0 else q.den)<2^40:=
 ⟨jU h.1 hn,jU h.2 hn,Nat.lt_of_le_of_lt (ic VQ) (jU h.2 hn)⟩
theorem Sz.pos {q:Rat} {n:Nat} (h:Sz q n):0<n:=by
 rcases Nat.eq_zero_or_pos n with h1|h1
 ·subst h1;have:=h.2;have:=q.den_nz;omega
 ·exact h1
theorem Sz.more {q:Rat} {n m:Nat} (h:Sz q n) (hm:n<=m):Sz q m:=
 ⟨Nat.lt_of_lt_of_le h.1 (Nat.pow_le_pow_right aa hm),Nat.lt_of_lt_of_le h.2 (Nat.pow_le_pow_right aa hm)⟩
theorem GV {a:Int} {d:Nat}:(mkRat a d).num.natAbs<=a.natAbs:=by
 rw[Rat.num_mkRat]
 split
 ·simp
 ·rw[Int.natAbs_ediv_of_dvd]
  ·exact Nat.div_le_self _ _
  ·exact Int.ofNat_dvd_left.2 (Nat.gcd_dvd_right _ _)
theorem IS {a:Int} {d:Nat} (h:d≠0):(mkRat a d).den<=d:=by
 rw[Rat.den_mkRat,if_neg h]
 exact Nat.div_le_self _ _
theorem Sz.add {q r:Rat} {n m:Nat} (h:Sz q n) (h':Sz r m):Sz (q+r) (n+m+1):=by
 rw[Rat.add_def']
 have d0:q.den*r.den≠0:=Nat.mul_ne_zero q.den_nz r.den_nz
 have e:2^(n+m+1)=2^n*2^m+2^n*2^m:=by rw[Nat.pow_succ,Nat.pow_add];omega
 have b1:q.num.natAbs*r.den<=2^n*2^m:=Nat.mul_le_mul (Nat.le_of_lt h.1) (Nat.le_of_lt h'.2)
 have b2:r.num.natAbs*q.den<2^m*2^n:=Nat.mul_lt_mul'' h'.1 h.2
 have b3:q.den*r.den<=2^n*2^m:=Nat.mul_le_mul (Nat.le_of_lt h.2) (Nat.le_of_lt h'.2)
 have b4:0<2^n*2^m:=Nat.mul_pos (Nat.two_pow_pos _) (Nat.two_pow_pos _)
 rw[Nat.mul_comm (2^m)]at b2
 refine⟨Nat.lt_of_le_of_lt GV ?_,Nat.lt_of_le_of_lt (IS d0) aa⟩
 have b5:=Int.natAbs_add_le (q.num*r.den) (r.num*q.den)
 rw[Int.natAbs_mul,Int.natAbs_mul,Int.natAbs_natCast,Int.natAbs_natCast]at b5
 omega
theorem Sz.neg {q:Rat} {n:Nat} (h:Sz q n):Sz (-q) n:=by
 refine⟨?_,?_⟩
 ·rw[Rat.neg_num,Int.natAbs_neg];exact h.1
 ·rw[Rat.neg_den];exact h.2
theorem Sz.sub {q r:Rat} {n m:Nat} (h:Sz q n) (h':Sz r m):Sz (q-r) (n+m+1):=by
 rw[Rat.sub_eq_add_neg];exact h.add h'.neg
theorem Sz.mul {q r:Rat} {n m:Nat} (h:Sz q n) (h':Sz r m):Sz (q*r) (n+m):=by
 rw[Rat.mul_def']
 have d0:q.den*r.den≠0:=Nat.mul_ne_zero q.den_nz r.den_nz
 refine⟨Nat.lt_of_le_of_lt GV ?_,Nat.lt_of_le_of_lt (IS d0) ?_⟩
 ·rw[Int.natAbs_mul,Nat.pow_add];exact Nat.mul_lt_mul'' h.1 h'.1
 ·rw[Nat.pow_add];exact Nat.mul_lt_mul'' h.2 h'.2
theorem Sz.inv {q:Rat} {n:Nat} (h:Sz q n):Sz q⁻¹ n:=by
 by_cases h0:q=0
 ·subst h0
  rw[Rat.inv_zero]
  exact h
 ·have hn:q.num≠0:=fun h=>h0 (Rat.num_eq_zero.1 h)
  refine⟨?_,?_⟩
  ·rw[Rat.num_inv,Int.natAbs_mul,Int.natAbs_natCast,Int.natAbs_sign_of_ne_zero hn,Nat.one_mul];exact h.2
  ·rw[Rat.den_inv,if_neg hn];exact h.1
theorem Sz.div {q r:Rat} {n m:Nat} (h:Sz q n) (h':Sz r m):Sz (q/r) (n+m):=by
 rw[Rat.div_def];exact h.mul h'.inv
def eE (q:Rat):Int:=if q<0 then-1 else if 0<q then 1 else 0
def cZ (q r:Rat):Int:=if q<r then-1 else if r<q then 1 else 0
end Go.Am
namespace Go.Am
open AV
def MZ (T:Types) (fn:Func) (e:ak) (s:aL):Option (ag (List AV×Option az)):=
 match mO T fn e s with
 |some t=>t.bind fun e us=>some (.leaf e (us,look 0 s.store))
 |none=>none
def qf (T:Types) (Γ:aU) (forks:List Nat) (n:Nat) (fn:Func) (x:Code) (s:aL):Option (ag (List AV×Option az)):=
 match en T Γ forks n x s with
 |some t=>t.bind (MZ T fn)
 |none=>none
theorem vm {P:Program} {T:Types} (hT:dF P T) {Γ:aU} (hΓ:aZ P Γ) (hm:P.follows .mixedOrders=true) {f:FuncId} {fn:Func} {x:Code} (hf:iL P f fn x) {k idx es off:Nat} {p:List Nat} {rest:List AV} {o2 o o':az} {res:AV} {l:List Prop}
  (hkr:bH rest=[]) (hrt:(rest.all fun v=>!v.isTuple)=true) (hlen:rest.length+1<=fn.ntmps) (ho:∀ρ,dZ ρ o2 o) {forks:List Nat} (n:Nat) {t:ag (List AV×Option az)}
  (hc:qf T Γ forks n fn x ⟨aT 0 (.ptr 0 idx es off p::rest),[(0,o)],1⟩=some t)
  (h:au l->t.all fun _ v=>fz v.1 res/\∃o1,v.2=some o1/\o1.row=false/\dZ (bB [(k,0)]) o1 o') (K:Nat):
  aO P f K (.ptr k idx es off p::rest) [(k,o2)] ⟨res,[(k,o')],l⟩:=by
 have hrest:∀{rest:List AV},bH rest=[]->(rest.all fun v=>!v.isTuple)=true->fT (bB [(0,k)]) rest rest:=by
  intro rest
  induction rest with
  |nil=>intro _ _;trivial
  |cons v r ih=>
   intro h1 h2
   simp only[bH,List.append_eq_nil_iff]at h1
   simp only[List.all_cons,Bool.and_eq_true,Bool.not_eq_true']at h2
   exact⟨⟨h2.1,gu h1.1⟩,ih h1.2 h2.2⟩
 refine nE hT hf (args0:=.ptr 0 idx es off p::rest) (pre0:=[(0,o)]) (nx:=1) [(0,k)] (by simpa using hlen) (by simp[jc]) ⟨⟨rfl,ou rfl⟩,hrest hkr hrt⟩ ⟨⟨k,o2,rfl,by simp[look],ho _⟩,trivial⟩
  (fun a x h=>?_) (fun x o h=>.inl ?_) (fun need c h0=>?_)
 ·simp only[bB,look]at h
  split at h
  ·simp only[ax]at h;subst h;exact⟨_,by simp[look];rfl⟩
  ·simp at h
 ·simp only[look]at h
  split at h
  ·rename_i he
   exact⟨_,by simp only[look,he,if_true];rfl⟩
  ·simp at h
 have h:=h need
 unfold qf at hc
 cases hx:en T Γ forks n x ⟨aT 0 (.ptr 0 idx es off p::rest),[(0,o)],1⟩with
 |none=>rw[hx]at hc;simp at hc
 |some u=>
  rw[hx]at hc
  refine j6 hT hΓ hm n hf.dst hx (ag.fI ?_ (ag.kg hc h))
  rintro e s' ⟨v,h1,h2⟩
  unfold MZ at h1
  split at h1
  ·rename_i v' hv'
   have h3:=ag.kg h1 h2
   have h4:v'.all fun _ us=>fz us res/\∃o1,look 0 s'.store=some o1/\o1.row=false/\dZ (bB [(k,0)]) o1 o':=by
    refine ag.fI ?_ h3
    rintro e us ⟨w,g1,g2⟩
    simp only[ax]at g1
    subst g1
    exact g2
   have h5:Fin T fn res e s':=DR hv' (ag.fI (fun _ _ h=>h.1) h4)
   have h6:∃o1,look 0 s'.store=some o1/\o1.row=false/\dZ (bB [(k,0)]) o1 o':=by
    have:∀{t:ag (List AV)},(t.all fun _ us=>fz us res/\∃o1,look 0 s'.store=some o1/\o1.row=false/\dZ (bB [(k,0)]) o1 o')->∃o1,look 0 s'.store=some o1/\o1.row=false/\dZ (bB [(k,0)]) o1 o':=by
     intro t
     induction t with
     |leaf e us=>exact fun h=>h.2
     |aj ps t ih=>exact fun h=>ih h.2
     |fork b t1 t2 ih1 ih2=>
      intro h
      cases b with
      |true=>exact ih1 (h.1 rfl)
      |false=>exact ih2 (h.2 rfl)
    exact this h4
   refine⟨h5.1,bB [(k,0)],xb,.inl ⟨h5.2,fun x ox hx=>?_⟩⟩
   obtain⟨o1,g1,g2,g3⟩:=h6
   have he:cK (lT [(k,o')]) [(k,o2)]=[(k,o')]:=by simp[cK,lT,put]
   replace hx:=zK hx
   rw[he]at hx
   simp only[look]at hx
   split at hx
   ·rename_i hk
    have:k=x:=by simpa using hk
    subst this
    simp only[ax]at hx
    subst hx
    exact⟨0,o1,by simp[bB,look],g1,g2,g3⟩
   ·simp at hx
  ·simp at h1
theorem TQ {P:Program} {T:Types} (hT:dF P T) {Γ:aU} (hΓ:aZ P Γ) (hm:P.follows .mixedOrders=true) {f:FuncId} {fn:Func} {x:Code} (hf:iL P f fn x) {args:List AV} {o o':az} {a idx es off ls:Nat} {p:List Nat} {l:List Prop}
  (hka:bH args=[]) (hrt:(args.all fun v=>!v.isTuple)=true) (hlen:args.length<=fn.ntmps) (hres:fn.results.toList=[.tmp ls]) {forks:List Nat} (n:Nat) {e:ak} {q:List Prop}
  (hc:aM T Γ forks n [ls] [x] ⟨aT 0 args,[],0⟩=some (.leaf e ([.ptr a idx es off p],[(a,o)])))
  (he:e=.normal\/e=.ret) (h:∀ρ,dZ ρ o o') (K:Nat):aO P f K args [] ⟨.ptr K idx es off p,[(K,o')],l⟩:=by
 have hrest:∀{rest:List AV},bH rest=[]->(rest.all fun v=>!v.isTuple)=true->fT (bB []) rest rest:=by
  intro rest
  induction rest with
  |nil=>intro _ _;trivial
  |cons v r ih=>
   intro h1 h2
   simp only[bH,List.append_eq_nil_iff]at h1
   simp only[List.all_cons,Bool.and_eq_true,Bool.not_eq_true']at h2
   exact⟨⟨h2.1,gu h1.1⟩,ih h1.2 h2.2⟩
 refine nE hT hf (args0:=args) (pre0:=[]) (nx:=0) [] hlen rfl (hrest hka hrt) trivial (fun a k h=>by simp[bB,look]at h) (fun k o h=>?_) (fun _ c h0=>?_)
 ·simp only[look]at h
  split at h
  ·rename_i he
   have:K=k:=by simpa using he
   subst this
   exact .inr ⟨bq,by unfold cM;omega⟩
  ·simp at h
 refine ay.bE hT hΓ hm n [ls] hc hf.dst fun s' hv=>⟨he,bB [(K,a)],yZ ⟨bq,by unfold cM;omega⟩,.inr ?_⟩
 refine rV (us:=[.ptr a idx es off p]) (ws:=[.ptr K idx es off p]) (ps:=[(K,o')]) hv ?_ ⟨⟨rfl,ou (by simp[bB,look])⟩,trivial⟩ rfl rfl ⟨⟨a,_,by simp[bB,look],by simp[look],h _⟩,trivial⟩
 rw[hres]
 simp only[k9,aH,look,beq_self_eq_true,if_true]
 rfl
mutual
def eL (b:Bool):AV->AV->Option AV
 |.rat q n,.rat r m=>some (.rat (cond b q r) (max n m))
 |.int k x,.int j y=>match isKind k j with
  |true=>some (.int k (cond b x y))
  |false=>none
 |.bool x,.bool y=>some (.bool (cond b x y))
 |.aq e n f,.aq e' m g=>match e==e' with
  |true=>some (.aq e (cond b n m) fun i=>cond b (f i) (g i))
  |false=>none
 |.nil,.nil=>some .nil
 |.nil,.aq e n f=>match Nat.blt 0 e with
  |true=>some (.aq e (cond b 0 n) f)
  |false=>none
 |.aq e n f,.nil=>match Nat.blt 0 e with
  |true=>some (.aq e (cond b n 0) f)
  |false=>none
 |.agg l,.agg m=>match nu b l m with
  |some x=>some (.agg x)
  |none=>none
 |_,_=>none
def nu (b:Bool):List AV->List AV->Option (List AV)
 |[],[]=>some []
 |u::l,v::m=>match eL b u v,nu b l m with
  |some x,some y=>some (x::y)
  |_,_=>none
 |_,_=>none
end
mutual
theorem abY:∀{u v x:AV},eL true u v=some x->bg u x
 |.rat q n,v,x,h=>by
  cases v<;>simp only[eL,ax,reduceCtorEq]at h
  subst h;exact fC (Nat.le_max_left ..)
 |.int k a,v,x,h=>by
  cases v<;>simp only[eL,reduceCtorEq]at h
  split at h
  ·simp only[ax]at h;subst h;exact .refl _
  ·simp at h
 |.bool a,v,x,h=>by
  cases v<;>simp only[eL,ax,reduceCtorEq]at h
  subst h;exact .refl _
 |.aq e n f,v,x,h=>by
  cases v<;>simp only[eL,reduceCtorEq]at h
  ·split at h
   ·simp only[ax]at h;subst h;exact .refl _
   ·simp at h
  ·split at h
   ·simp only[ax]at h;subst h;exact .refl _
   ·simp at h
 |.nil,v,x,h=>by
  cases v<;>simp only[eL,ax,reduceCtorEq]at h
  ·split at h
   ·rename_i he
    simp only[ax]at h;subst h
    exact lO (by rw[Nat.blt_eq]at he;exact he)
   ·simp at h
  ·subst h;exact .refl _
 |.agg l,v,x,h=>by
  cases v<;>simp only[eL,reduceCtorEq]at h
  split at h
  ·rename_i hl
   simp only[ax]at h;subst h;exact cz (Bv hl)
  ·simp at h
 |.mag _,v,x,h=>by simp[eL]at h
 |.ew _ _ _ _,v,x,h=>by simp[eL]at h
 |.void,v,x,h=>by simp[eL]at h
 |.str _,v,x,h=>by simp[eL]at h
 |.bn _,v,x,h=>by simp[eL]at h
 |.ptr _ _ _ _ _,v,x,h=>by simp[eL]at h
 |.own _ _ _ _,v,x,h=>by simp[eL]at h
 |.func _ _,v,x,h=>by simp[eL]at h
 |.tuple _,v,x,h=>by simp[eL]at h
 |.bP _ _,v,x,h=>by simp[eL]at h
theorem Bv:∀{u v x:List AV},nu true u v=some x->dH u x
 |[],v,x,h=>by
  cases v<;>simp only[nu,ax,reduceCtorEq]at h
  subst h;trivial
 |a::l,v,x,h=>by
  cases v<;>simp only[nu,reduceCtorEq]at h
  split at h
  ·rename_i h1 h2
   simp only[ax]at h;subst h;exact⟨abY h1,Bv h2⟩
  ·simp at h
end
mutual
theorem aep:∀{u v x:AV},eL false u v=some x->bg v x
 |.rat q n,v,x,h=>by
  cases v<;>simp only[eL,ax,reduceCtorEq]at h
  subst h;exact fC (Nat.le_max_right ..)
 |.int k a,v,x,h=>by
  cases v<;>simp only[eL,reduceCtorEq]at h
  split at h
  ·rename_i hk
   have:=yA hk
   subst this
   simp only[ax]at h;subst h;exact .refl _
  ·simp at h
 |.bool a,v,x,h=>by
  cases v<;>simp only[eL,ax,reduceCtorEq]at h
  subst h;exact .refl _
 |.aq e n f,v,x,h=>by
  cases v<;>simp only[eL,reduceCtorEq]at h
  ·split at h
   ·rename_i hk
    have:=eq_of_beq hk
    subst this
    simp only[ax]at h;subst h;exact .refl _
   ·simp at h
  ·split at h
   ·rename_i he
    simp only[ax]at h;subst h
    exact lO (by rw[Nat.blt_eq]at he;exact he)
   ·simp at h
 |.nil,v,x,h=>by
  cases v<;>simp only[eL,ax,reduceCtorEq]at h
  ·split at h
   ·simp only[ax]at h;subst h;exact .refl _
   ·simp at h
  ·subst h;exact .refl _
 |.agg l,v,x,h=>by
  cases v<;>simp only[eL,reduceCtorEq]at h
  split at h
  ·rename_i hl
   simp only[ax]at h;subst h;exact cz (AP hl)
  ·simp at h
 |.mag _,v,x,h=>by simp[eL]at h
 |.ew _ _ _ _,v,x,h=>by simp[eL]at h
 |.void,v,x,h=>by simp[eL]at h
 |.str _,v,x,h=>by simp[eL]at h
 |.bn _,v,x,h=>by simp[eL]at h
 |.ptr _ _ _ _ _,v,x,h=>by simp[eL]at h
 |.own _ _ _ _,v,x,h=>by simp[eL]at h
 |.func _ _,v,x,h=>by simp[eL]at h
 |.tuple _,v,x,h=>by simp[eL]at h
 |.bP _ _,v,x,h=>by simp[eL]at h
theorem AP:∀{u v x:List AV},nu false u v=some x->dH v x
 |[],v,x,h=>by
  cases v<;>simp only[nu,ax,reduceCtorEq]at h
  subst h;trivial
 |a::l,v,x,h=>by
  cases v<;>simp only[nu,reduceCtorEq]at h
  split at h
  ·rename_i h1 h2
   simp only[ax]at h;subst h;exact⟨aep h1,AP h2⟩
  ·simp at h
end
theorem dH.trans:∀{a b c:List AV},dH a b->dH b c->dH a c
 |[],[],[],_,_=>trivial
 |_::_,_::_,_::_,h,h'=>⟨h.1.trans h'.1,h.2.trans h'.2⟩
 |[],[],_::_,_,h=>h.elim
 |[],_::_,_,h,_=>h.elim
 |_::_,[],_,h,_=>h.elim
 |_::_,_::_,[],_,h=>h.elim
def o9:ag (List AV)->Option (List AV×List Prop)
 |.leaf _ us=>some (us,[])
 |.aj ps t=>match o9 t with
  |some (us,qs)=>some (us,ps++qs)
  |none=>none
 |.fork b t u=>match o9 t,o9 u with
  |some (x,p),some (y,q)=>match nu b x y with
   |some z=>match p,q with
    |[],[]=>some (z,[])
    |p,q=>some (z,[b=true->au p,b=false->au q])
   |none=>none
  |_,_=>none
theorem uh:∀{t:ag (List AV)} {us:List AV} {ps:List Prop},o9 t=some (us,ps)->au ps->t.all fun _ vs=>dH vs us
 |.leaf e vs,us,ps,h,_=>by
  simp only[o9,ax,Prod.mk.injEq]at h
  obtain⟨rfl,rfl⟩:=h
  exact .refl _
 |.aj l t,us,ps,h,hp=>by
  simp only[o9]at h
  split at h
  ·rename_i h1
   simp only[ax,Prod.mk.injEq]at h
   obtain⟨rfl,rfl⟩:=h
   obtain⟨p1,p2⟩:=dP.1 hp
   exact⟨p1,uh h1 p2⟩
  ·simp at h
 |.fork b t u,us,ps,h,hp=>by
  simp only[o9]at h
  split at h
  ·rename_i x p y q h1 h2
   split at h
   ·rename_i z hz
    have key:us=z/\(b=true->au p)/\(b=false->au q):=by
     split at h
     ·simp only[ax,Prod.mk.injEq]at h
      exact⟨h.1.symm,fun _=>trivial,fun _=>trivial⟩
     ·simp only[ax,Prod.mk.injEq]at h
      obtain⟨rfl,rfl⟩:=h
      exact⟨rfl,hp⟩
    obtain⟨rfl,p1,p2⟩:=key
    refine⟨fun hb=>?_,fun hb=>?_⟩
    ·subst hb
     exact ag.fI (fun _ vs hv=>hv.trans (Bv hz)) (uh h1 (p1 rfl))
    ·subst hb
     exact ag.fI (fun _ vs hv=>hv.trans (AP hz)) (uh h2 (p2 rfl))
   ·simp at h
  ·simp at h
def cO (T:Types) (Γ:aU) (forks:List Nat) (fuel:Nat) (fn:Func):Spec:=bY fun args=>
 match Nat.ble args.length fn.ntmps with
 |true=>match bD T Γ forks fuel fn (aF fn) ⟨aT 0 args,[],0⟩with
  |some t=>match o9 t with
   |some (us,ps)=>match us with
    |[u]=>some ⟨u,[],ps⟩
    |us=>some ⟨.tuple us,[],ps⟩
   |none=>none
  |none=>none
 |false=>none
theorem Z1 {us:List AV} {v:AV} (h:dH us [v]):fz us v:=by
 match us,h with
 |[u],h=>exact h.1
theorem Ye {us vs:List AV} (hv:∀u,vs≠[u]) (h:dH us vs):fz us (.tuple vs):=by
 match us,vs,h with
 |[],[],h=>exact h
 |[u],[v],h=>exact absurd rfl (hv v)
 |a::b::l,_::_::_,h=>exact h
 |[u],_::_::_,h=>exact absurd h.2 (by simp[dH])
 |a::b::l,[v],h=>exact absurd h.2 (by simp[dH])
 |[],_::_,h=>exact h.elim
 |_::_,[],h=>exact h.elim
theorem cQ {P:Program} {T:Types} (hT:dF P T) {Γ:aU} (hΓ:aZ P Γ) (hm:P.follows .mixedOrders=true) {f:FuncId} {fn:Func} (hf:iL P f fn (aF fn)) (forks:List Nat) (fuel:Nat):
  ∀K args pre r,cO T Γ forks fuel fn K args pre=some r->aO P f K args pre r:=by
 refine cJ fun K args r hk hs hp=>?_
 split at hs
 ·rename_i hlen
  have hlen:=Nat.le_of_ble_eq_true hlen
  split at hs
  ·rename_i t ht
   split at hs
   ·rename_i us ps hc
    split at hs
    ·simp only[ax]at hs
     subst hs
     exact bJ (r:=⟨_,[],ps⟩) hT hΓ hm hf hk hlen rfl fuel ht (fun hn=>ag.fI (fun _ vs hv=>Z1 hv) (uh hc hn)) K []
    ·rename_i hne
     simp only[ax]at hs
     subst hs
     exact bJ (r:=⟨_,[],ps⟩) hT hΓ hm hf hk hlen rfl fuel ht (fun hn=>ag.fI (fun _ vs hv=>Ye hne hv) (uh hc hn)) K []
   ·simp at hs
  ·simp at hs
 ·simp at hs
theorem ct {P:Program} {Γ:aU} (h:aZ P Γ):aZ P (sG::Γ):=aE (fun K args pre r hs=>by simp at hs) h
theorem Cz {P:Program} {Γ:aU} (h:aZ P Γ):aZ P (zG::Γ):=aE (fun K args pre r hs=>by simp at hs) h
theorem eV {P:Program} {Γ:aU} (h:aZ P Γ):aZ P (nG::Γ):=aE (fun K args pre r hs=>by simp at hs) h
end Go.Am
namespace Go.Am
open AV
def lV (rl:List (Nat×Nat)):AV->AV
 |.ptr k i e o p=>match look k rl with
  |some j=>.ptr j i e o p
  |none=>.void
 |.own k e s n=>match look k rl with
  |some j=>.own j e s n
  |none=>match s,n,e with
   |0,0,_+1=>.nil
   |_,_,_=>.void
 |.bP c (.own k e s n)=>match look k rl with
  |some j=>.bP c (.own j e s n)
  |none=>.void
 |v=>v
def lM (rl:List (Nat×Nat)):AV->Bool
 |.ptr k _ _ _ _=>(look k rl).isSome
 |.own k e s n=>(look k rl).isSome||match s,n,e with
  |0,0,_+1=>true
  |_,_,_=>false
 |.tuple _=>false
 |.bP _ (.own k _ _ _)=>(look k rl).isSome
 |v=>(keys v).isEmpty
theorem ad7 {ρ:Nat->Option Nat} {c c2:Nat} {u v:AV} (hc:c=c2) (hv:v.isAgg=false) (h:gM ρ u v):gM ρ (.bP c u) (.bP c2 v):=by
 subst hc
 refine⟨rfl,fun M w β cs hcs=>?_⟩
 cases hcs with
 |bP _ h1 h2=>cases h2;exact .bP hv (h.2 _ _ _ _ h1) .nil
theorem Gc {rl:List (Nat×Nat)} {u v:AV} (hu:u=lV rl v) (hv:lM rl v=true):u.isTuple=false/\gM (bB rl) u v:=by
 subst hu
 cases v with
 |ptr k i e o p=>
  simp only[lM,Option.isSome_iff_exists]at hv
  obtain⟨j,hj⟩:=hv
  simp only[lV,hj]
  exact⟨rfl,ou hj⟩
 |own k e s n=>
  simp only[lM]at hv
  cases hj:look k rl with
  |some j=>
   simp only[lV,hj]
   exact⟨rfl,dw hj rfl rfl⟩
  |none=>
   rw[hj]at hv
   simp only[Option.isSome_none,Bool.false_or]at hv
   split at hv
   ·simp only[lV,hj]
    exact⟨rfl,pE aa⟩
   ·simp at hv
 |tuple l=>simp[lM]at hv
 |bP c v=>
  cases v with
  |own k e s n=>
   simp only[lM,Option.isSome_iff_exists]at hv
   obtain⟨j,hj⟩:=hv
   simp only[lV,hj]
   exact⟨rfl,ad7 rfl rfl (dw hj rfl rfl)⟩
  |_=>
   simp only[lM,List.isEmpty_iff]at hv
   exact⟨rfl,gu hv⟩
 |_=>
  simp only[lM,List.isEmpty_iff]at hv
  exact⟨rfl,gu hv⟩
theorem BZ {rl:List (Nat×Nat)}:∀{vs us:List AV},us=vs.map (lV rl)->vs.all (lM rl)=true->fT (bB rl) us vs
 |[],_,h,_=>by subst h;trivial
 |v::vs,_,h,hv=>by
  subst h
  simp only[List.all_cons,Bool.and_eq_true]at hv
  exact⟨Gc rfl hv.1,BZ rfl hv.2⟩
def qu:AV->Bool
 |.tuple _=>false
 |v=>(keys v).isEmpty
theorem aax {rl:List (Nat×Nat)} {v:AV} (h:qu v=true):lV rl v=v:=by
 cases v with
 |bP c v=>cases v<;>first|rfl|simp[qu,keys]at h
 |_=>first|rfl|simp[qu,keys]at h
theorem aaO {rl:List (Nat×Nat)} {v:AV} (h:qu v=true):lM rl v=true:=by
 cases v with
 |bP c v=>cases v<;>first|exact h|simp[qu,keys]at h
 |_=>first|exact h|simp[qu,keys]at h
def iF (rl:List (Nat×Nat)) (u v:AV):Prop:=((lM rl v=true/\u=lV rl v)\/gM (bB rl) u v)\/(keys u=[]/\bg u v)
theorem Jx {ρ:Nat->Option Nat} {M:Nat->Prop} {w:World} {β:aX}:∀{us vs:List AV} {cs:List Value},fT ρ us vs->aR M w β us cs->aR M w (fun k=>(ρ k).bind β) vs cs
 |[],[],_,_,h=>by cases h;exact .nil
 |u::us,v::vs,cs,hl,h=>by
  obtain⟨c1,c2,rfl,h1,h2⟩:=h.split
  exact(hl.1.2.2 M w β c1 h1).cons (Jx hl.2 h2)
 |[],_::_,_,h,_=>h.elim
 |_::_,[],_,h,_=>h.elim
theorem FO {ρ:Nat->Option Nat} {us vs:List AV} (h:fT ρ us vs):gM ρ (.agg us) (.agg vs):=by
 refine⟨rfl,fun M w β cs hc=>?_⟩
 cases hc with
 |agg h1 h2=>cases h2;exact .agg (Jx h h1) .nil
theorem me {rl:List (Nat×Nat)} {us vs:List AV} (h:fT (bB rl) us vs):iF rl (.agg us) (.agg vs):=.inl (.inr (FO h))
theorem iF.le {rl:List (Nat×Nat)} {u v:AV} (h:iF rl u v):gM (bB rl) u v:=by
 rcases h with(h|h)|h
 ·exact(Gc h.2 h.1).2
 ·exact h
 ·exact kA h.1 h.2
def jD (nx:Nat) (rl:List (Nat×Nat)) (os:aD):aD->Prop
 |[]=>True
 |(k2,o2)::ps=>((look k2 rl=none/\rM o2/\k2<nx)\/∃k1 o1,look k2 rl=some k1/\look k1 os=some o1/\o1.row=o2.row/\o1.wr=o2.wr/\o1.es=o2.es/\o1.len=o2.len/\∀i,i<o2.len->iF rl (o1.f i) (o2.f i))/\jD nx rl os ps
theorem xk {nx:Nat} {rl:List (Nat×Nat)} {os:aD}:∀{ps:aD},jD nx rl os ps->tU nx (bB rl) os ps
 |[],_=>trivial
 |(k2,o2)::ps,h=>by
  obtain⟨h|⟨k1,o1,h1,h2,h3,h4,h5,h6,h7⟩,h8⟩:=h
  ·exact⟨.inr h,xk h8⟩
  ·exact⟨.inl ⟨k1,o1,h1,h2,⟨h3.symm▸rfl,h4.symm▸rfl,h5.symm▸rfl,h6.symm▸rfl,fun i hi=>(h7 i (h6▸hi)).le⟩⟩,xk h8⟩
theorem eH {rl:List (Nat×Nat)} {u v:AV} (hk:keys u=[]) (h:u=v):iF rl u v:=.inr ⟨hk,h▸.refl _⟩
theorem cI {nx:Nat} {rl:List (Nat×Nat)} {os ps:aD} {k2 k1:Nat} {r w:Bool} {es n m:Nat} {f g:Nat->AV} (hk:look k2 rl=some k1) (ho:look k1 os=some ⟨r,w,es,n,f⟩) (hn:n=m) (h:∀i,i<m->iF rl (f i) (g i))
  (hs:jD nx rl os ps):jD nx rl os ((k2,⟨r,w,es,m,g⟩)::ps):=⟨.inr ⟨k1,_,hk,ho,rfl,rfl,rfl,hn,h⟩,hs⟩
theorem ff {nx:Nat} {rl:List (Nat×Nat)} {os ps:aD} {k2 k1:Nat} {r w:Bool} {es:Nat} {f g:Nat->AV} (hk:look k2 rl=some k1) (ho:look k1 os=some ⟨r,w,es,1,f⟩) (h:iF rl (f 0) (g 0))
  (hs:jD nx rl os ps):jD nx rl os ((k2,⟨r,w,es,1,g⟩)::ps):=cI hk ho rfl (fun i hi=>by rw[Nat.lt_one_iff.1 hi];exact h) hs
theorem lD {nx:Nat} {rl:List (Nat×Nat)} {os ps:aD} {k2 es:Nat} {w:Bool} {f:Nat->AV} (hk:look k2 rl=none) (hes:0<es) (hn:k2<nx) (hs:jD nx rl os ps):jD nx rl os ((k2,⟨true,w,es,0,f⟩)::ps):=⟨.inl ⟨hk,⟨rfl,rfl,hes⟩,hn⟩,hs⟩
theorem DN {α:Type} {k:Nat} {a:α} {l:List (Nat×α)}:look k ((k,a)::l)=some a:=by simp[look]
theorem KF {α:Type} {k:Nat} {b:List (Nat×α)}:∀{a:List (Nat×α)},look k (a++b)=match look k a with
  |some x=>some x
  |none=>look k b
 |[]=>rfl
 |(j,x)::a=>by
  simp only[List.cons_append,look]
  split
  ·rfl
  ·exact KF
theorem gP {P:Program} {a b:aU} (ha:aZ P a) (hb:aZ P b):aZ P (a++b):=by
 intro f s hl
 have hl:look f (a++b)=some s:=hl
 rw[KF]at hl
 split at hl
 ·rename_i h
  simp only[ax]at hl
  subst hl
  exact ha f _ h
 ·exact hb f s hl
def Kept (kp:List Nat) (c:Ctx):Prop:=∀k x,c.k0 k=some x->k∈kp
theorem v5 {c:Ctx} (h0:∀nx k x,c.k0 k=some x->k<nx):Kept [] c:=fun k x hk=>absurd (h0 0 k x hk) aa
def fm (kp:List Nat) (v:List AV×aD) (vs:List AV) (os:aD) (nx:Nat):Prop:=
 ∃rl,(jc nx rl&&kp.all fun k=>look k rl==some k)=true/\v.1=vs.map (lV rl)/\vs.all (lM rl)=true/\jD nx rl v.2 os
theorem fm.le {kp:List Nat} {c:Ctx} {s':aL} {ls:List Nat} {v:List AV×aD} {vs:List AV} {os:aD} {nx:Nat} (h:fm kp v vs os nx) (hv:bC ls s'=some v) (h0:Kept kp c):∃ρ,Le c ρ s' ⟨aH ls vs,os,nx⟩:=by
 obtain⟨rl,h1,h2,h3,h4⟩:=h
 simp only[Bool.and_eq_true]at h1
 exact JI rl hv (fun k x hk=>by simpa using List.all_eq_true.1 h1.2 k (h0 k x hk)) h1.1 (BZ h2 h3) (xk h4)
theorem fm.vals {vs:List AV} {nx:Nat} (h:vs.all qu=true):fm [] (vs,[]) vs [] nx:=by
 simp only[List.all_eq_true]at h
 refine⟨[],rfl,?_,List.all_eq_true.2 fun v hv=>aaO (h v hv),trivial⟩
 have:vs.map (lV [])=vs.map id:=List.map_congr_left fun v hv=>aax (h v hv)
 rw[this,List.map_id]
theorem nv {nt:Nat}:∀{x:Code} {p:List Nat},cw nt x=true->(before x p).all (fun x=>cw nt x)=true
 |.seq x y,0::p,h=>by
  simp only[cw,Bool.and_eq_true]at h
  exact nv (x:=x) h.1
 |.seq x y,(n+1)::p,h=>by
  simp only[cw,Bool.and_eq_true]at h
  simp only[before,List.all_cons,Bool.and_eq_true]
  exact⟨h.1,nv (x:=y) h.2⟩
 |.seq _ _,[],_|.cond _ _ _,_,_|.block _ _,_,_|.loop _,_,_|.region _ _ _,_,_|.skip,_,_|.label _,_,_|.exit _,_,_|.ret,_,_|.scope _,_,_|.goto _,_,_|.refuse _,_,_|.rangeFunc _ _ _ _,_,_=>by simp[before]
theorem vG {nt:Nat}:∀{x:Code} {p:List Nat},cw nt x=true->(behind x p).all (fun x=>cw nt x)=true
 |.seq x y,0::p,h=>by
  simp only[cw,Bool.and_eq_true]at h
  simp only[behind,List.all_append,List.all_cons,List.all_nil,Bool.and_true,Bool.and_eq_true]
  exact⟨vG (x:=x) h.1,h.2⟩
 |.seq x y,(n+1)::p,h=>by
  simp only[cw,Bool.and_eq_true]at h
  exact vG (x:=y) (p:=p) h.2
 |.seq _ _,[],_|.cond _ _ _,_,_|.block _ _,_,_|.loop _,_,_|.region _ _ _,_,_|.skip,_,_|.label _,_,_|.exit _,_,_|.ret,_,_|.scope _,_,_|.goto _,_,_|.refuse _,_,_|.rangeFunc _ _ _ _,_,_=>by simp[behind]
theorem sA {nt:Nat}:∀{x:Code} {p:List Nat},chain x p=true->cw nt x=true->cw nt (part x p)=true
 |x,[],_,h=>by cases x<;>exact h
 |.seq x y,0::p,hc,h=>by
  simp only[cw,Bool.and_eq_true]at h
  exact sA (x:=x) hc h.1
 |.seq x y,(n+1)::p,hc,h=>by
  simp only[cw,Bool.and_eq_true]at h
  exact sA (x:=y) hc h.2
 |.cond _ _ _,_::_,hc,_|.block _ _,_::_,hc,_|.loop _,_::_,hc,_|.region _ _ _,_::_,hc,_|.skip,_::_,hc,_|.label _,_::_,hc,_|.exit _,_::_,hc,_|.ret,_::_,hc,_|.scope _,_::_,hc,_|.goto _,_::_,hc,_|.refuse _,_::_,hc,_|.rangeFunc _ _ _ _,_::_,hc,_=>by simp[chain]at hc
section rules
variable {P:Program} {c:Ctx} {nt:Nat} {s:aL} {Q:ak->aL->Prop} {T:Types} (hT:dF P T) {Γ:aU} (hΓ:aZ P Γ) (hm:P.follows .mixedOrders=true)
def Round (kp:List Nat) {α:Type} (V:α->List AV) (O:α->aD) (nx:Nat) (I D:α->Prop) (μ:α->Nat) (i:Nat) (R:List AV×aD->Prop) (a:α):ak->List AV×aD->Prop
 |.normal,v=>∃b,I b/\μ b<μ a/\fm kp v (V b) (O b) nx
 |.exit k,v=>k=i/\∃b,D b/\fm kp v (V b) (O b) nx
 |.ret,v=>R v
include hT hΓ hm in
theorem ay.adC {x y:Code} {i:Nat} (hx:x=.block i (.loop y)) {kp:List Nat} (h0:Kept kp c) {forks:List Nat} (n:Nat) (L:List Nat) (nx:Nat) {α:Type} (V:α->List AV) (O:α->aD) (I D:α->Prop) (μ:α->Nat) (R:List AV×aD->Prop)
  (a0:α) (hI:I a0) (hs:∃ρ,Le c ρ s ⟨aH L (V a0),O a0,nx⟩) (hd:cw nt y=true)
  (hb:∀a,I a->∃t,aM T Γ forks n L [y] ⟨aH L (V a),O a,nx⟩=some t/\t.all (Round kp V O nx I D μ i R a))
  (hD:∀b s',D b->(∃ρ,Le c ρ s' ⟨aH L (V b),O b,nx⟩)->Q .normal s') (hR:∀v s',R v->bC L s'=some v->Q .ret s'):ay P c nt x s Q:=by
 refine ay.iO hx (fun a=>⟨aH L (V a),O a,nx⟩) I μ a0 hs hI fun a ha=>?_
 obtain⟨t,h1,h2⟩:=hb a ha
 refine ay.bE hT hΓ hm n L h1 hd (ag.fI ?_ h2)
 rintro e v hv s' hs'
 cases e with
 |normal=>
  obtain⟨b,g1,g2,g3⟩:=hv
  exact⟨b,g3.le hs' h0,g1,g2⟩
 |exit k=>
  obtain⟨rfl,b,g1,g2⟩:=hv
  exact xO (hD b s' g1 (g2.le hs' h0))
 |ret=>exact hR v s' hv hs'
theorem aJ.one {x:Code} (h:ay P c nt x s Q):aJ P c nt [x] s Q:=h.mono fun e s' h=>by cases e<;>exact h
theorem ay.rF {x:Code} (h:aJ P c nt [x] s Q):ay P c nt x s Q:=ay.mono h fun e s' h=>by cases e<;>exact h
def Start (kp:List Nat) {α:Type} (V:α->List AV) (O:α->aD) (nx:Nat) (I:α->Prop) (R:List AV×aD->Prop):ak->List AV×aD->Prop
 |.normal,v=>∃a,I a/\fm kp v (V a) (O a) nx
 |.ret,v=>R v
 |.exit _,_=>False
include hT hΓ hm in
theorem ay.uc {x y:Code} (p:List Nat) {i:Nat} (hc:chain x p=true) (hx:part x p=.block i (.loop y)) (hd:cw nt x=true) {kp:List Nat} (h0:Kept kp c) {f1 f2:List Nat} (n:Nat) (L:List Nat) (nx:Nat) {α:Type} (V:α->List AV) (O:α->aD) (I D:α->Prop) (μ:α->Nat) (R:List AV×aD->Prop)
  (hp:∃t,aM T Γ f1 n L (before x p) s=some t/\t.all (Start kp V O nx I R))
  (hb:∀a,I a->∃t,aM T Γ f2 n L [y] ⟨aH L (V a),O a,nx⟩=some t/\t.all (Round kp V O nx I D μ i R a))
  (hD:∀b s',D b->(∃ρ,Le c ρ s' ⟨aH L (V b),O b,nx⟩)->aJ P c nt (behind x p) s' Q) (hR:∀v s',R v->bC L s'=some v->Q .ret s'):ay P c nt x s Q:=by
 obtain⟨t,h1,h2⟩:=hp
 refine ay.hole p hc (aJ.bE hT hΓ hm n L h1 (nv hd) (ag.fI ?_ h2))
 rintro e v hv s' hs'
 cases e with
 |normal=>
  obtain⟨a,hI,hre⟩:=hv
  refine(show ay P c nt (part x p) s' _ from ay.adC hT hΓ hm hx h0 n L nx V O I D μ R a hI (hre.le hs' h0) ?_ hb (fun b s' hD' hle=>hD b s' hD' hle) fun v s' hv hs'=>hR v s' hv hs')
  have:=sA (nt:=nt) hc hd
  rw[hx]at this
  exact this
 |ret=>exact hR v s' hv hs'
 |exit k=>exact hv.elim
include hT hΓ hm in
theorem ay.wv {x y z:Code} (p:List Nat) {i:Nat} (hc:chain x p=true) (hx:part x p=.block i (.loop y)) (hz:behind x p=[z]) (hd:cw nt x=true) {kp:List Nat} (h0:Kept kp c) {f1 f2:List Nat} (n:Nat) (L:List Nat) (nx:Nat) {α:Type} (V:α->List AV) (O:α->aD) (I D:α->Prop) (μ:α->Nat) (R:List AV×aD->Prop)
  (hp:∃t,aM T Γ f1 n L (before x p) s=some t/\t.all (Start kp V O nx I R))
  (hb:∀a,I a->∃t,aM T Γ f2 n L [y] ⟨aH L (V a),O a,nx⟩=some t/\t.all (Round kp V O nx I D μ i R a))
  (hD:∀b,D b->ay P c nt z ⟨aH L (V b),O b,nx⟩ Q) (hR:∀v s',R v->bC L s'=some v->Q .ret s'):ay P c nt x s Q:=
 ay.uc hT hΓ hm p hc hx hd h0 n L nx V O I D μ R hp hb (fun b s' hD' hle=>by rw[hz];exact aJ.weak rfl hle (aJ.one (hD b hD'))) hR
def Aj (c:Ctx) (L:List Nat) {α:Type} (V:α->List AV) (O:α->aD) (nx:Nat) (I D:α->Prop) (μ:α->Nat) (i:Nat) (R:aL->Prop) (a:α):ak->aL->Prop
 |.normal,s'=>∃b,I b/\μ b<μ a/\∃ρ,Le c ρ s' ⟨aH L (V b),O b,nx⟩
 |.exit k,s'=>k=i/\∃b,D b/\∃ρ,Le c ρ s' ⟨aH L (V b),O b,nx⟩
 |.ret,s'=>R s'
include hT hΓ hm in
theorem ay.B0 {x y z:Code} (p:List Nat) {i:Nat} (hc:chain x p=true) (hx:part x p=.block i (.loop y)) (hz:behind x p=[z]) (hd:cw nt x=true) {kp:List Nat} (h0:Kept kp c) {f1:List Nat} (n:Nat) (L:List Nat) (nx:Nat) {α:Type} (V:α->List AV) (O:α->aD) (I D:α->Prop) (μ:α->Nat) (R:List AV×aD->Prop)
  (hp:∃t,aM T Γ f1 n L (before x p) s=some t/\t.all (Start kp V O nx I R))
  (hb:∀a,I a->ay P c nt y ⟨aH L (V a),O a,nx⟩ (Aj c L V O nx I D μ i (fun s'=>∃v,R v/\bC L s'=some v) a))
  (hD:∀b,D b->ay P c nt z ⟨aH L (V b),O b,nx⟩ Q) (hR:∀v s',R v->bC L s'=some v->Q .ret s'):ay P c nt x s Q:=by
 obtain⟨t,h1,h2⟩:=hp
 refine ay.hole p hc (aJ.bE hT hΓ hm n L h1 (nv hd) (ag.fI ?_ h2))
 rintro e v hv s' hs'
 cases e with
 |normal=>
  obtain⟨a,hI,hre⟩:=hv
  refine ay.iO hx (fun a=>⟨aH L (V a),O a,nx⟩) I μ a (hre.le hs' h0) hI fun a ha=>(hb a ha).mono fun e s' h=>?_
  cases e with
  |normal=>
   obtain⟨b,g1,g2,g3⟩:=h
   exact⟨b,g3,g1,g2⟩
  |exit k=>
   obtain⟨rfl,b,g1,g2⟩:=h
   refine xO ?_
   show aJ P c nt (behind x p) s' _
   rw[hz]
   exact aJ.weak rfl g2 (aJ.one (hD b g1))
  |ret=>
   obtain⟨v,g1,g2⟩:=h
   exact hR v s' g1 g2
 |ret=>exact hR v s' hv hs'
 |exit k=>exact hv.elim
include hT hΓ hm in
theorem ay.vr {y x1 zb:Code} (p:List Nat) {j:Nat} (hc:chain y p=true) (hx:part y p=.block j x1) (hz:behind y p=[zb]) (hd:cw nt y=true) {kp:List Nat} (h0:Kept kp c) {f1:List Nat} (n:Nat) (L:List Nat) (nx:Nat) {α:Type} (V:α->List AV) (O:α->aD) (I:α->Prop)
  (hp:∃t,aM T Γ f1 n L (before y p) s=some t/\t.all fun e v=>match e with
   |.normal=>∃a,I a/\fm kp v (V a) (O a) nx
   |e=>∀s',bC L s'=some v->Q e s')
  (hb:∀a,I a->ay P c nt x1 ⟨aH L (V a),O a,nx⟩ (inBlock j (ej (fun s'=>ay P c nt zb s' Q) Q))):ay P c nt y s Q:=by
 obtain⟨t,h1,h2⟩:=hp
 refine ay.hole p hc (aJ.bE hT hΓ hm n L h1 (nv hd) (ag.fI ?_ h2))
 rintro e v hv s' hs'
 cases e with
 |normal=>
  obtain⟨a,hI,hre⟩:=hv
  refine ay.lP (hre.le hs' h0) (ay.oF hx ((hb a hI).mono fun e s' h=>?_))
  have key:∀{e s'},ej (fun s'=>ay P c nt zb s' Q) Q e s'->ej (fun s''=>aJ P c nt (behind y p) s'' Q) Q e s':=fun {e s'} h=>by
   cases e with
   |normal=>show aJ P c nt (behind y p) s' Q;rw[hz];exact aJ.one h
   |exit k=>exact h
   |ret=>exact h
  cases e with
  |normal=>exact key (e:=.normal) h
  |exit k=>
   simp only[inBlock]at h ⊢
   split
   ·rename_i hk;rw[if_pos hk]at h;exact key (e:=.normal) h
   ·rename_i hk;rw[if_neg hk]at h;exact key (e:=.exit k) h
  |ret=>exact key (e:=.ret) h
 |ret=>exact hv s' hs'
 |exit k=>exact hv s' hs'
theorem ay.tail {z zb:Code} {j:Nat} (hne:∀s',Q (.exit j) s'->False) (h:aJ P c nt [z,zb] s Q):ay P c nt z s (inBlock j (ej (fun s'=>ay P c nt zb s' Q) Q)):=
 ay.mono h fun e s' h=>by
  cases e with
  |normal=>exact ay.mono h fun e s' h=>by cases e<;>exact h
  |exit k=>
   simp only[inBlock]
   split
   ·rename_i hk;subst hk;exact(hne _ h).elim
   ·exact h
  |ret=>exact h
def ri (fn:Func) (L:List Nat) (res:AV) (v:List AV×aD):Prop:=∃us,Bn fn (aH L v.1)=some us/\fz us res
theorem ri.fin {fn:Func} {L:List Nat} {res:AV} {v:List AV×aD} {s':aL} (h:ri fn L res v) (hs':bC L s'=some v):eG c (Fin T fn res) .ret s':=by
 obtain⟨us,g1,g2⟩:=h
 exact .inl (gL (.inr rfl) hs' g1 g2)
theorem DE {c:Prop} [Decidable c] {u v:AV} (hu:keys u=[]) (hv:keys v=[]):keys (if c then u else v)=[]:=by split<;>assumption
include hT hΓ hm in
theorem iJ {f:FuncId} {fn:Func} (hf:iL P f fn (aF fn)) {args:List AV} {r:dm} (hk:bH args=[]) (hlen:args.length<=fn.ntmps) (hpost:r.post=[]) (p:List Nat) {i:Nat} {y z:Code} (hc:chain (aF fn) p=true) (hx:part (aF fn) p=.block i (.loop y)) (hz:behind (aF fn) p=[z])
  {f1 f2 f3:List Nat} (n:Nat) (L:List Nat) (nx:Nat) {α:Type} (V:α->List AV) (O:α->aD) (I D:α->Prop) (μ:α->Nat)
  (h:r.need->(∃t,aM T Γ f1 n L (before (aF fn) p) ⟨aT 0 args,[],0⟩=some t/\t.all (Start [] V O nx I (ri fn L r.res)))/\
   (∀a,I a->∃t,aM T Γ f2 n L [y] ⟨aH L (V a),O a,nx⟩=some t/\t.all (Round [] V O nx I D μ i (ri fn L r.res) a))/\
   ∀a,D a->∃t,cR T Γ f3 n fn [z] ⟨aH L (V a),O a,nx⟩=some t/\t.all fun _ us=>fz us r.res) (K:Nat) (pre:aD):aO P f K args pre r:=by
 refine ji hT hf hk hlen hpost (fun need c h0=>?_) K pre
 obtain⟨hp,hb,he⟩:=h need
 refine ay.wv hT hΓ hm p hc hx hz hf.dst (v5 h0) n L nx V O I D μ (ri fn L r.res) hp hb (fun a ha=>?_) fun v s' hv hs'=>hv.fin hs'
 obtain⟨t,g1,g2⟩:=he a ha
 have:=vG (x:=aF fn) (p:=p) hf.dst
 rw[hz]at this
 exact ay.rF ((aJ.fin hT hΓ hm n g1 this g2).mono fun _ _ h=>.inl h)
theorem I7 {rl:List (Nat×Nat)}:∀{rest:List AV},bH rest=[]->(rest.all fun v=>!v.isTuple)=true->fT (bB rl) rest rest
 |[],_,_=>trivial
 |v::r,h1,h2=>by
  simp only[bH,List.append_eq_nil_iff]at h1
  simp only[List.all_cons,Bool.and_eq_true,Bool.not_eq_true']at h2
  exact⟨⟨h2.1,gu h1.1⟩,I7 h1.2 h2.2⟩
end rules
theorem bf {nx:Nat} {rl:List (Nat×Nat)} {os ps:aD} {k2 k1:Nat} {r w:Bool} {es:Nat} {f g:Nat->AV} (hs:jD nx rl os ps) (hk:look k2 rl=some k1:=by exact rfl) (ho:look k1 os=some ⟨r,w,es,1,f⟩:=by exact rfl) (h1:keys (f 0)=[]:=by exact rfl) (h2:f 0=g 0:=by exact rfl):jD nx rl os ((k2,⟨r,w,es,1,g⟩)::ps):=ff hk ho (eH h1 h2) hs
theorem mm {nx:Nat} {rl:List (Nat×Nat)} {os ps:aD} {k2 k1:Nat} {r w:Bool} {es n m:Nat} {f g:Nat->AV} (hs:jD nx rl os ps) (hk:look k2 rl=some k1:=by exact rfl) (ho:look k1 os=some ⟨r,w,es,n,f⟩:=by exact rfl) (hn:n=m:=by exact rfl) (h1:∀i,keys (f i)=[]:=by exact fun _=>rfl) (h2:∀i,f i=g i:=by exact fun _=>rfl):jD nx rl os ((k2,⟨r,w,es,m,g⟩)::ps):=cI hk ho hn (fun i _=>eH (h1 i) (h2 i)) hs
end Go.Am
namespace Go.Am
open AV
theorem ru {ρ:Nat->Option Nat}:∀{us vs:List AV},bH us=[]->(us.all fun v=>!v.isTuple)=true->dH us vs->fT ρ us vs
 |[],[],_,_,_=>trivial
 |u::us,v::vs,h1,h2,h=>by
  simp only[bH,List.append_eq_nil_iff]at h1
  simp only[List.all_cons,Bool.and_eq_true,Bool.not_eq_true']at h2
  exact⟨⟨h2.1,kA h1.1 h.1⟩,ru h1.2 h2.2 h.2⟩
 |[],_::_,_,_,h=>h.elim
 |_::_,[],_,_,h=>h.elim
section rules
variable {P:Program} {c:Ctx} {nt:Nat} {s:aL} {Q:ak->aL->Prop} {T:Types} (hT:dF P T) {Γ:aU} (hΓ:aZ P Γ) (hm:P.follows .mixedOrders=true)
end rules
end Go.Am
namespace Go.Am
open AV
def A8 (fn:Func) (k:Nat) (ws:List AV) (o':az) (e:ak) (s':aL):Prop:=
 (e=.normal\/e=.ret)/\∃ls vs us os o1,bC ls s'=some (vs,os)/\k9 (aH ls vs) fn.results.toList=some us/\fT (bB [(k,0)]) us ws/\look 0 os=some o1/\dZ (bB [(k,0)]) o1 o'
def xY (fn:Func) (k:Nat) (ws:List AV) (o':az) (L:List Nat) (v:List AV×aD):Prop:=∃us o1,k9 (aH L v.1) fn.results.toList=some us/\fT (bB [(k,0)]) us ws/\look 0 v.2=some o1/\dZ (bB [(k,0)]) o1 o'
theorem xY.fin {fn:Func} {k:Nat} {ws:List AV} {o':az} {L:List Nat} {v:List AV×aD} {s':aL} (h:xY fn k ws o' L v) (hs':bC L s'=some v):A8 fn k ws o' .ret s':=by
 obtain⟨us,o1,h1,h2,h3,h4⟩:=h
 exact⟨.inr rfl,L,v.1,us,v.2,o1,hs',h1,h2,h3,h4⟩
section rules
variable {P:Program} {c:Ctx} {nt:Nat} {s:aL} {Q:ak->aL->Prop} {T:Types} (hT:dF P T) {Γ:aU} (hΓ:aZ P Γ) (hm:P.follows .mixedOrders=true)
include hT hΓ hm in
theorem ay.branch {x u v:Code} {b:Operand} (p:List Nat) (hc:chain x p=true) (hx:part x p=.cond b u v) (hz:behind x p=[]) (hd:cw nt x=true) {kp:List Nat} (h0:Kept kp c) {f1:List Nat} (n:Nat) (L:List Nat) (nx:Nat) {α:Type} (V:α->List AV) (O:α->aD) (I:α->Prop)
  (hp:∃t,aM T Γ f1 n L (before x p) s=some t/\t.all fun e v=>match e with
   |.normal=>∃a,I a/\fm kp v (V a) (O a) nx
   |e=>∀s',bC L s'=some v->Q e s')
  (hb:∀a,I a->∃t,(⟨aH L (V a),O a,nx⟩:aL).gO b=some (.bool t)/\(t=true->ay P c nt u ⟨aH L (V a),O a,nx⟩ Q)/\(t=false->ay P c nt v ⟨aH L (V a),O a,nx⟩ Q)):ay P c nt x s Q:=by
 obtain⟨t,h1,h2⟩:=hp
 refine ay.hole p hc (aJ.bE hT hΓ hm n L h1 (nv hd) (ag.fI ?_ h2))
 rintro e v hv s' hs'
 cases e with
 |normal=>
  obtain⟨a,hI,hre⟩:=hv
  obtain⟨t,g1,g2,g3⟩:=hb a hI
  show ay P c nt (part x p) s' _
  rw[hx,hz]
  have key:∀{y:Code} {s:aL},ay P c nt y s Q->ay P c nt y s (ej (fun s''=>aJ P c nt [] s'' Q) Q):=fun h=>h.mono fun e s' h=>by cases e<;>exact h
  exact ay.lP (hre.le hs' h0) (ay.cond g1 (fun ht=>key (g2 ht)) fun ht=>key (g3 ht))
 |ret=>exact hv s' hs'
 |exit k=>exact hv s' hs'
include hT in
theorem abi {f:FuncId} {fn:Func} {x:Code} (hf:iL P f fn x) {k es st n:Nat} {rest ws:List AV} {o2 o o':az} {l:List Prop}
  (hkr:bH rest=[]) (hrt:(rest.all fun v=>!v.isTuple)=true) (hlen:rest.length+1<=fn.ntmps) (ho:∀ρ,dZ ρ o2 o)
  (h:au l->∀c:Ctx,Kept [0] c->ay P c fn.ntmps x ⟨aT 0 (.own 0 es st n::rest),[(0,o)],1⟩ (A8 fn k ws o')) (K:Nat):
  aO P f K (.own k es st n::rest) [(k,o2)] ⟨js ws,[(k,o')],l⟩:=by
 refine nE hT hf (args0:=.own 0 es st n::rest) (pre0:=[(0,o)]) (nx:=1) [(0,k)] (by simpa using hlen) (by simp[jc]) ⟨⟨rfl,dw rfl rfl rfl⟩,I7 hkr hrt⟩ ⟨⟨k,o2,rfl,by simp[look],ho _⟩,trivial⟩
  (fun a x h=>?_) (fun x o h=>.inl ?_) (fun need c h0=>?_)
 ·simp only[bB,look]at h
  split at h
  ·simp only[ax]at h;subst h;exact⟨_,by simp[look];rfl⟩
  ·simp at h
 ·simp only[look]at h
  split at h
  ·rename_i he
   exact⟨_,by simp only[look,he,if_true];rfl⟩
  ·simp at h
 have hk:Kept [0] c:=fun a y hy=>by
  have:=h0 a y hy
  simp only[bB,look]at this
  split at this
  ·rename_i he;have:=eq_of_beq he;subst this;exact List.mem_singleton_self _
  ·simp at this
 refine(h need c hk).mono fun e s' ⟨h1,ls,vs,us,os,o1,g1,g2,g3,g4,g5⟩=>⟨h1,bB [(k,0)],xb,.inr (rV (ws:=ws) (ps:=[(k,o')]) g1 g2 g3 rfl (by simp[cK,lT,put]) ⟨⟨0,o1,by simp[bB,look],g4,g5⟩,trivial⟩)⟩
include hT in
theorem Bt {f:FuncId} {fn:Func} {x:Code} (hf:iL P f fn x) {args args0 ws:List AV} {o':az} {K:Nat} {l:List Prop} (ha:au l->fT (bB []) args args0) (hlen:args0.length<=fn.ntmps)
  (h:au l->∀c:Ctx,Kept [] c->ay P c fn.ntmps x ⟨aT 0 args0,[],0⟩ fun e s'=>(e=.normal\/e=.ret)/\∃ls vs us os a o,bC ls s'=some (vs,os)/\k9 (aH ls vs) fn.results.toList=some us/\fT (bB [(K,a)]) us ws/\look a os=some o/\dZ (bB [(K,a)]) o o'):
  aO P f K args [] ⟨js ws,[(K,o')],l⟩:=by
 intro need
 refine(nE hT hf (args0:=args0) (pre0:=[]) (nx:=0) [] hlen rfl (ha need) trivial (fun a k h=>by simp[bB,look]at h) (fun k o h=>?_) (fun need c h0=>?_):aO P f K args [] ⟨js ws,[(K,o')],l⟩) need
 ·simp only[look]at h
  split at h
  ·rename_i he
   have:K=k:=by simpa using he
   subst this
   exact .inr ⟨bq,by unfold cM;omega⟩
  ·simp at h
 ·refine(h need c fun k x hk=>by simpa [bB,look]using h0 k x hk).mono ?_
  rintro e s' ⟨h1,ls,vs,us,os,a,o,h2,h3,h4,h5,h6⟩
  exact⟨h1,bB [(K,a)],yZ ⟨bq,by unfold cM;omega⟩,.inr (rV (ws:=ws) (ps:=[(K,o')]) h2 h3 h4 rfl rfl ⟨⟨a,o,by simp[bB,look],h5,h6⟩,trivial⟩)⟩
end rules
end Go.Am
namespace Go.Am
open AV
section rules
variable {P:Program} {c:Ctx} {nt:Nat} {s:aL} {Q:ak->aL->Prop} {T:Types} (hT:dF P T) {Γ:aU} (hΓ:aZ P Γ) (hm:P.follows .mixedOrders=true)
def Head (kp:List Nat) {α:Type} (V:α->List AV) (O:α->aD) (nx:Nat) (D:α->Prop) (i:Nat) (R:List AV×aD->Prop) (G:α->Prop) (a:α):ak->List AV×aD->Prop
 |.normal,v=>G a/\fm kp v (V a) (O a) nx
 |.exit k,v=>k=i/\∃b,D b/\fm kp v (V b) (O b) nx
 |.ret,v=>R v
def WS (kp:List Nat) {α:Type} (V:α->List AV) (O:α->aD) (nx:Nat) (I:α->Prop) (μ:α->Nat) (a:α):ak->List AV×aD->Prop
 |.normal,v=>∃b,I b/\μ b<μ a/\fm kp v (V b) (O b) nx
 |_,_=>False
theorem agm {i:Nat} {y:Code} (h:cw nt (.block i (.loop y))=true):cw nt y=true:=by simpa [cw]using h
theorem agj {i:Nat} {y:Code} (h:cw nt (.block i y)=true):cw nt y=true:=by simpa [cw]using h
include hT hΓ hm in
theorem ay.ac4 {x y x1 zb y2:Code} (p:List Nat) {i:Nat} (hc:chain x p=true) (hx:part x p=.block i (.loop y)) (hd:cw nt x=true)
  (q:List Nat) {j:Nat} (hcq:chain y q=true) (hxq:part y q=.block j x1) (hzq:behind y q=[zb]) (r:List Nat) {i2:Nat} (hcr:chain x1 r=true) (hxr:part x1 r=.block i2 (.loop y2)) (hij:(i==j)=false)
  {kp:List Nat} (h0:Kept kp c) {f1 f2 f3 f4 f5:List Nat} (n:Nat) (L1 L2:List Nat) (nx1 nx2:Nat) {α β:Type} (V1:α->List AV) (O1:α->aD) (I1 D1:α->Prop) (μ1:α->Nat) (G:α->Prop) (R1 R2:List AV×aD->Prop)
  (V2:α->β->List AV) (O2:α->β->aD) (I2 D2:α->β->Prop) (μ2:α->β->Nat)
  (hp:∃t,aM T Γ f1 n L1 (before x p) s=some t/\t.all (Start kp V1 O1 nx1 I1 R1))
  (ho:∀a,I1 a->∃t,aM T Γ f2 n L1 (before y q) ⟨aH L1 (V1 a),O1 a,nx1⟩=some t/\t.all (Head kp V1 O1 nx1 D1 i R1 G a))
  (hi:∀a,I1 a->G a->∃t,aM T Γ f3 n L2 (before x1 r) ⟨aH L1 (V1 a),O1 a,nx1⟩=some t/\t.all (Start kp (V2 a) (O2 a) nx2 (I2 a) R2))
  (hb:∀a,I1 a->G a->∀b,I2 a b->∃t,aM T Γ f4 n L2 [y2] ⟨aH L2 (V2 a b),O2 a b,nx2⟩=some t/\t.all (Round kp (V2 a) (O2 a) nx2 (I2 a) (D2 a) (μ2 a) i2 R2 b))
  (ht:∀a,I1 a->G a->∀b,D2 a b->∃t,aM T Γ f5 n L1 (behind x1 r++[zb]) ⟨aH L2 (V2 a b),O2 a b,nx2⟩=some t/\t.all (WS kp V1 O1 nx1 I1 μ1 a))
  (hD:∀b s',D1 b->(∃ρ,Le c ρ s' ⟨aH L1 (V1 b),O1 b,nx1⟩)->aJ P c nt (behind x p) s' Q) (hR1:∀v s',R1 v->bC L1 s'=some v->Q .ret s') (hR2:∀v s',R2 v->bC L2 s'=some v->Q .ret s'):ay P c nt x s Q:=by
 have hdy:cw nt y=true:=by
  have:=sA (nt:=nt) hc hd
  rw[hx]at this
  exact agm this
 have hdx1:cw nt x1=true:=by
  have:=sA (nt:=nt) hcq hdy
  rw[hxq]at this
  exact agj this
 have hdz:((behind x1 r++[zb]).all fun x=>cw nt x)=true:=by
  have h1:=vG (nt:=nt) (p:=r) hdx1
  have h2:=vG (nt:=nt) (p:=q) hdy
  rw[hzq]at h2
  rw[List.all_append,h1,h2];rfl
 obtain⟨t,h1,h2⟩:=hp
 refine ay.hole p hc (aJ.bE hT hΓ hm n L1 h1 (nv hd) (ag.fI ?_ h2))
 rintro e v hv s' hs'
 cases e with
 |ret=>exact hR1 v s' hv hs'
 |exit k=>exact hv.elim
 |normal=>
  obtain⟨a,hI,hre⟩:=hv
  refine(show ay P c nt (part x p) s' _ from ay.iO hx (fun a=>⟨aH L1 (V1 a),O1 a,nx1⟩) I1 μ1 a (hre.le hs' h0) hI fun a ha=>?_)
  refine ay.mono (Q:=Aj c L1 V1 O1 nx1 I1 D1 μ1 i (fun s'=>Q .ret s') a) ?_ fun e s' h=>?_
  ·refine ay.vr hT hΓ hm q hcq hxq hzq hdy h0 (f1:=f2) n L1 nx1 (fun _:Unit=>V1 a) (fun _=>O1 a) (fun _=>G a) ?_ (fun _ hG=>?_)
   ·obtain⟨t,g1,g2⟩:=ho a ha
    refine⟨t,g1,ag.fI ?_ g2⟩
    rintro e v hv
    cases e with
    |normal=>exact⟨(),hv.1,hv.2⟩
    |exit k=>exact fun s' hs'=>⟨hv.1,hv.2.imp fun b hb=>⟨hb.1,hb.2.le hs' h0⟩⟩
    |ret=>exact fun s' hs'=>hR1 v s' hv hs'
   ·refine ay.uc hT hΓ hm r hcr hxr hdx1 h0 (f1:=f3) (f2:=f4) n L2 nx2 (V2 a) (O2 a) (I2 a) (D2 a) (μ2 a) R2 (hi a ha hG) (hb a ha hG) (fun b s' hb hle=>?_) (fun v s' hv hs'=>hR2 v s' hv hs')
    obtain⟨t,g1,g2⟩:=ht a ha hG b hb
    have key:aJ P c nt (behind x1 r++[zb]) s' (Aj c L1 V1 O1 nx1 I1 D1 μ1 i (fun s'=>Q .ret s') a):=by
     refine aJ.weak (by cases behind x1 r<;>rfl) hle (aJ.bE hT hΓ hm n L1 g1 hdz (ag.fI ?_ g2))
     rintro e v hv s' hs'
     cases e with
     |normal=>
      obtain⟨b,k1,k2,k3⟩:=hv
      exact⟨b,k1,k2,k3.le hs' h0⟩
     |exit k=>exact hv.elim
     |ret=>exact hv.elim
    refine aJ.mono ?_ (aJ.append key)
    rintro e s' h
    cases e with
    |normal=>exact ay.rF h
    |exit k=>
     simp only[inBlock]
     have hk:k=i:=h.1
     rw[if_neg (by rw[hk];simpa using hij)]
     exact h
    |ret=>exact h
  ·cases e with
   |normal=>
    obtain⟨b,g1,g2,g3⟩:=h
    exact⟨b,g3,g1,g2⟩
   |exit k=>
    obtain⟨rfl,b,g1,g2⟩:=h
    refine xO ?_
    show aJ P c nt (behind x p) s' _
    exact hD b s' g1 g2
   |ret=>exact h
end rules
end Go.Am
namespace Go.Am
open Go AV IntKind
section rules
variable {P:Program} {T:Types} (hT:dF P T)
def oP (T:Types) (sl:List (Nat×AV)) (os:aD):List ResultVar->Option (List AV×List Prop)
 |[]=>some ([],[])
 |.tmp t::l=>match look t sl,oP T sl os l with
  |some v,some (m,q)=>if v.isTuple then none else some (v::m,q)
  |_,_=>none
 |.cell a t::l=>match look t T,look a sl,oP T sl os l with
  |some ti,some (.ptr k i es off p),some (m,q)=>match lG os ti (.ptr k i es off p)with
   |some r=>some (r.val::m,r.ia++q)
   |none=>none
  |_,_,_=>none
theorem abt {st:aD} {ks:List Nat} {ti:TI} {k i es off:Nat} {p:List Nat} {r:ec} (h:lG (pick st ks) ti (.ptr k i es off p)=some r):lG st ti (.ptr k i es off p)=some r:=by
 have:∀o,look k (pick st ks)=some o->look k st=some o:=fun o ho=>by
  rw[lg]at ho
  split at ho
  ·exact ho
  ·simp at ho
 simp only[lG]at h ⊢
 cases hl:look k (pick st ks)with
 |none=>simp[hl]at h
 |some o=>rw[hl]at h;rw[this o hl];exact h
theorem Dn {T:Types} {s:aL} {ls ks:List Nat}:∀{l:List ResultVar} {us:List AV} {q:List Prop},oP T (aH ls (jL s ls)) (pick s.store ks) l=some (us,q)->gV T s l=some (us,q)
 |[],us,q,h=>by simp only[oP,ax,Prod.mk.injEq]at h;obtain⟨rfl,rfl⟩:=h;rfl
 |.tmp t::l,us,q,h=>by
  simp only[oP]at h
  split at h
  ·rename_i v m q' hv hm
   split at h
   ·simp at h
   ·rename_i ht
    simp only[ax,Prod.mk.injEq]at h
    obtain⟨rfl,rfl⟩:=h
    simp only[gV,qo,tZ (by simpa using ht) hv,Dn hm]
    simp[ht]
  ·simp at h
 |.cell a t::l,us,q,h=>by
  simp only[oP]at h
  split at h
  ·rename_i ti k i es off p m q' h1 h2 hm
   split at h
   ·rename_i r hr
    simp only[ax,Prod.mk.injEq]at h
    obtain⟨rfl,rfl⟩:=h
    simp only[gV,qo,h1,tZ rfl h2,abt hr,Dn hm]
   ·simp at h
  ·simp at h
theorem Qq {T:Types} {fn:Func} {ls:List Nat} {vs us ws:List AV} {os ps pre:aD} {s':aL} {τ:Nat->Option Nat} {r:dm} {q:List Prop} (hv:bC ls s'=some (vs,os)) (hr:oP T (aH ls vs) os fn.results.toList=some (us,q)) (hq:au q) (hle:fT τ us ws) (hres:r.res=js ws)
  (he:cK (lT r.post) pre=ps) (ho:mM τ os ps):rZ T fn τ pre r s':=by
 unfold bC at hv
 simp only[ax,Prod.mk.injEq]at hv
 obtain⟨rfl,rfl⟩:=hv
 refine⟨⟨us,q,ws,Dn hr,hq,hle,hres⟩,fun k o hk=>?_⟩
 replace hk:=zK hk
 rw[he]at hk
 obtain⟨k1,o1,g1,g2,g3⟩:=yp ho k o hk
 refine⟨k1,o1,g1,?_,g3⟩
 rw[lg]at g2
 split at g2
 ·exact g2
 ·simp at g2
end rules
section
variable {P:Program} {c:Ctx} {nt:Nat} {s:aL} {Q:ak->aL->Prop} {T:Types} (hT:dF P T) {Γ:aU} (hΓ:aZ P Γ) (hm:P.follows .mixedOrders=true)
end
end Go.Am
namespace Go.Am
open Go AV IntKind
section rules
variable {P:Program} {T:Types} (hT:dF P T)
include hT in
theorem Tn {f:FuncId} {fn:Func} {x:Code} (hf:iL P f fn x) {args args0 ws:List AV} {o':az} {K:Nat} {l:List Prop} (ha:au l->fT (bB []) args args0) (hlen:args0.length<=fn.ntmps)
  (h:au l->∀c:Ctx,Kept [] c->ay P c fn.ntmps x ⟨aT 0 args0,[],0⟩ fun e s'=>(e=.normal\/e=.ret)/\∃ls vs us q os a o,bC ls s'=some (vs,os)/\oP T (aH ls vs) os fn.results.toList=some (us,q)/\au q/\fT (bB [(K,a)]) us ws/\look a os=some o/\dZ (bB [(K,a)]) o o'):
  aO P f K args [] ⟨js ws,[(K,o')],l⟩:=by
 intro need
 refine(nE hT hf (args0:=args0) (pre0:=[]) (nx:=0) [] hlen rfl (ha need) trivial (fun a k h=>by simp[bB,look]at h) (fun k o h=>?_) (fun need c h0=>?_):aO P f K args [] ⟨js ws,[(K,o')],l⟩) need
 ·simp only[look]at h
  split at h
  ·rename_i he
   have:K=k:=by simpa using he
   subst this
   exact .inr ⟨bq,by unfold cM;omega⟩
  ·simp at h
 ·refine(h need c fun k x hk=>by simpa [bB,look]using h0 k x hk).mono ?_
  rintro e s' ⟨h1,ls,vs,us,q,os,a,o,h2,h3,hq,h4,h5,h6⟩
  exact⟨h1,bB [(K,a)],yZ ⟨bq,by unfold cM;omega⟩,.inr (Qq (ws:=ws) (ps:=[(K,o')]) h2 h3 hq h4 rfl rfl ⟨⟨a,o,by simp[bB,look],h5,h6⟩,trivial⟩)⟩
end rules
end Go.Am
namespace Go.Am
open AV
theorem Fa {ro:Option Nat} {n m:Nat} {P:Program} {x:Code} {Q:Exit->Act->World->Prop} {a:Act} {w:World} (h:x.wpIn (gv ro) n P Q a w):x.wpIn (gv ro) m P Q a w:=
 fun b k cs h1 h2 _=>h b k cs h1 h2 fun d hd=>by simp[gv]at hd
def mH (st:aD) (β:aX):Nat->Prop:=fun b=>∃k o,∃N:Nat×Nat,look k st=some o/\o.wr=true/\β k=some (b,N)
section base
variable {c c1:Ctx} {st st':aD} {D D':Nat->Prop} {β β':aX} {w w':World}
theorem br.KA (h:br c st D β w) {b:Nat} (hb:mH st β b):∃cs ty,w.heap[b]?=some (.cells cs ty (0,0)):=by
 obtain⟨k,o,N,h1,_,h3⟩:=hb
 obtain⟨b',N',cs,ty,q1,q2,_⟩:=h.obj k o h1 _ h3
 rw[h3]at q1
 cases q1
 exact⟨cs,ty,q2⟩
theorem br.base (h:br c st D β w) (k0:aX) (ro:Option Nat) (hk:∀k x,k0 k=some x->β k=some x):br {c with w0:=w,Mw:=mH st β,k0:=k0,ro:=ro} st D β w:=
 {obj:=h.obj,dK:=h.dK,inj:=h.inj,dom:=h.dom,keep:=hk,lt:=h.lt,os:=rfl,tape:=rfl,output:=rfl,size:=bq,block:=fun _ _ _=>rfl,gj:=fun b hb=>⟨Nat.lt_of_lt_of_le (h.gj b hb).1 h.size,fun⟨k,o,N,h1,h2,h3⟩=>(h.new k o b N h1 h2 h3).elim (fun h4=>Nat.not_lt.2 h4 (h.gj b hb).1) (h.gj b hb).2⟩,new:=fun k o b N h1 h2 h3=>.inr ⟨k,o,N,h1,h2,h3⟩}
theorem br.back {k0:aX} {ro:Option Nat} (h0:br c st D β w) (hk:∀k x,c.k0 k=some x->k0 k=some x) (h:br {c with w0:=w,Mw:=mH st β,k0:=k0,ro:=ro} st' D' β' w'):br c st' D' β' w':=by
 have hnw:∀b,b<c.w0.heap.size->¬c.Mw b->¬mH st β b:=fun b hb hm ⟨k,o,N,h1,h2,h3⟩=>(h0.new k o b N h1 h2 h3).elim (fun h4=>aa) hm
 exact {obj:=h.obj,dK:=h.dK,inj:=h.inj,dom:=h.dom,keep:=fun k x hx=>h.keep k x (hk k x hx),lt:=h.lt,os:=h.os.trans h0.os,tape:=h.tape.trans h0.tape,output:=h.output.trans h0.output,size:=Nat.le_trans h0.size h.size,block:=fun b hb hm=>(h.block b (Nat.lt_of_lt_of_le hb h0.size) (hnw b hb hm)).trans (h0.block b hb hm),gj:=h0.gj,new:=fun k o b N h1 h2 h3=>(h.new k o b N h1 h2 h3).elim (fun h4=>.inl (Nat.le_trans h0.size h4)) fun⟨k',o',N',g1,g2,g3⟩=>h0.new k' o' b N' g1 g2 g3}
theorem br.hc {k0:aX} {ro:Option Nat} {c':Ctx} (hMf:c'.Mf=c.Mf) (h:br {c with w0:=w,Mw:=mH st β,k0:=k0,ro:=ro} st' D' β' w'):HC (aP c st β) w (aP c' st' β') w':=by
 intro b x ty fr hm hb
 have hlt:=kQ hb
 refine⟨(h.block b hlt fun hw=>hm (.inr hw)).trans hb,?_⟩
 rintro(hf|⟨k,o,N,g1,g2,g3⟩)
 ·exact hm (.inl (hMf▸hf))
 ·rcases h.new k o b N g1 g2 g3 with g|g
  ·exact absurd hlt (Nat.not_lt.2 g)
  ·exact hm (.inr g)
end base
def Vd (P:Program) (gf:FuncId) (lb:Array Value) (n:Nat) (encs:Nat->Array Value) (I:World->Prop):Prop:=
 ∀(l:Nat) (J:Nat->World->Prop),(∀i W,J i W->I W)->(∀i W,i<n->J i W->YieldAt Fence.wide 1 P l (encs i) W fun e W'=>e=.returned (.bool true)/\J (i+1) W')->
  ∀W,J 0 W->CallsIn Fence.wide 2 P gf (#[.func (.yield l) #[] #[]]++lb) W fun e W'=>(∃v,e=.returned v)/\J n W'
def vJ (P:Program) (gf:FuncId) (caps:List AV) (n:Nat) (u v:Nat->AV):Prop:=
 ∀(M:Nat->Prop) (w:World) (β:aX) (lb:List Value),aR M w β caps lb->∃x y:Nat->Value,(∀i,i<n->bG M w bu (u i) (x i)/\bG M w bu (v i) (y i))/\
  Vd P gf lb.toArray n (fun i=>#[x i,y i]) fun W=>∀b cs ty fr,¬M b->w.heap[b]?=some (.cells cs ty fr)->W.heap[b]?=some (.cells cs ty fr)
section rule
variable {P:Program} {c:Ctx} {nt:Nat} {s:aL} {Q:ak->aL->Prop}
theorem ay.Rm {g:Operand} {p0 p1:Tmp} {assign body:Code} {gf:FuncId} {caps:List AV} {n:Nat} {u v:Nat->AV} {sl:List (Nat×AV)} {st:Nat->aD} {nx:Nat->Nat} {ρ:Nat->Option Nat} (hro:c.ro=none) (h0:Le c ρ s ⟨sl,st 0,nx 0⟩)
  (hg:aL.gO ⟨sl,st 0,nx 0⟩ g=some (.func gf caps)) (heg:∀args w,(callFunc gf args).run P w=.ok (.enter gf args) w) (hit:vJ P gf caps n u v) (hp0:p0<nt) (hp1:p1<nt) (hne:p0≠p1)
  (hround:∀c':Ctx,(∀k x,c'.k0 k=some x->(ρ k).isSome=true)->∀i,i<n->ay P c' nt assign ⟨put p1 (v i) (put p0 (u i) sl),st i,nx i⟩ fun e s'=>e=.normal/\
   ∀c':Ctx,(∀k x,c'.k0 k=some x->(ρ k).isSome=true)->ay P c' nt body s' fun e s'=>e=.normal/\∃ρ',Le c' ρ' ⟨[],s'.store,s'.next⟩ ⟨[],st (i+1),nx (i+1)⟩)
  (hend:Q .normal ⟨sl,st n,nx n⟩):ay P c nt (.rangeFunc g #[p0,p1] assign body) s Q:=by
 intro a w hr
 obtain⟨hdf,hsz,β',hW',hs'⟩:=id hr
 have hr1:=h0.rel hr
 -- the keys at the start
 obtain⟨β0,hβk,hW,hs⟩:∃β0:aX,(∀k x,β0 k=some x->(ρ k).isSome=true)/\br c (st 0) (fun k=>k<nx 0) β0 w/\nQ (aP c (st 0) β0) w β0 sl a.tmps:=by
  exact⟨_,fun k x hk=>by cases h:ρ k<;>simp[h]at hk ⊢,h0.DZ hW' hs'⟩
 obtain⟨lb,hev,hcaps,-⟩:=(AG hs g _ hg).func
 obtain⟨x,y,hxy,hiter⟩:=hit _ _ _ _ hcaps
 have hro':gv c.ro=Fence.wide:=by rw[hro];rfl
 rw[hro']
 refine wpIn_rangeFunc ?_
 intro fn _
 let rec':LoopState->Loop:=fun q=>{state:=q,pending:=none,fn,tmps:=a.tmps,params:=#[p0,p1],assign,body,defers:=w.heap.size}
 let W1:=(w.alloc (.deferred (some []))).alloc (.loop (rec' .ready))
 let c1:Ctx:={c with w0:=w,Mw:=mH (st 0) β0,k0:=β0,ro:=none}
 have hc1:br c1 (st 0) (fun k=>k<nx 0) β0 w:=hW.base β0 none fun _ _ h=>h
 let J:Nat->World->Prop:=fun i W=>∃β,br c1 (st i) (fun k=>k<nx i) β W/\W.heap[w.heap.size+1]?=some (.loop (rec' .ready))/\W.heap[w.heap.size]?=some (.deferred (some []))
 have hcells:∀{W W':World} {l:Nat} {o o':Obj},W.heap[l]?=some o->o.isCells=false->∀(b:Nat) x ty fr,W.heap[b]?=some (Obj.cells x ty fr)->(W.putObj l o').heap[b]?=some (Obj.cells x ty fr):=by
  intro W W' l o o' h1 h2 b x ty fr h3
  rw[World.putObj_heap_other (fun e=>by subst e;rw[h1]at h3;cases h3;cases h2)];exact h3
 have hJ0:J 0 W1:=by
  refine⟨β0,hc1.uE (fun b x ty fr hb=>?_) rfl rfl rfl (by simp[W1];omega) (fun b hb=>?_),?_,?_⟩
  ·have hlt:=kQ hb
   rw[show W1.heap[b]?=w.heap[b]? from(qp (by simp;omega)).trans (qp hlt)];exact hb
  ·exact(qp (by simp;exact Nat.lt_succ_of_lt hb)).trans (qp hb)
  ·have:=World.alloc_heap_new (w.alloc (.deferred (some []))) (.loop (rec' .ready));rwa [World.size_alloc]at this
  ·exact(qp (by simp)).trans (World.alloc_heap_new w _)
 refine⟨w.heap.size+1,[Gh w.heap.size],W1,{target:=.fn (.func gf) lb.toArray,args:=#[.func (.yield (w.heap.size+1)) #[] #[]]},W1,gf,#[.func (.yield (w.heap.size+1)) #[] #[]]++lb.toArray,W1,?_,?_,fun _ _=>trivial,?_,fun _=>by decide,?_⟩
 ·exact run_enterLoop_outer _ _ _ _ _
 ·simp only[resolve,hev]
  simp[go_sem]
 ·simp[invoke,go_sem,heg]
 have hnl:∀{st:aD} {β:aX} {D:Nat->Prop} {W:World} {c:Ctx} {r:Loop} {l:Nat},br c st D β W->W.heap[l]?=some (.loop r)->¬mH st β l:=by
  intro st β D W c r l h h1 h2
  obtain⟨cs,ty,h3⟩:=h.KA h2
  rw[h1]at h3
  cases h3
 have hnd:∀{st:aD} {β:aX} {D:Nat->Prop} {W:World} {c:Ctx} {l:Nat},br c st D β W->W.heap[l]?=some (.deferred (some []))->¬mH st β l:=by
  intro st β D W c l h h1 h2
  obtain⟨cs,ty,h3⟩:=h.KA h2
  rw[h1]at h3
  cases h3
 have hsl:∀{i:Nat} {β:aX} {W W':World},br c1 (st i) (fun k=>k<nx i) β W->(∀(b:Nat) x ty fr,W.heap[b]?=some (Obj.cells x ty fr)->W'.heap[b]?=some (Obj.cells x ty fr))->nQ (aP c (st i) β) W' β sl a.tmps:=by
  intro i β W W' h hh t v ht
  obtain⟨z,hz,hv⟩:=hs t v ht
  exact⟨z,hz,hv.gT (fun b x ty fr m g=>let ⟨g1,g2⟩:=br.hc (c':=c) rfl h b x ty fr m g;⟨hh _ _ _ _ g1,g2⟩) fun k x hk=>h.keep k x hk⟩
 refine CallsIn.mono (hiter (w.heap.size+1) J ?_ ?_ W1 hJ0) ?_
 ·rintro i W ⟨β,h,_,_⟩ b cs ty fr hm hb
  exact(br.hc (c':=c) rfl h b cs ty fr hm hb).1
 ·rintro i W hi ⟨β,h,hl,hk⟩
  refine⟨fn,_,assign,body,run_yield (P:=P) (args:=#[x i,y i]) hl rfl,roundIn_of_wpIn trivial ?_⟩
  have hwl:=kQ hl
  refine Fa (ro:=some (w.heap.size+1)) (wpIn_mono (hround {c1 with w0:=W,Mw:=mH (st i) β,k0:=β0,ro:=some (w.heap.size+1)} hβk i hi _ W ⟨.nil,?_,β,h.base β0 _ fun k x hx=>h.keep k x hx,?_⟩) ?_)
  ·simp[rec',hsz]
  ·intro t z ht
   have hsl1:=hsl h (fun _ _ _ _ h=>h)
   have hxy1:=hxy i hi
   have hmono:∀{v:AV} {z:Value},bG (aP c (st 0) β0) w bu v z->bG (aP c (st i) β) W β v z:=fun hv=>
    hv.gT (br.hc (c':=c) rfl h) fun k x hk=>by simp[bu]at hk
   simp only[xT]at ht
   split at ht
   ·rename_i e
    subst e
    simp only[ax]at ht
    subst ht
    exact⟨y i,by simp[rec',hsz,hp1],hmono hxy1.2⟩
   ·rename_i e1
    split at ht
    ·rename_i e2
     subst e2
     simp only[ax]at ht
     subst ht
     exact⟨x i,by simp[rec',hsz,hp0,Ne.symm hne],hmono hxy1.1⟩
    ·rename_i e2
     obtain⟨q,hq,hv⟩:=hsl1 t z ht
     exact⟨q,by simp[rec',Ne.symm e1,Ne.symm e2,hq],hv⟩
  ·rintro e a1 Wa ⟨ae,s1,rfl,hr2,rfl,hB⟩
   obtain⟨hd1,hsz1,β1,h3,hs1⟩:=hr2
   have hl1:Wa.heap[w.heap.size+1]?=some (.loop (rec' .ready)):=(h3.block _ hwl (hnl h hl)).trans hl
   have hk1:Wa.heap[w.heap.size]?=some (.deferred (some [])):=(h3.block _ (kQ hk) (hnd h hk)).trans hk
   refine⟨_,run_beginRound hl1 rfl,?_⟩
   have h3':br c1 s1.store (fun k=>k<s1.next) β1 Wa:=h.back (fun _ _ h=>h) h3
   obtain⟨Wb,hWb⟩:∃Wb,Wa.putObj (w.heap.size+1) (.loop {rec' .ready with state:=.busy})=Wb:=⟨_,rfl⟩
   have hcb:∀(b:Nat) x ty fr,Wa.heap[b]?=some (Obj.cells x ty fr)->Wb.heap[b]?=some (Obj.cells x ty fr):=by
    rw[<-hWb];exact hcells (W':=w) hl1 rfl
   have h4:br c1 s1.store (fun k=>k<s1.next) β1 Wb:=h3'.uE hcb (by rw[<-hWb];rfl) (by rw[<-hWb];rfl) (by rw[<-hWb];rfl) (by rw[<-hWb];simp) (fun b hb=>by rw[<-hWb];exact World.putObj_heap_other (by have:b<w.heap.size:=hb;omega))
   have hlb:Wb.heap[w.heap.size+1]?=some (.loop {rec' .ready with state:=.busy}):=by rw[<-hWb];exact World.putObj_heap_same (kQ hl1)
   have hkb:Wb.heap[w.heap.size]?=some (.deferred (some [])):=by rw[<-hWb];exact(World.putObj_heap_other aa).trans hk1
   rw[hWb]
   refine Fa (ro:=some (w.heap.size+1)) (wpIn_mono (hB {c1 with w0:=Wb,Mw:=mH s1.store β1,k0:=β0,ro:=some (w.heap.size+1)} hβk a1 Wb ⟨?_,hsz1,β1,h4.base β0 _ fun k x hx=>h4.keep k x hx,?_⟩) ?_)
   ·rw[hd1.1 rfl];exact .nil
   ·intro t z ht
    obtain⟨q,hq,hv⟩:=hs1 t z ht
    exact⟨q,hq,hv.gT (fun b x ty fr m g=>⟨hcb _ _ _ _ g,m⟩) fun _ _ h=>h⟩
   ·rintro e a3 W3 ⟨ae,s2,rfl,hr3,rfl,ρ',hle⟩
    obtain⟨_,_,β2,h6,_⟩:=hr3
    have hl3:W3.heap[w.heap.size+1]?=some (.loop {rec' .ready with state:=.busy}):=(h6.block _ (kQ hlb) (hnl h4 hlb)).trans hlb
    have hk3:W3.heap[w.heap.size]?=some (.deferred (some [])):=(h6.block _ (kQ hkb) (hnd h4 hkb)).trans hkb
    have h7:=(hle.DZ (tmps:=#[]) h6 fun t v ht=>by simp[look]at ht).1
    have h8:=h4.back (fun _ _ h=>h) h7
    refine⟨_,_,run_endRound none hl3,rfl,_,h8.uE (hcells (W':=w) hl3 rfl) rfl rfl rfl (by simp) (fun b hb=>World.putObj_heap_other (by have:b<w.heap.size:=hb;omega)),World.putObj_heap_same (kQ hl3),(World.putObj_heap_other aa).trans hk3⟩
 ·rintro e W2 ⟨⟨v,rfl⟩,β,h,hl,hk⟩
  refine⟨none,_,run_endLoop hl (by simp[rec']),.normal,_,rfl,⟨⟨fun h=>by rw[hro]at h;simp at h,?_⟩,hsz,β,(hW.back (fun k x hk=>hW.keep k x hk) h).uE (hcells (W':=w) hl rfl) rfl rfl rfl (by simp) (fun b hb=>World.putObj_heap_other (by have:=hW.size;omega)),hsl h (hcells (W':=w) hl rfl)⟩,hend⟩
  obtain⟨_,Ds,e1,e2,e3⟩:=hdf
  refine⟨w.heap.size::Ds,by simp[e1],List.nodup_cons.2 ⟨fun hm=>?_,e2⟩,fun D hD=>?_⟩
  ·have:=kQ (e3 _ hm).1
   omega
  ·rcases List.mem_cons.1 hD with rfl|hD
   ·exact⟨(World.putObj_heap_other aa).trans hk,hW.size⟩
   ·have hlt:=kQ (e3 D hD).1
    refine⟨(World.putObj_heap_other aa).trans ((h.block D hlt (hnd hW (e3 D hD).1)).trans (e3 D hD).1),(e3 D hD).2⟩
end rule
end Go.Am
namespace Go.Am
open AV
def X5 (c:Code) (p:List Nat):Array Oper:=match part c p with
 |.region _ ops _=>ops
 |_=>#[]
def zf (c:Code) (p:List Nat):Nat:=match part c p with
 |.region i _ _=>i
 |_=>0
def Zo:Oper:={dst:=none,op:=.move (.const undef),type:=0,pos:= "",after:=#[],guard:=none}
def dA (c:Code) (p:List Nat) (i:Nat):Oper:=match(X5 c p).toList[i]? with
 |some o=>o
 |none=>Zo
def fQ (o:Oper) (d:Tmp) (op:Op):Prop:=o.dst=some d/\o.op=op/\o.guard=none
structure CA (x:Code) (tS tE tI:TypeId):Prop where
 shape:x=.seq (.region (zf x [0]) #[dA x [0] 0,dA x [0] 1,dA x [0] 2,dA x [0] 3] false) (.block 0 (.loop (.seq
  (.seq (.region (zf x [1,0,0,0,0]) #[dA x [1,0,0,0,0] 0,dA x [1,0,0,0,0] 1] false) (.cond (.tmp 8) .skip (.exit 0)))
  (.seq (.block 1 (.seq (.region (zf x [1,0,0,1,0,0,0]) #[dA x [1,0,0,1,0,0,0] 0,dA x [1,0,0,1,0,0,0] 1,dA x [1,0,0,1,0,0,0] 2,dA x [1,0,0,1,0,0,0] 3,dA x [1,0,0,1,0,0,0] 4,dA x [1,0,0,1,0,0,0] 5,dA x [1,0,0,1,0,0,0] 6,dA x [1,0,0,1,0,0,0] 7] false) (.cond (.tmp 18) .ret .skip)))
   (.region (zf x [1,0,0,1,1]) #[dA x [1,0,0,1,1] 0,dA x [1,0,0,1,1] 1,dA x [1,0,0,1,1] 2] false)))))
 o0:fQ (dA x [0] 0) 4 (.load tS (.tmp 1))
 o1:fQ (dA x [0] 1) 5 (.call ⟨.builtin .len,#[.tmp 4],#[tS]⟩)
 o2:fQ (dA x [0] 2) 6 (.binOp .sub tI (.tmp 5) (.const (.int .i64 1)) tI)
 o3:fQ (dA x [0] 3) 3 (.assign (.tmp 6))
 p0:fQ (dA x [1,0,0,0,0] 0) 7 (.move (.tmp 3))
 p1:fQ (dA x [1,0,0,0,0] 1) 8 (.binOp .geq tI (.tmp 7) (.const (.int .i64 0)) tI)
 q0:fQ (dA x [1,0,0,1,0,0,0] 0) 11 (.move (.tmp 0))
 q1:fQ (dA x [1,0,0,1,0,0,0] 1) 12 (.move (.tmp 3))
 q2:fQ (dA x [1,0,0,1,0,0,0] 2) 13 (.load tS (.tmp 1))
 q3:fQ (dA x [1,0,0,1,0,0,0] 3) 14 (.move (.tmp 3))
 q4:fQ (dA x [1,0,0,1,0,0,0] 4) 15 (.indexAddr tS (.tmp 13) (.tmp 14))
 q5:fQ (dA x [1,0,0,1,0,0,0] 5) 16 (.load tE (.tmp 15))
 q6:∃ts,fQ (dA x [1,0,0,1,0,0,0] 6) 17 (.call ⟨.value (.tmp 11),#[.tmp 12,.tmp 16],ts⟩)
 q7:∃t,fQ (dA x [1,0,0,1,0,0,0] 7) 18 (.unOp .not t (.tmp 17))
 s0:fQ (dA x [1,0,0,1,1] 0) 9 (.move (.tmp 3))
 s1:fQ (dA x [1,0,0,1,1] 1) 10 (.binOp .sub tI (.tmp 9) (.const (.int .i64 1)) tI)
 s2:fQ (dA x [1,0,0,1,1] 2) 3 (.assign (.tmp 10))
section steps
variable {P:Program} {n:Nat} {ops:Array Oper} {Q:Exit->Act->World->Prop} {a:Act} {w:World} {rest:List Oper}
theorem jw {o:Oper} {d:Tmp} {op:Op} (h:fQ o d op) (hd:∀c,op≠.defer c) {v:Value} (hrun:(execOp a.eval o).run P w=.ok (.value v) w)
  (hn:wpListIn Fence.wide n P ops Q rest (a.put (some d) v) w):wpListIn Fence.wide n P ops Q (o::rest) a w:=by
 refine wpListIn_plain h.2.2 fun K hK=>⟨fun _ _=>trivial,?_⟩
 rw[Oper.semAt_eq _ _ _ (by rw[h.2.1];exact hd),hrun]
 show K (a.put o.dst v) w
 rw[h.1];exact hK _ _ hn
theorem fN {d t:Tmp} {v:Value}:(a.put (some d) v).tmps[t]?=if t=d then(if d<a.tmps.size then some v else none)else a.tmps[t]?:=by
 simp only[Act.put,Array.getElem?_setIfInBounds]
 by_cases h:d=t
 ·subst h;simp
 ·have:¬t=d:=fun e=>h e.symm
  simp[h,this]
theorem fU {d:Tmp} {v:Value}:(a.put (some d) v).tmps.size=a.tmps.size:=by simp[Act.put]
theorem put_defers {d:Tmp} {v:Value}:(a.put (some d) v).defers=a.defers:=rfl
theorem g9 {t:Tmp} {v:Value} (h:a.tmps[t]?=some v):a.eval (.tmp t)=v:=by simp[Act.eval,Array.getD_eq_getD_getElem?,h]
theorem wT {o:Oper} {d:Tmp} {x:Operand} (h:fQ o d (.move x)):(execOp a.eval o).run P w=.ok (.value (a.eval x)) w:=by
 simp[execOp,h.2.1]
theorem J5 {o:Oper} {d:Tmp} {x:Operand} (h:fQ o d (.assign x)):(execOp a.eval o).run P w=.ok (.value (a.eval x)) w:=by
 simp[execOp,h.2.1]
theorem IK {T:Types} (hT:dF P T) {o:Oper} {d:Tmp} {b:BinOp} {t u:TypeId} {x y:Operand} (h:fQ o d (.binOp b t x y u)) {m k:Int} (hx:a.eval x=.int .i64 m) (hy:a.eval y=.int .i64 k) {r:ec} (hr:ov T t b (.int .i64 m) (.int .i64 k)=some r) (need:r.need)
  {v:Value} (hv:∀z,bt (fun _=>False) w bu r.val z->z=v):(execOp a.eval o).run P w=.ok (.value v) w:=by
 have hint:∀k,bG (aP {Mf:=fun _=>False,w0:=w,Mw:=fun _=>False,k0:=bu} [] bu) w bu (.int .i64 k) (.int .i64 k):=fun k=>bt.bM (.cq (.int .nil) rfl)
 have hM:aP {Mf:=fun _=>False,w0:=w,Mw:=fun _=>False,k0:=bu} [] bu=fun _=>False:=by
  funext b;simp[aP,look]
 obtain⟨_,z,hz,hz2⟩:=Ga (P:=P) hT (t':=t) (x:=x) (y:=y) (hint m) (hint k) hr need
 rw[hM]at hz2
 have:=hv z hz2
 subst this
 simp only[execOp,h.2.1,hx,hy]
 simp only[Sem.run_bind]at hz ⊢
 revert hz
 cases (eqGuard b t x y (.int .i64 m) (.int .i64 k)).run P w with
 |ok u w'=>
  simp only[Result.andThen_ok]
  intro hz
  rw[hz];rfl
 |_=>intro hz;simp[Result.andThen]at hz
theorem run_load {o:Oper} {d:Tmp} {t:TypeId} {x:Operand} (h:fQ o d (.load t x)) {v:Value} (hv:(Instr.loadAt t (a.eval x)).run P w=.ok v w):(execOp a.eval o).run P w=.ok (.value v) w:=by
 simp only[execOp,h.2.1,Sem.run_bind,hv,Result.andThen_ok,Sem.run_pure]
theorem Zb {o:Oper} {d:Tmp} {t:TypeId} {x y:Operand} (h:fQ o d (.indexAddr t x y)) {v:Value} (hv:(Instr.indexAt t (a.eval x) (a.eval y)).run P w=.ok v w):(execOp a.eval o).run P w=.ok (.value v) w:=by
 simp only[execOp,h.2.1,Sem.run_bind,hv,Result.andThen_ok,Sem.run_pure]
theorem Zh {o:Oper} {d:Tmp} {t:TypeId} {x:Operand} (h:fQ o d (.unOp .not t x)) {b:Bool} (hv:a.eval x=.bool b):(execOp a.eval o).run P w=.ok (.value (.bool !b)) w:=by
 simp[execOp,h.2.1,hv,Op.unary]
theorem Sc {o:Oper} {d:Tmp} {t e:TypeId} {x:Operand} (h:fQ o d (.call ⟨.builtin .len,#[x],#[t]⟩)) (hu:P.underlying t=some (.slice e)) {base:Option Addr} {m cap:Nat} (hv:a.eval x=.slice base m cap):
  (execOp a.eval o).run P w=.ok (.value (.int .i64 m)) w:=by
 have hres:(execOp a.eval o:Sem Next)=builtin .len #[t] o.type (#[x].map fun|.const _=>true|_=>false) (Array.map a.eval #[x]):=by
  simp only[execOp,h.2.1];rfl
 rw[hres]
 simp[builtin,Builtin.len_,run_underlying hu,goInt,hv]
theorem aaJ {o:Oper} {d:Tmp} {f:Operand} {xs:Array Operand} {ts:Array TypeId} (h:fQ o d (.call ⟨.value f,xs,ts⟩)) {l:Nat} (hf:a.eval f=.func (.yield l) #[] #[]) {vs:Array Value} (hvs:xs.map a.eval=vs)
  {R:Ending->World->Prop} (hy:YieldAt Fence.wide n P l vs w R) (hR:∀e w',R e w'->∃v,e=.returned v/\wpListIn Fence.wide (n+1) P ops Q rest (a.put (some d) v) w'):wpListIn Fence.wide (n+1) P ops Q (o::rest) a w:=by
 refine wpListIn_plain h.2.2 fun K hK=>⟨fun _ _=>trivial,?_⟩
 rw[Oper.semAt_eq _ _ _ (by rw[h.2.1];intro c hc;cases hc)]
 obtain⟨fn,tmps,assign,body,h1,h2⟩:=hy
 have hrun:(execOp a.eval o).run P w=.ok (.round l fn tmps assign body) w:=by
  have:(execOp a.eval o:Sem Next)=Instr.yield l vs:=by
   simp only[execOp,h.2.1,resolve,hf,Deferred.ofValue,hvs]
   simp[invoke]
  rw[this];exact h1
 rw[hrun]
 refine⟨fun _=>aa,RoundIn.mono h2 ?_⟩
 intro e w' he
 obtain⟨v,rfl,hv⟩:=hR e w' he
 show K (a.put o.dst v) w'
 rw[h.1];exact hK _ _ hv
end steps
theorem Tc {P:Program} {T:Types} (hT:dF P T) {t:TypeId} {ti:TI} (ht:look t T=some ti) (ha:jT ti.desc=true) {w:World} {b o:Nat} {ps:List Value} (hr:w.rangeAt b o ps) (hl:ps.length=ti.size):
  (Instr.loadAt t (.pointer (some ⟨b,o,none⟩))).run P w=.ok (.agg ps.toArray) w:=by
 obtain⟨i,hi,his,_⟩:=(hT t ti ht).info
 refine run_loadAt_mid (P:=P) w b o t ps ti.desc hr (hT t ti ht).dc ?_ (by rw[hi];simp[his,hl])
 cases hd:ti.desc<;>simp_all [jT,TypeDesc.isRow]
theorem ZX {P:Program} {T:Types} (hT:dF P T) {t:TypeId} {ti:TI} (ht:look t T=some ti) {e:TypeId} (hd:ti.desc=.slice e) {w:World} {b o:Nat} {x:Value} (hr:w.rangeAt b o [x]):
  (Instr.loadAt t (.pointer (some ⟨b,o,none⟩))).run P w=.ok x w:=by
 have hc:w.cell? ⟨b,o,none⟩=some x:=by simpa using hr 0 x (by simp)
 have hg:(isAgg t).run P w=.ok false w:=by
  unfold Go.isAgg
  rw[Sem.run_bind,run_underlying (hT t ti ht).dc w,hd];simp
 simp[Instr.loadAt,Instr.sureAddr,loadVar,Sem.run_bind,hg,hc]
def FT (n l b0 off0:Nat) (J:Nat->World->Prop) (i:Nat) (a:Act) (W:World):Prop:=
 i<=n/\a.tmps.size=19/\a.tmps[0]?=some (.func (.yield l) #[] #[])/\a.tmps[1]?=some (.pointer (some ⟨b0,off0,none⟩))/\a.tmps[3]?=some (.int .i64 ((n:Int)-1-i))/\a.defers=[]/\J i W
set_option maxHeartbeats 400000 in
theorem Mv {P:Program} {T:Types} (hT:dF P T) {tS tE tI:TypeId} {tiS tiE:TI} (hS:look tS T=some tiS) (hdS:tiS.desc=.slice tE) (hE:look tE T=some tiE) (hA:jT tiE.desc=true) {gf:FuncId} {fn:Func} {x:Code}
  (hf:P.funcs[gf]?=some fn) (hb:fn.body=some x) (hnt:fn.ntmps=19) (hres:fn.results=#[]) (hx:CA x tS tE tI) {n es:Nat} {f:Nat->AV} (hn:n<2^62) (hes:tiE.size=es) (hag:∀i,i<n->(f i).isAgg=true/\(f i).isTuple=false):
  vJ P gf [.bn (.aq es n f)] n (fun i=>.int .i64 ((n:Int)-1-i)) (fun i=>f (n-1-i)):=by
 intro M w β lb hlb
 obtain⟨b0,off0,ps0,hlb0,hps,hmem⟩:∃b o ps,lb=[.pointer (some ⟨b,o,none⟩)]/\aR M w bu [.aq es n f] ps/\gx M w b o ps:=by
  cases hlb with
  |bn h1 h2 h3=>cases h3;exact⟨_,_,_,rfl,h1,h2⟩
 subst hlb0
 obtain⟨base,cap,cf,hps0,g1,g2,g3,g4,g5⟩:∃base cap,∃cf:Nat->List Value,ps0=[.slice base n cap]/\(n=0\/∃b o,base=some ⟨b,o,none⟩/\∀i,i<n->gx M w b (o+i*es) (cf i))/\0<es/\n<=cap/\
   (∀i,i<n->(cf i).length=es)/\∀i,i<n->aR M w bu [f i] (cf i):=by
  cases hps with
  |aq h1 h2 h3 h4 h5 h6=>cases h6;exact⟨_,_,_,rfl,h1,h2,h3,h4,h5⟩
 subst hps0
 refine⟨fun i=>.int .i64 ((n:Int)-1-i),fun i=>.agg (cf (n-1-i)).toArray,fun i hi=>⟨bt.bM (.cq (.int .nil) rfl),?_⟩,?_⟩
 ·exact bt.bM (bt.wN (g5 _ aa) (hag _ aa).1)
 intro l J hJ hY W0 hW0
 have hu:=hdS▸(hT tS tiS hS).dc
 have hls:∀i W,J i W->(Instr.loadAt tS (.pointer (some ⟨b0,off0,none⟩))).run P W=.ok (.slice base n cap) W:=fun i W hj=>by
  obtain⟨c,ty,fr,h1,h2,h3⟩:=hmem
  refine ZX hT hS hdS ?_
  intro j v hv
  rw[rQ (hJ i W hj _ _ _ _ h2 h1)]
  exact h3 j v hv
 refine callsIn_of_wp hf hb trivial ?_ rfl
 generalize ha0:({tmps:=(#[Value.func (.yield l) #[] #[]]++[Value.pointer (some ⟨b0,off0,none⟩)].toArray)++Array.replicate (fn.ntmps-(#[Value.func (.yield l) #[] #[]]++[Value.pointer (some ⟨b0,off0,none⟩)].toArray).size) undef,defers:=[]}:Act)=a0
 have hB:a0.tmps.size=19/\a0.tmps[0]?=some (.func (.yield l) #[] #[])/\a0.tmps[1]?=some (.pointer (some ⟨b0,off0,none⟩))/\a0.defers=[]:=by
  subst ha0;rw[hnt];exact⟨by simp,by simp,by simp,rfl⟩
 clear ha0
 rw[hx.shape]
 have key:∀{F:Fence} {n:Nat} {Q:Exit->Act->World->Prop} {a:Act} {w:World} {i:Nat} {l:List Oper},wpListIn F n P l.toArray Q l a w->(Code.region i l.toArray false).wpIn F n P Q a w:=fun h=>wpIn_region_lit h
 have sb:∀{a:Act} {w:World} {o:Oper} {d t s:Tmp} {m:Int},fQ o d (.binOp .sub tI (.tmp t) (.const (.int .i64 1)) tI)->a.tmps[t]?=some (.int .i64 m)->-2^62<=m->m<=2^62->(execOp a.eval o).run P w=.ok (.value (.int .i64 (m-1))) w:=by
  intro a w o d t s m ho ht h1 h2
  refine IK hT ho (g9 ht) rfl (r:=⟨.int .i64 (IntKind.i64.wrap (m-1)),[],[]⟩) rfl trivial fun z hz=>?_
  rw[wrap64 (n:=m-1) aa]at hz
  exact hz.bM.int
 have ge:∀{a:Act} {w:World} {o:Oper} {d t s:Tmp} {m:Int},fQ o d (.binOp .geq tI (.tmp t) (.const (.int .i64 0)) tI)->a.tmps[t]?=some (.int .i64 m)->(execOp a.eval o).run P w=.ok (.value (.bool (decide (m>=0)))) w:=by
  intro a w o d t s m ho ht
  exact IK hT ho (g9 ht) rfl (r:=⟨.bool (decide (m>=0)),[],[]⟩) rfl trivial fun z hz=>hz.bM.bool
 refine wpIn_seq (wpIn_mono (Q:=fun e a w=>e=.normal/\w=W0/\a.tmps.size=19/\a.tmps[0]?=some (.func (.yield l) #[] #[])/\a.tmps[1]?=some (.pointer (some ⟨b0,off0,none⟩))/\a.tmps[3]?=some (.int .i64 ((n:Int)-1))/\a.defers=[]) (key (l:=[_,_,_,_]) ?_) ?_)
 ·obtain⟨z1,z2,z3,z4⟩:=hB
  refine jw hx.o0 (fun _ h=>by cases h) (run_load hx.o0 (by rw[g9 z3];exact hls 0 W0 hW0)) ?_
  refine jw hx.o1 (fun _ h=>by cases h) (Sc hx.o1 hu (base:=base) (m:=n) (cap:=cap) (g9 (by simp only[fN,z1,Nat.reduceLT,if_true]))) ?_
  refine jw hx.o2 (fun _ h=>by cases h) (sb (s:=0) (m:=n) hx.o2 (by simp only[fN,fU,z1,Nat.reduceEqDiff,Nat.reduceLT,if_true,if_false]) aa aa) ?_
  refine jw hx.o3 (fun _ h=>by cases h) (J5 hx.o3) (wpListIn_nil ?_)
  rw[g9 (v:=.int .i64 ((n:Int)-1)) (by simp only[fN,fU,z1,Nat.reduceEqDiff,Nat.reduceLT,if_true,if_false])]
  refine⟨rfl,rfl,by simp only[fU];exact z1,?_,?_,?_,by simp only[put_defers];exact z4⟩
  ·simp only[fN,fU,z1,z2,Nat.reduceEqDiff,Nat.reduceLT,if_true,if_false]
  ·simp only[fN,fU,z1,z3,Nat.reduceEqDiff,Nat.reduceLT,if_true,if_false]
  ·simp only[fN,fU,z1,Nat.reduceEqDiff,Nat.reduceLT,if_true,if_false]
 rintro e a1 W1 ⟨rfl,rfl,z1,z2,z3,z4,z5⟩
 show(Code.block 0 _).wpIn Fence.wide 2 P (bodyPost P fn _) a1 W1
 refine wpIn_block (An (P:=P) (FT n l b0 off0 J) (fun i=>n-i) (s:=0) ?_ ⟨aa,z1,z2,z3,by rw[z4];congr 2;omega,z5,hW0⟩)
 rintro i a W ⟨hi,y1,y2,y3,y4,y5,hj⟩
 refine wpIn_seq (wpIn_mono (Q:=fun e a' w'=>(e=.normal/\i<n/\W=w'/\a'.tmps.size=19/\a'.tmps[0]?=some (.func (.yield l) #[] #[])/\a'.tmps[1]?=some (.pointer (some ⟨b0,off0,none⟩))/\a'.tmps[3]?=some (.int .i64 ((n:Int)-1-i))/\a'.defers=[])\/(e=.exit 0/\i=n/\W=w'/\a'.defers=[])) ?_ ?_)
 ·refine wpIn_seq (key (l:=[_,_]) ?_)
  refine jw hx.p0 (fun _ h=>by cases h) (wT hx.p0) ?_
  rw[g9 y4]
  refine jw hx.p1 (fun _ h=>by cases h) (ge (s:=0) (m:=(n:Int)-1-i) hx.p1 (by simp only[fN,y1,Nat.reduceLT,if_true])) (wpListIn_nil ?_)
  have q8:((a.put (some 7) (Value.int .i64 ((n:Int)-1-i))).put (some 8) (.bool (decide ((n:Int)-1-i>=0)))).eval (.tmp 8)=.bool (decide ((n:Int)-1-i>=0)):=g9 (by simp only[fN,fU,y1,Nat.reduceEqDiff,Nat.reduceLT,if_true,if_false])
  by_cases hlt:i<n
  ·rw[show decide ((n:Int)-1-i>=0)=true by simp;omega]at q8 ⊢
   refine wpIn_cond_true q8 (wpIn_skip (.inl ⟨rfl,hlt,rfl,by simp only[fU];exact y1,?_,?_,?_,by simp only[put_defers];exact y5⟩))
   ·simp only[fN,fU,y1,y2,Nat.reduceEqDiff,Nat.reduceLT,if_true,if_false]
   ·simp only[fN,fU,y1,y3,Nat.reduceEqDiff,Nat.reduceLT,if_true,if_false]
   ·simp only[fN,fU,y1,y4,Nat.reduceEqDiff,Nat.reduceLT,if_true,if_false]
  ·rw[show decide ((n:Int)-1-i>=0)=false by simp;omega]at q8 ⊢
   exact wpIn_cond_false q8 (wpIn_exit (.inr ⟨rfl,aa,rfl,by simp only[put_defers];exact y5⟩))
 rintro e a2 W2 (⟨rfl,hlt,rfl,y1,y2,y3,y4,y5⟩|⟨rfl,rfl,rfl,y5⟩)
 rotate_left
 ·exact⟨y5,.tuple #[],results_none hres _ _ _,⟨_,rfl⟩,hj⟩
 obtain⟨b,off,rfl,g1'⟩:=g1.resolve_left aa
 have hle:(Instr.loadAt tE (.pointer (some ⟨b,off+(n-1-i)*es,none⟩))).run P W=.ok (.agg (cf (n-1-i)).toArray) W:=by
  refine Tc hT hE hA ?_ (by rw[g4 _ aa,hes])
  obtain⟨c,ty,fr,h1,h2,h3⟩:=g1' (n-1-i) aa
  intro j v hv
  rw[rQ (hJ i W hj _ _ _ _ h2 h1)]
  exact h3 j v hv
 have hix:(Instr.indexAt tS (.slice (some ⟨b,off,none⟩) n cap) (.int .i64 ((n:Int)-1-i))).run P W=.ok (.pointer (some ⟨b,off+(n-1-i)*es,none⟩)) W:=by
  have:=wP (P:=P) (w:=W) hT hS hdS hE (b:=b) (o:=off) (n:=n) (cap:=cap) (kd:=.i64) (i:=(n:Int)-1-i) aa aa
  rw[this,hes,show((n:Int)-1-i).toNat=n-1-i by omega]
 obtain⟨ts,hq6⟩:=hx.q6
 obtain⟨tn,hq7⟩:=hx.q7
 show(Code.seq _ _).wpIn Fence.wide 2 P _ a2 W
 refine wpIn_seq (wpIn_block (wpIn_seq (key (l:=[_,_,_,_,_,_,_,_]) ?_)))
 refine jw hx.q0 (fun _ h=>by cases h) (wT hx.q0) ?_
 rw[g9 y2]
 refine jw hx.q1 (fun _ h=>by cases h) (wT hx.q1) ?_
 rw[g9 (v:=.int .i64 ((n:Int)-1-i)) (by simp only[fN,y1,y4,Nat.reduceEqDiff,Nat.reduceLT,if_true,if_false])]
 refine jw hx.q2 (fun _ h=>by cases h) (run_load hx.q2 (by rw[g9 (v:=.pointer (some ⟨b0,off0,none⟩)) (by simp only[fN,fU,y1,y3,Nat.reduceEqDiff,Nat.reduceLT,if_true,if_false])];exact hls i W hj)) ?_
 refine jw hx.q3 (fun _ h=>by cases h) (wT hx.q3) ?_
 rw[g9 (v:=.int .i64 ((n:Int)-1-i)) (by simp only[fN,fU,y1,y4,Nat.reduceEqDiff,Nat.reduceLT,if_true,if_false])]
 refine jw hx.q4 (fun _ h=>by cases h) (Zb hx.q4 (v:=.pointer (some ⟨b,off+(n-1-i)*es,none⟩)) ?_) ?_
 ·rw[g9 (v:=.slice (some ⟨b,off,none⟩) n cap) (by simp only[fN,fU,y1,Nat.reduceEqDiff,Nat.reduceLT,if_true,if_false]),g9 (v:=.int .i64 ((n:Int)-1-i)) (by simp only[fN,fU,y1,Nat.reduceEqDiff,Nat.reduceLT,if_true,if_false])]
  exact hix
 refine jw hx.q5 (fun _ h=>by cases h) (run_load hx.q5 (by rw[g9 (v:=.pointer (some ⟨b,off+(n-1-i)*es,none⟩)) (by simp only[fN,fU,y1,Nat.reduceEqDiff,Nat.reduceLT,if_true,if_false])];exact hle)) ?_
 refine aaJ hq6 (l:=l) (g9 (by simp only[fN,fU,y1,Nat.reduceEqDiff,Nat.reduceLT,if_true,if_false])) (vs:=#[.int .i64 ((n:Int)-1-i),.agg (cf (n-1-i)).toArray]) ?_ (hY i W hlt hj) ?_
 ·simp only[List.map_toArray,List.map_cons,List.map_nil]
  rw[g9 (v:=.int .i64 ((n:Int)-1-i)) (by simp only[fN,fU,y1,Nat.reduceEqDiff,Nat.reduceLT,if_true,if_false]),g9 (v:=.agg (cf (n-1-i)).toArray) (by simp only[fN,fU,y1,Nat.reduceEqDiff,Nat.reduceLT,if_true,if_false])]
 rintro e W3 ⟨rfl,hj3⟩
 refine⟨_,rfl,?_⟩
 refine jw hq7 (fun _ h=>by cases h) (Zh hq7 (b:=true) (g9 (by simp only[fN,fU,y1,Nat.reduceEqDiff,Nat.reduceLT,if_true,if_false]))) (wpListIn_nil ?_)
 refine wpIn_cond_false (g9 (by simp only[fN,fU,y1,Nat.reduceEqDiff,Nat.reduceLT,if_true,if_false,Bool.not_true])) (wpIn_skip ?_)
 refine key (l:=[_,_,_]) ?_
 refine jw hx.s0 (fun _ h=>by cases h) (wT hx.s0) ?_
 rw[g9 (v:=.int .i64 ((n:Int)-1-i)) (by simp only[fN,fU,y1,y4,Nat.reduceEqDiff,Nat.reduceLT,if_true,if_false])]
 refine jw hx.s1 (fun _ h=>by cases h) (sb (s:=0) (m:=(n:Int)-1-i) hx.s1 (by simp only[fN,fU,y1,Nat.reduceEqDiff,Nat.reduceLT,if_true,if_false]) aa aa) ?_
 refine jw hx.s2 (fun _ h=>by cases h) (J5 hx.s2) (wpListIn_nil ?_)
 rw[g9 (v:=.int .i64 ((n:Int)-1-i-1)) (by simp only[fN,fU,y1,Nat.reduceEqDiff,Nat.reduceLT,if_true,if_false])]
 have hI:FT n l b0 off0 J (i+1) ((((a2.put (some 11) (.func (.yield l) #[] #[])).put (some 12) (.int .i64 ((n:Int)-1-i))).put (some 13) (.slice (some ⟨b,off,none⟩) n cap)|>.put (some 14) (.int .i64 ((n:Int)-1-i))|>.put (some 15) (.pointer (some ⟨b,off+(n-1-i)*es,none⟩))|>.put (some 16) (.agg (cf (n-1-i)).toArray)|>.put (some 17) (.bool true)|>.put (some 18) (.bool !true)|>.put (some 9) (.int .i64 ((n:Int)-1-i))|>.put (some 10) (.int .i64 ((n:Int)-1-i-1))|>.put (some 3) (.int .i64 ((n:Int)-1-i-1)))) W3:=by
  refine⟨aa,by simp only[fU];exact y1,?_,?_,?_,by simp only[put_defers];exact y5,hj3⟩
  ·simp only[fN,fU,y1,y2,Nat.reduceEqDiff,Nat.reduceLT,if_true,if_false]
  ·simp only[fN,fU,y1,y3,Nat.reduceEqDiff,Nat.reduceLT,if_true,if_false]
  ·simp only[fN,fU,y1,y4,Nat.reduceEqDiff,Nat.reduceLT,if_true,if_false];congr 2;omega
 have hμ:n-(i+1)<n-i:=aa
 exact⟨i+1,hI,hμ⟩
section funcs
variable {P:Program} {T:Types} (hT:dF P T)
include hT in
theorem G8 {f:FuncId} {fn:Func} {x:Code} (hf:iL P f fn x) {args:List AV} {r:dm} (hk:bH args=[]) (hlen:args.length<=fn.ntmps) (hpost:r.post=[])
  (h:r.need->∀c:Ctx,c.ro=none->Kept [] c->ay P c fn.ntmps x ⟨aT 0 args,[],0⟩ (eG c (Fin T fn r.res))) (K:Nat) (pre:aD):aO P f K args pre r:=
 Gb hT hf hk hlen hpost (fun need c h0 hro=>.down (h need c hro (v5 fun _=>jz h0))) K pre
end funcs
theorem Le.bare {c:Ctx} {ρ:Nat->Option Nat} {s s2:aL} (h:Le c ρ s s2):Le c ρ ⟨[],s.store,s.next⟩ ⟨[],s2.store,s2.next⟩:=
 ⟨h.inj,fun t v ht=>by simp[look]at ht,h.store,h.dom,h.keep⟩
theorem agx {c:Ctx} {s':aL} {ls:List Nat} {us vs:List AV} {os ps:aD} {nx:Nat} (rl:List (Nat×Nat)) (hv:bC ls s'=some (us,os)) (hk0:∀k x,c.k0 k=some x->look k rl=some k) (hr:jc nx rl=true)
  (hs:fT (bB rl) us vs) (ho:tU nx (bB rl) os ps):Le c (bB rl) s' ⟨aH ls vs,ps,nx⟩:=by
 unfold bC at hv
 simp only[ax,Prod.mk.injEq]at hv
 obtain⟨rfl,rfl⟩:=hv
 have hall:∀p∈rl,p.1<nx/\∀q∈rl,p.2=q.2->p.1=q.1:=fun p hp=>by
  have:=List.all_eq_true.1 hr p hp
  simp only[Bool.and_eq_true,bz]at this
  refine⟨this.1,fun q hq he=>?_⟩
  have h3:=List.all_eq_true.1 this.2 q hq
  simpa [he]using h3
 refine⟨?_,xS hs,fun k2 o2 hk=>?_,fun k2 k1 hk=>(hall _ (l7 hk)).1,hk0⟩
 ·intro a b k ha hb
  exact(hall _ (l7 ha)).2 _ (l7 hb) rfl
 ·refine(DY ho k2 o2 hk).imp (fun⟨k1,o1,g1,g2,g3⟩=>⟨k1,o1,g1,?_,g3⟩) id
  rw[lg]at g2
  split at g2
  ·exact g2
  ·simp at g2
theorem iL.enters {P:Program} {f:FuncId} {fn:Func} {x:Code} (h:iL P f fn x):∀args w,(callFunc f args).run P w=.ok (.enter f args) w:=fun args w=>by
 have hb:fn.body.isNone=false:=by rw[h.body];rfl
 simp only[callFunc,Sem.run_bind,run_program,Result.andThen_ok,h.get,h.name,hb,Bool.false_eq_true,if_false,Sem.run_pure]
section rule
variable {P:Program} {c:Ctx} {nt:Nat} {s:aL} {Q:ak->aL->Prop} {T:Types} (hT:dF P T) {Γ:aU} (hΓ:aZ P Γ) (hm:P.follows .mixedOrders=true)
include hT hΓ hm in
theorem ay.FF {x assign body:Code} {g p0 p1:Tmp} (p:List Nat) {i:Nat} (hc:chain x p=true) (hx:part x p=.block i (.rangeFunc (.tmp g) #[p0,p1] assign body)) (hd:cw nt x=true) (hro:c.ro=none) (h0:Kept [] c)
  {gf:FuncId} {caps:List AV} {n:Nat} {u v:Nat->AV} (heg:∀args w,(callFunc gf args).run P w=.ok (.enter gf args) w) (hit:vJ P gf caps n u v) (hp0:p0<nt) (hp1:p1<nt) (hne:p0≠p1)
  {f1 f2 f3:List Nat} (N:Nat) (L LA:List Nat) (V:List AV) (hL:∀i,put p1 (v i) (put p0 (u i) (aH L V))=aH (L++[p0,p1]) (V++[u i,v i])) (hg:look g (aH L V)=some (.func gf caps)) (st:Nat->aD) (nx nA:Nat) (VA:Nat->List AV) (OA:Nat->aD) (kp:List Nat)
  (hp:∃t,aM T Γ f1 N L (before x p) s=some t/\t.all fun e w=>e=.normal/\∃rl,(jc nx rl&&rl.all fun q=>kp.contains q.1)=true/\w.1=V.map (lV rl)/\V.all (lM rl)=true/\jD nx rl w.2 (st 0))
  (ha:∀i,i<n->∃t,aM T Γ f2 N LA [assign] ⟨aH (L++[p0,p1]) (V++[u i,v i]),st i,nx⟩=some t/\t.all fun e w=>e=.normal/\fm kp w (VA i) (OA i) nA)
  (hb:∀i,i<n->∃t,aM T Γ f3 N L [body] ⟨aH LA (VA i),OA i,nA⟩=some t/\t.all fun e w=>e=.normal/\fm kp w V (st (i+1)) nx)
  (hend:aJ P c nt (behind x p) ⟨aH L V,st n,nx⟩ Q):ay P c nt x s Q:=by
 obtain⟨t,h1,h2⟩:=hp
 have hdb:=sA (p:=p) hc hd
 rw[hx]at hdb
 simp only[cw,Bool.and_eq_true]at hdb
 refine ay.hole p hc (aJ.bE hT hΓ hm N L h1 (nv hd) (ag.fI ?_ h2))
 rintro e w ⟨rfl,rl,g1,g2,g3,g4⟩ s' hs'
 simp only[Bool.and_eq_true]at g1
 show ay P c nt (part x p) s' _
 rw[hx]
 refine ay.C3 (ay.Rm (gf:=gf) (caps:=caps) (n:=n) (u:=u) (v:=v) (sl:=aH L V) (st:=st) (nx:=fun _=>nx) hro (agx rl hs' (fun k y hk=>absurd (h0 k y hk) (by simp)) g1.1 (BZ g2 g3) (xk g4)) hg heg hit hp0 hp1 hne ?_ ?_)
 ·intro c' hk' i hi
  have hkp:∀{c':Ctx},(∀k y,c'.k0 k=some y->(bB rl k).isSome=true)->Kept kp c':=fun {c'} hk' k y hk=>by
   obtain⟨j,hj⟩:=Option.isSome_iff_exists.1 (hk' k y hk)
   have:=List.all_eq_true.1 g1.2 _ (l7 hj)
   simpa using this
  rw[hL]
  obtain⟨t,a1,a2⟩:=ha i hi
  refine ay.bE hT hΓ hm N LA a1 hdb.1 (ag.fI ?_ a2)
  rintro e w ⟨rfl,hre⟩ s2 hs2
  refine⟨rfl,fun c2 hk2=>ay.lP (hre.le hs2 (hkp hk2)) ?_⟩
  obtain⟨t,b1,b2⟩:=hb i hi
  refine ay.bE hT hΓ hm N L b1 hdb.2 (ag.fI ?_ b2)
  rintro e w ⟨rfl,hre⟩ s3 hs3
  obtain⟨ρ',hle⟩:=hre.le hs3 (hkp hk2)
  exact⟨rfl,ρ',hle.bare⟩
 ·show aJ P c nt (behind x p) _ Q
  exact hend
end rule
end Go.Am
namespace Go.Am
open AV
def xd (T:Types) (fn:Func) (e:ak) (s:aL):Option (ag (List AV×Option az)):=match e with
 |.exit _=>none
 |e=>match gV T s fn.results.toList with
  |some (vs,q)=>some (.need q (.leaf e (vs,look 0 s.store)))
  |none=>none
def DD (T:Types) (Γ:aU) (forks:List Nat) (n:Nat) (fn:Func) (l:List Code) (s:aL):Option (ag (List AV×Option az)):=
 match rm T Γ forks n l s with
 |some t=>t.bind (xd T fn)
 |none=>none
def CW (us:List AV) (o:az) (v:List AV×Option az):Prop:=
 bH v.1=[]/\(v.1.all fun v=>!v.isTuple)=true/\dH v.1 us/\∃o1,v.2=some o1/\∀ρ,dZ ρ o1 o
def wh (T:Types) (fn:Func) (us:List AV) (o:az) (e:ak) (s:aL):Prop:=
 (e=.normal\/e=.ret)/\(∃vs q,gV T s fn.results.toList=some (vs,q)/\au q/\bH vs=[]/\(vs.all fun v=>!v.isTuple)=true/\dH vs us)/\∃o1,look 0 s.store=some o1/\∀ρ,dZ ρ o1 o
theorem KV {T:Types} {fn:Func} {e:ak} {s:aL} {t:ag (List AV×Option az)} {us:List AV} {o:az} (h1:xd T fn e s=some t) (h2:t.all fun _ v=>CW us o v):wh T fn us o e s:=by
 unfold xd at h1
 have key:∀{e':ak},(match gV T s fn.results.toList with
   |some (vs,q)=>some (ag.need q (.leaf e' (vs,look 0 s.store)))
   |none=>none)=some t->(∃vs q,gV T s fn.results.toList=some (vs,q)/\au q/\bH vs=[]/\(vs.all fun v=>!v.isTuple)=true/\dH vs us)/\∃o1,look 0 s.store=some o1/\∀ρ,dZ ρ o1 o:=by
  intro e' h1
  cases hr:gV T s fn.results.toList with
  |none=>rw[hr]at h1;simp at h1
  |some r=>
   obtain⟨vs,q⟩:=r
   rw[hr]at h1
   simp only[ax]at h1
   subst h1
   obtain⟨g1,g2,g3,g4,g5⟩:=ag.xm.1 h2
   exact⟨⟨vs,q,rfl,g1,g2,g3,g4⟩,g5⟩
 cases e with
 |normal=>exact⟨.inl rfl,key h1⟩
 |ret=>exact⟨.inr rfl,key h1⟩
 |exit i=>simp at h1
section rules
variable {P:Program} {c:Ctx} {nt:Nat} {s:aL} {Q:ak->aL->Prop} {T:Types} (hT:dF P T) {Γ:aU} (hΓ:aZ P Γ) (hm:P.follows .mixedOrders=true)
include hT hΓ hm in
theorem aJ.Sx {fn:Func} {forks:List Nat} (n:Nat) {l:List Code} {t:ag (List AV×Option az)} (hc:DD T Γ forks n fn l s=some t) (hd:(l.all fun x=>cw nt x)=true) {us:List AV} {o:az}
  (h:t.all fun _ v=>CW us o v):aJ P c nt l s (wh T fn us o):=by
 unfold DD at hc
 split at hc
 ·rename_i u hx
  refine yz hT hΓ hm hd hx (ag.fI ?_ (ag.kg hc h))
  rintro e s' ⟨v,h1,h2⟩
  exact KV h1 h2
 ·simp at hc
def yw (T:Types) (fn:Func) (L:List Nat) (us:List AV) (o:az) (v:List AV×aD):Prop:=
 ∃vs ws nx t,v.1=vs++ws/\vs.length=L.length/\bH ws=[]/\xd T fn .ret ⟨aH L vs,v.2,nx⟩=some t/\jM nx vs=true/\iE nx v.2/\1<=nx/\t.all fun _ v=>CW us o v
theorem yw.fin {fn:Func} {L L1:List Nat} {us:List AV} {o:az} {v:List AV×aD} {s':aL} (h0:Kept [0] c) (h:yw T fn L us o v) (hs':bC (L++L1) s'=some v):eG c (wh T fn us o) .ret s':=by
 obtain⟨vs,ws,nx,t,h1,h2,h3,h4,h5,h6,hn,h7⟩:=h
 obtain⟨v1,v2⟩:=v
 simp only at h1
 subst h1
 obtain⟨ρ,hle⟩:=ow (jn hs' h2 h3) (fun k x hk=>by
  have:=h0 k x hk
  simp only[List.mem_cons,List.not_mem_nil,or_false]at this
  omega) h5 h6
 exact .inr ⟨_,ρ,hle,KV h4 h7⟩
include hT in
theorem Xu {f:FuncId} {fn:Func} {x:Code} (hf:iL P f fn x) {args args0 us:List AV} {a:Nat} {oa oa0:az} {l:List Prop} (hlen:args0.length<=fn.ntmps)
  (ha:fT (bB [(0,a)]) args args0) (hoa:au l->∀ρ,dZ ρ oa oa0)
  (h:au l->∀c:Ctx,Kept [0] c->ay P c fn.ntmps x ⟨aT 0 args0,[(0,oa0)],1⟩ (eG c (wh T fn us oa0))) (K:Nat):aO P f K args [(a,oa)] ⟨js us,[(a,oa0)],l⟩:=by
 intro need
 refine(nE hT hf (args0:=args0) (pre0:=[(0,oa0)]) (nx:=1) [(0,a)] hlen (by simp[jc]) ha ⟨⟨a,oa,rfl,DN,hoa need _⟩,trivial⟩
  (fun x k h=>?_) (fun x o h=>.inl ?_) (fun need c h0=>?_):aO P f K args [(a,oa)] ⟨js us,[(a,oa0)],l⟩) need
 ·simp only[bB,look]at h
  split at h
  ·simp only[ax]at h;subst h;exact⟨_,DN⟩
  ·simp at h
 ·simp only[look]at h ⊢
  split at h
  ·rename_i he;exact⟨oa,by rw[if_pos he]⟩
  ·simp at h
 have hk:Kept [0] c:=fun x y hy=>by
  have:=h0 x y hy
  simp only[bB,look]at this
  split at this
  ·rename_i he;have:=eq_of_beq he;subst this;simp
  ·simp at this
 refine(h need c hk).down.mono ?_
 rintro e s' ⟨h1,⟨vs,q,g1,g2,g3,g4,g5⟩,o1,g6,g7⟩
 refine⟨h1,bB [(a,0)],xb,.inr ⟨⟨vs,q,us,g1,g2,ru g3 g4 g5,rfl⟩,fun k o hk=>?_⟩⟩
 have he:cK (lT [(a,oa0)]) [(a,oa)]=[(a,oa0)]:=by simp[cK,lT,put]
 replace hk:=zK hk
 rw[he]at hk
 simp only[look]at hk
 split at hk
 ·rename_i hx
  have:=eq_of_beq hx
  simp only[ax]at hk
  subst hk this
  exact⟨0,o1,by simp[bB,look],g6,g7 _⟩
 ·simp at hk
end rules
end Go.Am
namespace Go.Am
open AV
section rules
variable {P:Program} {c:Ctx} {nt:Nat} {x:Code} {s:aL} {Q:ak->aL->Prop}
theorem ay.bP {t k es s0 n:Nat} (ht:look t s.cN=some (.own k es s0 n)) (h:∀cap,n<=cap->ay P c nt x ⟨oN (some t) (.bP cap (.own k es s0 n)) s.cN,s.store,s.next⟩ Q):ay P c nt x s Q:=by
 intro a w ⟨hd,hs,β,hw,hsl⟩
 obtain⟨xv,hx,hv⟩:=hsl t _ ht
 have key:∃base cap,xv=.slice base n cap/\n<=cap:=by
  rcases hv.own with⟨b,o,cap,N,rfl,_,_,_,h4,_⟩|⟨rfl,_,rfl,_⟩
  ·exact⟨_,_,rfl,h4⟩
  ·exact⟨_,_,rfl,bq⟩
 obtain⟨base,cap,rfl,hn⟩:=key
 refine h cap hn a w ⟨hd,hs,β,hw,fun t' v' hv'=>?_⟩
 rw[uZ]at hv'
 split at hv'
 ·rename_i he
  simp only[ax]at he hv'
  subst he
  subst hv'
  exact⟨_,hx,bt.bM (.cq (.bP rfl (hv.cell rfl) .nil) rfl)⟩
 ·exact hsl t' v' hv'
variable {T:Types} (hT:dF P T)
end rules
end Go.Am
namespace Go.Am
open AV
section rules
variable {P:Program} {c:Ctx} {nt:Nat} {x:Code} {s:aL} {Q:ak->aL->Prop}
theorem ay.NH {t k:Nat} {o:az} (ht:look t s.cN=some (.ptr k 0 o.es 0 [])) (hk:look k s.store=some o) (h1:o.row=false) (h2:o.len=1) (h3:(o.f 0).keys=[])
  (h:ay P c nt x ⟨oN (some t) (.bn (o.f 0)) s.cN,put k {o with wr:=false} s.store,s.next⟩ Q) (h4:isVoid (o.f 0)=false:=by rfl):ay P c nt x s Q:=by
 intro a w ⟨hd,hs,β,hw,hsl⟩
 have hcap:pW s.store (.ptr k 0 o.es 0 [])=some (k,o):=by
  unfold pW
  simp[hk,h1,h2,h3,h4]
 obtain⟨xv,hx,hv⟩:=hsl t _ ht
 obtain⟨cs,hc,hx2⟩:=hv.one rfl
 have key:=Je (pre:=s.store) hw (fun k o hk=>⟨o,hk,.inl rfl⟩) hc
 simp only[oL,pS,hcap,cK]at key
 obtain⟨q1,q2,q3⟩:=key
 refine h a w ⟨hd.iu hw q2,hs,β,q1,fun t' v hv'=>?_⟩
 rw[uZ]at hv'
 split at hv'
 ·rename_i he
  simp only[ax]at he hv'
  subst he
  subst hv'
  refine⟨xv,hx,bt.bM ⟨cs,q3,.inr ⟨rfl,?_⟩⟩⟩
  rcases hx2 with⟨g,_⟩|⟨_,g⟩
  ·exact Bool.noConfusion g
  ·exact g
 ·obtain⟨y,hy,hvy⟩:=hsl t' v hv'
  exact⟨y,hy,hvy.iu q2⟩
end rules
end Go.Am
namespace Go.Am
open Go Go.ChangeShapes Go.WideShapes Go.ChangeAt Go.RowKit AV IntKind
inductive PK where
 |list
 |int (k:IntKind)
 |bool
 |As
def GF (P:Program):PK->TypeId->Prop
 |.list,t=>∃e,P.underlying t=some (.slice e)/\P.underlying e=some (.int .i64)/\P.cellsOf e=1
 |.int k,t=>P.underlying t=some (.int k)
 |.bool,t=>P.underlying t=some .bool
 |.As,t=>∃e,P.underlying t=some (.array 4 e)/\P.underlying e=some (.int .i64)/\P.cellTypes P.depth t=some [e,e,e,e]/\P.cellsOf t=4
def wo (P:Program):List PK->List TypeId->Prop
 |[],[]=>True
 |k::ks,t::ts=>(GF P k t/\P.readableRec t=true/\t<P.types.size)/\wo P ks ts
 |_,_=>False
def Jt:PK->AV->Prop
 |.list,a=>∃(n:Nat) (z:Nat->Int),a=.aq 1 n (fun i=>.int .i64 (z i))
 |.int k,a=>∃n,a=.int k n
 |.bool,a=>∃b,a=.bool b
 |.As,a=>∃z0 z1 z2 z3:Int,a=.agg [.int .i64 z0,.int .i64 z1,.int .i64 z2,.int .i64 z3]
def Ap:List PK->List AV->Prop
 |[],as=>as=[]
 |k::ks,as=>∃a l,as=a::l/\Jt k a/\Ap ks l
section
variable {P:Program} {H:Type} {enc:TypeId×Value->H} {W:World} {base:Nat}
theorem aeC {k:PK} {t:TypeId} {v:Value} {d:DataW H} {p:List MemPlace} (hk:GF P k t) (h:DataW.Trod enc P W 0 (fun _=>true) true t v d p) (hv:Value.okWide P W .any base t v):∃a,Jt k a/\bt (fun _=>False) W bu a v:=by
 cases k with
 |int k=>
  obtain⟨n,rfl⟩:=okWide_int hk hv
  exact⟨_,⟨n,rfl⟩,.cq (.int .nil) rfl⟩
 |bool=>
  obtain⟨b,rfl⟩:=okWide_bool hk hv
  exact⟨_,⟨b,rfl⟩,.cq (.bool .nil) rfl⟩
 |As=>
  obtain⟨e,h1,h2,h3,h4⟩:=hk
  unfold Value.okWide at hv
  rw[h1]at hv
  obtain⟨cs,rfl,hs,ts,g1,_,g2⟩:=hv
  rw[h4]at hs
  rw[h3,ax]at g1
  subst g1
  have key:∀i,i<4->∃z:Int,cs[i]?=some (.int .i64 z):=fun i hi=>by
   obtain⟨v,hv⟩:∃v,cs[i]?=some v:=⟨_,Array.getElem?_eq_getElem aa⟩
   obtain⟨u,k1,k2⟩:=g2 i v hv
   have hu:u=e:=by
    rcases(show i=0\/i=1\/i=2\/i=3 by omega)with rfl|rfl|rfl|rfl<;>exact(Option.some.inj k1).symm
   subst hu
   obtain⟨n,rfl⟩:=okWide_int (base:=base) (r:=.any) (w:=W) h2 (by unfold Value.okWide;rw[h2];exact k2)
   exact⟨n,hv⟩
  obtain⟨z0,e0⟩:=key 0 aa
  obtain⟨z1,e1⟩:=key 1 aa
  obtain⟨z2,e2⟩:=key 2 aa
  obtain⟨z3,e3⟩:=key 3 aa
  have hc:cs=[Value.int .i64 z0,.int .i64 z1,.int .i64 z2,.int .i64 z3].toArray:=by
   refine Array.ext_getElem? fun i=>?_
   by_cases hi:i<4
   ·rcases(show i=0\/i=1\/i=2\/i=3 by omega)with rfl|rfl|rfl|rfl
    ·exact e0
    ·exact e1
    ·exact e2
    ·exact e3
   ·rw[Array.getElem?_eq_none aa,Array.getElem?_eq_none (by simpa using by omega)]
  refine⟨_,⟨z0,z1,z2,z3,rfl⟩,_,.agg (.int (.int (.int (.int .nil)))) .nil,.inl ⟨rfl,?_⟩⟩
  rw[hc];rfl
 |list=>
  obtain⟨e,h1,h2,h3⟩:=hk
  obtain⟨a0,len,cap,rfl⟩:=okWide_slice h1 hv
  obtain⟨fuel,hf⟩:=h
  have key:∀{z:Nat->Int},len<=cap->(len=0\/∃b o,a0=some ⟨b,o,none⟩/\∀i,i<len->W.cell? ⟨b,o+i,none⟩=some (.int .i64 (z i)))->bt (fun _=>False) W bu (.aq 1 len (fun i=>.int .i64 (z i))) (.slice a0 len cap):=fun {z} hcap hr=>by
   refine .cq (.aq (cf:=fun i=>[.int .i64 (z i)]) ?_ aa hcap (fun _ _=>rfl) (fun _ _=>.int .nil) .nil) rfl
   rcases hr with hr|⟨b,o,rfl,hr⟩
   ·exact .inl hr
   ·refine .inr ⟨b,o,rfl,fun i hi=>?_⟩
    have hc:=hr i hi
    simp only[World.cell?]at hc
    split at hc
    ·rename_i cs ty fr hh
     simp only[Option.isSome_none,Bool.false_eq_true,if_false]at hc
     refine⟨cs,ty,fr,hh,id,fun j v hj=>?_⟩
     have hj0:j=0:=by have:=(List.getElem?_eq_some_iff.1 hj).1;simp at this;exact this
     subst hj0
     simp only[List.getElem?_cons_zero,ax]at hj
     subst hj
     simpa using hc
    ·simp at hc
  rcases open_ints h1 h2 h3 hf with⟨hcs,hx⟩|⟨a,len',cap',zs,hcs,_,hl,hm,hz,hx,hcell,hwz⟩
  ·simp only[Value.cells,List.cons.injEq,Value.slice.injEq,and_true]at hcs
   obtain⟨rfl,rfl,rfl⟩:=hcs
   exact⟨_,⟨0,fun _=>0,rfl⟩,key (z:=fun _=>0) bq (.inl rfl)⟩
  ·simp only[Value.cells,List.cons.injEq,Value.slice.injEq,and_true]at hcs
   obtain⟨rfl,rfl,rfl⟩:=hcs
   simp only[if_true]at hz
   refine⟨_,⟨len,fun i=>zs.getD i 0,rfl⟩,key hl ?_⟩
   rcases Nat.eq_zero_or_pos len with h0|h0
   ·exact .inl h0
   ·obtain⟨b,o,m⟩:=a
    have h1:=hcell 0 aa
    have:m=none:=by
     cases m with
     |none=>rfl
     |some y=>exfalso;simp only[Addr.add,World.cell?]at h1;split at h1<;>simp at h1
    subst this
    exact .inr ⟨b,o,rfl,fun i hi=>by
     have h2:=hcell i aa
     rcases Nat.eq_zero_or_pos i with hi|hi
     ·subst hi;simpa [Addr.add]using h2
     ·simpa [Addr.add,Nat.pos_iff_ne_zero.1 hi]using h2⟩
theorem Jm:∀{ks:List PK} {ts:List TypeId} {vs:List Value} {ds:List (DataW H)} {p:List MemPlace},wo P ks ts->DataW.TrodAll enc P W 0 (fun _=>true) true ts vs ds p->(∀(j:Nat) t v,ts[j]?=some t->vs[j]?=some v->Value.okWide P W .any base t v)->
  ∃as,Ap ks as/\cD (fun _=>False) W bu as vs
 |[],[],vs,ds,p,_,h,_=>by
  obtain⟨rfl,_,_⟩:=trodAll_nil h
  exact⟨[],rfl,trivial⟩
 |k::ks,t::ts,vs,ds,p,hk,h,hv=>by
  obtain⟨v,vs',d,ds',p1,q,rfl,rfl,rfl,hd,hrest⟩:=trodAll_cons h
  obtain⟨a,h1,h2⟩:=aeC hk.1.1 hd (hv 0 t v rfl rfl)
  obtain⟨as,h3,h4⟩:=Jm hk.2 hrest fun j t v h1 h2=>hv (j+1) t v h1 h2
  exact⟨a::as,⟨a,as,rfl,h1,h3⟩,h2,h4⟩
 |[],_::_,_,_,_,h,_,_=>h.elim
 |_::_,[],_,_,_,h,_,_=>h.elim
theorem EY {b:Nat} {sp:Nat->Bool} {held:Bool}:∀{ts:List TypeId} {vs:List Value} {ds:List (DataW H)} {p:List MemPlace},DataW.TrodAll enc P W b sp held ts vs ds p->ds.length=ts.length
 |[],vs,ds,p,h=>by
  obtain⟨_,rfl,_⟩:=trodAll_nil h
  rfl
 |t::ts,vs,ds,p,h=>by
  obtain⟨v,vs',d,ds',p1,q,rfl,rfl,rfl,hd,hrest⟩:=trodAll_cons h
  simp[EY hrest]
theorem M6 (hl:laidOutB P=true) {W':World} (hb:Below W.heap.size W W'):∀{ks:List PK} {ts:List TypeId} {vs:List Value} {ds:List (DataW H)} {p:List MemPlace},wo P ks ts->DataW.TrodAll enc P W 0 (fun _=>true) true ts vs ds p->(∀x∈p,x.block<W.heap.size)->
  DataW.TrodAll enc P W' 0 (fun b=>decide (b<W.heap.size)) true ts vs ds p
 |[],[],vs,ds,p,_,h,_=>by
  obtain⟨rfl,rfl,rfl⟩:=trodAll_nil h
  exact trodAll_mk0
 |k::ks,t::ts,vs,ds,p,hk,h,hlt=>by
  obtain⟨v,vs',d,ds',p1,q,rfl,rfl,rfl,hd,hrest⟩:=trodAll_cons h
  exact⟨_,_,Below.trod hl hk.1.2.1 hk.1.2.2 hd hb fun x hx=>hlt x (List.mem_append_left _ hx),M6 hl hb hk.2 hrest fun x hx=>hlt x (List.mem_append_right _ hx),rfl⟩
 |[],_::_,_,_,_,h,_,_=>h.elim
 |_::_,[],_,_,_,h,_,_=>h.elim
theorem Ph (hl:laidOutB P=true) {f:FuncId} {fn:Func} (hf:P.funcs[f]?=some fn) (hb:fn.body.isNone=false) {ks:List PK} {ts:List TypeId} (hk:wo P ks ts) {args:Array Value} {ds:List (DataW H)} {p:List MemPlace}
  (hA:DataW.TrodAll enc P W 0 (fun _=>true) true ts args.toList ds p) (hv:∀(j:Nat) t v,ts[j]?=some t->args[j]?=some v->Value.okWide P W .any base t v) (hlt:∀x∈p,x.block<W.heap.size) (hF:∀as,Ap ks as->aO P f 0 as [] ⟨.bool true,[],[]⟩):
  Calls P f args W fun e W'=>e=.returned (.bool true)/\Below W.heap.size W W'/\DataW.TrodAll enc P W' 0 (fun b=>decide (b<W.heap.size)) true ts args.toList ds p:=by
 obtain⟨as,h1,h2⟩:=Jm hk hA fun j t v h1 h2=>hv j t v h1 (by simpa using h2)
 obtain⟨_,hF⟩:=hF as h1 trivial
 have hrel:br ⟨fun _=>False,W,fun _=>False,bu,none⟩ [] (fun _=>False) bu W:=
  {obj:=fun k o h=>by simp[look]at h,dK:=fun k o h=>by simp[look]at h,inj:=fun k k' o o' b N N' h=>by simp[look]at h,dom:=fun k x h=>by simp[bu]at h,keep:=fun k x h=>h,lt:=fun k b N h=>by simp[bu]at h,os:=rfl,tape:=rfl,output:=rfl,size:=bq,block:=fun _ _ _=>rfl,gj:=fun b h=>h.elim,new:=fun k o b N h=>by simp[look]at h}
 have hM:aP ⟨fun _=>False,W,fun _=>False,bu,none⟩ [] bu=fun _=>False:=by
  funext b
  simp[aP,look]
 have hinv:=hF ⟨fun _=>False,W,fun _=>False,bu,none⟩ (fun _=>False) (fun _=>True) bu W _ rfl (fun b h=>h.elim) hrel (fun k h=>h.elim) (fun k _ _=>⟨id,trivial⟩) (by rw[hM];exact h2)
 rcases hinv with⟨fn',g1,g2,g3,g4⟩|⟨x,g1,_⟩
 ·have g5:=g4
  rw[show args.toList.toArray=args from by simp]at g5
  refine g5.mono fun e W' ⟨x,he,hx⟩=>?_
  obtain⟨β',q1,q2,q3⟩:=hx
  have:=q3.bool
  subst this
  have hbl:Below W.heap.size W W':=⟨q1.os,q1.tape,q1.output,q1.size,fun k hk=>q1.block k hk id⟩
  exact⟨he,hbl,M6 hl hbl hk hA hlt⟩
 ·exfalso
  simp only[callFunc,Sem.run_bind,run_program,Result.andThen_ok,hf,hb,Bool.false_eq_true,if_false]at g1
  split at g1<;>simp at g1
end
end Go.Am
