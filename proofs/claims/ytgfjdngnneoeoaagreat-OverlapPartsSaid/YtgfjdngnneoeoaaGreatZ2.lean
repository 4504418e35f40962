/- Parts of code; a piece of code inside a chain; loops. -/
import Derived.Test.YtgfjdngnneoeoaaGreatZ1
import Derived.Below
import Derived.RangeFuncCalls
import Derived.TacticsIn
import Derived.ProofKit
import Derived.ChangeSlices
set_option linter.unusedVariables false
namespace Go.Am
def part:Code->List Nat->Code
 |c,[]=>c
 |.seq x _,0::p=>part x p
 |.seq _ y,_::p=>part y p
 |.cond _ x _,0::p=>part x p
 |.cond _ _ y,_::p=>part y p
 |.block _ x,_::p=>part x p
 |.loop x,_::p=>part x p
 |_,_=>.skip
def before:Code->List Nat->List Code
 |.seq x _,0::p=>before x p
 |.seq x y,_::p=>x::before y p
 |_,_=>[]
def behind:Code->List Nat->List Code
 |.seq x y,0::p=>behind x p++[y]
 |.seq _ y,_::p=>behind y p
 |_,_=>[]
def chain:Code->List Nat->Bool
 |_,[]=>true
 |.seq x _,0::p=>chain x p
 |.seq _ y,_::p=>chain y p
 |_,_=>false
def aF (fn:Func):Code:=match fn.body with
 |some x=>x
 |none=>.skip
def ey (k:aK->Prop) (Q:aq->aK->Prop):aq->aK->Prop
 |.normal,s=>k s
 |e,s=>Q e s
def aI (P:Program) (c:Ctx) (nt:Nat):List Code->aK->(aq->aK->Prop)->Prop
 |[],s,Q=>Q .normal s
 |x::l,s,Q=>ay P c nt x s (ey (fun s'=>aI P c nt l s' Q) Q)
section rules
variable {P:Program} {c:Ctx} {nt:Nat} {s:aK} {Q:aq->aK->Prop}
theorem ay.Lr {x y:Code} (h:ay P c nt x s (ey (fun s'=>ay P c nt y s' Q) Q)):ay P c nt (.seq x y) s Q:=
 .seq (h.mono fun e s' h=>by cases e<;>exact h)
theorem aI.mono {Q Q':aq->aK->Prop} (hq:∀e s',Q e s'->Q' e s'):∀{l:List Code} {s:aK},aI P c nt l s Q->aI P c nt l s Q'
 |[],_,h=>hq _ _ h
 |x::l,s,h=>ay.mono h fun e s' h=>by
  cases e with
  |normal=>exact aI.mono hq (l:=l) h
  |exit i=>exact hq _ _ h
  |ret=>exact hq _ _ h
theorem aI.append {Q:aq->aK->Prop}:∀{a b:List Code} {s:aK},aI P c nt (a++b) s Q->aI P c nt a s (ey (fun s'=>aI P c nt b s' Q) Q)
 |[],b,s,h=>h
 |x::a,b,s,h=>ay.mono h fun e s' h=>by
  cases e with
  |normal=>exact aI.append (a:=a) h
  |exit i=>exact h
  |ret=>exact h
theorem ay.hole:∀(p:List Nat) {x:Code} {s:aK} {Q:aq->aK->Prop},chain x p=true->
  aI P c nt (before x p) s (ey (fun s'=>ay P c nt (part x p) s' (ey (fun s''=>aI P c nt (behind x p) s'' Q) Q)) Q)->ay P c nt x s Q
 |[],x,s,Q,_,h=>by
  have hb:before x []=[]:=by cases x<;>rfl
  have hh:behind x []=[]:=by cases x<;>rfl
  have hp:part x []=x:=by cases x<;>rfl
  rw[hb,hh,hp]at h
  exact ay.mono h fun e s' h=>by cases e<;>exact h
 |0::p,.seq x y,s,Q,hc,h=>by
  refine .Lr (ay.hole p (x:=x) hc ?_)
  refine aI.mono ?_ h
  intro e s' h1
  cases e with
  |normal=>
   refine ay.mono h1 ?_
   intro e s'' h2
   cases e with
   |normal=>
    refine aI.mono ?_ (aI.append h2)
    intro e s3 h3
    cases e with
    |normal=>exact ay.mono h3 fun e s' h=>by cases e<;>exact h
    |exit i=>exact h3
    |ret=>exact h3
   |exit i=>exact h2
   |ret=>exact h2
  |exit i=>exact h1
  |ret=>exact h1
 |(n+1)::p,.seq x y,s,Q,hc,h=>by
  refine .Lr (ay.mono h ?_)
  intro e s' h1
  cases e with
  |normal=>exact ay.hole p (x:=y) hc h1
  |exit i=>exact h1
  |ret=>exact h1
 |_::_,.cond _ _ _,_,_,hc,_=>by simp[chain]at hc
 |_::_,.block _ _,_,_,hc,_=>by simp[chain]at hc
 |_::_,.loop _,_,_,hc,_=>by simp[chain]at hc
 |_::_,.region _ _ _,_,_,hc,_=>by simp[chain]at hc
 |_::_,.skip,_,_,hc,_=>by simp[chain]at hc
 |_::_,.label _,_,_,hc,_=>by simp[chain]at hc
 |_::_,.exit _,_,_,hc,_=>by simp[chain]at hc
 |_::_,.ret,_,_,hc,_=>by simp[chain]at hc
 |_::_,.scope _,_,_,hc,_=>by simp[chain]at hc
 |_::_,.goto _,_,_,hc,_=>by simp[chain]at hc
 |_::_,.refuse _,_,_,hc,_=>by simp[chain]at hc
 |_::_,.rangeFunc _ _ _ _,_,_,hc,_=>by simp[chain]at hc
def inBlock (i:Nat) (Q:aq->aK->Prop):aq->aK->Prop
 |.exit j,s=>if j=i then Q .normal s else Q (.exit j) s
 |e,s=>Q e s
theorem ay.BS {i:Nat} {x:Code} (h:ay P c nt x s (inBlock i Q)):ay P c nt (.block i x) s Q:=
 .block (h.mono fun e s' h=>by cases e<;>exact h)
theorem ay.ji {x y:Code} {i:Nat} (hx:x=.block i (.loop y)) {α:Type} (S:α->aK) (I:α->Prop) (μ:α->Nat) (j:α) (hs:∃ρ,Le c ρ s (S j)) (h0:I j)
  (round:∀j,I j->ay P c nt y (S j) (ey (fun s'=>∃k,(∃ρ,Le c ρ s' (S k))/\I k/\μ k<μ j) (inBlock i Q))):ay P c nt x s Q:=by
 subst hx
 exact .BS (.V9 S I μ j hs h0 fun j hj=>(round j hj).mono fun e s' h=>by cases e<;>exact h)
variable {T:Types} (hT:dJ P T) {Γ:aV} (hΓ:bg P Γ) (hm:P.follows .mixedOrders=true)
def qZ (T:Types) (Γ:aV) (forks:List Nat) (n:Nat):List Code->aK->Option (ag aK)
 |[],s=>some (.leaf .normal s)
 |x::l,s=>match eI T Γ forks n x s with
  |some t=>t.bind fun e s'=>match e with
   |.normal=>qZ T Γ forks n l s'
   |.exit i=>some (.leaf (.exit i) s')
   |.ret=>some (.leaf .ret s')
  |none=>none
include hT hΓ hm in
theorem zl {forks:List Nat} {n:Nat}:∀{l:List Code} {s:aK} {t:ag aK},(l.all fun x=>cD nt x)=true->qZ T Γ forks n l s=some t->t.all Q->aI P c nt l s Q
 |[],s,t,_,h,ht=>by
  simp only[qZ,ax]at h
  subst h
  exact ht
 |x::l,s,t,hd,h,ht=>by
  simp only[List.all_cons,Bool.and_eq_true]at hd
  simp only[qZ]at h
  cases hx:eI T Γ forks n x s with
  |none=>rw[hx]at h;simp at h
  |some u=>
   rw[hx]at h
   refine kX hT hΓ hm n hd.1 hx (ag.fO ?_ (ag.kH h ht))
   rintro e s' ⟨v,h1,h2⟩
   cases e with
   |normal=>exact zl hd.2 h1 h2
   |exit i=>simp only[ax]at h1;subst h1;exact h2
   |ret=>simp only[ax]at h1;subst h1;exact h2
def aL (T:Types) (Γ:aV) (forks:List Nat) (n:Nat) (ls:List Nat) (l:List Code) (s:aK):Option (ag (List AV×aD)):=
 match qZ T Γ forks n l s with
 |some t=>t.bind (NH ls)
 |none=>none
include hT hΓ hm in
theorem aI.bH {forks:List Nat} (n:Nat) (ls:List Nat) {l:List Code} {s:aK} {t:ag (List AV×aD)} (hc:aL T Γ forks n ls l s=some t) (hd:(l.all fun x=>cD nt x)=true)
  (h:t.all fun e v=>∀s',bB ls s'=some v->Q e s'):aI P c nt l s Q:=by
 unfold aL at hc
 split at hc
 ·rename_i u hx
  refine zl hT hΓ hm hd hx (ag.fO ?_ (ag.kH hc h))
  rintro e s' ⟨v,h1,h2⟩
  unfold NH at h1
  cases hv:bB ls s' with
  |none=>rw[hv]at h1;simp at h1
  |some z=>
   rw[hv]at h1
   simp only[ax]at h1
   subst h1
   exact h2 s' hv
 ·simp at hc
include hT hΓ hm in
theorem ay.bH {x:Code} {forks:List Nat} (n:Nat) (ls:List Nat) {t:ag (List AV×aD)} (hc:aL T Γ forks n ls [x] s=some t) (hd:cD nt x=true)
  (h:t.all fun e v=>∀s',bB ls s'=some v->Q e s'):ay P c nt x s Q:=by
 have:=aI.bH (P:=P) (c:=c) (nt:=nt) (l:=[x]) (Q:=Q) hT hΓ hm n ls hc (by simp[hd]) h
 exact ay.mono this fun e s' h=>by cases e<;>exact h
def cP (T:Types) (Γ:aV) (forks:List Nat) (n:Nat) (fn:Func) (l:List Code) (s:aK):Option (ag (List AV)):=
 match qZ T Γ forks n l s with
 |some t=>t.bind (mU T fn)
 |none=>none
def Fin (T:Types) (fn:Func) (res:AV) (e:aq) (s:aK):Prop:=(e=.normal\/e=.ret)/\Ends T fn res s
theorem CQ {fn:Func} {e:aq} {s':aK} {v:ag (List AV)} {res:AV} (h1:mU T fn e s'=some v) (h2:v.all fun _ us=>fA us res):Fin T fn res e s':=by
 unfold mU at h1
 have key:∀{e':aq},(match g8 T s' fn.results.toList with
   |some (vs,q)=>match fh (jZ (pick s'.store (AV.bI vs))) vs with
    |some us=>some (ag.need q (.leaf e' us))
    |none=>none
   |none=>none)=some v->Ends T fn res s':=by
  intro e' h1
  cases hr:g8 T s' fn.results.toList with
  |none=>rw[hr]at h1;simp at h1
  |some p=>
   obtain⟨vs,q⟩:=p
   rw[hr]at h1
   simp only at h1
   cases hf:fh (jZ (pick s'.store (AV.bI vs))) vs with
   |none=>rw[hf]at h1;simp at h1
   |some us=>
    rw[hf]at h1
    simp only[ax]at h1
    subst h1
    obtain⟨g1,g2⟩:=ag.AH.1 h2
    exact⟨vs,q,us,hr,g1,hf,g2⟩
 cases e with
 |normal=>exact⟨.inl rfl,key h1⟩
 |ret=>exact⟨.inr rfl,key h1⟩
 |exit i=>simp at h1
include hT hΓ hm in
theorem aI.fin {fn:Func} {forks:List Nat} (n:Nat) {l:List Code} {s:aK} {t:ag (List AV)} (hc:cP T Γ forks n fn l s=some t) (hd:(l.all fun x=>cD nt x)=true) {res:AV}
  (h:t.all fun _ us=>fA us res):aI P c nt l s (Fin T fn res):=by
 unfold cP at hc
 split at hc
 ·rename_i u hx
  refine zl hT hΓ hm hd hx (ag.fO ?_ (ag.kH hc h))
  rintro e s' ⟨v,h1,h2⟩
  exact CQ h1 h2
 ·simp at hc
theorem aI.weak {l:List Code} {s2:aK} (hl:l.isEmpty=false) (hle:∃ρ,Le c ρ s s2) (h:aI P c nt l s2 Q):aI P c nt l s Q:=by
 obtain⟨ρ,hle⟩:=hle
 cases l with
 |nil=>simp at hl
 |cons x l=>exact ay.weak hle h
theorem ay.lD {x:Code} {s2:aK} (hle:∃ρ,Le c ρ s s2) (h:ay P c nt x s2 Q):ay P c nt x s Q:=by
 obtain⟨ρ,hle⟩:=hle
 exact ay.weak hle h
end rules
theorem afo {P:Program} {f:FuncId} {fn:Func} (h:P.funcs[f]?=some fn) (hb:fn.body.isSome=true) (hn:(fn.name== "runtime.NumGoroutine")=false) (hd:cD fn.ntmps (aF fn)=true):iW P f fn (aF fn):=by
 refine⟨h,?_,hn,hd⟩
 unfold aF
 cases hbd:fn.body with
 |none=>rw[hbd]at hb;simp at hb
 |some x=>rfl
end Go.Am
namespace Go.Am
def val:Nat->(Nat->Nat)->Nat
 |0,_=>0
 |n+1,z=>val n z+z n*2^(32*n)
theorem ga {z:Nat->Nat}:∀{n:Nat},(∀i,i<n->z i<2^32)->val n z<2^(32*n)
 |0,_=>by simp[val]
 |n+1,h=>by
  have ih:=ga (z:=z) (n:=n) fun i hi=>h i aa
  have h1:=h n aa
  have:z n*2^(32*n)+2^(32*n)<=2^32*2^(32*n):=by
   rw[<-Nat.succ_mul];exact Nat.mul_le_mul_right _ h1
  have e:2^(32*(n+1))=2^32*2^(32*n):=by rw[<-Nat.pow_add];congr 1;omega
  rw[e,val];omega
theorem val_congr {z y:Nat->Nat}:∀{n:Nat},(∀i,i<n->z i=y i)->val n z=val n y
 |0,_=>rfl
 |n+1,h=>by rw[val,val,val_congr fun i hi=>h i aa,h n aa]
theorem m7 {z:Nat->Nat} {k:Nat}:∀{n:Nat},k<=n->(∀i,k<=i->i<n->z i=0)->val n z=val k z
 |0,h,_=>by
    have:k=0:=aa
    subst this;rfl
 |n+1,h,hz=>by
  by_cases hk:k=n+1
  ·subst hk;rfl
  ·rw[val,m7 (n:=n) aa fun i h1 h2=>hz i h1 aa,hz n aa aa]
   simp
theorem o5 {z:Nat->Nat}:∀{n i:Nat},(∀j,j<n->z j<2^32)->i<n->aB (val n z) i=z i
 |0,i,_,hi=>aa
 |n+1,i,h,hi=>by
  unfold aB
  rw[val]
  by_cases he:i=n
  ·subst he
   have:=ga (z:=z) (n:=i) fun j hj=>h j aa
   rw[Nat.add_mul_div_right _ _ (Nat.two_pow_pos _),Nat.div_eq_of_lt this,Nat.zero_add]
   exact Nat.mod_eq_of_lt (h i aa)
  ·have ih:=o5 (z:=z) (n:=n) (i:=i) (fun j hj=>h j aa) aa
   unfold aB at ih
   have e:2^(32*n)=2^32*2^(32*(n-i-1))*2^(32*i):=by
    rw[<-Nat.pow_add,<-Nat.pow_add];congr 1;omega
   rw[e,<-Nat.mul_assoc,Nat.add_mul_div_right _ _ (Nat.two_pow_pos _),<-ih]
   rw[show z n*(2^32*2^(32*(n-i-1)))=2^32*(z n*2^(32*(n-i-1))) by
    rw[<-Nat.mul_assoc,Nat.mul_comm (z n),Nat.mul_assoc]]
   rw[Nat.add_mul_mod_self_left]
theorem dS {N i:Nat}:aB N i<2^32:=Nat.mod_lt _ (by decide)
theorem Gw {N:Nat}:∀{n:Nat},val n (aB N)=N%2^(32*n)
 |0=>by simp[val,Nat.mod_one]
 |n+1=>by
  rw[val,Gw,aB]
  have e:2^(32*(n+1))=2^(32*n)*2^32:=by rw[<-Nat.pow_add];congr 1
  rw[e,Nat.mod_mul,Nat.mul_comm (2^(32*n))]
theorem pU {N n:Nat} (h:N<2^(32*n)):val n (aB N)=N:=by rw[Gw,Nat.mod_eq_of_lt h]
theorem dL {N n:Nat}:nl N<=n↔N<2^(32*n):=by
 unfold nl
 by_cases h:N=0
 ·subst h;simp[Nat.two_pow_pos]
 ·rw[if_neg h]
  rw[<-Nat.log2_lt h]
  omega
theorem nj {N:Nat}:N<2^(32*nl N):=dL.1 aR
theorem gq {N:Nat}:val (nl N) (aB N)=N:=pU nj
theorem abd {z:Nat->Nat} {n:Nat} (h0:0<n) (h:z (n-1)≠0):2^(32*(n-1))<=val n z:=by
 obtain⟨m,rfl⟩:∃m,n=m+1:=⟨n-1,aa⟩
 rw[val]
 simp only[Nat.add_sub_cancel]at h ⊢
 have:1*2^(32*m)<=z m*2^(32*m):=Nat.mul_le_mul_right _ aa
 omega
theorem Aa {z:Nat->Nat} {n:Nat} (hz:∀i,i<n->z i<2^32) (h:n=0\/z (n-1)≠0):nl (val n z)=n:=by
 rcases Nat.eq_zero_or_pos n with rfl|h0
 ·simp[val,nl]
 ·have h1:nl (val n z)<=n:=dL.2 (ga hz)
  have h2:¬nl (val n z)<=n-1:=by
   rw[dL]
   have:=abd h0 (h.resolve_left aa)
   omega
  omega
theorem BO {N:Nat} (h:N≠0):aB N (nl N-1)≠0:=by
 intro h0
 have hn:0<nl N:=by unfold nl;rw[if_neg h];omega
 have h1:val (nl N) (aB N)=val (nl N-1) (aB N):=m7 aa fun i h1 h2=>by
  have:i=nl N-1:=aa
  rw[this,h0]
 rw[gq]at h1
 have h3:N<2^(32*(nl N-1)):=by
  exact Nat.lt_of_le_of_lt (Nat.le_of_eq h1) (ga (z:=aB N) (n:=nl N-1) fun i _=>dS)
 have h2:nl N<=nl N-1:=dL.2 h3
 omega
theorem gE {N:Nat}:0<nl N↔N≠0:=by
 unfold nl
 split<;>simp_all
theorem iC {a b:Nat} (h:a<=b):nl a<=nl b:=dL.2 (Nat.lt_of_le_of_lt h nj)
theorem wrap_i64 {x:Int} (h1:-2^63<=x) (h2:x<2^63):IntKind.i64.wrap x=x:=by
 simp[IntKind.wrap,IntKind.bits,IntKind.signed];omega
theorem cw {x:Int} (h1:0<=x) (h2:x<2^64):IntKind.u64.wrap x=x:=by
 simp[IntKind.wrap,IntKind.bits,IntKind.signed];omega
theorem oC {x:Int}:IntKind.u64.wrap x=x%2^64:=by
 simp[IntKind.wrap,IntKind.bits,IntKind.signed]
theorem lC {x:Int}:IntKind.u32.wrap x=x%2^32:=by
 simp[IntKind.wrap,IntKind.bits,IntKind.signed]
theorem wrap_u32 {x:Int} (h1:0<=x) (h2:x<2^32):IntKind.u32.wrap x=x:=by
 rw[lC];omega
theorem xA {x:Nat}:IntKind.u64.wrap (x:Int)=(x%2^64:Nat):=by
 rw[oC];omega
theorem jP {x:Nat}:IntKind.u32.wrap (x:Int)=(x%2^32:Nat):=by
 rw[lC];omega
theorem s8 {a b:Nat} (ha:a<2^64) (hb:b<2^64):
  IntKind.u64.wrap ((BitVec.ofInt IntKind.u64.bits (a:Int)|||BitVec.ofInt IntKind.u64.bits (b:Int)).toNat:Int)=((a|||b:Nat):Int):=by
 have e:(BitVec.ofInt IntKind.u64.bits (a:Int)|||BitVec.ofInt IntKind.u64.bits (b:Int)).toNat=a|||b:=by
  rw[BitVec.toNat_or,BitVec.ofInt_natCast,BitVec.ofInt_natCast,BitVec.toNat_ofNat,BitVec.toNat_ofNat]
  rw[show IntKind.u64.bits=64 from rfl,Nat.mod_eq_of_lt ha,Nat.mod_eq_of_lt hb]
 rw[e]
 have:a|||b<2^64:=Nat.or_lt_two_pow ha hb
 exact cw aa aa
theorem RS {a b:Nat} (ha:a<2^64) (hb:b<2^64):
  IntKind.u64.wrap ((BitVec.ofInt IntKind.u64.bits (a:Int)&&&BitVec.ofInt IntKind.u64.bits (b:Int)).toNat:Int)=((a&&&b:Nat):Int):=by
 have e:(BitVec.ofInt IntKind.u64.bits (a:Int)&&&BitVec.ofInt IntKind.u64.bits (b:Int)).toNat=a&&&b:=by
  rw[BitVec.toNat_and,BitVec.ofInt_natCast,BitVec.ofInt_natCast,BitVec.toNat_ofNat,BitVec.toNat_ofNat]
  rw[show IntKind.u64.bits=64 from rfl,Nat.mod_eq_of_lt ha,Nat.mod_eq_of_lt hb]
 rw[e]
 have:a&&&b<2^64:=Nat.and_lt_two_pow a hb
 exact cw aa aa
theorem qO {a b i:Nat} (h:b<2^i):a*2^i|||b=a*2^i+b:=by
 rw[<-Nat.shiftLeft_eq,<-Nat.shiftLeft_add_eq_or_of_lt h]
theorem lW {x:Int}:x.fdiv (2^min (Int.toNat 32) IntKind.u64.bits)=x/4294967296:=by
 have:min (Int.toNat 32) IntKind.u64.bits=32:=rfl
 rw[this,Int.fdiv_eq_ediv_of_nonneg _ (by decide)]
 rfl
theorem CK {x:Int}:x.fdiv (2^min (Int.toNat 63) IntKind.u64.bits)=x/9223372036854775808:=by
 have:min (Int.toNat 63) IntKind.u64.bits=63:=rfl
 rw[this,Int.fdiv_eq_ediv_of_nonneg _ (by decide)]
 rfl
theorem wo {x:Int}:x*2^min (Int.toNat 32) IntKind.u64.bits=x*4294967296:=by
 have:min (Int.toNat 32) IntKind.u64.bits=32:=rfl
 rw[this];rfl
theorem Dl {B c z y v t s:Nat} (hs:s=c+z+y) (h:v+c*B=t):v+s%4294967296*B+s/4294967296*(4294967296*B)=t+z*B+y*B:=by
 have h1:=Nat.div_add_mod s 4294967296
 generalize s/4294967296=q at*
 generalize s%4294967296=r at*
 subst h1 h
 have:c*B+z*B+y*B=(4294967296*q+r)*B:=by rw[<-Nat.add_mul,<-Nat.add_mul,hs]
 grind
theorem iB {i:Nat}:2^(32*(i+1))=4294967296*2^(32*i):=by
 rw[show 32*(i+1)=32+32*i by omega,Nat.pow_add]
open AV
def numOf (v:AV):Nat:=match v with
 |.int _ z=>z.toNat
 |_=>0
def eo (n:Nat) (f:Nat->AV):Prop:=∀i,i<n->∃z:Nat,z<2^32/\f i=.int .u32 z
theorem Bw {z:Nat->Nat} {i:Nat}:numOf (aA z i)=z i:=by simp[numOf,aA]
theorem jO {n:Nat} {z:Nat->Nat}:(val n fun i=>numOf (aA z i))=val n z:=val_congr fun _ _=>Bw
theorem gD {n:Nat} {z:Nat->Nat} (h:∀i,i<n->z i<2^32):eo n (aA z):=fun i hi=>⟨z i,h i hi,rfl⟩
def qT:AV->Option (Nat×Nat×List Prop)
 |.mag N=>some (N,nl N,[])
 |.nil=>some (0,0,[])
 |.ak es n f=>if es==1 then some (val n fun i=>numOf (f i),n,[eo n f])else none
 |_=>none
theorem uP {a:AV} {N n:Nat} {q:List Prop} (h:qT a=some (N,n,q)) (hq:au q):∃z:Nat->Nat,(∀i,i<n->z i<2^32)/\val n z=N/\bp a (.ak 1 n (aA z)):=by
 cases a<;>simp only[qT,reduceCtorEq,ax,Prod.mk.injEq]at h
 case mag M=>
  obtain⟨rfl,rfl,rfl⟩:=h
  exact⟨aB M,fun i _=>dS,gq,KK rfl fun i _=>rfl⟩
 case nil=>
  obtain⟨rfl,rfl,rfl⟩:=h
  exact⟨fun _=>0,fun i hi=>aa,rfl,lf aa⟩
 case ak es m f=>
  split at h
  ·rename_i he
   simp only[ax,Prod.mk.injEq]at h
   obtain⟨rfl,rfl,rfl⟩:=h
   have hq:eo m f:=hq
   have he:es=1:=by simpa using he
   subst he
   refine⟨fun i=>numOf (f i),fun i hi=>?_,rfl,tO rfl fun i hi=>?_⟩
   ·obtain⟨z,h1,h2⟩:=hq i hi
    simp only[h2,numOf];omega
   ·obtain⟨z,h1,h2⟩:=hq i hi
    simp[h2,numOf,aA]
  ·simp at h
def mh (g:Nat->Nat->dw):List AV->Option dw
 |[a]=>match qT a with
  |some (N,n,q)=>some ⟨(g N n).res,[],q++(g N n).iH⟩
  |none=>none
 |_=>none
def iY (g:Nat->Nat->Nat->Nat->dw):List AV->Option dw
 |[a,b]=>match qT a,qT b with
  |some (A,n,p),some (B,m,q)=>some ⟨(g A n B m).res,[],p++(q++(g A n B m).iH)⟩
  |_,_=>none
 |_=>none
def zE (g:Nat->Nat->Int->dw):List AV->Option dw
 |[a,.int .u32 k]=>match qT a with
  |some (N,n,q)=>some ⟨(g N n k).res,[],q++(g N n k).iH⟩
  |none=>none
 |_=>none
abbrev aH (v:AV) (l:List Prop):dw:=⟨v,[],l⟩
section oks
variable {P:Program} {f:FuncId}
theorem tV {g:Nat->Nat->dw} (h:∀z n K,(∀i,i<n->z i<2^32)->(g (val n z) n).need->aN P f K [.ak 1 n (aA z)] [] (aH (g (val n z) n).res [])):
  ∀K args r,bI args=[]->mh g args=some r->r.post=[]->aN P f K args [] r:=by
 intro K args r hk hs _ need
 match args,hs with
 |[a],hs=>
  simp only[mh]at hs
  split at hs
  ·rename_i N n q hn
   simp only[ax]at hs
   subst hs
   obtain⟨n1,n2⟩:=dN.1 need
   obtain⟨z,hz,rfl,hle⟩:=uP hn n1
   exact eR (h z n K hz n2) hk ⟨hle,trivial⟩ [] trivial
  ·simp at hs
theorem ahX {g:Nat->Nat->Int->dw} (h:∀z n i K,(∀i,i<n->z i<2^32)->(g (val n z) n i).need->aN P f K [.ak 1 n (aA z),.int .u32 i] [] (aH (g (val n z) n i).res [])):
  ∀K args r,bI args=[]->zE g args=some r->r.post=[]->aN P f K args [] r:=by
 intro K args r hk hs _ need
 unfold zE at hs
 split at hs
 ·rename_i a i
  split at hs
  ·rename_i N n q hn
   simp only[ax]at hs
   subst hs
   obtain⟨n1,n2⟩:=dN.1 need
   obtain⟨z,hz,rfl,hle⟩:=uP hn n1
   exact eR (h z n i K hz n2) hk ⟨hle,.refl _,trivial⟩ [] trivial
  ·simp at hs
 ·simp at hs
theorem sC {g:Nat->Nat->Nat->Nat->dw} (h:∀z n y m K,(∀i,i<n->z i<2^32)->(∀i,i<m->y i<2^32)->(g (val n z) n (val m y) m).need->
   aN P f K [.ak 1 n (aA z),.ak 1 m (aA y)] [] (aH (g (val n z) n (val m y) m).res [])):
  ∀K args r,bI args=[]->iY g args=some r->r.post=[]->aN P f K args [] r:=by
 intro K args r hk hs _ need
 match args,hs with
 |[a,b],hs=>
  simp only[iY]at hs
  split at hs
  ·rename_i N n q M m p hn hm
   simp only[ax]at hs
   subst hs
   obtain⟨n1,n4⟩:=dN.1 need
   obtain⟨n2,n3⟩:=dN.1 n4
   obtain⟨z,hz,rfl,hle⟩:=uP hn n1
   obtain⟨y,hy,rfl,hle2⟩:=uP hm n2
   exact eR (h z n y m K hz hy n3) hk ⟨hle,hle2,trivial⟩ [] trivial
  ·simp at hs
theorem bD {P:Program}:bg P []:=fun f s h=>by simp[look]at h
theorem aE {f:FuncId} {s:Spec} {Γ:aV} (h:∀K args pre r,s K args pre=some r->aN P f K args pre r) (hΓ:bg P Γ):bg P ((f,s)::Γ):=by
 intro f' s' hl
 simp only[look]at hl
 split at hl
 ·rename_i he
  have:f=f':=by simpa using he
  subst this
  simp only[ax]at hl
  subst hl
  exact h
 ·exact hΓ f' s' hl
end oks
def cY (a b:Nat):Int:=if a<b then-1 else if b<a then 1 else 0
def bN (N:Nat):Nat:=if N=0 then 0 else N.log2+1
end Go.Am
namespace Go.Am
open AV
def lR (sl:List (Nat×AV)):List ResultVar->Option (List AV)
 |[]=>some []
 |.tmp t::l=>match look t sl,lR sl l with
  |some v,some m=>if v.isTuple then none else some (v::m)
  |_,_=>none
 |_=>none
def Da (fn:Func) (sl:List (Nat×AV)):Option (List AV):=
 match lR sl fn.results.toList with
 |some us=>match bI us with
  |[]=>fh [] us
  |_=>none
 |none=>none
theorem v9 {s:aK} {t:Nat} {v:AV} (hv:v.isTuple=false):∀{ls:List Nat},look t (aG ls (ku s ls))=some v->look t s.cS=some v
 |[],h=>by simp[aG,look]at h
 |x::ls,h=>by
  simp only[ku,aG,look]at h
  split at h
  ·rename_i he
   have:x=t:=by simpa using he
   subst this
   simp only[ax]at h
   subst h
   exact Og hv
  ·exact v9 hv h
theorem CY {T:Types} {s:aK} {ls:List Nat}:∀{l:List ResultVar} {us:List AV},lR (aG ls (ku s ls)) l=some us->g8 T s l=some (us,[])
 |[],us,h=>by simp only[lR,ax]at h;subst h;rfl
 |.tmp t::l,us,h=>by
  simp only[lR]at h
  split at h
  ·rename_i v m hv hm
   split at h
   ·simp at h
   ·rename_i ht
    simp only[ax]at h
    subst h
    simp only[g8,qw,v9 (by simpa using ht) hv,CY hm]
    simp[ht]
  ·simp at h
 |.cell _ _::_,us,h=>by simp[lR]at h
theorem gU {T:Types} {fn:Func} {ls:List Nat} {vs us:List AV} {os:aD} {e:aq} {s':aK} {res:AV} (he:e=.normal\/e=.ret) (hv:bB ls s'=some (vs,os)) (hr:Da fn (aG ls vs)=some us) (hres:fA us res):Fin T fn res e s':=by
 unfold bB at hv
 simp only[ax,Prod.mk.injEq]at hv
 obtain⟨rfl,_⟩:=hv
 unfold Da at hr
 split at hr
 ·rename_i rs hrs
  split at hr
  ·rename_i hk
   refine⟨he,rs,[],us,CY hrs,trivial,?_,hres⟩
   rw[hk];exact hr
  ·simp at hr
 ·simp at hr
theorem agY {P:Program} {f:FuncId} {K es n:Nat} {g:Nat->AV} {l:List AV} {r:dw} (h:∀b,(b=true->n=0)->aN P f K (.eB b es n g::l) [] r):aN P f K (.ak es n g::l) [] r:=by
 intro need
 refine⟨((h false fun h=>by simp at h) need).1,fun c D D' β w vs hw0 hMw hrel hD hK hv=>?_⟩
 match vs,hv with
 |x::xs,hv=>
  obtain⟨⟨cs,h1,h2⟩,h3⟩:=hv
  have:∃b,(b=true->n=0)/\bw (aO c [] β) w β (.eB b es n g) x:=by
   cases h1 with
   |ak g1 g2 g3 g4 g5 g6=>
    rename_i base cap cs' cf
    cases g6
    refine⟨base.isNone,fun hb=>?_,_,.eB rfl g1 g2 g3 g4 g5 .nil,h2⟩
    rcases g1 with g1|⟨b,o,rfl,_⟩
    ·exact g1
    ·simp at hb
  obtain⟨b,hb0,hb⟩:=this
  exact((h b hb0) need).2 c D D' β w (x::xs) hw0 hMw hrel hD hK ⟨hb,h3⟩
theorem GL {z y:Nat->Nat} {k:Nat}:∀{n:Nat},k<n->(∀j,k<j->j<n->z j=y j)->z k<y k->(∀i,i<n->z i<2^32)->val n z<val n y
 |0,h,_,_,_=>aa
 |n+1,h,he,hk,hz=>by
  rw[val,val]
  by_cases hn:k=n
  ·subst hn
   have h1:=ga (z:=z) (n:=k) fun i hi=>hz i aa
   have h2:(z k+1)*2^(32*k)<=y k*2^(32*k):=Nat.mul_le_mul_right _ hk
   rw[Nat.add_mul,Nat.one_mul]at h2
   omega
  ·have:=GL (n:=n) aa (fun j h1 h2=>he j h1 aa) hk fun i hi=>hz i aa
   rw[he n aa aa]
   omega
theorem De {A B:Nat} (hn:nl A=nl B) (h:∀i,i<nl A->aB A i=aB B i):A=B:=by
 rw[<-gq (N:=A),<-gq (N:=B),<-hn]
 exact val_congr h
theorem AU {A B k:Nat} (hn:nl A=nl B) (hk:k<nl A) (h:∀j,k<j->j<nl A->aB A j=aB B j) (hlt:aB A k<aB B k):A<B:=by
 have:=GL (z:=aB A) (y:=aB B) hk h hlt fun i _=>dS
 rw[gq,hn,gq]at this
 exact this
theorem yH {A B:Nat} (h:nl A<nl B):A<B:=by
 rcases Nat.lt_or_ge A B with h1|h1
 ·exact h1
 ·have:=iC h1;omega
theorem fP {ρ:Nat->Option Nat} {r w:Bool} {n m:Nat} {f:Nat->AV} {o:Nat->Nat} (hn:m=n) (h:∀j,j<n->f j=aA o j):eA ρ ⟨r,w,1,n,f⟩ ⟨r,w,1,m,aA o⟩:=
 jm hn fun j hj=>by rw[h j hj];exact gu rfl
def cE (o:Nat->Nat) (i x:Nat):Nat->Nat:=fun j=>if j=i then x else o j
theorem kB {o:Nat->Nat} {i x:Nat}:cE o i x i=x:=if_pos rfl
theorem fS {o:Nat->Nat} {i x j:Nat} (h:j≠i):cE o i x j=o j:=if_neg h
theorem iS {o:Nat->Nat} {i x b:Nat} {n:Nat} (hx:x<b) (ho:∀j,j<n->o j<b):∀j,j<n->cE o i x j<b:=fun j hj=>by
 unfold cE
 split
 ·exact hx
 ·exact ho j hj
theorem hU {o:Nat->Nat} {i x:Nat} {v:Int} (hv:v=(x:Nat)) (j:Nat):(if j=i then AV.int .u32 v else aA o j)=aA (cE o i x) j:=by
 unfold aA cE
 split
 ·rw[hv]
 ·rfl
theorem qc {o:Nat->Nat} {i x:Nat}:∀{n:Nat},i<n->o i=0->val n (cE o i x)=val n o+x*2^(32*i)
 |0,h,_=>aa
 |n+1,h,h0=>by
  rw[val,val]
  by_cases hn:i=n
  ·subst hn
   rw[kB,h0,val_congr (y:=o) fun j hj=>fS aa]
   omega
  ·rw[qc (n:=n) aa h0,fS aa]
   omega
theorem rN {o:Nat->Nat} {i x:Nat}:val (i+1) (cE o i x)=val i o+x*2^(32*i):=by
 rw[val,kB,val_congr (y:=o) fun j hj=>fS aa]
theorem ue {x k:Nat} (h:2^k<=x):bN x=k+bN (x/2^k):=by
 have hk:=Nat.two_pow_pos k
 have h0:x≠0:=aa
 have h1:x/2^k≠0:=by
  have:=(Nat.le_div_iff_mul_le hk (x:=1) (y:=x)).2 aa
  omega
 unfold bN
 rw[if_neg h0,if_neg h1]
 have:x.log2=k+(x/2^k).log2:=by
  obtain⟨g1,g2⟩:=(Nat.log2_eq_iff h1).1 rfl
  rw[Nat.log2_eq_iff h0]
  refine⟨?_,?_⟩
  ·rw[Nat.pow_add,Nat.mul_comm]
   exact(Nat.le_div_iff_mul_le hk).1 g1
  ·rw[show k+(x/2^k).log2+1=((x/2^k).log2+1)+k by omega,Nat.pow_add]
   exact(Nat.div_lt_iff_lt_mul hk).1 g2
 omega
theorem ki {x k:Nat}:bN x<=k↔x<2^k:=by
 unfold bN
 split
 ·rename_i h;subst h;simp[Nat.two_pow_pos]
 ·rename_i h;rw[<-Nat.log2_lt h];omega
theorem G8 {N:Nat} (h:N≠0):bN N=32*(nl N-1)+bN (aB N (nl N-1)):=by
 have hp:=gE.2 h
 have h1:2^(32*(nl N-1))<=N:=by
  rcases Nat.lt_or_ge N (2^(32*(nl N-1)))with h1|h1
  ·have:=dL.2 h1;omega
  ·exact h1
 have h2:N/2^(32*(nl N-1))<2^32:=by
  rw[Nat.div_lt_iff_lt_mul (Nat.two_pow_pos _),<-Nat.pow_add]
  have:=nj (N:=N)
  rw[show 32+32*(nl N-1)=32*nl N by omega]
  exact this
 rw[ue h1,aB,Nat.mod_eq_of_lt h2]
theorem EM {o:Nat->Nat} {i x:Nat}:∀{n:Nat},i<n->val n (cE o i x)+o i*2^(32*i)=val n o+x*2^(32*i)
 |0,h=>aa
 |n+1,h=>by
  rw[val,val]
  by_cases hn:i=n
  ·subst hn
   rw[kB,val_congr (y:=o) fun j hj=>fS aa]
   omega
  ·have:=EM (o:=o) (x:=x) (n:=n) (i:=i) aa
   rw[fS (show n≠i by omega)]
   omega
theorem ay.o9 {P:Program} {c:Ctx} {nt:Nat} {s:aK} {Q:aq->aK->Prop} {x y:Code} {i:Nat} (hx:x=.block i y) (h:ay P c nt y s (inBlock i Q)):ay P c nt x s Q:=hx▸.BS h
theorem Lz {c x y o:Nat} (hc:c<2^32) (hx:x<2^32) (hy:y<2^32) (ho:o<2^32):
  IntKind.u64.wrap ((c:Int)+IntKind.u64.wrap (IntKind.u64.wrap (IntKind.u64.wrap (x:Int)*IntKind.u64.wrap (y:Int))+IntKind.u64.wrap (o:Int)))=((c+x*y+o:Nat):Int)/\
   c+x*y+o<2^64/\(c+x*y+o)/4294967296<2^32:=by
 have h1:x*y<=(2^32-1)*(2^32-1):=Nat.mul_le_mul aa aa
 have e:(x:Int)*(y:Int)=((x*y:Nat):Int):=by simp
 rw[cw (x:=(x:Int)) aa aa,cw (x:=(y:Int)) aa aa,cw (x:=(o:Int)) aa aa,e]
 generalize x*y=p at*
 refine⟨?_,aa,aa⟩
 rw[cw (x:=(p:Int)) aa aa,cw (x:=(p:Int)+o) aa aa,cw aa aa]
 omega
theorem JY {vo vo' oi c x yj B s q r v Bi Bj vy:Nat} (hs:s=c+x*yj+oi) (hq:4294967296*q+r=s) (hset:vo'+oi*B=vo+r*B) (hB:B=Bi*Bj) (h:vo+c*B=v+x*vy*Bi):
  vo'+q*(4294967296*B)=v+x*(vy+yj*Bj)*Bi:=by
 subst hB
 have e:(4294967296*q+r)*(Bi*Bj)=(c+x*yj+oi)*(Bi*Bj):=by rw[hq,hs]
 grind
theorem nR {P:Program} {f:FuncId} {K:Nat} {args:List AV} {u v:AV} {l l':List Prop} (hf:aN P f K args [] ⟨u,[],l⟩) (hl:au l'->au l) (hk:keys u=[]) (ht:u.isTuple=false) (hle:bp u v):aN P f K args [] ⟨v,[],l'⟩:=by
 intro need
 obtain⟨h1,h2⟩:=hf (hl need)
 refine⟨fun k o ho=>by simp[look]at ho,fun c D D' β w vs hw0 hMw hrel hD hK hv=>(h2 c D D' β w vs hw0 hMw hrel hD hK hv).mono ?_⟩
 rintro x w' ⟨β',g1,g2,g3⟩
 refine⟨β',g1,g2,?_⟩
 have h3:cH _ w' β' [u] [x]:=⟨bJ.one g3 ht,trivial⟩
 have h4:=sw (us:=[u]) (vs:=[v]) ⟨hle,trivial⟩ (h3.bt (by rw[Ej];exact hk))
 have h5:=h4.mono (fun b o h1 h2=>⟨h2,h1⟩) (β':=β') fun k x hx=>by simp[bt]at hx
 exact bw.bP h5.1
theorem y6 {i:Nat} {Q:aq->aK->Prop} {s:aK} (h:Q .normal s):inBlock i Q (.exit i) s:=by
 simp only[inBlock,if_true];exact h
theorem fK {i:Nat} {k:aK->Prop} {Q:aq->aK->Prop} {s:aK} (h:Q .normal s):ey k (inBlock i Q) (.exit i) s:=by
 show inBlock i Q (.exit i) s
 exact y6 h
theorem qq {i:Nat} {k:aK->Prop} {Q:aq->aK->Prop} {s:aK} (h:Q (.exit i) s):ey k Q (.exit i) s:=h
theorem Oe {i:Nat} {k:aK->Prop} {Q:aq->aK->Prop} {s:aK} (h:Q .ret s):ey k (inBlock i Q) .ret s:=h
theorem fI {k:aK->Prop} {Q:aq->aK->Prop} {s:aK} (h:Q .ret s):ey k Q .ret s:=h
theorem BB {s:aK}:∀{a b:List Nat},ku s (a++b)=ku s a++ku s b
 |[],_=>rfl
 |x::a,b=>by simp only[List.cons_append,ku,BB]
theorem Ew {s:aK}:∀{a:List Nat},(ku s a).length=a.length
 |[]=>rfl
 |x::a=>by simp only[ku,List.length_cons,Ew]
theorem NV {a b:List AV}:bI (a++b)=bI a++bI b:=by
 induction a with
 |nil=>rfl
 |cons x a ih=>simp only[List.cons_append,bI,ih,List.append_assoc]
theorem jI {s:aK} {ls l:List Nat} {vs us:List AV} {os:aD} (hv:bB (ls++l) s=some (vs++us,os)) (hl:vs.length=ls.length) (hk:bI us=[]):bB ls s=some (vs,os):=by
 unfold bB at hv ⊢
 simp only[ax,Prod.mk.injEq,BB]at hv ⊢
 obtain⟨h1,h2⟩:=hv
 obtain⟨h3,h4⟩:=List.append_inj h1 (by rw[Ew,hl])
 subst h3
 refine⟨rfl,?_⟩
 rw[<-h2,h4,NV,hk,List.append_nil]
mutual
def zeroCells:AV->Option (List Value)
 |.bool b=>some [.bool b]
 |.int k n=>some [.int k n]
 |.nil=>some [.slice none 0 0]
 |.rat q n=>if q=0/\n=1 then some [.bool false,.slice none 0 0,.slice none 0 0]else none
 |.agg l=>sn l
 |_=>none
def sn:List AV->Option (List Value)
 |[]=>some []
 |a::l=>match zeroCells a,sn l with
  |some c,some d=>some (c++d)
  |_,_=>none
end
mutual
theorem BQ {M:Nat->Prop} {w:World} {β:aZ}:∀{v:AV} {cs:List Value},zeroCells v=some cs->aQ M w β [v] cs
 |.bool b,cs,h=>by simp only[zeroCells,ax]at h;subst h;exact .bool .nil
 |.int k n,cs,h=>by simp only[zeroCells,ax]at h;subst h;exact .int .nil
 |.nil,cs,h=>by simp only[zeroCells,ax]at h;subst h;exact .vnil .nil
 |.rat q n,cs,h=>by
  simp only[zeroCells]at h
  split at h
  ·rename_i hq
   obtain⟨rfl,rfl⟩:=hq
   simp only[ax]at h
   subst h
   have h0:aQ M w bt [.mag 0] [.slice none 0 0]:=by
    have:=aQ.mag (M:=M) (w:=w) (β:=bt) (N:=0) (base:=none) (cap:=0) (.inl rfl) (by simp[uc]) .nil
    simpa [uc]using this
   have:=aQ.rat (M:=M) (w:=w) (β:=β) (q:=0) (n:=1) (x:=.slice none 0 0) (y:=.slice none 0 0) (l:=[]) (cs:=[]) ⟨by decide,by decide⟩ (by simpa using h0) (by simpa using h0) .nil
   simpa using this
  ·simp at h
 |.agg l,cs,h=>by
  simp only[zeroCells]at h
  simpa using aQ.agg (MD h) .nil
 |.mag _,cs,h=>by simp[zeroCells]at h
 |.ak _ _ _,cs,h=>by simp[zeroCells]at h
 |.eB _ _ _ _,cs,h=>by simp[zeroCells]at h
 |.bn _,cs,h=>by simp[zeroCells]at h
 |.ptr _ _ _ _ _,cs,h=>by simp[zeroCells]at h
 |.own _ _ _ _,cs,h=>by simp[zeroCells]at h
 |.func _ _,cs,h=>by simp[zeroCells]at h
 |.tuple _,cs,h=>by simp[zeroCells]at h
 |.bS _ _,cs,h=>by simp[zeroCells]at h
theorem MD {M:Nat->Prop} {w:World} {β:aZ}:∀{l:List AV} {cs:List Value},sn l=some cs->aQ M w β l cs
 |[],cs,h=>by simp only[sn,ax]at h;subst h;exact .nil
 |a::l,cs,h=>by
  simp only[sn]at h
  cases ha:zeroCells a with
  |none=>rw[ha]at h;simp at h
  |some c=>
   cases hl:sn l with
   |none=>rw[ha,hl]at h;simp at h
   |some d=>
    rw[ha,hl]at h
    simp only[ax]at h
    subst h
    exact(BQ ha).cons (MD hl)
end
def Cv (v:AV):Option Value:=
 match zeroCells v with
 |some cs=>if v.isAgg then some (.agg cs.toArray)else match cs with
  |[x]=>some x
  |_=>none
 |none=>none
theorem de {P:Program} {t:TypeId} {ti:TI} (h1:P.underlying t=some ti.desc) (h2:(P.info? t).map (fun i=>(i.size,i.bytes,i.zero))=some (ti.size,ti.bytes,Cv ti.zero))
  (h3:(Cv ti.zero).isSome=true):bZ P t ti:=by
 cases hi:P.info? t with
 |none=>rw[hi]at h2;simp at h2
 |some i=>
  rw[hi]at h2
  simp only[Option.map_some,ax,Prod.mk.injEq]at h2
  refine⟨h1,⟨i,hi,h2.1,h2.2.1⟩,fun _=>?_⟩
  obtain⟨z,hz⟩:=Option.isSome_iff_exists.1 h3
  refine⟨i,z,hi,by rw[h2.2.2,hz],fun M w β=>?_⟩
  unfold Cv at hz
  cases hc:zeroCells ti.zero with
  |none=>rw[hc]at hz;simp at hz
  |some cs=>
   rw[hc]at hz
   simp only at hz
   split at hz
   ·rename_i ha
    simp only[ax]at hz
    subst hz
    exact .xd (BQ hc) ha
   ·rename_i ha
    split at hz
    ·simp only[ax]at hz
     subst hz
     exact .cz (BQ hc) (by simpa using ha)
    ·simp at hz
theorem jF {P:Program} {t:TypeId} {ti:TI} (h1:P.underlying t=some ti.desc) (h2:(P.info? t).map (fun i=>(i.size,i.bytes))=some (ti.size,ti.bytes)) (h3:ti.zero=.tuple []):bZ P t ti:=by
 cases hi:P.info? t with
 |none=>rw[hi]at h2;simp at h2
 |some i=>
  rw[hi]at h2
  simp only[Option.map_some,ax,Prod.mk.injEq]at h2
  exact⟨h1,⟨i,hi,h2.1,h2.2⟩,fun h=>by rw[h3]at h;simp[isTuple]at h⟩
theorem aex {P:Program} {t:TypeId} {ti:TI} (h1:P.underlying t=some ti.desc) (h2:(P.info? t).map (fun i=>(i.size,i.bytes,i.zero))=some (ti.size,ti.bytes,some .nilFunc)) (h3:ti.zero=.void):bZ P t ti:=by
 cases hi:P.info? t with
 |none=>rw[hi]at h2;simp at h2
 |some i=>
  rw[hi]at h2
  simp only[Option.map_some,ax,Prod.mk.injEq]at h2
  refine⟨h1,⟨i,hi,h2.1,h2.2.1⟩,fun _=>⟨i,.nilFunc,hi,h2.2.2,fun M w β=>?_⟩⟩
  rw[h3]
  exact⟨[.nilFunc],.void rfl .nil,.inr ⟨rfl,rfl⟩⟩
theorem adM {P:Program}:dJ P []:=fun t ti h=>by simp[look]at h
theorem cA {P:Program} {t:TypeId} {ti:TI} {T:Types} (h:bZ P t ti) (hT:dJ P T):dJ P ((t,ti)::T):=by
 intro t' ti' ht
 simp only[look]at ht
 split at ht
 ·rename_i he
  have:t=t':=by simpa using he
  subst this
  simp only[ax]at ht
  subst ht
  exact h
 ·exact hT t' ti' ht
end Go.Am
namespace Go.Am
open AV
theorem cH.length {M:Nat->Prop} {w:World} {β:aZ}:∀{us:List AV} {xs:List Value},cH M w β us xs->us.length=xs.length
 |[],[],_=>rfl
 |_::_,_::_,h=>by simp[cH.length h.2]
 |[],_::_,h=>h.elim
 |_::_,[],h=>h.elim
theorem cH.weak {c c':Ctx} {β β2:aZ} {w:World} {ρ:Nat->Option Nat} {M M':Nat->Prop} (hM:∀b,M' b->M b) (hβ:∀k2 k1,ρ k2=some k1->β2 k2=β k1):∀{us vs:List AV} {xs:List Value},fU ρ us vs->cH M w β us xs->cH M' w β2 vs xs
 |[],[],[],_,_=>trivial
 |u::us,v::vs,x::xs,h,hv=>⟨hv.1.weak hM hβ h.1.2,cH.weak (c:=c) (c':=c') hM hβ h.2 hv.2⟩
 |[],_::_,_,h,_=>h.elim
 |_::_,[],_,h,_=>h.elim
 |_::_,_::_,[],_,h=>h.elim
 |[],[],_::_,_,h=>h.elim
theorem Yc {nx:Nat} {rl:List (Nat×Nat)} (hr:jn nx rl=true):∀a b k,bA rl a=some k->bA rl b=some k->a=b:=by
 intro a b k ha hb
 have:=List.all_eq_true.1 hr _ (mo ha)
 simp only[Bool.and_eq_true,bz]at this
 simpa using List.all_eq_true.1 this.2 _ (mo hb)
theorem Lh {nx:Nat} {rl:List (Nat×Nat)} (hr:jn nx rl=true) {a k:Nat} (ha:bA rl a=some k):a<nx:=by
 have:=List.all_eq_true.1 hr _ (mo ha)
 simp only[Bool.and_eq_true,bz]at this
 exact this.1
theorem adE {M:Nat->Prop} {w:World} {β:aZ} {us:List AV} {xs:List Value} (h:cH M w β us xs):bJ M w β (jx us) (if h:xs.length=1 then xs.toArray[0]'(by simpa using(show 0<xs.length by omega))else .tuple xs.toArray):=by
 have hl:=h.length
 match us,xs,h,hl with
 |[],[],_,_=>exact⟨[],rfl,trivial⟩
 |[u],[x],h,_=>exact h.1.bP
 |u::u'::us,x::x'::xs,h,_=>simp only[List.length_cons,Nat.add_eq_right,Nat.add_eq_zero_iff,Nat.succ_ne_zero,and_false,dite_false];exact⟨_,rfl,h⟩
section core
variable {P:Program} {T:Types}
structure ze (T:Types) (fn:Func) (τ:Nat->Option Nat) (pre:aD) (r:dw) (s:aK):Prop where
 ends:Ends T fn r.res s
 Cb:∀k o,look k (cN (gb r.post) pre)=some o->∃k1 o1,τ k=some k1/\look k1 s.store=some o1/\o1.row=false/\eA τ o1 o
structure uh (T:Types) (fn:Func) (τ:Nat->Option Nat) (pre:aD) (r:dw) (s:aK):Prop where
 ends:∃vs q us,g8 T s fn.results.toList=some (vs,q)/\au q/\fU τ vs us/\r.res=jx us
 Cb:∀k o,look k (cN (gb r.post) pre)=some o->∃k1 o1,τ k=some k1/\look k1 s.store=some o1/\eA τ o1 o
structure tN (rl:List (Nat×Nat)) (K:Nat) (pre:aD) (τ:Nat->Option Nat):Prop where
 inj:∀a b k,τ a=some k->τ b=some k->a=b
 dom:∀k a,τ k=some a->bA rl a=some k\/(K<=k/\k<K+cR)
theorem Ti (hT:dJ P T) {f:FuncId} {fn:Func} {x:Code} (hf:iW P f fn x) {args args0:List AV} {pre pre0:aD} {r:dw} {K nx:Nat} (rl:List (Nat×Nat)) (hlen:args0.length<=fn.ntmps) (hr:jn nx rl=true)
  (ha:fU (bA rl) args args0) (hp:nH (bA rl) pre pre0) (hrl:∀a k,bA rl a=some k->∃o,look k pre=some o)
  (hpost:∀k o,look k r.post=some o->(∃o',look k pre=some o')\/(K<=k/\k<K+cR))
  (h:r.need->∀c:Ctx,c.ro=none->(∀k x,c.k0 k=some x->(bA rl k).isSome=true)->ay P c fn.ntmps x ⟨aS 0 args0,pre0,nx⟩ fun e s'=>(e=.normal\/e=.ret)/\∃τ,tN rl K pre τ/\(ze T fn τ pre r s'\/uh T fn τ pre r s')):aN P f K args pre r:=by
 intro need
 refine⟨hpost,fun c D D' β w vs hw0 hMw hrel hD hK hv=>.inl ⟨fn,hf.get,hf.name,by simp[hf.body],?_⟩⟩
 have hobj0:=AQ hp
 have hβ0:∀k2 k1,bA rl k2=some k1->(fun a=>(bA rl a).bind β) k2=β k1:=fun k2 k1 h=>by simp[h]
 have hW:bu {c with k0:=fun a=>(bA rl a).bind β,ro:=none} pre0 (fun k=>k<nx) (fun a=>(bA rl a).bind β) w:=by
  refine hrel.weak (c':={c with k0:=fun a=>(bA rl a).bind β,ro:=none}) (ρ:=bA rl) rfl rfl rfl (Yc hr) (fun k o h=>.inl (hobj0 k o h)) hβ0 (fun k2 k1 h=>Lh hr h) (fun k2 x hk=>?_) (fun k2 b N hk=>?_) (fun k x hk=>hk)
  ·cases h1:bA rl k2 with
   |none=>simp[h1]at hk
   |some k1=>exact Lh hr h1
  ·cases h1:bA rl k2 with
   |none=>simp[h1]at hk
   |some k1=>simp[h1]at hk;exact hrel.lt k1 b N hk
 have hv0:cH (aO {c with k0:=fun a=>(bA rl a).bind β,ro:=none} pre0 (fun a=>(bA rl a).bind β)) w (fun a=>(bA rl a).bind β) args0 vs:=
  hv.weak (c:=c) (c':=c) (ρ:=bA rl) (yz rfl (fun k o h=>.inl (hobj0 k o h)) hβ0) hβ0 ha
 have hl0:=hv0.length
 have hstart:Rel {c with k0:=fun a=>(bA rl a).bind β,ro:=none} fn.ntmps (fun k=>k<nx) (aS 0 args0) pre0 {tmps:=vs.toArray++Array.replicate (fn.ntmps-vs.toArray.size) undef,defers:=[]} w:=by
  refine⟨.nil,by simp;omega,_,hW,?_⟩
  have:=A2 (pre:=#[]) (post:=Array.replicate (fn.ntmps-vs.toArray.size) undef) hv0 rfl
  simpa using this
 refine callsIn_wide.1 (callsIn_of_wp_marks (F:=Fence.wide) (n:=3) hf.get hf.body trivial (wpIn_mono (h need {c with k0:=fun a=>(bA rl a).bind β,ro:=none} rfl (fun k x hk=>by
  cases h1:bA rl k with
  |none=>simp[h1]at hk
  |some k1=>rfl) _ w hstart) ?_))
 rintro e a' w9 ⟨ae,s',rfl,hr9,hex,τ,hτ,hends⟩
 obtain⟨w',hr',hleave⟩:=Rel.leave (P:=P) (fn:=fn) (R:=fun e w'=>∃x,e=.returned x/\eW c pre D' β w (gb r.post) r.res x w') hr9
 -- what the end gives, in the function's own keys
 have hfin:∃x β1 st1,(results fn a'.tmps).run P w'=.ok x w'/\bu {c with k0:=fun a=>(bA rl a).bind β,ro:=none} st1 (fun k=>k<s'.next) β1 w'/\
   (∀k o,look k (cN (gb r.post) pre)=some o->∃k1 o1,τ k=some k1/\look k1 st1=some o1/\eA τ o1 o)/\
   bJ (aO {c with k0:=fun a=>(bA rl a).bind β,ro:=none} st1 β1) w' (fun k=>(τ k).bind β1) r.res x:=by
  rcases hends with hends|hends
  ·obtain⟨hdef,x,β1,st1,hrun,hw1,hvx,hrow⟩:=Jx hT hends.ends hr'
   refine⟨x,β1,st1,hrun,hw1,fun k o hk=>?_,hvx.mono (fun b o h1 h2=>⟨h2,h1⟩) fun k x hk=>by simp[bt]at hk⟩
   obtain⟨k1,o1,g1,g2,g3,g4⟩:=hends.Cb k o hk
   exact⟨k1,o1,g1,hrow k1 o1 g2 g3,g4⟩
  ·obtain⟨a1,a2,β1,a3,a4⟩:=hr'
   obtain⟨vs1,q,us,h1,hq,h2,h3⟩:=hends.ends
   obtain⟨xs,hxs,hv,hlen⟩:=CI hT a3 a4 (g:=fun x=>match x with
    |ResultVar.tmp t=>pure (a'.tmps.getD t undef)
    |ResultVar.cell r t=>do let y <-asAddr (a'.tmps.getD r undef);loadVar t y) (fun _=>rfl) (fun _ _=>rfl) h1 hq
   refine⟨if h:xs.length=1 then xs.toArray[0]'(by simpa using(show 0<xs.length by omega))else .tuple xs.toArray,β1,s'.store,?_,a3,hends.Cb,?_⟩
   ·have key:results fn a'.tmps=(do
      let vs <-fn.results.mapM fun x=>match x with
       |ResultVar.tmp t=>pure (a'.tmps.getD t undef)
       |ResultVar.cell r t=>do let y <-asAddr (a'.tmps.getD r undef);loadVar t y
      pure (if h:vs.size=1 then vs[0]else Value.tuple vs)):=rfl
    rw[key,Sem.run_bind,Array.mapM_eq_mapM_toList,Sem.run_map,hxs]
    simp only[Result.andThen_ok,Sem.run_pure]
    congr 1
   ·rw[h3]
    exact adE (hv.weak (c:=c) (c':=c) (ρ:=τ) (fun _ h=>h) (fun k2 k1 h=>by simp[h]) h2)
 obtain⟨x,β1,st1,hrun,hw1,hobj1,hvx⟩:=hfin
 have hkeep1:∀k a,τ k=some a->∀y,β k=some y->β1 a=some y:=by
  intro k a hka y hy
  rcases hτ.dom k a hka with h1|⟨h1,h2⟩
  ·exact hw1.keep a y (by simp only[h1,Option.bind_some];exact hy)
  ·exact absurd (hrel.dom k y hy) (hK k h1 h2).1
 have hβ2:∀k2 k1,τ k2=some k1->(fun k=>match τ k with
   |some a=>β1 a
   |none=>β k) k2=β1 k1:=fun k2 k1 h=>by simp[h]
 have hW2:bu c (cN (gb r.post) pre) D' (fun k=>match τ k with
   |some a=>β1 a
   |none=>β k) w':=by
  have hd2:∀k2 a,τ k2=some a->D' k2:=fun k2 a ha=>by
   rcases hτ.dom k2 a ha with h1|⟨h1,h2⟩
   ·obtain⟨o,ho⟩:=hrl a k2 h1
    cases hb:β k2 with
    |some x=>exact hD _ (hrel.dom k2 _ hb)
    |none=>exact hD _ (hrel.dM k2 o ho hb).2
   ·exact(hK k2 h1 h2).2
  refine hw1.weak (c':=c) (ρ:=τ) rfl rfl rfl hτ.inj (fun k o h=>.inl (hobj1 k o h)) hβ2 hd2 (fun k2 y hk=>?_) (fun k2 b N hk=>?_) (fun k y hk=>?_)
  ·split at hk
   ·rename_i a ha
    exact hd2 k2 a ha
   ·exact hD _ (hrel.dom k2 y hk)
  ·split at hk
   ·exact hw1.lt _ b N hk
   ·exact Nat.lt_of_lt_of_le (hrel.lt k2 b N hk) (by have:=hw1.size;rw[<-hw0];exact this)
  ·have hy:=hrel.keep k y hk
   split
   ·rename_i a ha
    exact hkeep1 k a ha y hy
   ·exact hy
 have hO:eW c pre D' β w (gb r.post) r.res x w':=by
  refine⟨_,hW2,⟨fun b o hb ho=>?_,fun k y hk=>?_⟩,?_⟩
  ·have hlt:b<c.w0.heap.size:=by rw[hw0];exact kM ho
   have hmw:¬c.Mw b:=fun hm=>hb (hMw b hm)
   refine⟨?_,?_⟩
   ·rw[hw1.block b hlt hmw]
    show c.w0.heap[b]?=_
    rw[hw0];exact ho
   ·rintro(hm|⟨k,o',N,h1,h2,h3⟩)
    ·exact hb (.inl hm)
    ·rcases hW2.new k o' b N h1 h2 h3 with h4|h4
     ·omega
     ·exact hmw h4
  ·split
   ·rename_i a ha
    exact hkeep1 k a ha y hk
   ·exact hk
  ·refine hvx.mono (fun b o h1 h2=>⟨h2,fun h3=>h1 (yz (c:={c with k0:=fun a=>(bA rl a).bind β,ro:=none}) rfl (fun k o h=>.inl (hobj1 k o h)) hβ2 b h3)⟩) (fun k y hk=>?_)
   cases h1:τ k with
   |none=>simp[h1]at hk
   |some a=>simpa [h1]using hk
 rcases hex with rfl|rfl
 ·exact hleave x hrun ⟨x,rfl,hO⟩
 ·exact hleave x hrun ⟨x,rfl,hO⟩
theorem nW (hT:dJ P T) {f:FuncId} {fn:Func} {x:Code} (hf:iW P f fn x) {args args0:List AV} {pre pre0:aD} {r:dw} {K nx:Nat} (rl:List (Nat×Nat)) (hlen:args0.length<=fn.ntmps) (hr:jn nx rl=true)
  (ha:fU (bA rl) args args0) (hp:nH (bA rl) pre pre0) (hrl:∀a k,bA rl a=some k->∃o,look k pre=some o)
  (hpost:∀k o,look k r.post=some o->(∃o',look k pre=some o')\/(K<=k/\k<K+cR))
  (h:r.need->∀c:Ctx,(∀k x,c.k0 k=some x->(bA rl k).isSome=true)->ay P c fn.ntmps x ⟨aS 0 args0,pre0,nx⟩ fun e s'=>(e=.normal\/e=.ret)/\∃τ,tN rl K pre τ/\(ze T fn τ pre r s'\/uh T fn τ pre r s')):aN P f K args pre r:=
 Ti hT hf rl hlen hr ha hp hrl hpost fun need c _=>h need c
end core
def j6 (nx:Nat) (vs:List AV):Bool:=(vs.all fun v=>!v.isTuple)&&(bI vs).all fun k=>decide (k<nx)
def iP (nx:Nat):aD->Prop
 |[]=>True
 |(k,o)::l=>(k<nx/\∀i,i<o.len->keys (o.f i)=[])/\iP nx l
theorem Fo {nx:Nat}:∀{os:aD},iP nx os->∀{k:Nat} {o:az},look k os=some o->k<nx/\∀i,i<o.len->keys (o.f i)=[]
 |[],_,k,o,h=>by simp[look]at h
 |(j,b)::l,h,k,o,hk=>by
  simp only[look]at hk
  split at hk
  ·rename_i he
   have:j=k:=by simpa using he
   subst this
   simp only[ax]at hk
   subst hk
   exact h.1
  ·exact Fo h.2 hk
theorem Hu {nx:Nat} {u:AV} (hk:∀k∈keys u,k<nx):gV (fun k=>if k<nx then some k else none) u u:=by
 refine⟨rfl,fun M w β cs hc=>?_⟩
 have gen:∀{l:List AV} {cs:List Value},aQ M w β l cs->(∀k∈bI l,k<nx)->aQ M w (fun k=>(if k<nx then some k else none).bind β) l cs:=by
  intro l cs h
  generalize hβ:β=β' at h
  induction h with
  |nil=>exact fun _=>.nil
  |bool _ ih=>exact fun h=>.bool (ih hβ (by simpa [bI,keys]using h))
  |int _ ih=>exact fun h=>.int (ih hβ (by simpa [bI,keys]using h))
  |rat hs h1 h2 _ _ _ ih=>exact fun h=>.rat hs h1 h2 (ih hβ (by simpa [bI,keys]using h))
  |mag h1 h2 _ ih=>exact fun h=>.mag h1 h2 (ih hβ (by simpa [bI,keys]using h))
  |agg _ _ ih1 ih2=>exact fun h=>.agg (ih1 hβ fun k hk=>h k (by simp only[bI,keys];exact List.mem_append_left _ hk)) (ih2 hβ fun k hk=>h k (by simp only[bI];exact List.mem_append_right _ hk))
  |ak h1 h2 h3 h4 h5 _ _ ih=>exact fun h=>.ak h1 h2 h3 h4 h5 (ih hβ (by simpa [bI,keys]using h))
  |eB hq h1 h2 h3 h4 h5 _ _ ih=>exact fun h=>.eB hq h1 h2 h3 h4 h5 (ih hβ (by simpa [bI,keys]using h))
  |vnil _ ih=>exact fun h=>.vnil (ih hβ (by simpa [bI,keys]using h))
  |void hx _ ih=>exact fun h=>.void hx (ih hβ (by simpa [bI,keys]using h))
  |str _ ih=>exact fun h=>.str (ih hβ (by simpa [bI,keys]using h))
  |bn h1 h2 _ _ ih=>exact fun h=>.bn h1 h2 (ih hβ (by simpa [bI,keys]using h))
  |@ptr _ k _ _ _ _ _ _ _ _ hk _ ih=>
   intro h
   have:k<nx:=h k (by simp[bI,keys])
   exact .ptr (by simp only[this,if_true,Option.bind_some];rw[<-hβ]at hk ⊢;exact hk) (ih hβ fun k hk=>h k (by simp only[bI];exact List.mem_append_right _ hk))
  |@own _ k _ _ _ _ _ _ _ _ _ hk h1 h2 h4 h3 _ ih=>
   intro h
   have:k<nx:=h k (by simp[bI,keys])
   exact .own (by simp only[this,if_true,Option.bind_some];rw[<-hβ]at hk ⊢;exact hk) h1 h2 h4 h3 (ih hβ fun k hk=>h k (by simp only[bI];exact List.mem_append_right _ hk))
  |own0 h3 _ ih=>exact fun h=>.own0 h3 (ih hβ fun k hk=>h k (by simp only[bI];exact List.mem_append_right _ hk))
  |bS ha _ _ ih1 ih2=>exact fun h=>.bS ha (ih1 hβ fun k hk=>h k (by simp only[bI,keys,List.append_nil]at hk ⊢;exact List.mem_append_left _ hk)) (ih2 hβ fun k hk=>h k (by simp only[bI];exact List.mem_append_right _ hk))
  |func _ hc _ ih1 ih2=>exact fun h=>.func (ih1 hβ fun k hk=>h k (by simp only[bI,keys];exact List.mem_append_left _ hk)) hc (ih2 hβ fun k hk=>h k (by simp only[bI];exact List.mem_append_right _ hk))
 exact gen hc fun k h=>hk k (by rw[Ej]at h;exact h)
theorem KE {nx:Nat}:∀{vs:List AV},j6 nx vs=true->fU (fun k=>if k<nx then some k else none) vs vs
 |[],_=>trivial
 |v::vs,h=>by
  simp only[j6,List.all_cons,bI,List.all_append,Bool.and_eq_true,Bool.not_eq_true']at h
  obtain⟨⟨h1,h2⟩,h3,h4⟩:=h
  refine⟨⟨h1,Hu fun k hk=>by simpa using List.all_eq_true.1 h3 k hk⟩,KE ?_⟩
  simp only[j6,Bool.and_eq_true]
  exact⟨h2,h4⟩
theorem nQ {c:Ctx} {s':aK} {ls:List Nat} {vs:List AV} {os:aD} {nx:Nat} (hv:bB ls s'=some (vs,os)) (h0:∀k x,c.k0 k=some x->k<nx) (hok:j6 nx vs=true) (ho:iP nx os):∃ρ,Le c ρ s' ⟨aG ls vs,os,nx⟩:=by
 unfold bB at hv
 simp only[ax,Prod.mk.injEq]at hv
 obtain⟨rfl,rfl⟩:=hv
 refine⟨fun k=>if k<nx then some k else none,?_,AL (KE hok),fun k2 o2 hk=>?_,fun k2 k1 hk=>?_,fun k x hk=>by simp[h0 k x hk]⟩
 ·intro a b k ha hb
  split at ha<;>split at hb<;>simp_all
 ·obtain⟨h1,h2⟩:=Fo ho hk
  refine .inl ⟨k2,o2,by simp[h1],?_,⟨rfl,rfl,rfl,rfl,fun i hi=>Hu fun k hk=>by rw[h2 i hi]at hk;simp at hk⟩⟩
  rw[lT]at hk
  split at hk
  ·exact hk
  ·simp at hk
 ·split at hk
  ·assumption
  ·simp at hk
section rules
variable {P:Program} {c:Ctx} {nt:Nat} {s:aK} {Q:aq->aK->Prop} {T:Types} {Γ:aV}
theorem ay.iF {x y:Code} {i:Nat} (hx:x=.block i (.loop y)) (ls:List Nat) (nx:Nat) (h0:∀k x,c.k0 k=some x->k<nx) {α:Type} (vs:α->List AV) (os:α->aD) (hok:∀a,j6 nx (vs a)=true) (ho:∀a,iP nx (os a)) (I:α->Prop) (μ:α->Nat) (j:α)
  (hv:bB ls s=some (vs j,os j)) (hI:I j)
  (round:∀j,I j->ay P c nt y ⟨aG ls (vs j),os j,nx⟩ (ey (fun s'=>∃k,bB ls s'=some (vs k,os k)/\I k/\μ k<μ j) (inBlock i Q))):ay P c nt x s Q:=
 ay.ji hx (fun a=>⟨aG ls (vs a),os a,nx⟩) I μ j (nQ hv h0 (hok j) (ho j)) hI fun j hj=>(round j hj).mono fun e s' h=>by
  cases e with
  |normal=>
   obtain⟨k,h1,h2,h3⟩:=h
   exact⟨k,nQ h1 h0 (hok k) (ho k),h2,h3⟩
  |exit i=>exact h
  |ret=>exact h
theorem ay.j3 {x:Code} {ls:List Nat} {nx:Nat} {vs:List AV} {os:aD} (hv:bB ls s=some (vs,os)) (h0:∀k x,c.k0 k=some x->k<nx) (hok:j6 nx vs=true) (ho:iP nx os) (h:ay P c nt x ⟨aG ls vs,os,nx⟩ Q):ay P c nt x s Q:=
 .lD (nQ hv h0 hok ho) h
theorem aI.j3 {l:List Code} {ls:List Nat} {nx:Nat} {vs:List AV} {os:aD} (hv:bB ls s=some (vs,os)) (h0:∀k x,c.k0 k=some x->k<nx) (hl:l.isEmpty=false) (hok:j6 nx vs=true) (ho:iP nx os) (h:aI P c nt l ⟨aG ls vs,os,nx⟩ Q):aI P c nt l s Q:=
 .weak hl (nQ hv h0 hok ho) h
theorem aI.AX (hT:dJ P T) (hΓ:bg P Γ) (hm:P.follows .mixedOrders=true) {fn:Func} {forks:List Nat} (n:Nat) {l:List Code} {ls:List Nat} {nx:Nat} {vs:List AV} {os:aD} (hv:bB ls s=some (vs,os)) (h0:∀k x,c.k0 k=some x->k<nx)
  (hok:j6 nx vs=true) (ho:iP nx os) {t:ag (List AV)} (hc:cP T Γ forks n fn l ⟨aG ls vs,os,nx⟩=some t) (hd:(l.all fun x=>cD nt x)=true) (hl:l.isEmpty=false) {res:AV} (h:t.all fun _ us=>fA us res):aI P c nt l s (Fin T fn res):=
 .j3 hv h0 hl hok ho (.fin hT hΓ hm n hc hd h)
theorem aI.fE (hT:dJ P T) (hΓ:bg P Γ) (hm:P.follows .mixedOrders=true) {forks:List Nat} (n:Nat) {l:List Code} {ls:List Nat} {nx:Nat} {vs:List AV} {os:aD} (hv:bB ls s=some (vs,os)) (h0:∀k x,c.k0 k=some x->k<nx)
  (hok:j6 nx vs=true) (ho:iP nx os) (ls2:List Nat) {t:ag (List AV×aD)} (hc:aL T Γ forks n ls2 l ⟨aG ls vs,os,nx⟩=some t) (hd:(l.all fun x=>cD nt x)=true) (hl:l.isEmpty=false) (h:t.all fun e v=>∀s',bB ls2 s'=some v->Q e s'):aI P c nt l s Q:=
 .j3 hv h0 hl hok ho (.bH hT hΓ hm n ls2 hc hd h)
theorem ay.fE (hT:dJ P T) (hΓ:bg P Γ) (hm:P.follows .mixedOrders=true) {x:Code} {forks:List Nat} (n:Nat) {ls:List Nat} {nx:Nat} {vs:List AV} {os:aD} (hv:bB ls s=some (vs,os)) (h0:∀k x,c.k0 k=some x->k<nx)
  (hok:j6 nx vs=true) (ho:iP nx os) (ls2:List Nat) {t:ag (List AV×aD)} (hc:aL T Γ forks n ls2 [x] ⟨aG ls vs,os,nx⟩=some t) (hd:cD nt x=true) (h:t.all fun e v=>∀s',bB ls2 s'=some v->Q e s'):ay P c nt x s Q:=
 .j3 hv h0 hok ho (.bH hT hΓ hm n ls2 hc hd h)
end rules
theorem s5 {T:Types} {fn:Func} {ls:List Nat} {vs us ws:List AV} {os ps pre:aD} {s':aK} {τ:Nat->Option Nat} {r:dw} (hv:bB ls s'=some (vs,os)) (hr:lR (aG ls vs) fn.results.toList=some us) (hle:fU τ us ws) (hres:r.res=jx ws)
  (he:cN (l5 r.post) pre=ps) (ho:nH τ os ps):uh T fn τ pre r s':=by
 unfold bB at hv
 simp only[ax,Prod.mk.injEq]at hv
 obtain⟨rfl,rfl⟩:=hv
 refine⟨⟨us,[],ws,CY hr,trivial,hle,hres⟩,fun k o hk=>?_⟩
 replace hk:=yQ hk
 rw[he]at hk
 obtain⟨k1,o1,g1,g2,g3⟩:=AQ ho k o hk
 refine⟨k1,o1,g1,?_,g3⟩
 rw[lT]at g2
 split at g2
 ·exact g2
 ·simp at g2
def oF (g:Nat->List AV->Option dw):Spec:=fun K args pre=>match fh pre args with
 |some as=>g K as
 |none=>none
theorem qd {P:Program} {f:FuncId} {g:Nat->List AV->Option dw} (h:∀K args r,bI args=[]->g K args=some r->aN P f K args [] r):
  ∀K args pre r,oF g K args pre=some r->aN P f K args pre r:=by
 intro K args pre r hg
 unfold oF at hg
 split at hg
 ·rename_i as has
  have hf:=h K as r (wv has) hg
  intro need
  obtain⟨h1,h2⟩:=hf need
  refine⟨fun k o ho=>.inr ((h1 k o ho).resolve_left fun⟨o',h⟩=>by simp[look]at h),fun c D D' β w vs hw0 hMw hrel hD hK hv=>?_⟩
  have hv':cH (aO c pre β) w bt as vs:=ya hrel (fun _ _ h=>h) has hv
  exact(hf.frame (pre':=pre) (fun k o hk=>by simp[look]at hk)).use need hrel (fun _ _ h=>h) hD hK (hv'.mono (fun b o h1 h2=>⟨h2,h1⟩) fun k x hx=>by simp[bt]at hx)
 ·simp at hg
theorem Ax {K k a:Nat} {pre:aD} (h:K<=k/\k<K+cR):tN [] K pre (bA [(k,a)]):=
 ⟨fun x y z hx hy=>by
  simp only[bA,look]at hx hy
  split at hx<;>split at hy<;>simp_all,fun x y hx=>by
  simp only[bA,look]at hx
  split at hx
  ·rename_i he
   have:k=x:=by simpa using he
   subst this
   exact .inr h
  ·simp at hx⟩
theorem xb {K k a:Nat} {pre:aD}:tN [(a,k)] K pre (bA [(k,a)]):=
 ⟨fun x y z hx hy=>by
  simp only[bA,look]at hx hy
  split at hx<;>split at hy<;>simp_all,fun x y hx=>by
  simp only[bA,look]at hx ⊢
  split at hx
  ·rename_i he
   have:k=x:=by simpa using he
   subst this
   simp only[ax]at hx
   subst hx
   exact .inl (by simp)
  ·simp at hx⟩
theorem jW {c:Ctx} (h:c.k0=bt) {nx:Nat}:∀k x,c.k0 k=some x->k<nx:=fun k x hk=>by rw[h]at hk;simp[bt]at hk
theorem ee {ls:List Nat} {s':aK} {vs us:List AV} {os ps:aD} (hv:bB ls s'=some (vs,os)) (h1:vs=us) (h2:os=ps):bB ls s'=some (us,ps):=by rw[hv,h1,h2]
end Go.Am
namespace Go.Am
open AV
def gl (b:Bool) (n:Nat):Int:=if b then-(n:Int)else n
def sQ (b:Bool) (n d:Nat):Rat:=mkRat (gl b n) d
def dr (q:Rat):Nat:=max (bN q.num.natAbs) (bN q.den)
theorem yd {b:Bool} {n:Nat}:(gl b n).natAbs=n:=by unfold gl;split<;>simp
theorem ahu {b:Bool}:gl b 0=0:=by unfold gl;split<;>simp
theorem Tl {b:Bool} {n g:Nat} (h:g∣n):gl b n/(g:Int)=gl b (n/g):=by
 unfold gl
 split
 ·rw[Int.neg_ediv_of_dvd (Int.natCast_dvd_natCast.2 h)];simp
 ·simp
theorem jv {q:Rat}:q<0↔q.num<0:=by rw[Rat.lt_iff];simp
theorem yI {b:Bool} {n d:Nat} (hd:d≠0):(sQ b n d).num=gl b (n/Nat.gcd n d):=by
 unfold sQ
 rw[Rat.num_mkRat,if_neg hd,yd,Nat.gcd_comm,Tl (Nat.gcd_dvd_left n d)]
theorem Kk {b:Bool} {n d:Nat} (hd:d≠0):(sQ b n d).den=d/Nat.gcd n d:=by
 unfold sQ
 rw[Rat.den_mkRat,if_neg hd,yd,Nat.gcd_comm]
theorem Et {b:Bool} {d:Nat}:sQ b 0 d=0:=by unfold sQ;rw[ahu];simp
theorem aaX {b:Bool} {n d:Nat} (hn:n≠0) (hd:d≠0):decide (sQ b n d<0)=b:=by
 have h1:0<n/Nat.gcd n d:=Nat.div_pos (Nat.le_of_dvd aa (Nat.gcd_dvd_left n d)) (Nat.gcd_pos_of_pos_left _ aa)
 cases b
 ·simp only[bG,jv,yI hd,gl];simp;omega
 ·simp only[bz,jv,yI hd,gl];simp;omega
theorem uU {q:Rat}:Sz q (dr q):=
 ⟨Nat.lt_of_lt_of_le (ki.1 aR) (Nat.pow_le_pow_right aa (Nat.le_max_left _ _)),Nat.lt_of_lt_of_le (ki.1 aR) (Nat.pow_le_pow_right aa (Nat.le_max_right _ _))⟩
theorem en {q r:Rat} {n k:Nat} (h:q=r) (hs:Sz r k):bp (.rat q n) (.rat r k):=by
 subst h
 refine⟨rfl,fun M w cs hc=>?_⟩
 cases hc with
 |rat _ h1 h2 h3=>cases h3;exact .rat hs h1 h2 .nil
theorem Al {b:Bool} {n d k:Nat} (hd:d≠0) (hn:n<2^k) (hdk:d<2^k):Sz (sQ b n d) k:=by
 refine⟨?_,?_⟩
 ·rw[yI hd,yd];exact Nat.lt_of_le_of_lt (Nat.div_le_self _ _) hn
 ·rw[Kk hd];exact Nat.lt_of_le_of_lt (Nat.div_le_self _ _) hdk
theorem kJ (q:Rat):sQ (decide (q<0)) q.num.natAbs q.den=q:=by
 unfold sQ
 have:gl (decide (q<0)) q.num.natAbs=q.num:=by
  unfold gl
  by_cases h:q<0
  ·have:=jv.1 h;simp[h];omega
  ·have:¬q.num<0:=fun h'=>h (jv.2 h')
   simp[h];omega
 rw[this,Rat.mkRat_self]
theorem ud {b:Bool} {x y n d k:Nat} (hn:n≠0) (hd:d≠0) (hx:x=n/Nat.gcd n d) (hy:y=if d/Nat.gcd n d=1 then 0 else d/Nat.gcd n d) (hs:Sz (sQ b n d) k):bp (.agg [.bool b,.mag x,.mag y]) (.rat (sQ b n d) k):=
 sR hs (aaX hn hd).symm (by rw[yI hd,yd,hx]) (by rw[Kk hd,hy])
theorem k9 {k:Nat}:bp (.agg [.bool false,.mag 0,.mag 0]) (.rat 0 (k+1)):=
 sR ⟨by simp[Nat.two_pow_pos],by simp⟩ (by decide) rfl rfl
section down
variable {P:Program} {c:Ctx} {nt:Nat} {s:aK} {Q:aq->aK->Prop} {T:Types}
def eU (c:Ctx) (Q:aq->aK->Prop) (e:aq) (s':aK):Prop:=Q e s'\/∃s2 ρ,Le c ρ s' s2/\Q e s2
theorem ay.down {x:Code} (h:ay P c nt x s (eU c Q)):ay P c nt x s Q:=by
 intro a w hr
 refine wpIn_mono (h a w hr) ?_
 rintro e a' w' ⟨ae,s',h1,h2,hq|⟨s2,ρ,hle,hq⟩⟩
 ·exact⟨ae,s',h1,h2,hq⟩
 ·exact⟨ae,s2,h1,hle.rel h2,hq⟩
theorem yN {fn:Func} {ls:List Nat} {vs:List AV} {os:aD} {nx:Nat} {s':aK} {e:aq} {t:ag (List AV)} {res:AV} (he:mU T fn e ⟨aG ls vs,os,nx⟩=some t) (hv:bB ls s'=some (vs,os)) (h0:∀k x,c.k0 k=some x->k<nx) (hok:j6 nx vs=true) (ho:iP nx os)
  (h:t.all fun _ us=>fA us res):eU c (Fin T fn res) e s':=by
 obtain⟨ρ,hle⟩:=nQ hv h0 hok ho
 exact .inr ⟨_,ρ,hle,CQ he h⟩
theorem aI.kA (hT:dJ P T) {Γ:aV} (hΓ:bg P Γ) (hm:P.follows .mixedOrders=true) {fn:Func} {forks:List Nat} (n:Nat) {l:List Code} {ls:List Nat} {nx:Nat} {vs:List AV} {os:aD} (hv:bB ls s=some (vs,os)) (h0:∀k x,c.k0 k=some x->k<nx)
  (hok:j6 nx vs=true) (ho:iP nx os) {t:ag (List AV)} (hc:cP T Γ forks n fn l ⟨aG ls vs,os,nx⟩=some t) (hd:(l.all fun x=>cD nt x)=true) (hl:l.isEmpty=false) {res:AV} (h:t.all fun _ us=>fA us res):aI P c nt l s (eU c (Fin T fn res)):=
 (aI.AX hT hΓ hm n hv h0 hok ho hc hd hl h).mono fun _ _ h=>.inl h
end down
theorem jq {P:Program} {T:Types} (hT:dJ P T) {f:FuncId} {fn:Func} {x:Code} (hf:iW P f fn x) {args:List AV} {r:dw} (hk:bI args=[]) (hlen:args.length<=fn.ntmps) (hpost:r.post=[])
  (h:r.need->∀c:Ctx,(∀nx k x,c.k0 k=some x->k<nx)->ay P c fn.ntmps x ⟨aS 0 args,[],0⟩ (eU c (Fin T fn r.res))) (K:Nat) (pre:aD):aN P f K args pre r:=
 jN hT hf hk hlen hpost (fun need c h0=>.down (h need c fun _=>jW h0)) K pre
mutual
def RE:AV->Prop
 |.rat q n=>Sz q n
 |.agg l=>tg l
 |_=>True
def tg:List AV->Prop
 |[]=>True
 |a::l=>RE a/\tg l
end
theorem aQ.sz {M:Nat->Prop} {w:World} {β:aZ} {l:List AV} {cs:List Value} (h:aQ M w β l cs):tg l:=by
 induction h with
 |nil=>trivial
 |rat hs _ _ _ _ _ ih=>exact⟨hs,ih⟩
 |agg _ _ ih1 ih2=>exact⟨ih1,ih2⟩
 |ak _ _ _ _ _ _ _ ih=>exact⟨trivial,ih⟩
 |eB _ _ _ _ _ _ _ _ ih=>exact⟨trivial,ih⟩
 |bn _ _ _ _ ih=>exact⟨trivial,ih⟩
 |func _ _ _ _ ih=>exact⟨trivial,ih⟩
 |bS _ _ _ _ ih=>exact⟨trivial,ih⟩
 |_=>rename_i ih;exact⟨trivial,ih⟩
theorem cH.sz {M:Nat->Prop} {w:World} {β:aZ}:∀{l:List AV} {xs:List Value},cH M w β l xs->tg l
 |[],[],_=>trivial
 |a::l,x::xs,h=>by
  obtain⟨⟨cs,h1,_⟩,h2⟩:=h
  exact⟨h1.sz.1,h2.sz⟩
 |[],_::_,h=>h.elim
 |_::_,[],h=>h.elim
theorem acm {P:Program} {f:FuncId} {K:Nat} {args:List AV} {pre:aD} {r:dw} (hp:∀k o,look k r.post=some o->(∃o',look k pre=some o')\/(K<=k/\k<K+cR)) (h:tg args->aN P f K args pre r):aN P f K args pre r:=
 fun need=>⟨hp,fun c D D' β w vs h1 h2 h3 h4 h5 hv=>(h hv.sz need).2 c D D' β w vs h1 h2 h3 h4 h5 hv⟩
theorem kP {P:Program} {f:FuncId} {K:Nat} {args:List AV} {pre:aD} {v:AV} {l:List Prop} (h:tg args->aN P f K args pre ⟨v,[],l⟩):aN P f K args pre ⟨v,[],l⟩:=
 acm (fun k o hk=>by simp[look]at hk) h
theorem j4 {N n:Nat} (h:N<2^n) (hn:n<2^44):nl N<2^40:=by
 have h1:N<2^(32*(n/32+1)):=Nat.lt_of_lt_of_le h (Nat.pow_le_pow_right aa aa)
 have:=dL.2 h1
 omega
theorem ahr {q:Rat}:(if q.den=1 then 0 else q.den)<=q.den:=by split<;>omega
theorem Sz.kq {q:Rat} {n:Nat} (h:Sz q n) (hn:n<2^44):nl q.num.natAbs<2^40/\nl q.den<2^40/\nl (if q.den=1 then 0 else q.den)<2^40:=
 ⟨j4 h.1 hn,j4 h.2 hn,Nat.lt_of_le_of_lt (iC ahr) (j4 h.2 hn)⟩
theorem Sz.pos {q:Rat} {n:Nat} (h:Sz q n):0<n:=by
 rcases Nat.eq_zero_or_pos n with h1|h1
 ·subst h1;have:=h.2;have:=q.den_nz;omega
 ·exact h1
theorem Sz.more {q:Rat} {n m:Nat} (h:Sz q n) (hm:n<=m):Sz q m:=
 ⟨Nat.lt_of_lt_of_le h.1 (Nat.pow_le_pow_right aa hm),Nat.lt_of_lt_of_le h.2 (Nat.pow_le_pow_right aa hm)⟩
theorem HL {a:Int} {d:Nat}:(mkRat a d).num.natAbs<=a.natAbs:=by
 rw[Rat.num_mkRat]
 split
 ·simp
 ·rw[Int.natAbs_ediv_of_dvd]
  ·exact Nat.div_le_self _ _
  ·exact Int.ofNat_dvd_left.2 (Nat.gcd_dvd_right _ _)
theorem MX {a:Int} {d:Nat} (h:d≠0):(mkRat a d).den<=d:=by
 rw[Rat.den_mkRat,if_neg h]
 exact Nat.div_le_self _ _
theorem Sz.add {q r:Rat} {n m:Nat} (h:Sz q n) (h':Sz r m):Sz (q+r) (n+m+1):=by
 rw[Rat.add_def']
 have d0:q.den*r.den≠0:=Nat.mul_ne_zero q.den_nz r.den_nz
 have e:2^(n+m+1)=2^n*2^m+2^n*2^m:=by rw[Nat.pow_succ,Nat.pow_add];omega
 have b1:q.num.natAbs*r.den<=2^n*2^m:=Nat.mul_le_mul (Nat.le_of_lt h.1) (Nat.le_of_lt h'.2)
 have b2:r.num.natAbs*q.den<2^m*2^n:=Nat.mul_lt_mul'' h'.1 h.2
 have b3:q.den*r.den<=2^n*2^m:=Nat.mul_le_mul (Nat.le_of_lt h.2) (Nat.le_of_lt h'.2)
 have b4:0<2^n*2^m:=Nat.mul_pos (Nat.two_pow_pos _) (Nat.two_pow_pos _)
 rw[Nat.mul_comm (2^m)]at b2
 refine⟨Nat.lt_of_le_of_lt HL ?_,Nat.lt_of_le_of_lt (MX d0) aa⟩
 have b5:=Int.natAbs_add_le (q.num*r.den) (r.num*q.den)
 rw[Int.natAbs_mul,Int.natAbs_mul,Int.natAbs_natCast,Int.natAbs_natCast]at b5
 omega
theorem Sz.neg {q:Rat} {n:Nat} (h:Sz q n):Sz (-q) n:=by
 refine⟨?_,?_⟩
 ·rw[Rat.neg_num,Int.natAbs_neg];exact h.1
 ·rw[Rat.neg_den];exact h.2
theorem Sz.sub {q r:Rat} {n m:Nat} (h:Sz q n) (h':Sz r m):Sz (q-r) (n+m+1):=by
 rw[Rat.sub_eq_add_neg];exact h.add h'.neg
theorem Sz.mul {q r:Rat} {n m:Nat} (h:Sz q n) (h':Sz r m):Sz (q*r) (n+m):=by
 rw[Rat.mul_def']
 have d0:q.den*r.den≠0:=Nat.mul_ne_zero q.den_nz r.den_nz
 refine⟨Nat.lt_of_le_of_lt HL ?_,Nat.lt_of_le_of_lt (MX d0) ?_⟩
 ·rw[Int.natAbs_mul,Nat.pow_add];exact Nat.mul_lt_mul'' h.1 h'.1
 ·rw[Nat.pow_add];exact Nat.mul_lt_mul'' h.2 h'.2
theorem Sz.inv {q:Rat} {n:Nat} (h:Sz q n):Sz q⁻¹ n:=by
 by_cases h0:q=0
 ·subst h0
  rw[Rat.inv_zero]
  exact h
 ·have hn:q.num≠0:=fun h=>h0 (Rat.num_eq_zero.1 h)
  refine⟨?_,?_⟩
  ·rw[Rat.num_inv,Int.natAbs_mul,Int.natAbs_natCast,Int.natAbs_sign_of_ne_zero hn,Nat.one_mul];exact h.2
  ·rw[Rat.den_inv,if_neg hn];exact h.1
theorem Sz.div {q r:Rat} {n m:Nat} (h:Sz q n) (h':Sz r m):Sz (q/r) (n+m):=by
 rw[Rat.div_def];exact h.mul h'.inv
def eO (q:Rat):Int:=if q<0 then-1 else if 0<q then 1 else 0
def dn (q r:Rat):Int:=if q<r then-1 else if r<q then 1 else 0
end Go.Am
namespace Go.Am
open AV
def Ff (T:Types) (fn:Func) (e:aq) (s:aK):Option (ag (List AV×Option az)):=
 match mU T fn e s with
 |some t=>t.bind fun e us=>some (.leaf e (us,look 0 s.store))
 |none=>none
def p7 (T:Types) (Γ:aV) (forks:List Nat) (n:Nat) (fn:Func) (x:Code) (s:aK):Option (ag (List AV×Option az)):=
 match eI T Γ forks n x s with
 |some t=>t.bind (Ff T fn)
 |none=>none
theorem uH {P:Program} {T:Types} (hT:dJ P T) {Γ:aV} (hΓ:bg P Γ) (hm:P.follows .mixedOrders=true) {f:FuncId} {fn:Func} {x:Code} (hf:iW P f fn x) {k idx es off:Nat} {p:List Nat} {rest:List AV} {o2 o o':az} {res:AV} {l:List Prop}
  (hkr:bI rest=[]) (hrt:(rest.all fun v=>!v.isTuple)=true) (hlen:rest.length+1<=fn.ntmps) (ho:∀ρ,eA ρ o2 o) {forks:List Nat} (n:Nat) {t:ag (List AV×Option az)}
  (hc:p7 T Γ forks n fn x ⟨aS 0 (.ptr 0 idx es off p::rest),[(0,o)],1⟩=some t)
  (h:au l->t.all fun _ v=>fA v.1 res/\∃o1,v.2=some o1/\o1.row=false/\eA (bA [(k,0)]) o1 o') (K:Nat):
  aN P f K (.ptr k idx es off p::rest) [(k,o2)] ⟨res,[(k,o')],l⟩:=by
 have hrest:∀{rest:List AV},bI rest=[]->(rest.all fun v=>!v.isTuple)=true->fU (bA [(0,k)]) rest rest:=by
  intro rest
  induction rest with
  |nil=>intro _ _;trivial
  |cons v r ih=>
   intro h1 h2
   simp only[bI,List.append_eq_nil_iff]at h1
   simp only[List.all_cons,Bool.and_eq_true,Bool.not_eq_true']at h2
   exact⟨⟨h2.1,gu h1.1⟩,ih h1.2 h2.2⟩
 refine nW hT hf (args0:=.ptr 0 idx es off p::rest) (pre0:=[(0,o)]) (nx:=1) [(0,k)] (by simpa using hlen) (by simp[jn]) ⟨⟨rfl,ot rfl⟩,hrest hkr hrt⟩ ⟨⟨k,o2,rfl,by simp[look],ho _⟩,trivial⟩
  (fun a x h=>?_) (fun x o h=>.inl ?_) (fun need c h0=>?_)
 ·simp only[bA,look]at h
  split at h
  ·simp only[ax]at h;subst h;exact⟨_,by simp[look];rfl⟩
  ·simp at h
 ·simp only[look]at h
  split at h
  ·rename_i he
   exact⟨_,by simp only[look,he,if_true];rfl⟩
  ·simp at h
 have h:=h need
 unfold p7 at hc
 cases hx:eI T Γ forks n x ⟨aS 0 (.ptr 0 idx es off p::rest),[(0,o)],1⟩with
 |none=>rw[hx]at hc;simp at hc
 |some u=>
  rw[hx]at hc
  refine kX hT hΓ hm n hf.dst hx (ag.fO ?_ (ag.kH hc h))
  rintro e s' ⟨v,h1,h2⟩
  unfold Ff at h1
  split at h1
  ·rename_i v' hv'
   have h3:=ag.kH h1 h2
   have h4:v'.all fun _ us=>fA us res/\∃o1,look 0 s'.store=some o1/\o1.row=false/\eA (bA [(k,0)]) o1 o':=by
    refine ag.fO ?_ h3
    rintro e us ⟨w,g1,g2⟩
    simp only[ax]at g1
    subst g1
    exact g2
   have h5:Fin T fn res e s':=CQ hv' (ag.fO (fun _ _ h=>h.1) h4)
   have h6:∃o1,look 0 s'.store=some o1/\o1.row=false/\eA (bA [(k,0)]) o1 o':=by
    have:∀{t:ag (List AV)},(t.all fun _ us=>fA us res/\∃o1,look 0 s'.store=some o1/\o1.row=false/\eA (bA [(k,0)]) o1 o')->∃o1,look 0 s'.store=some o1/\o1.row=false/\eA (bA [(k,0)]) o1 o':=by
     intro t
     induction t with
     |leaf e us=>exact fun h=>h.2
     |aj ps t ih=>exact fun h=>ih h.2
     |fork b t1 t2 ih1 ih2=>
      intro h
      cases b with
      |true=>exact ih1 (h.1 rfl)
      |false=>exact ih2 (h.2 rfl)
    exact this h4
   refine⟨h5.1,bA [(k,0)],xb,.inl ⟨h5.2,fun x ox hx=>?_⟩⟩
   obtain⟨o1,g1,g2,g3⟩:=h6
   have he:cN (l5 [(k,o')]) [(k,o2)]=[(k,o')]:=by simp[cN,l5,put]
   replace hx:=yQ hx
   rw[he]at hx
   simp only[look]at hx
   split at hx
   ·rename_i hk
    have:k=x:=by simpa using hk
    subst this
    simp only[ax]at hx
    subst hx
    exact⟨0,o1,by simp[bA,look],g1,g2,g3⟩
   ·simp at hx
  ·simp at h1
theorem ahs {P:Program} {T:Types} (hT:dJ P T) {Γ:aV} (hΓ:bg P Γ) (hm:P.follows .mixedOrders=true) {f:FuncId} {fn:Func} {x:Code} (hf:iW P f fn x) {args:List AV} {o o':az} {a idx es off ls:Nat} {p:List Nat} {l:List Prop}
  (hka:bI args=[]) (hrt:(args.all fun v=>!v.isTuple)=true) (hlen:args.length<=fn.ntmps) (hres:fn.results.toList=[.tmp ls]) {forks:List Nat} (n:Nat) {e:aq} {q:List Prop}
  (hc:aL T Γ forks n [ls] [x] ⟨aS 0 args,[],0⟩=some (.leaf e ([.ptr a idx es off p],[(a,o)])))
  (he:e=.normal\/e=.ret) (h:∀ρ,eA ρ o o') (K:Nat):aN P f K args [] ⟨.ptr K idx es off p,[(K,o')],l⟩:=by
 have hrest:∀{rest:List AV},bI rest=[]->(rest.all fun v=>!v.isTuple)=true->fU (bA []) rest rest:=by
  intro rest
  induction rest with
  |nil=>intro _ _;trivial
  |cons v r ih=>
   intro h1 h2
   simp only[bI,List.append_eq_nil_iff]at h1
   simp only[List.all_cons,Bool.and_eq_true,Bool.not_eq_true']at h2
   exact⟨⟨h2.1,gu h1.1⟩,ih h1.2 h2.2⟩
 refine nW hT hf (args0:=args) (pre0:=[]) (nx:=0) [] hlen rfl (hrest hka hrt) trivial (fun a k h=>by simp[bA,look]at h) (fun k o h=>?_) (fun _ c h0=>?_)
 ·simp only[look]at h
  split at h
  ·rename_i he
   have:K=k:=by simpa using he
   subst this
   exact .inr ⟨aR,by unfold cR;omega⟩
  ·simp at h
 refine ay.bH hT hΓ hm n [ls] hc hf.dst fun s' hv=>⟨he,bA [(K,a)],Ax ⟨aR,by unfold cR;omega⟩,.inr ?_⟩
 refine s5 (us:=[.ptr a idx es off p]) (ws:=[.ptr K idx es off p]) (ps:=[(K,o')]) hv ?_ ⟨⟨rfl,ot (by simp[bA,look])⟩,trivial⟩ rfl rfl ⟨⟨a,_,by simp[bA,look],by simp[look],h _⟩,trivial⟩
 rw[hres]
 simp only[lR,aG,look,beq_self_eq_true,if_true]
 rfl
mutual
def fc (b:Bool):AV->AV->Option AV
 |.rat q n,.rat r m=>some (.rat (cond b q r) (max n m))
 |.int k x,.int j y=>match isKind k j with
  |true=>some (.int k (cond b x y))
  |false=>none
 |.bool x,.bool y=>some (.bool (cond b x y))
 |.ak e n f,.ak e' m g=>match e==e' with
  |true=>some (.ak e (cond b n m) fun i=>cond b (f i) (g i))
  |false=>none
 |.nil,.nil=>some .nil
 |.nil,.ak e n f=>match Nat.blt 0 e with
  |true=>some (.ak e (cond b 0 n) f)
  |false=>none
 |.ak e n f,.nil=>match Nat.blt 0 e with
  |true=>some (.ak e (cond b n 0) f)
  |false=>none
 |.agg l,.agg m=>match nV b l m with
  |some x=>some (.agg x)
  |none=>none
 |_,_=>none
def nV (b:Bool):List AV->List AV->Option (List AV)
 |[],[]=>some []
 |u::l,v::m=>match fc b u v,nV b l m with
  |some x,some y=>some (x::y)
  |_,_=>none
 |_,_=>none
end
mutual
theorem ae4:∀{u v x:AV},fc true u v=some x->bp u x
 |.rat q n,v,x,h=>by
  cases v<;>simp only[fc,ax,reduceCtorEq]at h
  subst h;exact eE (Nat.le_max_left ..)
 |.int k a,v,x,h=>by
  cases v<;>simp only[fc,reduceCtorEq]at h
  split at h
  ·simp only[ax]at h;subst h;exact .refl _
  ·simp at h
 |.bool a,v,x,h=>by
  cases v<;>simp only[fc,ax,reduceCtorEq]at h
  subst h;exact .refl _
 |.ak e n f,v,x,h=>by
  cases v<;>simp only[fc,reduceCtorEq]at h
  ·split at h
   ·simp only[ax]at h;subst h;exact .refl _
   ·simp at h
  ·split at h
   ·simp only[ax]at h;subst h;exact .refl _
   ·simp at h
 |.nil,v,x,h=>by
  cases v<;>simp only[fc,ax,reduceCtorEq]at h
  ·split at h
   ·rename_i he
    simp only[ax]at h;subst h
    exact lf (by rw[Nat.blt_eq]at he;exact he)
   ·simp at h
  ·subst h;exact .refl _
 |.agg l,v,x,h=>by
  cases v<;>simp only[fc,reduceCtorEq]at h
  split at h
  ·rename_i hl
   simp only[ax]at h;subst h;exact cj (CH hl)
  ·simp at h
 |.mag _,v,x,h=>by simp[fc]at h
 |.eB _ _ _ _,v,x,h=>by simp[fc]at h
 |.void,v,x,h=>by simp[fc]at h
 |.str _,v,x,h=>by simp[fc]at h
 |.bn _,v,x,h=>by simp[fc]at h
 |.ptr _ _ _ _ _,v,x,h=>by simp[fc]at h
 |.own _ _ _ _,v,x,h=>by simp[fc]at h
 |.func _ _,v,x,h=>by simp[fc]at h
 |.tuple _,v,x,h=>by simp[fc]at h
 |.bS _ _,v,x,h=>by simp[fc]at h
theorem CH:∀{u v x:List AV},nV true u v=some x->dA u x
 |[],v,x,h=>by
  cases v<;>simp only[nV,ax,reduceCtorEq]at h
  subst h;trivial
 |a::l,v,x,h=>by
  cases v<;>simp only[nV,reduceCtorEq]at h
  split at h
  ·rename_i h1 h2
   simp only[ax]at h;subst h;exact⟨ae4 h1,CH h2⟩
  ·simp at h
end
mutual
theorem TX:∀{u v x:AV},fc false u v=some x->bp v x
 |.rat q n,v,x,h=>by
  cases v<;>simp only[fc,ax,reduceCtorEq]at h
  subst h;exact eE (Nat.le_max_right ..)
 |.int k a,v,x,h=>by
  cases v<;>simp only[fc,reduceCtorEq]at h
  split at h
  ·rename_i hk
   have:=AM hk
   subst this
   simp only[ax]at h;subst h;exact .refl _
  ·simp at h
 |.bool a,v,x,h=>by
  cases v<;>simp only[fc,ax,reduceCtorEq]at h
  subst h;exact .refl _
 |.ak e n f,v,x,h=>by
  cases v<;>simp only[fc,reduceCtorEq]at h
  ·split at h
   ·rename_i hk
    have:=eq_of_beq hk
    subst this
    simp only[ax]at h;subst h;exact .refl _
   ·simp at h
  ·split at h
   ·rename_i he
    simp only[ax]at h;subst h
    exact lf (by rw[Nat.blt_eq]at he;exact he)
   ·simp at h
 |.nil,v,x,h=>by
  cases v<;>simp only[fc,ax,reduceCtorEq]at h
  ·split at h
   ·simp only[ax]at h;subst h;exact .refl _
   ·simp at h
  ·subst h;exact .refl _
 |.agg l,v,x,h=>by
  cases v<;>simp only[fc,reduceCtorEq]at h
  split at h
  ·rename_i hl
   simp only[ax]at h;subst h;exact cj (C0 hl)
  ·simp at h
 |.mag _,v,x,h=>by simp[fc]at h
 |.eB _ _ _ _,v,x,h=>by simp[fc]at h
 |.void,v,x,h=>by simp[fc]at h
 |.str _,v,x,h=>by simp[fc]at h
 |.bn _,v,x,h=>by simp[fc]at h
 |.ptr _ _ _ _ _,v,x,h=>by simp[fc]at h
 |.own _ _ _ _,v,x,h=>by simp[fc]at h
 |.func _ _,v,x,h=>by simp[fc]at h
 |.tuple _,v,x,h=>by simp[fc]at h
 |.bS _ _,v,x,h=>by simp[fc]at h
theorem C0:∀{u v x:List AV},nV false u v=some x->dA v x
 |[],v,x,h=>by
  cases v<;>simp only[nV,ax,reduceCtorEq]at h
  subst h;trivial
 |a::l,v,x,h=>by
  cases v<;>simp only[nV,reduceCtorEq]at h
  split at h
  ·rename_i h1 h2
   simp only[ax]at h;subst h;exact⟨TX h1,C0 h2⟩
  ·simp at h
end
theorem dA.trans:∀{a b c:List AV},dA a b->dA b c->dA a c
 |[],[],[],_,_=>trivial
 |_::_,_::_,_::_,h,h'=>⟨h.1.trans h'.1,h.2.trans h'.2⟩
 |[],[],_::_,_,h=>h.elim
 |[],_::_,_,h,_=>h.elim
 |_::_,[],_,h,_=>h.elim
 |_::_,_::_,[],_,h=>h.elim
def pR:ag (List AV)->Option (List AV×List Prop)
 |.leaf _ us=>some (us,[])
 |.aj ps t=>match pR t with
  |some (us,qs)=>some (us,ps++qs)
  |none=>none
 |.fork b t u=>match pR t,pR u with
  |some (x,p),some (y,q)=>match nV b x y with
   |some z=>match p,q with
    |[],[]=>some (z,[])
    |p,q=>some (z,[b=true->au p,b=false->au q])
   |none=>none
  |_,_=>none
theorem vm:∀{t:ag (List AV)} {us:List AV} {ps:List Prop},pR t=some (us,ps)->au ps->t.all fun _ vs=>dA vs us
 |.leaf e vs,us,ps,h,_=>by
  simp only[pR,ax,Prod.mk.injEq]at h
  obtain⟨rfl,rfl⟩:=h
  exact .refl _
 |.aj l t,us,ps,h,hp=>by
  simp only[pR]at h
  split at h
  ·rename_i h1
   simp only[ax,Prod.mk.injEq]at h
   obtain⟨rfl,rfl⟩:=h
   obtain⟨p1,p2⟩:=dN.1 hp
   exact⟨p1,vm h1 p2⟩
  ·simp at h
 |.fork b t u,us,ps,h,hp=>by
  simp only[pR]at h
  split at h
  ·rename_i x p y q h1 h2
   split at h
   ·rename_i z hz
    have key:us=z/\(b=true->au p)/\(b=false->au q):=by
     split at h
     ·simp only[ax,Prod.mk.injEq]at h
      exact⟨h.1.symm,fun _=>trivial,fun _=>trivial⟩
     ·simp only[ax,Prod.mk.injEq]at h
      obtain⟨rfl,rfl⟩:=h
      exact⟨rfl,hp⟩
    obtain⟨rfl,p1,p2⟩:=key
    refine⟨fun hb=>?_,fun hb=>?_⟩
    ·subst hb
     exact ag.fO (fun _ vs hv=>hv.trans (CH hz)) (vm h1 (p1 rfl))
    ·subst hb
     exact ag.fO (fun _ vs hv=>hv.trans (C0 hz)) (vm h2 (p2 rfl))
   ·simp at h
  ·simp at h
def cQ (T:Types) (Γ:aV) (forks:List Nat) (fuel:Nat) (fn:Func):Spec:=bX fun args=>
 match Nat.ble args.length fn.ntmps with
 |true=>match bF T Γ forks fuel fn (aF fn) ⟨aS 0 args,[],0⟩with
  |some t=>match pR t with
   |some (us,ps)=>match us with
    |[u]=>some ⟨u,[],ps⟩
    |us=>some ⟨.tuple us,[],ps⟩
   |none=>none
  |none=>none
 |false=>none
theorem Yz {us:List AV} {v:AV} (h:dA us [v]):fA us v:=by
 match us,h with
 |[u],h=>exact h.1
theorem agP {us vs:List AV} (hv:∀u,vs≠[u]) (h:dA us vs):fA us (.tuple vs):=by
 match us,vs,h with
 |[],[],h=>exact h
 |[u],[v],h=>exact absurd rfl (hv v)
 |a::b::l,_::_::_,h=>exact h
 |[u],_::_::_,h=>exact absurd h.2 (by simp[dA])
 |a::b::l,[v],h=>exact absurd h.2 (by simp[dA])
 |[],_::_,h=>exact h.elim
 |_::_,[],h=>exact h.elim
theorem cT {P:Program} {T:Types} (hT:dJ P T) {Γ:aV} (hΓ:bg P Γ) (hm:P.follows .mixedOrders=true) {f:FuncId} {fn:Func} (hf:iW P f fn (aF fn)) (forks:List Nat) (fuel:Nat):
  ∀K args pre r,cQ T Γ forks fuel fn K args pre=some r->aN P f K args pre r:=by
 refine cM fun K args r hk hs hp=>?_
 split at hs
 ·rename_i hlen
  have hlen:=Nat.le_of_ble_eq_true hlen
  split at hs
  ·rename_i t ht
   split at hs
   ·rename_i us ps hc
    split at hs
    ·simp only[ax]at hs
     subst hs
     exact bM (r:=⟨_,[],ps⟩) hT hΓ hm hf hk hlen rfl fuel ht (fun hn=>ag.fO (fun _ vs hv=>Yz hv) (vm hc hn)) K []
    ·rename_i hne
     simp only[ax]at hs
     subst hs
     exact bM (r:=⟨_,[],ps⟩) hT hΓ hm hf hk hlen rfl fuel ht (fun hn=>ag.fO (fun _ vs hv=>agP hne hv) (vm hc hn)) K []
   ·simp at hs
  ·simp at hs
 ·simp at hs
theorem cB {P:Program} {Γ:aV} (h:bg P Γ):bg P (sG::Γ):=aE (fun K args pre r hs=>by simp at hs) h
theorem Bq {P:Program} {Γ:aV} (h:bg P Γ):bg P (zG::Γ):=aE (fun K args pre r hs=>by simp at hs) h
theorem eP {P:Program} {Γ:aV} (h:bg P Γ):bg P (nG::Γ):=aE (fun K args pre r hs=>by simp at hs) h
end Go.Am
namespace Go.Am
open AV
def mF (rl:List (Nat×Nat)):AV->AV
 |.ptr k i e o p=>match look k rl with
  |some j=>.ptr j i e o p
  |none=>.void
 |.own k e s n=>match look k rl with
  |some j=>.own j e s n
  |none=>match s,n,e with
   |0,0,_+1=>.nil
   |_,_,_=>.void
 |.bS c (.own k e s n)=>match look k rl with
  |some j=>.bS c (.own j e s n)
  |none=>.void
 |v=>v
def lZ (rl:List (Nat×Nat)):AV->Bool
 |.ptr k _ _ _ _=>(look k rl).isSome
 |.own k e s n=>(look k rl).isSome||match s,n,e with
  |0,0,_+1=>true
  |_,_,_=>false
 |.tuple _=>false
 |.bS _ (.own k _ _ _)=>(look k rl).isSome
 |v=>(keys v).isEmpty
theorem UG {ρ:Nat->Option Nat} {c c2:Nat} {u v:AV} (hc:c=c2) (hv:v.isAgg=false) (h:gV ρ u v):gV ρ (.bS c u) (.bS c2 v):=by
 subst hc
 refine⟨rfl,fun M w β cs hcs=>?_⟩
 cases hcs with
 |bS _ h1 h2=>cases h2;exact .bS hv (h.2 _ _ _ _ h1) .nil
theorem Ju {rl:List (Nat×Nat)} {u v:AV} (hu:u=mF rl v) (hv:lZ rl v=true):u.isTuple=false/\gV (bA rl) u v:=by
 subst hu
 cases v with
 |ptr k i e o p=>
  simp only[lZ,Option.isSome_iff_exists]at hv
  obtain⟨j,hj⟩:=hv
  simp only[mF,hj]
  exact⟨rfl,ot hj⟩
 |own k e s n=>
  simp only[lZ]at hv
  cases hj:look k rl with
  |some j=>
   simp only[mF,hj]
   exact⟨rfl,dx hj rfl rfl⟩
  |none=>
   rw[hj]at hv
   simp only[Option.isSome_none,Bool.false_or]at hv
   split at hv
   ·simp only[mF,hj]
    exact⟨rfl,oO aa⟩
   ·simp at hv
 |tuple l=>simp[lZ]at hv
 |bS c v=>
  cases v with
  |own k e s n=>
   simp only[lZ,Option.isSome_iff_exists]at hv
   obtain⟨j,hj⟩:=hv
   simp only[mF,hj]
   exact⟨rfl,UG rfl rfl (dx hj rfl rfl)⟩
  |_=>
   simp only[lZ,List.isEmpty_iff]at hv
   exact⟨rfl,gu hv⟩
 |_=>
  simp only[lZ,List.isEmpty_iff]at hv
  exact⟨rfl,gu hv⟩
theorem Bx {rl:List (Nat×Nat)}:∀{vs us:List AV},us=vs.map (mF rl)->vs.all (lZ rl)=true->fU (bA rl) us vs
 |[],_,h,_=>by subst h;trivial
 |v::vs,_,h,hv=>by
  subst h
  simp only[List.all_cons,Bool.and_eq_true]at hv
  exact⟨Ju rfl hv.1,Bx rfl hv.2⟩
def qg:AV->Bool
 |.tuple _=>false
 |v=>(keys v).isEmpty
theorem ait {rl:List (Nat×Nat)} {v:AV} (h:qg v=true):mF rl v=v:=by
 cases v with
 |bS c v=>cases v<;>first|rfl|simp[qg,keys]at h
 |_=>first|rfl|simp[qg,keys]at h
theorem Xx {rl:List (Nat×Nat)} {v:AV} (h:qg v=true):lZ rl v=true:=by
 cases v with
 |bS c v=>cases v<;>first|exact h|simp[qg,keys]at h
 |_=>first|exact h|simp[qg,keys]at h
def iz (rl:List (Nat×Nat)) (u v:AV):Prop:=((lZ rl v=true/\u=mF rl v)\/gV (bA rl) u v)\/(keys u=[]/\bp u v)
theorem H8 {ρ:Nat->Option Nat} {M:Nat->Prop} {w:World} {β:aZ}:∀{us vs:List AV} {cs:List Value},fU ρ us vs->aQ M w β us cs->aQ M w (fun k=>(ρ k).bind β) vs cs
 |[],[],_,_,h=>by cases h;exact .nil
 |u::us,v::vs,cs,hl,h=>by
  obtain⟨c1,c2,rfl,h1,h2⟩:=h.split
  exact(hl.1.2.2 M w β c1 h1).cons (H8 hl.2 h2)
 |[],_::_,_,h,_=>h.elim
 |_::_,[],_,h,_=>h.elim
theorem IK {ρ:Nat->Option Nat} {us vs:List AV} (h:fU ρ us vs):gV ρ (.agg us) (.agg vs):=by
 refine⟨rfl,fun M w β cs hc=>?_⟩
 cases hc with
 |agg h1 h2=>cases h2;exact .agg (H8 h h1) .nil
theorem mC {rl:List (Nat×Nat)} {us vs:List AV} (h:fU (bA rl) us vs):iz rl (.agg us) (.agg vs):=.inl (.inr (IK h))
theorem iz.le {rl:List (Nat×Nat)} {u v:AV} (h:iz rl u v):gV (bA rl) u v:=by
 rcases h with(h|h)|h
 ·exact(Ju h.2 h.1).2
 ·exact h
 ·exact lg h.1 h.2
def jM (nx:Nat) (rl:List (Nat×Nat)) (os:aD):aD->Prop
 |[]=>True
 |(k2,o2)::ps=>((look k2 rl=none/\tW o2/\k2<nx)\/∃k1 o1,look k2 rl=some k1/\look k1 os=some o1/\o1.row=o2.row/\o1.wr=o2.wr/\o1.es=o2.es/\o1.len=o2.len/\∀i,i<o2.len->iz rl (o1.f i) (o2.f i))/\jM nx rl os ps
theorem An {nx:Nat} {rl:List (Nat×Nat)} {os:aD}:∀{ps:aD},jM nx rl os ps->sZ nx (bA rl) os ps
 |[],_=>trivial
 |(k2,o2)::ps,h=>by
  obtain⟨h|⟨k1,o1,h1,h2,h3,h4,h5,h6,h7⟩,h8⟩:=h
  ·exact⟨.inr h,An h8⟩
  ·exact⟨.inl ⟨k1,o1,h1,h2,⟨h3.symm▸rfl,h4.symm▸rfl,h5.symm▸rfl,h6.symm▸rfl,fun i hi=>(h7 i (h6▸hi)).le⟩⟩,An h8⟩
theorem eJ {rl:List (Nat×Nat)} {u v:AV} (hk:keys u=[]) (h:u=v):iz rl u v:=.inr ⟨hk,h▸.refl _⟩
theorem cJ {nx:Nat} {rl:List (Nat×Nat)} {os ps:aD} {k2 k1:Nat} {r w:Bool} {es n m:Nat} {f g:Nat->AV} (hk:look k2 rl=some k1) (ho:look k1 os=some ⟨r,w,es,n,f⟩) (hn:n=m) (h:∀i,i<m->iz rl (f i) (g i))
  (hs:jM nx rl os ps):jM nx rl os ((k2,⟨r,w,es,m,g⟩)::ps):=⟨.inr ⟨k1,_,hk,ho,rfl,rfl,rfl,hn,h⟩,hs⟩
theorem fj {nx:Nat} {rl:List (Nat×Nat)} {os ps:aD} {k2 k1:Nat} {r w:Bool} {es:Nat} {f g:Nat->AV} (hk:look k2 rl=some k1) (ho:look k1 os=some ⟨r,w,es,1,f⟩) (h:iz rl (f 0) (g 0))
  (hs:jM nx rl os ps):jM nx rl os ((k2,⟨r,w,es,1,g⟩)::ps):=cJ hk ho rfl (fun i hi=>by rw[Nat.lt_one_iff.1 hi];exact h) hs
theorem lO {nx:Nat} {rl:List (Nat×Nat)} {os ps:aD} {k2 es:Nat} {w:Bool} {f:Nat->AV} (hk:look k2 rl=none) (hes:0<es) (hn:k2<nx) (hs:jM nx rl os ps):jM nx rl os ((k2,⟨true,w,es,0,f⟩)::ps):=⟨.inl ⟨hk,⟨rfl,rfl,hes⟩,hn⟩,hs⟩
theorem Dt {α:Type} {k:Nat} {a:α} {l:List (Nat×α)}:look k ((k,a)::l)=some a:=by simp[look]
theorem F6 {α:Type} {k:Nat} {b:List (Nat×α)}:∀{a:List (Nat×α)},look k (a++b)=match look k a with
  |some x=>some x
  |none=>look k b
 |[]=>rfl
 |(j,x)::a=>by
  simp only[List.cons_append,look]
  split
  ·rfl
  ·exact F6
theorem iK {P:Program} {a b:aV} (ha:bg P a) (hb:bg P b):bg P (a++b):=by
 intro f s hl
 have hl:look f (a++b)=some s:=hl
 rw[F6]at hl
 split at hl
 ·rename_i h
  simp only[ax]at hl
  subst hl
  exact ha f _ h
 ·exact hb f s hl
def Kept (kp:List Nat) (c:Ctx):Prop:=∀k x,c.k0 k=some x->k∈kp
theorem tJ {c:Ctx} (h0:∀nx k x,c.k0 k=some x->k<nx):Kept [] c:=fun k x hk=>absurd (h0 0 k x hk) aa
def fz (kp:List Nat) (v:List AV×aD) (vs:List AV) (os:aD) (nx:Nat):Prop:=
 ∃rl,(jn nx rl&&kp.all fun k=>look k rl==some k)=true/\v.1=vs.map (mF rl)/\vs.all (lZ rl)=true/\jM nx rl v.2 os
theorem fz.le {kp:List Nat} {c:Ctx} {s':aK} {ls:List Nat} {v:List AV×aD} {vs:List AV} {os:aD} {nx:Nat} (h:fz kp v vs os nx) (hv:bB ls s'=some v) (h0:Kept kp c):∃ρ,Le c ρ s' ⟨aG ls vs,os,nx⟩:=by
 obtain⟨rl,h1,h2,h3,h4⟩:=h
 simp only[Bool.and_eq_true]at h1
 exact Lg rl hv (fun k x hk=>by simpa using List.all_eq_true.1 h1.2 k (h0 k x hk)) h1.1 (Bx h2 h3) (An h4)
theorem fz.vals {vs:List AV} {nx:Nat} (h:vs.all qg=true):fz [] (vs,[]) vs [] nx:=by
 simp only[List.all_eq_true]at h
 refine⟨[],rfl,?_,List.all_eq_true.2 fun v hv=>Xx (h v hv),trivial⟩
 have:vs.map (mF [])=vs.map id:=List.map_congr_left fun v hv=>ait (h v hv)
 rw[this,List.map_id]
theorem ow {nt:Nat}:∀{x:Code} {p:List Nat},cD nt x=true->(before x p).all (fun x=>cD nt x)=true
 |.seq x y,0::p,h=>by
  simp only[cD,Bool.and_eq_true]at h
  exact ow (x:=x) h.1
 |.seq x y,(n+1)::p,h=>by
  simp only[cD,Bool.and_eq_true]at h
  simp only[before,List.all_cons,Bool.and_eq_true]
  exact⟨h.1,ow (x:=y) h.2⟩
 |.seq _ _,[],_|.cond _ _ _,_,_|.block _ _,_,_|.loop _,_,_|.region _ _ _,_,_|.skip,_,_|.label _,_,_|.exit _,_,_|.ret,_,_|.scope _,_,_|.goto _,_,_|.refuse _,_,_|.rangeFunc _ _ _ _,_,_=>by simp[before]
theorem vl {nt:Nat}:∀{x:Code} {p:List Nat},cD nt x=true->(behind x p).all (fun x=>cD nt x)=true
 |.seq x y,0::p,h=>by
  simp only[cD,Bool.and_eq_true]at h
  simp only[behind,List.all_append,List.all_cons,List.all_nil,Bool.and_true,Bool.and_eq_true]
  exact⟨vl (x:=x) h.1,h.2⟩
 |.seq x y,(n+1)::p,h=>by
  simp only[cD,Bool.and_eq_true]at h
  exact vl (x:=y) (p:=p) h.2
 |.seq _ _,[],_|.cond _ _ _,_,_|.block _ _,_,_|.loop _,_,_|.region _ _ _,_,_|.skip,_,_|.label _,_,_|.exit _,_,_|.ret,_,_|.scope _,_,_|.goto _,_,_|.refuse _,_,_|.rangeFunc _ _ _ _,_,_=>by simp[behind]
theorem tD {nt:Nat}:∀{x:Code} {p:List Nat},chain x p=true->cD nt x=true->cD nt (part x p)=true
 |x,[],_,h=>by cases x<;>exact h
 |.seq x y,0::p,hc,h=>by
  simp only[cD,Bool.and_eq_true]at h
  exact tD (x:=x) hc h.1
 |.seq x y,(n+1)::p,hc,h=>by
  simp only[cD,Bool.and_eq_true]at h
  exact tD (x:=y) hc h.2
 |.cond _ _ _,_::_,hc,_|.block _ _,_::_,hc,_|.loop _,_::_,hc,_|.region _ _ _,_::_,hc,_|.skip,_::_,hc,_|.label _,_::_,hc,_|.exit _,_::_,hc,_|.ret,_::_,hc,_|.scope _,_::_,hc,_|.goto _,_::_,hc,_|.refuse _,_::_,hc,_|.rangeFunc _ _ _ _,_::_,hc,_=>by simp[chain]at hc
section rules
variable {P:Program} {c:Ctx} {nt:Nat} {s:aK} {Q:aq->aK->Prop} {T:Types} (hT:dJ P T) {Γ:aV} (hΓ:bg P Γ) (hm:P.follows .mixedOrders=true)
def Round (kp:List Nat) {α:Type} (V:α->List AV) (O:α->aD) (nx:Nat) (I D:α->Prop) (μ:α->Nat) (i:Nat) (R:List AV×aD->Prop) (a:α):aq->List AV×aD->Prop
 |.normal,v=>∃b,I b/\μ b<μ a/\fz kp v (V b) (O b) nx
 |.exit k,v=>k=i/\∃b,D b/\fz kp v (V b) (O b) nx
 |.ret,v=>R v
include hT hΓ hm in
theorem ay.abz {x y:Code} {i:Nat} (hx:x=.block i (.loop y)) {kp:List Nat} (h0:Kept kp c) {forks:List Nat} (n:Nat) (L:List Nat) (nx:Nat) {α:Type} (V:α->List AV) (O:α->aD) (I D:α->Prop) (μ:α->Nat) (R:List AV×aD->Prop)
  (a0:α) (hI:I a0) (hs:∃ρ,Le c ρ s ⟨aG L (V a0),O a0,nx⟩) (hd:cD nt y=true)
  (hb:∀a,I a->∃t,aL T Γ forks n L [y] ⟨aG L (V a),O a,nx⟩=some t/\t.all (Round kp V O nx I D μ i R a))
  (hD:∀b s',D b->(∃ρ,Le c ρ s' ⟨aG L (V b),O b,nx⟩)->Q .normal s') (hR:∀v s',R v->bB L s'=some v->Q .ret s'):ay P c nt x s Q:=by
 refine ay.ji hx (fun a=>⟨aG L (V a),O a,nx⟩) I μ a0 hs hI fun a ha=>?_
 obtain⟨t,h1,h2⟩:=hb a ha
 refine ay.bH hT hΓ hm n L h1 hd (ag.fO ?_ h2)
 rintro e v hv s' hs'
 cases e with
 |normal=>
  obtain⟨b,g1,g2,g3⟩:=hv
  exact⟨b,g3.le hs' h0,g1,g2⟩
 |exit k=>
  obtain⟨rfl,b,g1,g2⟩:=hv
  exact y6 (hD b s' g1 (g2.le hs' h0))
 |ret=>exact hR v s' hv hs'
theorem aI.one {x:Code} (h:ay P c nt x s Q):aI P c nt [x] s Q:=h.mono fun e s' h=>by cases e<;>exact h
theorem ay.qQ {x:Code} (h:aI P c nt [x] s Q):ay P c nt x s Q:=ay.mono h fun e s' h=>by cases e<;>exact h
def Start (kp:List Nat) {α:Type} (V:α->List AV) (O:α->aD) (nx:Nat) (I:α->Prop) (R:List AV×aD->Prop):aq->List AV×aD->Prop
 |.normal,v=>∃a,I a/\fz kp v (V a) (O a) nx
 |.ret,v=>R v
 |.exit _,_=>False
include hT hΓ hm in
theorem ay.vL {x y:Code} (p:List Nat) {i:Nat} (hc:chain x p=true) (hx:part x p=.block i (.loop y)) (hd:cD nt x=true) {kp:List Nat} (h0:Kept kp c) {f1 f2:List Nat} (n:Nat) (L:List Nat) (nx:Nat) {α:Type} (V:α->List AV) (O:α->aD) (I D:α->Prop) (μ:α->Nat) (R:List AV×aD->Prop)
  (hp:∃t,aL T Γ f1 n L (before x p) s=some t/\t.all (Start kp V O nx I R))
  (hb:∀a,I a->∃t,aL T Γ f2 n L [y] ⟨aG L (V a),O a,nx⟩=some t/\t.all (Round kp V O nx I D μ i R a))
  (hD:∀b s',D b->(∃ρ,Le c ρ s' ⟨aG L (V b),O b,nx⟩)->aI P c nt (behind x p) s' Q) (hR:∀v s',R v->bB L s'=some v->Q .ret s'):ay P c nt x s Q:=by
 obtain⟨t,h1,h2⟩:=hp
 refine ay.hole p hc (aI.bH hT hΓ hm n L h1 (ow hd) (ag.fO ?_ h2))
 rintro e v hv s' hs'
 cases e with
 |normal=>
  obtain⟨a,hI,hre⟩:=hv
  refine(show ay P c nt (part x p) s' _ from ay.abz hT hΓ hm hx h0 n L nx V O I D μ R a hI (hre.le hs' h0) ?_ hb (fun b s' hD' hle=>hD b s' hD' hle) fun v s' hv hs'=>hR v s' hv hs')
  have:=tD (nt:=nt) hc hd
  rw[hx]at this
  exact this
 |ret=>exact hR v s' hv hs'
 |exit k=>exact hv.elim
include hT hΓ hm in
theorem ay.tY {x y z:Code} (p:List Nat) {i:Nat} (hc:chain x p=true) (hx:part x p=.block i (.loop y)) (hz:behind x p=[z]) (hd:cD nt x=true) {kp:List Nat} (h0:Kept kp c) {f1 f2:List Nat} (n:Nat) (L:List Nat) (nx:Nat) {α:Type} (V:α->List AV) (O:α->aD) (I D:α->Prop) (μ:α->Nat) (R:List AV×aD->Prop)
  (hp:∃t,aL T Γ f1 n L (before x p) s=some t/\t.all (Start kp V O nx I R))
  (hb:∀a,I a->∃t,aL T Γ f2 n L [y] ⟨aG L (V a),O a,nx⟩=some t/\t.all (Round kp V O nx I D μ i R a))
  (hD:∀b,D b->ay P c nt z ⟨aG L (V b),O b,nx⟩ Q) (hR:∀v s',R v->bB L s'=some v->Q .ret s'):ay P c nt x s Q:=
 ay.vL hT hΓ hm p hc hx hd h0 n L nx V O I D μ R hp hb (fun b s' hD' hle=>by rw[hz];exact aI.weak rfl hle (aI.one (hD b hD'))) hR
def zN (c:Ctx) (L:List Nat) {α:Type} (V:α->List AV) (O:α->aD) (nx:Nat) (I D:α->Prop) (μ:α->Nat) (i:Nat) (R:aK->Prop) (a:α):aq->aK->Prop
 |.normal,s'=>∃b,I b/\μ b<μ a/\∃ρ,Le c ρ s' ⟨aG L (V b),O b,nx⟩
 |.exit k,s'=>k=i/\∃b,D b/\∃ρ,Le c ρ s' ⟨aG L (V b),O b,nx⟩
 |.ret,s'=>R s'
include hT hΓ hm in
theorem ay.C7 {x y z:Code} (p:List Nat) {i:Nat} (hc:chain x p=true) (hx:part x p=.block i (.loop y)) (hz:behind x p=[z]) (hd:cD nt x=true) {kp:List Nat} (h0:Kept kp c) {f1:List Nat} (n:Nat) (L:List Nat) (nx:Nat) {α:Type} (V:α->List AV) (O:α->aD) (I D:α->Prop) (μ:α->Nat) (R:List AV×aD->Prop)
  (hp:∃t,aL T Γ f1 n L (before x p) s=some t/\t.all (Start kp V O nx I R))
  (hb:∀a,I a->ay P c nt y ⟨aG L (V a),O a,nx⟩ (zN c L V O nx I D μ i (fun s'=>∃v,R v/\bB L s'=some v) a))
  (hD:∀b,D b->ay P c nt z ⟨aG L (V b),O b,nx⟩ Q) (hR:∀v s',R v->bB L s'=some v->Q .ret s'):ay P c nt x s Q:=by
 obtain⟨t,h1,h2⟩:=hp
 refine ay.hole p hc (aI.bH hT hΓ hm n L h1 (ow hd) (ag.fO ?_ h2))
 rintro e v hv s' hs'
 cases e with
 |normal=>
  obtain⟨a,hI,hre⟩:=hv
  refine ay.ji hx (fun a=>⟨aG L (V a),O a,nx⟩) I μ a (hre.le hs' h0) hI fun a ha=>(hb a ha).mono fun e s' h=>?_
  cases e with
  |normal=>
   obtain⟨b,g1,g2,g3⟩:=h
   exact⟨b,g3,g1,g2⟩
  |exit k=>
   obtain⟨rfl,b,g1,g2⟩:=h
   refine y6 ?_
   show aI P c nt (behind x p) s' _
   rw[hz]
   exact aI.weak rfl g2 (aI.one (hD b g1))
  |ret=>
   obtain⟨v,g1,g2⟩:=h
   exact hR v s' g1 g2
 |ret=>exact hR v s' hv hs'
 |exit k=>exact hv.elim
include hT hΓ hm in
theorem ay.uZ {y x1 zb:Code} (p:List Nat) {j:Nat} (hc:chain y p=true) (hx:part y p=.block j x1) (hz:behind y p=[zb]) (hd:cD nt y=true) {kp:List Nat} (h0:Kept kp c) {f1:List Nat} (n:Nat) (L:List Nat) (nx:Nat) {α:Type} (V:α->List AV) (O:α->aD) (I:α->Prop)
  (hp:∃t,aL T Γ f1 n L (before y p) s=some t/\t.all fun e v=>match e with
   |.normal=>∃a,I a/\fz kp v (V a) (O a) nx
   |e=>∀s',bB L s'=some v->Q e s')
  (hb:∀a,I a->ay P c nt x1 ⟨aG L (V a),O a,nx⟩ (inBlock j (ey (fun s'=>ay P c nt zb s' Q) Q))):ay P c nt y s Q:=by
 obtain⟨t,h1,h2⟩:=hp
 refine ay.hole p hc (aI.bH hT hΓ hm n L h1 (ow hd) (ag.fO ?_ h2))
 rintro e v hv s' hs'
 cases e with
 |normal=>
  obtain⟨a,hI,hre⟩:=hv
  refine ay.lD (hre.le hs' h0) (ay.o9 hx ((hb a hI).mono fun e s' h=>?_))
  have key:∀{e s'},ey (fun s'=>ay P c nt zb s' Q) Q e s'->ey (fun s''=>aI P c nt (behind y p) s'' Q) Q e s':=fun {e s'} h=>by
   cases e with
   |normal=>show aI P c nt (behind y p) s' Q;rw[hz];exact aI.one h
   |exit k=>exact h
   |ret=>exact h
  cases e with
  |normal=>exact key (e:=.normal) h
  |exit k=>
   simp only[inBlock]at h ⊢
   split
   ·rename_i hk;rw[if_pos hk]at h;exact key (e:=.normal) h
   ·rename_i hk;rw[if_neg hk]at h;exact key (e:=.exit k) h
  |ret=>exact key (e:=.ret) h
 |ret=>exact hv s' hs'
 |exit k=>exact hv s' hs'
theorem ay.tail {z zb:Code} {j:Nat} (hne:∀s',Q (.exit j) s'->False) (h:aI P c nt [z,zb] s Q):ay P c nt z s (inBlock j (ey (fun s'=>ay P c nt zb s' Q) Q)):=
 ay.mono h fun e s' h=>by
  cases e with
  |normal=>exact ay.mono h fun e s' h=>by cases e<;>exact h
  |exit k=>
   simp only[inBlock]
   split
   ·rename_i hk;subst hk;exact(hne _ h).elim
   ·exact h
  |ret=>exact h
def qC (fn:Func) (L:List Nat) (res:AV) (v:List AV×aD):Prop:=∃us,Da fn (aG L v.1)=some us/\fA us res
theorem qC.fin {fn:Func} {L:List Nat} {res:AV} {v:List AV×aD} {s':aK} (h:qC fn L res v) (hs':bB L s'=some v):eU c (Fin T fn res) .ret s':=by
 obtain⟨us,g1,g2⟩:=h
 exact .inl (gU (.inr rfl) hs' g1 g2)
theorem Ef {c:Prop} [Decidable c] {u v:AV} (hu:keys u=[]) (hv:keys v=[]):keys (if c then u else v)=[]:=by split<;>assumption
include hT hΓ hm in
theorem iu {f:FuncId} {fn:Func} (hf:iW P f fn (aF fn)) {args:List AV} {r:dw} (hk:bI args=[]) (hlen:args.length<=fn.ntmps) (hpost:r.post=[]) (p:List Nat) {i:Nat} {y z:Code} (hc:chain (aF fn) p=true) (hx:part (aF fn) p=.block i (.loop y)) (hz:behind (aF fn) p=[z])
  {f1 f2 f3:List Nat} (n:Nat) (L:List Nat) (nx:Nat) {α:Type} (V:α->List AV) (O:α->aD) (I D:α->Prop) (μ:α->Nat)
  (h:r.need->(∃t,aL T Γ f1 n L (before (aF fn) p) ⟨aS 0 args,[],0⟩=some t/\t.all (Start [] V O nx I (qC fn L r.res)))/\
   (∀a,I a->∃t,aL T Γ f2 n L [y] ⟨aG L (V a),O a,nx⟩=some t/\t.all (Round [] V O nx I D μ i (qC fn L r.res) a))/\
   ∀a,D a->∃t,cP T Γ f3 n fn [z] ⟨aG L (V a),O a,nx⟩=some t/\t.all fun _ us=>fA us r.res) (K:Nat) (pre:aD):aN P f K args pre r:=by
 refine jq hT hf hk hlen hpost (fun need c h0=>?_) K pre
 obtain⟨hp,hb,he⟩:=h need
 refine ay.tY hT hΓ hm p hc hx hz hf.dst (tJ h0) n L nx V O I D μ (qC fn L r.res) hp hb (fun a ha=>?_) fun v s' hv hs'=>hv.fin hs'
 obtain⟨t,g1,g2⟩:=he a ha
 have:=vl (x:=aF fn) (p:=p) hf.dst
 rw[hz]at this
 exact ay.qQ ((aI.fin hT hΓ hm n g1 this g2).mono fun _ _ h=>.inl h)
theorem GH {rl:List (Nat×Nat)}:∀{rest:List AV},bI rest=[]->(rest.all fun v=>!v.isTuple)=true->fU (bA rl) rest rest
 |[],_,_=>trivial
 |v::r,h1,h2=>by
  simp only[bI,List.append_eq_nil_iff]at h1
  simp only[List.all_cons,Bool.and_eq_true,Bool.not_eq_true']at h2
  exact⟨⟨h2.1,gu h1.1⟩,GH h1.2 h2.2⟩
end rules
theorem aY {nx:Nat} {rl:List (Nat×Nat)} {os ps:aD} {k2 k1:Nat} {r w:Bool} {es:Nat} {f g:Nat->AV} (hs:jM nx rl os ps) (hk:look k2 rl=some k1:=by exact rfl) (ho:look k1 os=some ⟨r,w,es,1,f⟩:=by exact rfl) (h1:keys (f 0)=[]:=by exact rfl) (h2:f 0=g 0:=by exact rfl):jM nx rl os ((k2,⟨r,w,es,1,g⟩)::ps):=fj hk ho (eJ h1 h2) hs
theorem mI {nx:Nat} {rl:List (Nat×Nat)} {os ps:aD} {k2 k1:Nat} {r w:Bool} {es n m:Nat} {f g:Nat->AV} (hs:jM nx rl os ps) (hk:look k2 rl=some k1:=by exact rfl) (ho:look k1 os=some ⟨r,w,es,n,f⟩:=by exact rfl) (hn:n=m:=by exact rfl) (h1:∀i,keys (f i)=[]:=by exact fun _=>rfl) (h2:∀i,f i=g i:=by exact fun _=>rfl):jM nx rl os ((k2,⟨r,w,es,m,g⟩)::ps):=cJ hk ho hn (fun i _=>eJ (h1 i) (h2 i)) hs
end Go.Am
namespace Go.Am
open AV
theorem rT {ρ:Nat->Option Nat}:∀{us vs:List AV},bI us=[]->(us.all fun v=>!v.isTuple)=true->dA us vs->fU ρ us vs
 |[],[],_,_,_=>trivial
 |u::us,v::vs,h1,h2,h=>by
  simp only[bI,List.append_eq_nil_iff]at h1
  simp only[List.all_cons,Bool.and_eq_true,Bool.not_eq_true']at h2
  exact⟨⟨h2.1,lg h1.1 h.1⟩,rT h1.2 h2.2 h.2⟩
 |[],_::_,_,_,h=>h.elim
 |_::_,[],_,_,h=>h.elim
section rules
variable {P:Program} {c:Ctx} {nt:Nat} {s:aK} {Q:aq->aK->Prop} {T:Types} (hT:dJ P T) {Γ:aV} (hΓ:bg P Γ) (hm:P.follows .mixedOrders=true)
end rules
end Go.Am
namespace Go.Am
open AV
def E0 (fn:Func) (k:Nat) (ws:List AV) (o':az) (e:aq) (s':aK):Prop:=
 (e=.normal\/e=.ret)/\∃ls vs us os o1,bB ls s'=some (vs,os)/\lR (aG ls vs) fn.results.toList=some us/\fU (bA [(k,0)]) us ws/\look 0 os=some o1/\eA (bA [(k,0)]) o1 o'
def AT (fn:Func) (k:Nat) (ws:List AV) (o':az) (L:List Nat) (v:List AV×aD):Prop:=∃us o1,lR (aG L v.1) fn.results.toList=some us/\fU (bA [(k,0)]) us ws/\look 0 v.2=some o1/\eA (bA [(k,0)]) o1 o'
theorem AT.fin {fn:Func} {k:Nat} {ws:List AV} {o':az} {L:List Nat} {v:List AV×aD} {s':aK} (h:AT fn k ws o' L v) (hs':bB L s'=some v):E0 fn k ws o' .ret s':=by
 obtain⟨us,o1,h1,h2,h3,h4⟩:=h
 exact⟨.inr rfl,L,v.1,us,v.2,o1,hs',h1,h2,h3,h4⟩
section rules
variable {P:Program} {c:Ctx} {nt:Nat} {s:aK} {Q:aq->aK->Prop} {T:Types} (hT:dJ P T) {Γ:aV} (hΓ:bg P Γ) (hm:P.follows .mixedOrders=true)
include hT hΓ hm in
theorem ay.branch {x u v:Code} {b:Operand} (p:List Nat) (hc:chain x p=true) (hx:part x p=.cond b u v) (hz:behind x p=[]) (hd:cD nt x=true) {kp:List Nat} (h0:Kept kp c) {f1:List Nat} (n:Nat) (L:List Nat) (nx:Nat) {α:Type} (V:α->List AV) (O:α->aD) (I:α->Prop)
  (hp:∃t,aL T Γ f1 n L (before x p) s=some t/\t.all fun e v=>match e with
   |.normal=>∃a,I a/\fz kp v (V a) (O a) nx
   |e=>∀s',bB L s'=some v->Q e s')
  (hb:∀a,I a->∃t,(⟨aG L (V a),O a,nx⟩:aK).gQ b=some (.bool t)/\(t=true->ay P c nt u ⟨aG L (V a),O a,nx⟩ Q)/\(t=false->ay P c nt v ⟨aG L (V a),O a,nx⟩ Q)):ay P c nt x s Q:=by
 obtain⟨t,h1,h2⟩:=hp
 refine ay.hole p hc (aI.bH hT hΓ hm n L h1 (ow hd) (ag.fO ?_ h2))
 rintro e v hv s' hs'
 cases e with
 |normal=>
  obtain⟨a,hI,hre⟩:=hv
  obtain⟨t,g1,g2,g3⟩:=hb a hI
  show ay P c nt (part x p) s' _
  rw[hx,hz]
  have key:∀{y:Code} {s:aK},ay P c nt y s Q->ay P c nt y s (ey (fun s''=>aI P c nt [] s'' Q) Q):=fun h=>h.mono fun e s' h=>by cases e<;>exact h
  exact ay.lD (hre.le hs' h0) (ay.cond g1 (fun ht=>key (g2 ht)) fun ht=>key (g3 ht))
 |ret=>exact hv s' hs'
 |exit k=>exact hv s' hs'
include hT in
theorem WZ {f:FuncId} {fn:Func} {x:Code} (hf:iW P f fn x) {k es st n:Nat} {rest ws:List AV} {o2 o o':az} {l:List Prop}
  (hkr:bI rest=[]) (hrt:(rest.all fun v=>!v.isTuple)=true) (hlen:rest.length+1<=fn.ntmps) (ho:∀ρ,eA ρ o2 o)
  (h:au l->∀c:Ctx,Kept [0] c->ay P c fn.ntmps x ⟨aS 0 (.own 0 es st n::rest),[(0,o)],1⟩ (E0 fn k ws o')) (K:Nat):
  aN P f K (.own k es st n::rest) [(k,o2)] ⟨jx ws,[(k,o')],l⟩:=by
 refine nW hT hf (args0:=.own 0 es st n::rest) (pre0:=[(0,o)]) (nx:=1) [(0,k)] (by simpa using hlen) (by simp[jn]) ⟨⟨rfl,dx rfl rfl rfl⟩,GH hkr hrt⟩ ⟨⟨k,o2,rfl,by simp[look],ho _⟩,trivial⟩
  (fun a x h=>?_) (fun x o h=>.inl ?_) (fun need c h0=>?_)
 ·simp only[bA,look]at h
  split at h
  ·simp only[ax]at h;subst h;exact⟨_,by simp[look];rfl⟩
  ·simp at h
 ·simp only[look]at h
  split at h
  ·rename_i he
   exact⟨_,by simp only[look,he,if_true];rfl⟩
  ·simp at h
 have hk:Kept [0] c:=fun a y hy=>by
  have:=h0 a y hy
  simp only[bA,look]at this
  split at this
  ·rename_i he;have:=eq_of_beq he;subst this;exact List.mem_singleton_self _
  ·simp at this
 refine(h need c hk).mono fun e s' ⟨h1,ls,vs,us,os,o1,g1,g2,g3,g4,g5⟩=>⟨h1,bA [(k,0)],xb,.inr (s5 (ws:=ws) (ps:=[(k,o')]) g1 g2 g3 rfl (by simp[cN,l5,put]) ⟨⟨0,o1,by simp[bA,look],g4,g5⟩,trivial⟩)⟩
include hT in
theorem DK {f:FuncId} {fn:Func} {x:Code} (hf:iW P f fn x) {args args0 ws:List AV} {o':az} {K:Nat} {l:List Prop} (ha:au l->fU (bA []) args args0) (hlen:args0.length<=fn.ntmps)
  (h:au l->∀c:Ctx,Kept [] c->ay P c fn.ntmps x ⟨aS 0 args0,[],0⟩ fun e s'=>(e=.normal\/e=.ret)/\∃ls vs us os a o,bB ls s'=some (vs,os)/\lR (aG ls vs) fn.results.toList=some us/\fU (bA [(K,a)]) us ws/\look a os=some o/\eA (bA [(K,a)]) o o'):
  aN P f K args [] ⟨jx ws,[(K,o')],l⟩:=by
 intro need
 refine(nW hT hf (args0:=args0) (pre0:=[]) (nx:=0) [] hlen rfl (ha need) trivial (fun a k h=>by simp[bA,look]at h) (fun k o h=>?_) (fun need c h0=>?_):aN P f K args [] ⟨jx ws,[(K,o')],l⟩) need
 ·simp only[look]at h
  split at h
  ·rename_i he
   have:K=k:=by simpa using he
   subst this
   exact .inr ⟨aR,by unfold cR;omega⟩
  ·simp at h
 ·refine(h need c fun k x hk=>by simpa [bA,look]using h0 k x hk).mono ?_
  rintro e s' ⟨h1,ls,vs,us,os,a,o,h2,h3,h4,h5,h6⟩
  exact⟨h1,bA [(K,a)],Ax ⟨aR,by unfold cR;omega⟩,.inr (s5 (ws:=ws) (ps:=[(K,o')]) h2 h3 h4 rfl rfl ⟨⟨a,o,by simp[bA,look],h5,h6⟩,trivial⟩)⟩
end rules
end Go.Am
namespace Go.Am
open AV
section rules
variable {P:Program} {c:Ctx} {nt:Nat} {s:aK} {Q:aq->aK->Prop} {T:Types} (hT:dJ P T) {Γ:aV} (hΓ:bg P Γ) (hm:P.follows .mixedOrders=true)
def Head (kp:List Nat) {α:Type} (V:α->List AV) (O:α->aD) (nx:Nat) (D:α->Prop) (i:Nat) (R:List AV×aD->Prop) (G:α->Prop) (a:α):aq->List AV×aD->Prop
 |.normal,v=>G a/\fz kp v (V a) (O a) nx
 |.exit k,v=>k=i/\∃b,D b/\fz kp v (V b) (O b) nx
 |.ret,v=>R v
def ah6 (kp:List Nat) {α:Type} (V:α->List AV) (O:α->aD) (nx:Nat) (I:α->Prop) (μ:α->Nat) (a:α):aq->List AV×aD->Prop
 |.normal,v=>∃b,I b/\μ b<μ a/\fz kp v (V b) (O b) nx
 |_,_=>False
theorem Pr {i:Nat} {y:Code} (h:cD nt (.block i (.loop y))=true):cD nt y=true:=by simpa [cD]using h
theorem abt {i:Nat} {y:Code} (h:cD nt (.block i y)=true):cD nt y=true:=by simpa [cD]using h
include hT hΓ hm in
theorem ay.aep {x y x1 zb y2:Code} (p:List Nat) {i:Nat} (hc:chain x p=true) (hx:part x p=.block i (.loop y)) (hd:cD nt x=true)
  (q:List Nat) {j:Nat} (hcq:chain y q=true) (hxq:part y q=.block j x1) (hzq:behind y q=[zb]) (r:List Nat) {i2:Nat} (hcr:chain x1 r=true) (hxr:part x1 r=.block i2 (.loop y2)) (hij:(i==j)=false)
  {kp:List Nat} (h0:Kept kp c) {f1 f2 f3 f4 f5:List Nat} (n:Nat) (L1 L2:List Nat) (nx1 nx2:Nat) {α β:Type} (V1:α->List AV) (O1:α->aD) (I1 D1:α->Prop) (μ1:α->Nat) (G:α->Prop) (R1 R2:List AV×aD->Prop)
  (V2:α->β->List AV) (O2:α->β->aD) (I2 D2:α->β->Prop) (μ2:α->β->Nat)
  (hp:∃t,aL T Γ f1 n L1 (before x p) s=some t/\t.all (Start kp V1 O1 nx1 I1 R1))
  (ho:∀a,I1 a->∃t,aL T Γ f2 n L1 (before y q) ⟨aG L1 (V1 a),O1 a,nx1⟩=some t/\t.all (Head kp V1 O1 nx1 D1 i R1 G a))
  (hi:∀a,I1 a->G a->∃t,aL T Γ f3 n L2 (before x1 r) ⟨aG L1 (V1 a),O1 a,nx1⟩=some t/\t.all (Start kp (V2 a) (O2 a) nx2 (I2 a) R2))
  (hb:∀a,I1 a->G a->∀b,I2 a b->∃t,aL T Γ f4 n L2 [y2] ⟨aG L2 (V2 a b),O2 a b,nx2⟩=some t/\t.all (Round kp (V2 a) (O2 a) nx2 (I2 a) (D2 a) (μ2 a) i2 R2 b))
  (ht:∀a,I1 a->G a->∀b,D2 a b->∃t,aL T Γ f5 n L1 (behind x1 r++[zb]) ⟨aG L2 (V2 a b),O2 a b,nx2⟩=some t/\t.all (ah6 kp V1 O1 nx1 I1 μ1 a))
  (hD:∀b s',D1 b->(∃ρ,Le c ρ s' ⟨aG L1 (V1 b),O1 b,nx1⟩)->aI P c nt (behind x p) s' Q) (hR1:∀v s',R1 v->bB L1 s'=some v->Q .ret s') (hR2:∀v s',R2 v->bB L2 s'=some v->Q .ret s'):ay P c nt x s Q:=by
 have hdy:cD nt y=true:=by
  have:=tD (nt:=nt) hc hd
  rw[hx]at this
  exact Pr this
 have hdx1:cD nt x1=true:=by
  have:=tD (nt:=nt) hcq hdy
  rw[hxq]at this
  exact abt this
 have hdz:((behind x1 r++[zb]).all fun x=>cD nt x)=true:=by
  have h1:=vl (nt:=nt) (p:=r) hdx1
  have h2:=vl (nt:=nt) (p:=q) hdy
  rw[hzq]at h2
  rw[List.all_append,h1,h2];rfl
 obtain⟨t,h1,h2⟩:=hp
 refine ay.hole p hc (aI.bH hT hΓ hm n L1 h1 (ow hd) (ag.fO ?_ h2))
 rintro e v hv s' hs'
 cases e with
 |ret=>exact hR1 v s' hv hs'
 |exit k=>exact hv.elim
 |normal=>
  obtain⟨a,hI,hre⟩:=hv
  refine(show ay P c nt (part x p) s' _ from ay.ji hx (fun a=>⟨aG L1 (V1 a),O1 a,nx1⟩) I1 μ1 a (hre.le hs' h0) hI fun a ha=>?_)
  refine ay.mono (Q:=zN c L1 V1 O1 nx1 I1 D1 μ1 i (fun s'=>Q .ret s') a) ?_ fun e s' h=>?_
  ·refine ay.uZ hT hΓ hm q hcq hxq hzq hdy h0 (f1:=f2) n L1 nx1 (fun _:Unit=>V1 a) (fun _=>O1 a) (fun _=>G a) ?_ (fun _ hG=>?_)
   ·obtain⟨t,g1,g2⟩:=ho a ha
    refine⟨t,g1,ag.fO ?_ g2⟩
    rintro e v hv
    cases e with
    |normal=>exact⟨(),hv.1,hv.2⟩
    |exit k=>exact fun s' hs'=>⟨hv.1,hv.2.imp fun b hb=>⟨hb.1,hb.2.le hs' h0⟩⟩
    |ret=>exact fun s' hs'=>hR1 v s' hv hs'
   ·refine ay.vL hT hΓ hm r hcr hxr hdx1 h0 (f1:=f3) (f2:=f4) n L2 nx2 (V2 a) (O2 a) (I2 a) (D2 a) (μ2 a) R2 (hi a ha hG) (hb a ha hG) (fun b s' hb hle=>?_) (fun v s' hv hs'=>hR2 v s' hv hs')
    obtain⟨t,g1,g2⟩:=ht a ha hG b hb
    have key:aI P c nt (behind x1 r++[zb]) s' (zN c L1 V1 O1 nx1 I1 D1 μ1 i (fun s'=>Q .ret s') a):=by
     refine aI.weak (by cases behind x1 r<;>rfl) hle (aI.bH hT hΓ hm n L1 g1 hdz (ag.fO ?_ g2))
     rintro e v hv s' hs'
     cases e with
     |normal=>
      obtain⟨b,k1,k2,k3⟩:=hv
      exact⟨b,k1,k2,k3.le hs' h0⟩
     |exit k=>exact hv.elim
     |ret=>exact hv.elim
    refine aI.mono ?_ (aI.append key)
    rintro e s' h
    cases e with
    |normal=>exact ay.qQ h
    |exit k=>
     simp only[inBlock]
     have hk:k=i:=h.1
     rw[if_neg (by rw[hk];simpa using hij)]
     exact h
    |ret=>exact h
  ·cases e with
   |normal=>
    obtain⟨b,g1,g2,g3⟩:=h
    exact⟨b,g3,g1,g2⟩
   |exit k=>
    obtain⟨rfl,b,g1,g2⟩:=h
    refine y6 ?_
    show aI P c nt (behind x p) s' _
    exact hD b s' g1 g2
   |ret=>exact h
end rules
end Go.Am
namespace Go.Am
open Go AV IntKind
section rules
variable {P:Program} {T:Types} (hT:dJ P T)
def pF (T:Types) (sl:List (Nat×AV)) (os:aD):List ResultVar->Option (List AV×List Prop)
 |[]=>some ([],[])
 |.tmp t::l=>match look t sl,pF T sl os l with
  |some v,some (m,q)=>if v.isTuple then none else some (v::m,q)
  |_,_=>none
 |.cell a t::l=>match look t T,look a sl,pF T sl os l with
  |some ti,some (.ptr k i es off p),some (m,q)=>match lE os ti (.ptr k i es off p)with
   |some r=>some (r.val::m,r.iH++q)
   |none=>none
  |_,_,_=>none
theorem ahJ {st:aD} {ks:List Nat} {ti:TI} {k i es off:Nat} {p:List Nat} {r:eu} (h:lE (pick st ks) ti (.ptr k i es off p)=some r):lE st ti (.ptr k i es off p)=some r:=by
 have:∀o,look k (pick st ks)=some o->look k st=some o:=fun o ho=>by
  rw[lT]at ho
  split at ho
  ·exact ho
  ·simp at ho
 simp only[lE]at h ⊢
 cases hl:look k (pick st ks)with
 |none=>simp[hl]at h
 |some o=>rw[hl]at h;rw[this o hl];exact h
theorem CP {T:Types} {s:aK} {ls ks:List Nat}:∀{l:List ResultVar} {us:List AV} {q:List Prop},pF T (aG ls (ku s ls)) (pick s.store ks) l=some (us,q)->g8 T s l=some (us,q)
 |[],us,q,h=>by simp only[pF,ax,Prod.mk.injEq]at h;obtain⟨rfl,rfl⟩:=h;rfl
 |.tmp t::l,us,q,h=>by
  simp only[pF]at h
  split at h
  ·rename_i v m q' hv hm
   split at h
   ·simp at h
   ·rename_i ht
    simp only[ax,Prod.mk.injEq]at h
    obtain⟨rfl,rfl⟩:=h
    simp only[g8,qw,v9 (by simpa using ht) hv,CP hm]
    simp[ht]
  ·simp at h
 |.cell a t::l,us,q,h=>by
  simp only[pF]at h
  split at h
  ·rename_i ti k i es off p m q' h1 h2 hm
   split at h
   ·rename_i r hr
    simp only[ax,Prod.mk.injEq]at h
    obtain⟨rfl,rfl⟩:=h
    simp only[g8,qw,h1,v9 rfl h2,ahJ hr,CP hm]
   ·simp at h
  ·simp at h
theorem ZJ {T:Types} {fn:Func} {ls:List Nat} {vs us ws:List AV} {os ps pre:aD} {s':aK} {τ:Nat->Option Nat} {r:dw} {q:List Prop} (hv:bB ls s'=some (vs,os)) (hr:pF T (aG ls vs) os fn.results.toList=some (us,q)) (hq:au q) (hle:fU τ us ws) (hres:r.res=jx ws)
  (he:cN (l5 r.post) pre=ps) (ho:nH τ os ps):uh T fn τ pre r s':=by
 unfold bB at hv
 simp only[ax,Prod.mk.injEq]at hv
 obtain⟨rfl,rfl⟩:=hv
 refine⟨⟨us,q,ws,CP hr,hq,hle,hres⟩,fun k o hk=>?_⟩
 replace hk:=yQ hk
 rw[he]at hk
 obtain⟨k1,o1,g1,g2,g3⟩:=AQ ho k o hk
 refine⟨k1,o1,g1,?_,g3⟩
 rw[lT]at g2
 split at g2
 ·exact g2
 ·simp at g2
end rules
section
variable {P:Program} {c:Ctx} {nt:Nat} {s:aK} {Q:aq->aK->Prop} {T:Types} (hT:dJ P T) {Γ:aV} (hΓ:bg P Γ) (hm:P.follows .mixedOrders=true)
end
end Go.Am
namespace Go.Am
open Go AV IntKind
section rules
variable {P:Program} {T:Types} (hT:dJ P T)
include hT in
theorem ZE {f:FuncId} {fn:Func} {x:Code} (hf:iW P f fn x) {args args0 ws:List AV} {o':az} {K:Nat} {l:List Prop} (ha:au l->fU (bA []) args args0) (hlen:args0.length<=fn.ntmps)
  (h:au l->∀c:Ctx,Kept [] c->ay P c fn.ntmps x ⟨aS 0 args0,[],0⟩ fun e s'=>(e=.normal\/e=.ret)/\∃ls vs us q os a o,bB ls s'=some (vs,os)/\pF T (aG ls vs) os fn.results.toList=some (us,q)/\au q/\fU (bA [(K,a)]) us ws/\look a os=some o/\eA (bA [(K,a)]) o o'):
  aN P f K args [] ⟨jx ws,[(K,o')],l⟩:=by
 intro need
 refine(nW hT hf (args0:=args0) (pre0:=[]) (nx:=0) [] hlen rfl (ha need) trivial (fun a k h=>by simp[bA,look]at h) (fun k o h=>?_) (fun need c h0=>?_):aN P f K args [] ⟨jx ws,[(K,o')],l⟩) need
 ·simp only[look]at h
  split at h
  ·rename_i he
   have:K=k:=by simpa using he
   subst this
   exact .inr ⟨aR,by unfold cR;omega⟩
  ·simp at h
 ·refine(h need c fun k x hk=>by simpa [bA,look]using h0 k x hk).mono ?_
  rintro e s' ⟨h1,ls,vs,us,q,os,a,o,h2,h3,hq,h4,h5,h6⟩
  exact⟨h1,bA [(K,a)],Ax ⟨aR,by unfold cR;omega⟩,.inr (ZJ (ws:=ws) (ps:=[(K,o')]) h2 h3 hq h4 rfl rfl ⟨⟨a,o,by simp[bA,look],h5,h6⟩,trivial⟩)⟩
end rules
end Go.Am
namespace Go.Am
open AV
theorem IP {ro:Option Nat} {n m:Nat} {P:Program} {x:Code} {Q:Exit->Act->World->Prop} {a:Act} {w:World} (h:x.wpIn (gL ro) n P Q a w):x.wpIn (gL ro) m P Q a w:=
 fun b k cs h1 h2 _=>h b k cs h1 h2 fun d hd=>by simp[gL]at hd
def ng (st:aD) (β:aZ):Nat->Prop:=fun b=>∃k o,∃N:Nat×Nat,look k st=some o/\o.wr=true/\β k=some (b,N)
section base
variable {c c1:Ctx} {st st':aD} {D D':Nat->Prop} {β β':aZ} {w w':World}
theorem bu.Kq (h:bu c st D β w) {b:Nat} (hb:ng st β b):∃cs ty,w.heap[b]?=some (.cells cs ty (0,0)):=by
 obtain⟨k,o,N,h1,_,h3⟩:=hb
 obtain⟨b',N',cs,ty,q1,q2,_⟩:=h.obj k o h1 _ h3
 rw[h3]at q1
 cases q1
 exact⟨cs,ty,q2⟩
theorem bu.base (h:bu c st D β w) (k0:aZ) (ro:Option Nat) (hk:∀k x,k0 k=some x->β k=some x):bu {c with w0:=w,Mw:=ng st β,k0:=k0,ro:=ro} st D β w:=
 {obj:=h.obj,dM:=h.dM,inj:=h.inj,dom:=h.dom,keep:=hk,lt:=h.lt,os:=rfl,tape:=rfl,output:=rfl,size:=aR,block:=fun _ _ _=>rfl,gB:=fun b hb=>⟨Nat.lt_of_lt_of_le (h.gB b hb).1 h.size,fun⟨k,o,N,h1,h2,h3⟩=>(h.new k o b N h1 h2 h3).elim (fun h4=>Nat.not_lt.2 h4 (h.gB b hb).1) (h.gB b hb).2⟩,new:=fun k o b N h1 h2 h3=>.inr ⟨k,o,N,h1,h2,h3⟩}
theorem bu.back {k0:aZ} {ro:Option Nat} (h0:bu c st D β w) (hk:∀k x,c.k0 k=some x->k0 k=some x) (h:bu {c with w0:=w,Mw:=ng st β,k0:=k0,ro:=ro} st' D' β' w'):bu c st' D' β' w':=by
 have hnw:∀b,b<c.w0.heap.size->¬c.Mw b->¬ng st β b:=fun b hb hm ⟨k,o,N,h1,h2,h3⟩=>(h0.new k o b N h1 h2 h3).elim (fun h4=>aa) hm
 exact {obj:=h.obj,dM:=h.dM,inj:=h.inj,dom:=h.dom,keep:=fun k x hx=>h.keep k x (hk k x hx),lt:=h.lt,os:=h.os.trans h0.os,tape:=h.tape.trans h0.tape,output:=h.output.trans h0.output,size:=Nat.le_trans h0.size h.size,block:=fun b hb hm=>(h.block b (Nat.lt_of_lt_of_le hb h0.size) (hnw b hb hm)).trans (h0.block b hb hm),gB:=h0.gB,new:=fun k o b N h1 h2 h3=>(h.new k o b N h1 h2 h3).elim (fun h4=>.inl (Nat.le_trans h0.size h4)) fun⟨k',o',N',g1,g2,g3⟩=>h0.new k' o' b N' g1 g2 g3}
theorem bu.hc {k0:aZ} {ro:Option Nat} {c':Ctx} (hMf:c'.Mf=c.Mf) (h:bu {c with w0:=w,Mw:=ng st β,k0:=k0,ro:=ro} st' D' β' w'):HC (aO c st β) w (aO c' st' β') w':=by
 intro b x ty fr hm hb
 have hlt:=kM hb
 refine⟨(h.block b hlt fun hw=>hm (.inr hw)).trans hb,?_⟩
 rintro(hf|⟨k,o,N,g1,g2,g3⟩)
 ·exact hm (.inl (hMf▸hf))
 ·rcases h.new k o b N g1 g2 g3 with g|g
  ·exact absurd hlt (Nat.not_lt.2 g)
  ·exact hm (.inr g)
end base
def adK (P:Program) (gf:FuncId) (lb:Array Value) (n:Nat) (encs:Nat->Array Value) (I:World->Prop):Prop:=
 ∀(l:Nat) (J:Nat->World->Prop),(∀i W,J i W->I W)->(∀i W,i<n->J i W->YieldAt Fence.wide 1 P l (encs i) W fun e W'=>e=.returned (.bool true)/\J (i+1) W')->
  ∀W,J 0 W->CallsIn Fence.wide 2 P gf (#[.func (.yield l) #[] #[]]++lb) W fun e W'=>(∃v,e=.returned v)/\J n W'
def uS (P:Program) (gf:FuncId) (caps:List AV) (n:Nat) (u v:Nat->AV):Prop:=
 ∀(M:Nat->Prop) (w:World) (β:aZ) (lb:List Value),aQ M w β caps lb->∃x y:Nat->Value,(∀i,i<n->bJ M w bt (u i) (x i)/\bJ M w bt (v i) (y i))/\
  adK P gf lb.toArray n (fun i=>#[x i,y i]) fun W=>∀b cs ty fr,¬M b->w.heap[b]?=some (.cells cs ty fr)->W.heap[b]?=some (.cells cs ty fr)
section rule
variable {P:Program} {c:Ctx} {nt:Nat} {s:aK} {Q:aq->aK->Prop}
theorem ay.Tt {g:Operand} {p0 p1:Tmp} {assign body:Code} {gf:FuncId} {caps:List AV} {n:Nat} {u v:Nat->AV} {sl:List (Nat×AV)} {st:Nat->aD} {nx:Nat->Nat} {ρ:Nat->Option Nat} (hro:c.ro=none) (h0:Le c ρ s ⟨sl,st 0,nx 0⟩)
  (hg:aK.gQ ⟨sl,st 0,nx 0⟩ g=some (.func gf caps)) (heg:∀args w,(callFunc gf args).run P w=.ok (.enter gf args) w) (hit:uS P gf caps n u v) (hp0:p0<nt) (hp1:p1<nt) (hne:p0≠p1)
  (hround:∀c':Ctx,(∀k x,c'.k0 k=some x->(ρ k).isSome=true)->∀i,i<n->ay P c' nt assign ⟨put p1 (v i) (put p0 (u i) sl),st i,nx i⟩ fun e s'=>e=.normal/\
   ∀c':Ctx,(∀k x,c'.k0 k=some x->(ρ k).isSome=true)->ay P c' nt body s' fun e s'=>e=.normal/\∃ρ',Le c' ρ' ⟨[],s'.store,s'.next⟩ ⟨[],st (i+1),nx (i+1)⟩)
  (hend:Q .normal ⟨sl,st n,nx n⟩):ay P c nt (.rangeFunc g #[p0,p1] assign body) s Q:=by
 intro a w hr
 obtain⟨hdf,hsz,β',hW',hs'⟩:=id hr
 have hr1:=h0.rel hr
 -- the keys at the start
 obtain⟨β0,hβk,hW,hs⟩:∃β0:aZ,(∀k x,β0 k=some x->(ρ k).isSome=true)/\bu c (st 0) (fun k=>k<nx 0) β0 w/\nM (aO c (st 0) β0) w β0 sl a.tmps:=by
  exact⟨_,fun k x hk=>by cases h:ρ k<;>simp[h]at hk ⊢,h0.Bg hW' hs'⟩
 obtain⟨lb,hev,hcaps,-⟩:=(DJ hs g _ hg).func
 obtain⟨x,y,hxy,hiter⟩:=hit _ _ _ _ hcaps
 have hro':gL c.ro=Fence.wide:=by rw[hro];rfl
 rw[hro']
 refine wpIn_rangeFunc ?_
 intro fn _
 let rec':LoopState->Loop:=fun q=>{state:=q,pending:=none,fn,tmps:=a.tmps,params:=#[p0,p1],assign,body,defers:=w.heap.size}
 let W1:=(w.alloc (.deferred (some []))).alloc (.loop (rec' .ready))
 let c1:Ctx:={c with w0:=w,Mw:=ng (st 0) β0,k0:=β0,ro:=none}
 have hc1:bu c1 (st 0) (fun k=>k<nx 0) β0 w:=hW.base β0 none fun _ _ h=>h
 let J:Nat->World->Prop:=fun i W=>∃β,bu c1 (st i) (fun k=>k<nx i) β W/\W.heap[w.heap.size+1]?=some (.loop (rec' .ready))/\W.heap[w.heap.size]?=some (.deferred (some []))
 have hcells:∀{W W':World} {l:Nat} {o o':Obj},W.heap[l]?=some o->o.isCells=false->∀(b:Nat) x ty fr,W.heap[b]?=some (Obj.cells x ty fr)->(W.putObj l o').heap[b]?=some (Obj.cells x ty fr):=by
  intro W W' l o o' h1 h2 b x ty fr h3
  rw[World.putObj_heap_other (fun e=>by subst e;rw[h1]at h3;cases h3;cases h2)];exact h3
 have hJ0:J 0 W1:=by
  refine⟨β0,hc1.wJ (fun b x ty fr hb=>?_) rfl rfl rfl (by simp[W1];omega) (fun b hb=>?_),?_,?_⟩
  ·have hlt:=kM hb
   rw[show W1.heap[b]?=w.heap[b]? from(qI (by simp;omega)).trans (qI hlt)];exact hb
  ·exact(qI (by simp;exact Nat.lt_succ_of_lt hb)).trans (qI hb)
  ·have:=World.alloc_heap_new (w.alloc (.deferred (some []))) (.loop (rec' .ready));rwa [World.size_alloc]at this
  ·exact(qI (by simp)).trans (World.alloc_heap_new w _)
 refine⟨w.heap.size+1,[JP w.heap.size],W1,{target:=.fn (.func gf) lb.toArray,args:=#[.func (.yield (w.heap.size+1)) #[] #[]]},W1,gf,#[.func (.yield (w.heap.size+1)) #[] #[]]++lb.toArray,W1,?_,?_,fun _ _=>trivial,?_,fun _=>by decide,?_⟩
 ·exact run_enterLoop_outer _ _ _ _ _
 ·simp only[resolve,hev]
  simp[go_sem]
 ·simp[invoke,go_sem,heg]
 have hnl:∀{st:aD} {β:aZ} {D:Nat->Prop} {W:World} {c:Ctx} {r:Loop} {l:Nat},bu c st D β W->W.heap[l]?=some (.loop r)->¬ng st β l:=by
  intro st β D W c r l h h1 h2
  obtain⟨cs,ty,h3⟩:=h.Kq h2
  rw[h1]at h3
  cases h3
 have hnd:∀{st:aD} {β:aZ} {D:Nat->Prop} {W:World} {c:Ctx} {l:Nat},bu c st D β W->W.heap[l]?=some (.deferred (some []))->¬ng st β l:=by
  intro st β D W c l h h1 h2
  obtain⟨cs,ty,h3⟩:=h.Kq h2
  rw[h1]at h3
  cases h3
 have hsl:∀{i:Nat} {β:aZ} {W W':World},bu c1 (st i) (fun k=>k<nx i) β W->(∀(b:Nat) x ty fr,W.heap[b]?=some (Obj.cells x ty fr)->W'.heap[b]?=some (Obj.cells x ty fr))->nM (aO c (st i) β) W' β sl a.tmps:=by
  intro i β W W' h hh t v ht
  obtain⟨z,hz,hv⟩:=hs t v ht
  exact⟨z,hz,hv.gY (fun b x ty fr m g=>let ⟨g1,g2⟩:=bu.hc (c':=c) rfl h b x ty fr m g;⟨hh _ _ _ _ g1,g2⟩) fun k x hk=>h.keep k x hk⟩
 refine CallsIn.mono (hiter (w.heap.size+1) J ?_ ?_ W1 hJ0) ?_
 ·rintro i W ⟨β,h,_,_⟩ b cs ty fr hm hb
  exact(bu.hc (c':=c) rfl h b cs ty fr hm hb).1
 ·rintro i W hi ⟨β,h,hl,hk⟩
  refine⟨fn,_,assign,body,run_yield (P:=P) (args:=#[x i,y i]) hl rfl,roundIn_of_wpIn trivial ?_⟩
  have hwl:=kM hl
  refine IP (ro:=some (w.heap.size+1)) (wpIn_mono (hround {c1 with w0:=W,Mw:=ng (st i) β,k0:=β0,ro:=some (w.heap.size+1)} hβk i hi _ W ⟨.nil,?_,β,h.base β0 _ fun k x hx=>h.keep k x hx,?_⟩) ?_)
  ·simp[rec',hsz]
  ·intro t z ht
   have hsl1:=hsl h (fun _ _ _ _ h=>h)
   have hxy1:=hxy i hi
   have hmono:∀{v:AV} {z:Value},bJ (aO c (st 0) β0) w bt v z->bJ (aO c (st i) β) W β v z:=fun hv=>
    hv.gY (bu.hc (c':=c) rfl h) fun k x hk=>by simp[bt]at hk
   simp only[yM]at ht
   split at ht
   ·rename_i e
    subst e
    simp only[ax]at ht
    subst ht
    exact⟨y i,by simp[rec',hsz,hp1],hmono hxy1.2⟩
   ·rename_i e1
    split at ht
    ·rename_i e2
     subst e2
     simp only[ax]at ht
     subst ht
     exact⟨x i,by simp[rec',hsz,hp0,Ne.symm hne],hmono hxy1.1⟩
    ·rename_i e2
     obtain⟨q,hq,hv⟩:=hsl1 t z ht
     exact⟨q,by simp[rec',Ne.symm e1,Ne.symm e2,hq],hv⟩
  ·rintro e a1 Wa ⟨ae,s1,rfl,hr2,rfl,hB⟩
   obtain⟨hd1,hsz1,β1,h3,hs1⟩:=hr2
   have hl1:Wa.heap[w.heap.size+1]?=some (.loop (rec' .ready)):=(h3.block _ hwl (hnl h hl)).trans hl
   have hk1:Wa.heap[w.heap.size]?=some (.deferred (some [])):=(h3.block _ (kM hk) (hnd h hk)).trans hk
   refine⟨_,run_beginRound hl1 rfl,?_⟩
   have h3':bu c1 s1.store (fun k=>k<s1.next) β1 Wa:=h.back (fun _ _ h=>h) h3
   obtain⟨Wb,hWb⟩:∃Wb,Wa.putObj (w.heap.size+1) (.loop {rec' .ready with state:=.busy})=Wb:=⟨_,rfl⟩
   have hcb:∀(b:Nat) x ty fr,Wa.heap[b]?=some (Obj.cells x ty fr)->Wb.heap[b]?=some (Obj.cells x ty fr):=by
    rw[<-hWb];exact hcells (W':=w) hl1 rfl
   have h4:bu c1 s1.store (fun k=>k<s1.next) β1 Wb:=h3'.wJ hcb (by rw[<-hWb];rfl) (by rw[<-hWb];rfl) (by rw[<-hWb];rfl) (by rw[<-hWb];simp) (fun b hb=>by rw[<-hWb];exact World.putObj_heap_other (by have:b<w.heap.size:=hb;omega))
   have hlb:Wb.heap[w.heap.size+1]?=some (.loop {rec' .ready with state:=.busy}):=by rw[<-hWb];exact World.putObj_heap_same (kM hl1)
   have hkb:Wb.heap[w.heap.size]?=some (.deferred (some [])):=by rw[<-hWb];exact(World.putObj_heap_other aa).trans hk1
   rw[hWb]
   refine IP (ro:=some (w.heap.size+1)) (wpIn_mono (hB {c1 with w0:=Wb,Mw:=ng s1.store β1,k0:=β0,ro:=some (w.heap.size+1)} hβk a1 Wb ⟨?_,hsz1,β1,h4.base β0 _ fun k x hx=>h4.keep k x hx,?_⟩) ?_)
   ·rw[hd1.1 rfl];exact .nil
   ·intro t z ht
    obtain⟨q,hq,hv⟩:=hs1 t z ht
    exact⟨q,hq,hv.gY (fun b x ty fr m g=>⟨hcb _ _ _ _ g,m⟩) fun _ _ h=>h⟩
   ·rintro e a3 W3 ⟨ae,s2,rfl,hr3,rfl,ρ',hle⟩
    obtain⟨_,_,β2,h6,_⟩:=hr3
    have hl3:W3.heap[w.heap.size+1]?=some (.loop {rec' .ready with state:=.busy}):=(h6.block _ (kM hlb) (hnl h4 hlb)).trans hlb
    have hk3:W3.heap[w.heap.size]?=some (.deferred (some [])):=(h6.block _ (kM hkb) (hnd h4 hkb)).trans hkb
    have h7:=(hle.Bg (tmps:=#[]) h6 fun t v ht=>by simp[look]at ht).1
    have h8:=h4.back (fun _ _ h=>h) h7
    refine⟨_,_,run_endRound none hl3,rfl,_,h8.wJ (hcells (W':=w) hl3 rfl) rfl rfl rfl (by simp) (fun b hb=>World.putObj_heap_other (by have:b<w.heap.size:=hb;omega)),World.putObj_heap_same (kM hl3),(World.putObj_heap_other aa).trans hk3⟩
 ·rintro e W2 ⟨⟨v,rfl⟩,β,h,hl,hk⟩
  refine⟨none,_,run_endLoop hl (by simp[rec']),.normal,_,rfl,⟨⟨fun h=>by rw[hro]at h;simp at h,?_⟩,hsz,β,(hW.back (fun k x hk=>hW.keep k x hk) h).wJ (hcells (W':=w) hl rfl) rfl rfl rfl (by simp) (fun b hb=>World.putObj_heap_other (by have:=hW.size;omega)),hsl h (hcells (W':=w) hl rfl)⟩,hend⟩
  obtain⟨_,Ds,e1,e2,e3⟩:=hdf
  refine⟨w.heap.size::Ds,by simp[e1],List.nodup_cons.2 ⟨fun hm=>?_,e2⟩,fun D hD=>?_⟩
  ·have:=kM (e3 _ hm).1
   omega
  ·rcases List.mem_cons.1 hD with rfl|hD
   ·exact⟨(World.putObj_heap_other aa).trans hk,hW.size⟩
   ·have hlt:=kM (e3 D hD).1
    refine⟨(World.putObj_heap_other aa).trans ((h.block D hlt (hnd hW (e3 D hD).1)).trans (e3 D hD).1),(e3 D hD).2⟩
end rule
end Go.Am
namespace Go.Am
open AV
def agw (c:Code) (p:List Nat):Array Oper:=match part c p with
 |.region _ ops _=>ops
 |_=>#[]
def yZ (c:Code) (p:List Nat):Nat:=match part c p with
 |.region i _ _=>i
 |_=>0
def Xn:Oper:={dst:=none,op:=.move (.const undef),type:=0,pos:= "",after:=#[],guard:=none}
def dF (c:Code) (p:List Nat) (i:Nat):Oper:=match(agw c p).toList[i]? with
 |some o=>o
 |none=>Xn
def fT (o:Oper) (d:Tmp) (op:Op):Prop:=o.dst=some d/\o.op=op/\o.guard=none
structure CC (x:Code) (tS tE tI:TypeId):Prop where
 shape:x=.seq (.region (yZ x [0]) #[dF x [0] 0,dF x [0] 1,dF x [0] 2,dF x [0] 3] false) (.block 0 (.loop (.seq
  (.seq (.region (yZ x [1,0,0,0,0]) #[dF x [1,0,0,0,0] 0,dF x [1,0,0,0,0] 1] false) (.cond (.tmp 8) .skip (.exit 0)))
  (.seq (.block 1 (.seq (.region (yZ x [1,0,0,1,0,0,0]) #[dF x [1,0,0,1,0,0,0] 0,dF x [1,0,0,1,0,0,0] 1,dF x [1,0,0,1,0,0,0] 2,dF x [1,0,0,1,0,0,0] 3,dF x [1,0,0,1,0,0,0] 4,dF x [1,0,0,1,0,0,0] 5,dF x [1,0,0,1,0,0,0] 6,dF x [1,0,0,1,0,0,0] 7] false) (.cond (.tmp 18) .ret .skip)))
   (.region (yZ x [1,0,0,1,1]) #[dF x [1,0,0,1,1] 0,dF x [1,0,0,1,1] 1,dF x [1,0,0,1,1] 2] false)))))
 o0:fT (dF x [0] 0) 4 (.load tS (.tmp 1))
 o1:fT (dF x [0] 1) 5 (.call ⟨.builtin .len,#[.tmp 4],#[tS]⟩)
 o2:fT (dF x [0] 2) 6 (.binOp .sub tI (.tmp 5) (.const (.int .i64 1)) tI)
 o3:fT (dF x [0] 3) 3 (.assign (.tmp 6))
 p0:fT (dF x [1,0,0,0,0] 0) 7 (.move (.tmp 3))
 p1:fT (dF x [1,0,0,0,0] 1) 8 (.binOp .geq tI (.tmp 7) (.const (.int .i64 0)) tI)
 q0:fT (dF x [1,0,0,1,0,0,0] 0) 11 (.move (.tmp 0))
 q1:fT (dF x [1,0,0,1,0,0,0] 1) 12 (.move (.tmp 3))
 q2:fT (dF x [1,0,0,1,0,0,0] 2) 13 (.load tS (.tmp 1))
 q3:fT (dF x [1,0,0,1,0,0,0] 3) 14 (.move (.tmp 3))
 q4:fT (dF x [1,0,0,1,0,0,0] 4) 15 (.indexAddr tS (.tmp 13) (.tmp 14))
 q5:fT (dF x [1,0,0,1,0,0,0] 5) 16 (.load tE (.tmp 15))
 q6:∃ts,fT (dF x [1,0,0,1,0,0,0] 6) 17 (.call ⟨.value (.tmp 11),#[.tmp 12,.tmp 16],ts⟩)
 q7:∃t,fT (dF x [1,0,0,1,0,0,0] 7) 18 (.unOp .not t (.tmp 17))
 s0:fT (dF x [1,0,0,1,1] 0) 9 (.move (.tmp 3))
 s1:fT (dF x [1,0,0,1,1] 1) 10 (.binOp .sub tI (.tmp 9) (.const (.int .i64 1)) tI)
 s2:fT (dF x [1,0,0,1,1] 2) 3 (.assign (.tmp 10))
section steps
variable {P:Program} {n:Nat} {ops:Array Oper} {Q:Exit->Act->World->Prop} {a:Act} {w:World} {rest:List Oper}
theorem jA {o:Oper} {d:Tmp} {op:Op} (h:fT o d op) (hd:∀c,op≠.defer c) {v:Value} (hrun:(execOp a.eval o).run P w=.ok (.value v) w)
  (hn:wpListIn Fence.wide n P ops Q rest (a.put (some d) v) w):wpListIn Fence.wide n P ops Q (o::rest) a w:=by
 refine wpListIn_plain h.2.2 fun K hK=>⟨fun _ _=>trivial,?_⟩
 rw[Oper.semAt_eq _ _ _ (by rw[h.2.1];exact hd),hrun]
 show K (a.put o.dst v) w
 rw[h.1];exact hK _ _ hn
theorem fW {d t:Tmp} {v:Value}:(a.put (some d) v).tmps[t]?=if t=d then(if d<a.tmps.size then some v else none)else a.tmps[t]?:=by
 simp only[Act.put,Array.getElem?_setIfInBounds]
 by_cases h:d=t
 ·subst h;simp
 ·have:¬t=d:=fun e=>h e.symm
  simp[h,this]
theorem fV {d:Tmp} {v:Value}:(a.put (some d) v).tmps.size=a.tmps.size:=by simp[Act.put]
theorem put_defers {d:Tmp} {v:Value}:(a.put (some d) v).defers=a.defers:=rfl
theorem iy {t:Tmp} {v:Value} (h:a.tmps[t]?=some v):a.eval (.tmp t)=v:=by simp[Act.eval,Array.getD_eq_getD_getElem?,h]
theorem uC {o:Oper} {d:Tmp} {x:Operand} (h:fT o d (.move x)):(execOp a.eval o).run P w=.ok (.value (a.eval x)) w:=by
 simp[execOp,h.2.1]
theorem FN {o:Oper} {d:Tmp} {x:Operand} (h:fT o d (.assign x)):(execOp a.eval o).run P w=.ok (.value (a.eval x)) w:=by
 simp[execOp,h.2.1]
theorem Hq {T:Types} (hT:dJ P T) {o:Oper} {d:Tmp} {b:BinOp} {t u:TypeId} {x y:Operand} (h:fT o d (.binOp b t x y u)) {m k:Int} (hx:a.eval x=.int .i64 m) (hy:a.eval y=.int .i64 k) {r:eu} (hr:og T t b (.int .i64 m) (.int .i64 k)=some r) (need:r.need)
  {v:Value} (hv:∀z,bw (fun _=>False) w bt r.val z->z=v):(execOp a.eval o).run P w=.ok (.value v) w:=by
 have hint:∀k,bJ (aO {Mf:=fun _=>False,w0:=w,Mw:=fun _=>False,k0:=bt} [] bt) w bt (.int .i64 k) (.int .i64 k):=fun k=>bw.bP (.cz (.int .nil) rfl)
 have hM:aO {Mf:=fun _=>False,w0:=w,Mw:=fun _=>False,k0:=bt} [] bt=fun _=>False:=by
  funext b;simp[aO,look]
 obtain⟨_,z,hz,hz2⟩:=Kr (P:=P) hT (t':=t) (x:=x) (y:=y) (hint m) (hint k) hr need
 rw[hM]at hz2
 have:=hv z hz2
 subst this
 simp only[execOp,h.2.1,hx,hy]
 simp only[Sem.run_bind]at hz ⊢
 revert hz
 cases (eqGuard b t x y (.int .i64 m) (.int .i64 k)).run P w with
 |ok u w'=>
  simp only[Result.andThen_ok]
  intro hz
  rw[hz];rfl
 |_=>intro hz;simp[Result.andThen]at hz
theorem run_load {o:Oper} {d:Tmp} {t:TypeId} {x:Operand} (h:fT o d (.load t x)) {v:Value} (hv:(Instr.loadAt t (a.eval x)).run P w=.ok v w):(execOp a.eval o).run P w=.ok (.value v) w:=by
 simp only[execOp,h.2.1,Sem.run_bind,hv,Result.andThen_ok,Sem.run_pure]
theorem WW {o:Oper} {d:Tmp} {t:TypeId} {x y:Operand} (h:fT o d (.indexAddr t x y)) {v:Value} (hv:(Instr.indexAt t (a.eval x) (a.eval y)).run P w=.ok v w):(execOp a.eval o).run P w=.ok (.value v) w:=by
 simp only[execOp,h.2.1,Sem.run_bind,hv,Result.andThen_ok,Sem.run_pure]
theorem afG {o:Oper} {d:Tmp} {t:TypeId} {x:Operand} (h:fT o d (.unOp .not t x)) {b:Bool} (hv:a.eval x=.bool b):(execOp a.eval o).run P w=.ok (.value (.bool !b)) w:=by
 simp[execOp,h.2.1,hv,Op.unary]
theorem adO {o:Oper} {d:Tmp} {t e:TypeId} {x:Operand} (h:fT o d (.call ⟨.builtin .len,#[x],#[t]⟩)) (hu:P.underlying t=some (.slice e)) {base:Option Addr} {m cap:Nat} (hv:a.eval x=.slice base m cap):
  (execOp a.eval o).run P w=.ok (.value (.int .i64 m)) w:=by
 have hres:(execOp a.eval o:Sem Next)=builtin .len #[t] o.type (#[x].map fun|.const _=>true|_=>false) (Array.map a.eval #[x]):=by
  simp only[execOp,h.2.1];rfl
 rw[hres]
 simp[builtin,Builtin.len_,run_underlying hu,goInt,hv]
theorem YD {o:Oper} {d:Tmp} {f:Operand} {xs:Array Operand} {ts:Array TypeId} (h:fT o d (.call ⟨.value f,xs,ts⟩)) {l:Nat} (hf:a.eval f=.func (.yield l) #[] #[]) {vs:Array Value} (hvs:xs.map a.eval=vs)
  {R:Ending->World->Prop} (hy:YieldAt Fence.wide n P l vs w R) (hR:∀e w',R e w'->∃v,e=.returned v/\wpListIn Fence.wide (n+1) P ops Q rest (a.put (some d) v) w'):wpListIn Fence.wide (n+1) P ops Q (o::rest) a w:=by
 refine wpListIn_plain h.2.2 fun K hK=>⟨fun _ _=>trivial,?_⟩
 rw[Oper.semAt_eq _ _ _ (by rw[h.2.1];intro c hc;cases hc)]
 obtain⟨fn,tmps,assign,body,h1,h2⟩:=hy
 have hrun:(execOp a.eval o).run P w=.ok (.round l fn tmps assign body) w:=by
  have:(execOp a.eval o:Sem Next)=Instr.yield l vs:=by
   simp only[execOp,h.2.1,resolve,hf,Deferred.ofValue,hvs]
   simp[invoke]
  rw[this];exact h1
 rw[hrun]
 refine⟨fun _=>aa,RoundIn.mono h2 ?_⟩
 intro e w' he
 obtain⟨v,rfl,hv⟩:=hR e w' he
 show K (a.put o.dst v) w'
 rw[h.1];exact hK _ _ hv
end steps
theorem X0 {P:Program} {T:Types} (hT:dJ P T) {t:TypeId} {ti:TI} (ht:look t T=some ti) (ha:ko ti.desc=true) {w:World} {b o:Nat} {ps:List Value} (hr:w.rangeAt b o ps) (hl:ps.length=ti.size):
  (Instr.loadAt t (.pointer (some ⟨b,o,none⟩))).run P w=.ok (.agg ps.toArray) w:=by
 obtain⟨i,hi,his,_⟩:=(hT t ti ht).info
 refine run_loadAt_mid (P:=P) w b o t ps ti.desc hr (hT t ti ht).dh ?_ (by rw[hi];simp[his,hl])
 cases hd:ti.desc<;>simp_all [ko,TypeDesc.isRow]
theorem af8 {P:Program} {T:Types} (hT:dJ P T) {t:TypeId} {ti:TI} (ht:look t T=some ti) {e:TypeId} (hd:ti.desc=.slice e) {w:World} {b o:Nat} {x:Value} (hr:w.rangeAt b o [x]):
  (Instr.loadAt t (.pointer (some ⟨b,o,none⟩))).run P w=.ok x w:=by
 have hc:w.cell? ⟨b,o,none⟩=some x:=by simpa using hr 0 x (by simp)
 have hg:(isAgg t).run P w=.ok false w:=by
  unfold Go.isAgg
  rw[Sem.run_bind,run_underlying (hT t ti ht).dh w,hd];simp
 simp[Instr.loadAt,Instr.sureAddr,loadVar,Sem.run_bind,hg,hc]
def Lx (n l b0 off0:Nat) (J:Nat->World->Prop) (i:Nat) (a:Act) (W:World):Prop:=
 i<=n/\a.tmps.size=19/\a.tmps[0]?=some (.func (.yield l) #[] #[])/\a.tmps[1]?=some (.pointer (some ⟨b0,off0,none⟩))/\a.tmps[3]?=some (.int .i64 ((n:Int)-1-i))/\a.defers=[]/\J i W
set_option maxHeartbeats 400000 in
theorem Gp {P:Program} {T:Types} (hT:dJ P T) {tS tE tI:TypeId} {tiS tiE:TI} (hS:look tS T=some tiS) (hdS:tiS.desc=.slice tE) (hE:look tE T=some tiE) (hA:ko tiE.desc=true) {gf:FuncId} {fn:Func} {x:Code}
  (hf:P.funcs[gf]?=some fn) (hb:fn.body=some x) (hnt:fn.ntmps=19) (hres:fn.results=#[]) (hx:CC x tS tE tI) {n es:Nat} {f:Nat->AV} (hn:n<2^62) (hes:tiE.size=es) (hag:∀i,i<n->(f i).isAgg=true/\(f i).isTuple=false):
  uS P gf [.bn (.ak es n f)] n (fun i=>.int .i64 ((n:Int)-1-i)) (fun i=>f (n-1-i)):=by
 intro M w β lb hlb
 obtain⟨b0,off0,ps0,hlb0,hps,hmem⟩:∃b o ps,lb=[.pointer (some ⟨b,o,none⟩)]/\aQ M w bt [.ak es n f] ps/\gI M w b o ps:=by
  cases hlb with
  |bn h1 h2 h3=>cases h3;exact⟨_,_,_,rfl,h1,h2⟩
 subst hlb0
 obtain⟨base,cap,cf,hps0,g1,g2,g3,g4,g5⟩:∃base cap,∃cf:Nat->List Value,ps0=[.slice base n cap]/\(n=0\/∃b o,base=some ⟨b,o,none⟩/\∀i,i<n->gI M w b (o+i*es) (cf i))/\0<es/\n<=cap/\
   (∀i,i<n->(cf i).length=es)/\∀i,i<n->aQ M w bt [f i] (cf i):=by
  cases hps with
  |ak h1 h2 h3 h4 h5 h6=>cases h6;exact⟨_,_,_,rfl,h1,h2,h3,h4,h5⟩
 subst hps0
 refine⟨fun i=>.int .i64 ((n:Int)-1-i),fun i=>.agg (cf (n-1-i)).toArray,fun i hi=>⟨bw.bP (.cz (.int .nil) rfl),?_⟩,?_⟩
 ·exact bw.bP (bw.xd (g5 _ aa) (hag _ aa).1)
 intro l J hJ hY W0 hW0
 have hu:=hdS▸(hT tS tiS hS).dh
 have hls:∀i W,J i W->(Instr.loadAt tS (.pointer (some ⟨b0,off0,none⟩))).run P W=.ok (.slice base n cap) W:=fun i W hj=>by
  obtain⟨c,ty,fr,h1,h2,h3⟩:=hmem
  refine af8 hT hS hdS ?_
  intro j v hv
  rw[sY (hJ i W hj _ _ _ _ h2 h1)]
  exact h3 j v hv
 refine callsIn_of_wp hf hb trivial ?_ rfl
 generalize ha0:({tmps:=(#[Value.func (.yield l) #[] #[]]++[Value.pointer (some ⟨b0,off0,none⟩)].toArray)++Array.replicate (fn.ntmps-(#[Value.func (.yield l) #[] #[]]++[Value.pointer (some ⟨b0,off0,none⟩)].toArray).size) undef,defers:=[]}:Act)=a0
 have hB:a0.tmps.size=19/\a0.tmps[0]?=some (.func (.yield l) #[] #[])/\a0.tmps[1]?=some (.pointer (some ⟨b0,off0,none⟩))/\a0.defers=[]:=by
  subst ha0;rw[hnt];exact⟨by simp,by simp,by simp,rfl⟩
 clear ha0
 rw[hx.shape]
 have key:∀{F:Fence} {n:Nat} {Q:Exit->Act->World->Prop} {a:Act} {w:World} {i:Nat} {l:List Oper},wpListIn F n P l.toArray Q l a w->(Code.region i l.toArray false).wpIn F n P Q a w:=fun h=>wpIn_region_lit h
 have sb:∀{a:Act} {w:World} {o:Oper} {d t s:Tmp} {m:Int},fT o d (.binOp .sub tI (.tmp t) (.const (.int .i64 1)) tI)->a.tmps[t]?=some (.int .i64 m)->-2^62<=m->m<=2^62->(execOp a.eval o).run P w=.ok (.value (.int .i64 (m-1))) w:=by
  intro a w o d t s m ho ht h1 h2
  refine Hq hT ho (iy ht) rfl (r:=⟨.int .i64 (IntKind.i64.wrap (m-1)),[],[]⟩) rfl trivial fun z hz=>?_
  rw[wrap64 (n:=m-1) aa]at hz
  exact hz.bP.int
 have ge:∀{a:Act} {w:World} {o:Oper} {d t s:Tmp} {m:Int},fT o d (.binOp .geq tI (.tmp t) (.const (.int .i64 0)) tI)->a.tmps[t]?=some (.int .i64 m)->(execOp a.eval o).run P w=.ok (.value (.bool (decide (m>=0)))) w:=by
  intro a w o d t s m ho ht
  exact Hq hT ho (iy ht) rfl (r:=⟨.bool (decide (m>=0)),[],[]⟩) rfl trivial fun z hz=>hz.bP.bool
 refine wpIn_seq (wpIn_mono (Q:=fun e a w=>e=.normal/\w=W0/\a.tmps.size=19/\a.tmps[0]?=some (.func (.yield l) #[] #[])/\a.tmps[1]?=some (.pointer (some ⟨b0,off0,none⟩))/\a.tmps[3]?=some (.int .i64 ((n:Int)-1))/\a.defers=[]) (key (l:=[_,_,_,_]) ?_) ?_)
 ·obtain⟨z1,z2,z3,z4⟩:=hB
  refine jA hx.o0 (fun _ h=>by cases h) (run_load hx.o0 (by rw[iy z3];exact hls 0 W0 hW0)) ?_
  refine jA hx.o1 (fun _ h=>by cases h) (adO hx.o1 hu (base:=base) (m:=n) (cap:=cap) (iy (by simp only[fW,z1,Nat.reduceLT,if_true]))) ?_
  refine jA hx.o2 (fun _ h=>by cases h) (sb (s:=0) (m:=n) hx.o2 (by simp only[fW,fV,z1,Nat.reduceEqDiff,Nat.reduceLT,if_true,if_false]) aa aa) ?_
  refine jA hx.o3 (fun _ h=>by cases h) (FN hx.o3) (wpListIn_nil ?_)
  rw[iy (v:=.int .i64 ((n:Int)-1)) (by simp only[fW,fV,z1,Nat.reduceEqDiff,Nat.reduceLT,if_true,if_false])]
  refine⟨rfl,rfl,by simp only[fV];exact z1,?_,?_,?_,by simp only[put_defers];exact z4⟩
  ·simp only[fW,fV,z1,z2,Nat.reduceEqDiff,Nat.reduceLT,if_true,if_false]
  ·simp only[fW,fV,z1,z3,Nat.reduceEqDiff,Nat.reduceLT,if_true,if_false]
  ·simp only[fW,fV,z1,Nat.reduceEqDiff,Nat.reduceLT,if_true,if_false]
 rintro e a1 W1 ⟨rfl,rfl,z1,z2,z3,z4,z5⟩
 show(Code.block 0 _).wpIn Fence.wide 2 P (bodyPost P fn _) a1 W1
 refine wpIn_block (Bm (P:=P) (Lx n l b0 off0 J) (fun i=>n-i) (s:=0) ?_ ⟨aa,z1,z2,z3,by rw[z4];congr 2;omega,z5,hW0⟩)
 rintro i a W ⟨hi,y1,y2,y3,y4,y5,hj⟩
 refine wpIn_seq (wpIn_mono (Q:=fun e a' w'=>(e=.normal/\i<n/\W=w'/\a'.tmps.size=19/\a'.tmps[0]?=some (.func (.yield l) #[] #[])/\a'.tmps[1]?=some (.pointer (some ⟨b0,off0,none⟩))/\a'.tmps[3]?=some (.int .i64 ((n:Int)-1-i))/\a'.defers=[])\/(e=.exit 0/\i=n/\W=w'/\a'.defers=[])) ?_ ?_)
 ·refine wpIn_seq (key (l:=[_,_]) ?_)
  refine jA hx.p0 (fun _ h=>by cases h) (uC hx.p0) ?_
  rw[iy y4]
  refine jA hx.p1 (fun _ h=>by cases h) (ge (s:=0) (m:=(n:Int)-1-i) hx.p1 (by simp only[fW,y1,Nat.reduceLT,if_true])) (wpListIn_nil ?_)
  have q8:((a.put (some 7) (Value.int .i64 ((n:Int)-1-i))).put (some 8) (.bool (decide ((n:Int)-1-i>=0)))).eval (.tmp 8)=.bool (decide ((n:Int)-1-i>=0)):=iy (by simp only[fW,fV,y1,Nat.reduceEqDiff,Nat.reduceLT,if_true,if_false])
  by_cases hlt:i<n
  ·rw[show decide ((n:Int)-1-i>=0)=true by simp;omega]at q8 ⊢
   refine wpIn_cond_true q8 (wpIn_skip (.inl ⟨rfl,hlt,rfl,by simp only[fV];exact y1,?_,?_,?_,by simp only[put_defers];exact y5⟩))
   ·simp only[fW,fV,y1,y2,Nat.reduceEqDiff,Nat.reduceLT,if_true,if_false]
   ·simp only[fW,fV,y1,y3,Nat.reduceEqDiff,Nat.reduceLT,if_true,if_false]
   ·simp only[fW,fV,y1,y4,Nat.reduceEqDiff,Nat.reduceLT,if_true,if_false]
  ·rw[show decide ((n:Int)-1-i>=0)=false by simp;omega]at q8 ⊢
   exact wpIn_cond_false q8 (wpIn_exit (.inr ⟨rfl,aa,rfl,by simp only[put_defers];exact y5⟩))
 rintro e a2 W2 (⟨rfl,hlt,rfl,y1,y2,y3,y4,y5⟩|⟨rfl,rfl,rfl,y5⟩)
 rotate_left
 ·exact⟨y5,.tuple #[],results_none hres _ _ _,⟨_,rfl⟩,hj⟩
 obtain⟨b,off,rfl,g1'⟩:=g1.resolve_left aa
 have hle:(Instr.loadAt tE (.pointer (some ⟨b,off+(n-1-i)*es,none⟩))).run P W=.ok (.agg (cf (n-1-i)).toArray) W:=by
  refine X0 hT hE hA ?_ (by rw[g4 _ aa,hes])
  obtain⟨c,ty,fr,h1,h2,h3⟩:=g1' (n-1-i) aa
  intro j v hv
  rw[sY (hJ i W hj _ _ _ _ h2 h1)]
  exact h3 j v hv
 have hix:(Instr.indexAt tS (.slice (some ⟨b,off,none⟩) n cap) (.int .i64 ((n:Int)-1-i))).run P W=.ok (.pointer (some ⟨b,off+(n-1-i)*es,none⟩)) W:=by
  have:=xk (P:=P) (w:=W) hT hS hdS hE (b:=b) (o:=off) (n:=n) (cap:=cap) (kd:=.i64) (i:=(n:Int)-1-i) aa aa
  rw[this,hes,show((n:Int)-1-i).toNat=n-1-i by omega]
 obtain⟨ts,hq6⟩:=hx.q6
 obtain⟨tn,hq7⟩:=hx.q7
 show(Code.seq _ _).wpIn Fence.wide 2 P _ a2 W
 refine wpIn_seq (wpIn_block (wpIn_seq (key (l:=[_,_,_,_,_,_,_,_]) ?_)))
 refine jA hx.q0 (fun _ h=>by cases h) (uC hx.q0) ?_
 rw[iy y2]
 refine jA hx.q1 (fun _ h=>by cases h) (uC hx.q1) ?_
 rw[iy (v:=.int .i64 ((n:Int)-1-i)) (by simp only[fW,y1,y4,Nat.reduceEqDiff,Nat.reduceLT,if_true,if_false])]
 refine jA hx.q2 (fun _ h=>by cases h) (run_load hx.q2 (by rw[iy (v:=.pointer (some ⟨b0,off0,none⟩)) (by simp only[fW,fV,y1,y3,Nat.reduceEqDiff,Nat.reduceLT,if_true,if_false])];exact hls i W hj)) ?_
 refine jA hx.q3 (fun _ h=>by cases h) (uC hx.q3) ?_
 rw[iy (v:=.int .i64 ((n:Int)-1-i)) (by simp only[fW,fV,y1,y4,Nat.reduceEqDiff,Nat.reduceLT,if_true,if_false])]
 refine jA hx.q4 (fun _ h=>by cases h) (WW hx.q4 (v:=.pointer (some ⟨b,off+(n-1-i)*es,none⟩)) ?_) ?_
 ·rw[iy (v:=.slice (some ⟨b,off,none⟩) n cap) (by simp only[fW,fV,y1,Nat.reduceEqDiff,Nat.reduceLT,if_true,if_false]),iy (v:=.int .i64 ((n:Int)-1-i)) (by simp only[fW,fV,y1,Nat.reduceEqDiff,Nat.reduceLT,if_true,if_false])]
  exact hix
 refine jA hx.q5 (fun _ h=>by cases h) (run_load hx.q5 (by rw[iy (v:=.pointer (some ⟨b,off+(n-1-i)*es,none⟩)) (by simp only[fW,fV,y1,Nat.reduceEqDiff,Nat.reduceLT,if_true,if_false])];exact hle)) ?_
 refine YD hq6 (l:=l) (iy (by simp only[fW,fV,y1,Nat.reduceEqDiff,Nat.reduceLT,if_true,if_false])) (vs:=#[.int .i64 ((n:Int)-1-i),.agg (cf (n-1-i)).toArray]) ?_ (hY i W hlt hj) ?_
 ·simp only[List.map_toArray,List.map_cons,List.map_nil]
  rw[iy (v:=.int .i64 ((n:Int)-1-i)) (by simp only[fW,fV,y1,Nat.reduceEqDiff,Nat.reduceLT,if_true,if_false]),iy (v:=.agg (cf (n-1-i)).toArray) (by simp only[fW,fV,y1,Nat.reduceEqDiff,Nat.reduceLT,if_true,if_false])]
 rintro e W3 ⟨rfl,hj3⟩
 refine⟨_,rfl,?_⟩
 refine jA hq7 (fun _ h=>by cases h) (afG hq7 (b:=true) (iy (by simp only[fW,fV,y1,Nat.reduceEqDiff,Nat.reduceLT,if_true,if_false]))) (wpListIn_nil ?_)
 refine wpIn_cond_false (iy (by simp only[fW,fV,y1,Nat.reduceEqDiff,Nat.reduceLT,if_true,if_false,Bool.not_true])) (wpIn_skip ?_)
 refine key (l:=[_,_,_]) ?_
 refine jA hx.s0 (fun _ h=>by cases h) (uC hx.s0) ?_
 rw[iy (v:=.int .i64 ((n:Int)-1-i)) (by simp only[fW,fV,y1,y4,Nat.reduceEqDiff,Nat.reduceLT,if_true,if_false])]
 refine jA hx.s1 (fun _ h=>by cases h) (sb (s:=0) (m:=(n:Int)-1-i) hx.s1 (by simp only[fW,fV,y1,Nat.reduceEqDiff,Nat.reduceLT,if_true,if_false]) aa aa) ?_
 refine jA hx.s2 (fun _ h=>by cases h) (FN hx.s2) (wpListIn_nil ?_)
 rw[iy (v:=.int .i64 ((n:Int)-1-i-1)) (by simp only[fW,fV,y1,Nat.reduceEqDiff,Nat.reduceLT,if_true,if_false])]
 have hI:Lx n l b0 off0 J (i+1) ((((a2.put (some 11) (.func (.yield l) #[] #[])).put (some 12) (.int .i64 ((n:Int)-1-i))).put (some 13) (.slice (some ⟨b,off,none⟩) n cap)|>.put (some 14) (.int .i64 ((n:Int)-1-i))|>.put (some 15) (.pointer (some ⟨b,off+(n-1-i)*es,none⟩))|>.put (some 16) (.agg (cf (n-1-i)).toArray)|>.put (some 17) (.bool true)|>.put (some 18) (.bool !true)|>.put (some 9) (.int .i64 ((n:Int)-1-i))|>.put (some 10) (.int .i64 ((n:Int)-1-i-1))|>.put (some 3) (.int .i64 ((n:Int)-1-i-1)))) W3:=by
  refine⟨aa,by simp only[fV];exact y1,?_,?_,?_,by simp only[put_defers];exact y5,hj3⟩
  ·simp only[fW,fV,y1,y2,Nat.reduceEqDiff,Nat.reduceLT,if_true,if_false]
  ·simp only[fW,fV,y1,y3,Nat.reduceEqDiff,Nat.reduceLT,if_true,if_false]
  ·simp only[fW,fV,y1,y4,Nat.reduceEqDiff,Nat.reduceLT,if_true,if_false];congr 2;omega
 have hμ:n-(i+1)<n-i:=aa
 exact⟨i+1,hI,hμ⟩
section funcs
variable {P:Program} {T:Types} (hT:dJ P T)
include hT in
theorem Mn {f:FuncId} {fn:Func} {x:Code} (hf:iW P f fn x) {args:List AV} {r:dw} (hk:bI args=[]) (hlen:args.length<=fn.ntmps) (hpost:r.post=[])
  (h:r.need->∀c:Ctx,c.ro=none->Kept [] c->ay P c fn.ntmps x ⟨aS 0 args,[],0⟩ (eU c (Fin T fn r.res))) (K:Nat) (pre:aD):aN P f K args pre r:=
 Lv hT hf hk hlen hpost (fun need c h0 hro=>.down (h need c hro (tJ fun _=>jW h0))) K pre
end funcs
theorem Le.bare {c:Ctx} {ρ:Nat->Option Nat} {s s2:aK} (h:Le c ρ s s2):Le c ρ ⟨[],s.store,s.next⟩ ⟨[],s2.store,s2.next⟩:=
 ⟨h.inj,fun t v ht=>by simp[look]at ht,h.store,h.dom,h.keep⟩
theorem aew {c:Ctx} {s':aK} {ls:List Nat} {us vs:List AV} {os ps:aD} {nx:Nat} (rl:List (Nat×Nat)) (hv:bB ls s'=some (us,os)) (hk0:∀k x,c.k0 k=some x->look k rl=some k) (hr:jn nx rl=true)
  (hs:fU (bA rl) us vs) (ho:sZ nx (bA rl) os ps):Le c (bA rl) s' ⟨aG ls vs,ps,nx⟩:=by
 unfold bB at hv
 simp only[ax,Prod.mk.injEq]at hv
 obtain⟨rfl,rfl⟩:=hv
 have hall:∀p∈rl,p.1<nx/\∀q∈rl,p.2=q.2->p.1=q.1:=fun p hp=>by
  have:=List.all_eq_true.1 hr p hp
  simp only[Bool.and_eq_true,bz]at this
  refine⟨this.1,fun q hq he=>?_⟩
  have h3:=List.all_eq_true.1 this.2 q hq
  simpa [he]using h3
 refine⟨?_,AL hs,fun k2 o2 hk=>?_,fun k2 k1 hk=>(hall _ (mo hk)).1,hk0⟩
 ·intro a b k ha hb
  exact(hall _ (mo ha)).2 _ (mo hb) rfl
 ·refine(Db ho k2 o2 hk).imp (fun⟨k1,o1,g1,g2,g3⟩=>⟨k1,o1,g1,?_,g3⟩) id
  rw[lT]at g2
  split at g2
  ·exact g2
  ·simp at g2
theorem iW.enters {P:Program} {f:FuncId} {fn:Func} {x:Code} (h:iW P f fn x):∀args w,(callFunc f args).run P w=.ok (.enter f args) w:=fun args w=>by
 have hb:fn.body.isNone=false:=by rw[h.body];rfl
 simp only[callFunc,Sem.run_bind,run_program,Result.andThen_ok,h.get,h.name,hb,Bool.false_eq_true,if_false,Sem.run_pure]
section rule
variable {P:Program} {c:Ctx} {nt:Nat} {s:aK} {Q:aq->aK->Prop} {T:Types} (hT:dJ P T) {Γ:aV} (hΓ:bg P Γ) (hm:P.follows .mixedOrders=true)
include hT hΓ hm in
theorem ay.I4 {x assign body:Code} {g p0 p1:Tmp} (p:List Nat) {i:Nat} (hc:chain x p=true) (hx:part x p=.block i (.rangeFunc (.tmp g) #[p0,p1] assign body)) (hd:cD nt x=true) (hro:c.ro=none) (h0:Kept [] c)
  {gf:FuncId} {caps:List AV} {n:Nat} {u v:Nat->AV} (heg:∀args w,(callFunc gf args).run P w=.ok (.enter gf args) w) (hit:uS P gf caps n u v) (hp0:p0<nt) (hp1:p1<nt) (hne:p0≠p1)
  {f1 f2 f3:List Nat} (N:Nat) (L LA:List Nat) (V:List AV) (hL:∀i,put p1 (v i) (put p0 (u i) (aG L V))=aG (L++[p0,p1]) (V++[u i,v i])) (hg:look g (aG L V)=some (.func gf caps)) (st:Nat->aD) (nx nA:Nat) (VA:Nat->List AV) (OA:Nat->aD) (kp:List Nat)
  (hp:∃t,aL T Γ f1 N L (before x p) s=some t/\t.all fun e w=>e=.normal/\∃rl,(jn nx rl&&rl.all fun q=>kp.contains q.1)=true/\w.1=V.map (mF rl)/\V.all (lZ rl)=true/\jM nx rl w.2 (st 0))
  (ha:∀i,i<n->∃t,aL T Γ f2 N LA [assign] ⟨aG (L++[p0,p1]) (V++[u i,v i]),st i,nx⟩=some t/\t.all fun e w=>e=.normal/\fz kp w (VA i) (OA i) nA)
  (hb:∀i,i<n->∃t,aL T Γ f3 N L [body] ⟨aG LA (VA i),OA i,nA⟩=some t/\t.all fun e w=>e=.normal/\fz kp w V (st (i+1)) nx)
  (hend:aI P c nt (behind x p) ⟨aG L V,st n,nx⟩ Q):ay P c nt x s Q:=by
 obtain⟨t,h1,h2⟩:=hp
 have hdb:=tD (p:=p) hc hd
 rw[hx]at hdb
 simp only[cD,Bool.and_eq_true]at hdb
 refine ay.hole p hc (aI.bH hT hΓ hm N L h1 (ow hd) (ag.fO ?_ h2))
 rintro e w ⟨rfl,rl,g1,g2,g3,g4⟩ s' hs'
 simp only[Bool.and_eq_true]at g1
 show ay P c nt (part x p) s' _
 rw[hx]
 refine ay.BS (ay.Tt (gf:=gf) (caps:=caps) (n:=n) (u:=u) (v:=v) (sl:=aG L V) (st:=st) (nx:=fun _=>nx) hro (aew rl hs' (fun k y hk=>absurd (h0 k y hk) (by simp)) g1.1 (Bx g2 g3) (An g4)) hg heg hit hp0 hp1 hne ?_ ?_)
 ·intro c' hk' i hi
  have hkp:∀{c':Ctx},(∀k y,c'.k0 k=some y->(bA rl k).isSome=true)->Kept kp c':=fun {c'} hk' k y hk=>by
   obtain⟨j,hj⟩:=Option.isSome_iff_exists.1 (hk' k y hk)
   have:=List.all_eq_true.1 g1.2 _ (mo hj)
   simpa using this
  rw[hL]
  obtain⟨t,a1,a2⟩:=ha i hi
  refine ay.bH hT hΓ hm N LA a1 hdb.1 (ag.fO ?_ a2)
  rintro e w ⟨rfl,hre⟩ s2 hs2
  refine⟨rfl,fun c2 hk2=>ay.lD (hre.le hs2 (hkp hk2)) ?_⟩
  obtain⟨t,b1,b2⟩:=hb i hi
  refine ay.bH hT hΓ hm N L b1 hdb.2 (ag.fO ?_ b2)
  rintro e w ⟨rfl,hre⟩ s3 hs3
  obtain⟨ρ',hle⟩:=hre.le hs3 (hkp hk2)
  exact⟨rfl,ρ',hle.bare⟩
 ·show aI P c nt (behind x p) _ Q
  exact hend
end rule
end Go.Am
namespace Go.Am
open AV
def wm (T:Types) (fn:Func) (e:aq) (s:aK):Option (ag (List AV×Option az)):=match e with
 |.exit _=>none
 |e=>match g8 T s fn.results.toList with
  |some (vs,q)=>some (.need q (.leaf e (vs,look 0 s.store)))
  |none=>none
def EH (T:Types) (Γ:aV) (forks:List Nat) (n:Nat) (fn:Func) (l:List Code) (s:aK):Option (ag (List AV×Option az)):=
 match qZ T Γ forks n l s with
 |some t=>t.bind (wm T fn)
 |none=>none
def DP (us:List AV) (o:az) (v:List AV×Option az):Prop:=
 bI v.1=[]/\(v.1.all fun v=>!v.isTuple)=true/\dA v.1 us/\∃o1,v.2=some o1/\∀ρ,eA ρ o1 o
def wu (T:Types) (fn:Func) (us:List AV) (o:az) (e:aq) (s:aK):Prop:=
 (e=.normal\/e=.ret)/\(∃vs q,g8 T s fn.results.toList=some (vs,q)/\au q/\bI vs=[]/\(vs.all fun v=>!v.isTuple)=true/\dA vs us)/\∃o1,look 0 s.store=some o1/\∀ρ,eA ρ o1 o
theorem Lw {T:Types} {fn:Func} {e:aq} {s:aK} {t:ag (List AV×Option az)} {us:List AV} {o:az} (h1:wm T fn e s=some t) (h2:t.all fun _ v=>DP us o v):wu T fn us o e s:=by
 unfold wm at h1
 have key:∀{e':aq},(match g8 T s fn.results.toList with
   |some (vs,q)=>some (ag.need q (.leaf e' (vs,look 0 s.store)))
   |none=>none)=some t->(∃vs q,g8 T s fn.results.toList=some (vs,q)/\au q/\bI vs=[]/\(vs.all fun v=>!v.isTuple)=true/\dA vs us)/\∃o1,look 0 s.store=some o1/\∀ρ,eA ρ o1 o:=by
  intro e' h1
  cases hr:g8 T s fn.results.toList with
  |none=>rw[hr]at h1;simp at h1
  |some r=>
   obtain⟨vs,q⟩:=r
   rw[hr]at h1
   simp only[ax]at h1
   subst h1
   obtain⟨g1,g2,g3,g4,g5⟩:=ag.AH.1 h2
   exact⟨⟨vs,q,rfl,g1,g2,g3,g4⟩,g5⟩
 cases e with
 |normal=>exact⟨.inl rfl,key h1⟩
 |ret=>exact⟨.inr rfl,key h1⟩
 |exit i=>simp at h1
section rules
variable {P:Program} {c:Ctx} {nt:Nat} {s:aK} {Q:aq->aK->Prop} {T:Types} (hT:dJ P T) {Γ:aV} (hΓ:bg P Γ) (hm:P.follows .mixedOrders=true)
include hT hΓ hm in
theorem aI.afu {fn:Func} {forks:List Nat} (n:Nat) {l:List Code} {t:ag (List AV×Option az)} (hc:EH T Γ forks n fn l s=some t) (hd:(l.all fun x=>cD nt x)=true) {us:List AV} {o:az}
  (h:t.all fun _ v=>DP us o v):aI P c nt l s (wu T fn us o):=by
 unfold EH at hc
 split at hc
 ·rename_i u hx
  refine zl hT hΓ hm hd hx (ag.fO ?_ (ag.kH hc h))
  rintro e s' ⟨v,h1,h2⟩
  exact Lw h1 h2
 ·simp at hc
def AF (T:Types) (fn:Func) (L:List Nat) (us:List AV) (o:az) (v:List AV×aD):Prop:=
 ∃vs ws nx t,v.1=vs++ws/\vs.length=L.length/\bI ws=[]/\wm T fn .ret ⟨aG L vs,v.2,nx⟩=some t/\j6 nx vs=true/\iP nx v.2/\1<=nx/\t.all fun _ v=>DP us o v
theorem AF.fin {fn:Func} {L L1:List Nat} {us:List AV} {o:az} {v:List AV×aD} {s':aK} (h0:Kept [0] c) (h:AF T fn L us o v) (hs':bB (L++L1) s'=some v):eU c (wu T fn us o) .ret s':=by
 obtain⟨vs,ws,nx,t,h1,h2,h3,h4,h5,h6,hn,h7⟩:=h
 obtain⟨v1,v2⟩:=v
 simp only at h1
 subst h1
 obtain⟨ρ,hle⟩:=nQ (jI hs' h2 h3) (fun k x hk=>by
  have:=h0 k x hk
  simp only[List.mem_cons,List.not_mem_nil,or_false]at this
  omega) h5 h6
 exact .inr ⟨_,ρ,hle,Lw h4 h7⟩
include hT in
theorem Y1 {f:FuncId} {fn:Func} {x:Code} (hf:iW P f fn x) {args args0 us:List AV} {a:Nat} {oa oa0:az} {l:List Prop} (hlen:args0.length<=fn.ntmps)
  (ha:fU (bA [(0,a)]) args args0) (hoa:au l->∀ρ,eA ρ oa oa0)
  (h:au l->∀c:Ctx,Kept [0] c->ay P c fn.ntmps x ⟨aS 0 args0,[(0,oa0)],1⟩ (eU c (wu T fn us oa0))) (K:Nat):aN P f K args [(a,oa)] ⟨jx us,[(a,oa0)],l⟩:=by
 intro need
 refine(nW hT hf (args0:=args0) (pre0:=[(0,oa0)]) (nx:=1) [(0,a)] hlen (by simp[jn]) ha ⟨⟨a,oa,rfl,Dt,hoa need _⟩,trivial⟩
  (fun x k h=>?_) (fun x o h=>.inl ?_) (fun need c h0=>?_):aN P f K args [(a,oa)] ⟨jx us,[(a,oa0)],l⟩) need
 ·simp only[bA,look]at h
  split at h
  ·simp only[ax]at h;subst h;exact⟨_,Dt⟩
  ·simp at h
 ·simp only[look]at h ⊢
  split at h
  ·rename_i he;exact⟨oa,by rw[if_pos he]⟩
  ·simp at h
 have hk:Kept [0] c:=fun x y hy=>by
  have:=h0 x y hy
  simp only[bA,look]at this
  split at this
  ·rename_i he;have:=eq_of_beq he;subst this;simp
  ·simp at this
 refine(h need c hk).down.mono ?_
 rintro e s' ⟨h1,⟨vs,q,g1,g2,g3,g4,g5⟩,o1,g6,g7⟩
 refine⟨h1,bA [(a,0)],xb,.inr ⟨⟨vs,q,us,g1,g2,rT g3 g4 g5,rfl⟩,fun k o hk=>?_⟩⟩
 have he:cN (l5 [(a,oa0)]) [(a,oa)]=[(a,oa0)]:=by simp[cN,l5,put]
 replace hk:=yQ hk
 rw[he]at hk
 simp only[look]at hk
 split at hk
 ·rename_i hx
  have:=eq_of_beq hx
  simp only[ax]at hk
  subst hk this
  exact⟨0,o1,by simp[bA,look],g6,g7 _⟩
 ·simp at hk
end rules
end Go.Am
namespace Go.Am
open AV
section rules
variable {P:Program} {c:Ctx} {nt:Nat} {x:Code} {s:aK} {Q:aq->aK->Prop}
theorem ay.bS {t k es s0 n:Nat} (ht:look t s.cS=some (.own k es s0 n)) (h:∀cap,n<=cap->ay P c nt x ⟨oT (some t) (.bS cap (.own k es s0 n)) s.cS,s.store,s.next⟩ Q):ay P c nt x s Q:=by
 intro a w ⟨hd,hs,β,hw,hsl⟩
 obtain⟨xv,hx,hv⟩:=hsl t _ ht
 have key:∃base cap,xv=.slice base n cap/\n<=cap:=by
  rcases hv.own with⟨b,o,cap,N,rfl,_,_,_,h4,_⟩|⟨rfl,_,rfl,_⟩
  ·exact⟨_,_,rfl,h4⟩
  ·exact⟨_,_,rfl,aR⟩
 obtain⟨base,cap,rfl,hn⟩:=key
 refine h cap hn a w ⟨hd,hs,β,hw,fun t' v' hv'=>?_⟩
 rw[wF]at hv'
 split at hv'
 ·rename_i he
  simp only[ax]at he hv'
  subst he
  subst hv'
  exact⟨_,hx,bw.bP (.cz (.bS rfl (hv.cell rfl) .nil) rfl)⟩
 ·exact hsl t' v' hv'
variable {T:Types} (hT:dJ P T)
end rules
end Go.Am
namespace Go.Am
open AV
section rules
variable {P:Program} {c:Ctx} {nt:Nat} {x:Code} {s:aK} {Q:aq->aK->Prop}
theorem ay.IF {t k:Nat} {o:az} (ht:look t s.cS=some (.ptr k 0 o.es 0 [])) (hk:look k s.store=some o) (h1:o.row=false) (h2:o.len=1) (h3:(o.f 0).keys=[])
  (h:ay P c nt x ⟨oT (some t) (.bn (o.f 0)) s.cS,put k {o with wr:=false} s.store,s.next⟩ Q) (h4:isVoid (o.f 0)=false:=by rfl):ay P c nt x s Q:=by
 intro a w ⟨hd,hs,β,hw,hsl⟩
 have hcap:qB s.store (.ptr k 0 o.es 0 [])=some (k,o):=by
  unfold qB
  simp[hk,h1,h2,h3,h4]
 obtain⟨xv,hx,hv⟩:=hsl t _ ht
 obtain⟨cs,hc,hx2⟩:=hv.one rfl
 have key:=Gg (pre:=s.store) hw (fun k o hk=>⟨o,hk,.inl rfl⟩) hc
 simp only[oV,qz,hcap,cN]at key
 obtain⟨q1,q2,q3⟩:=key
 refine h a w ⟨hd.iE hw q2,hs,β,q1,fun t' v hv'=>?_⟩
 rw[wF]at hv'
 split at hv'
 ·rename_i he
  simp only[ax]at he hv'
  subst he
  subst hv'
  refine⟨xv,hx,bw.bP ⟨cs,q3,.inr ⟨rfl,?_⟩⟩⟩
  rcases hx2 with⟨g,_⟩|⟨_,g⟩
  ·exact Bool.noConfusion g
  ·exact g
 ·obtain⟨y,hy,hvy⟩:=hsl t' v hv'
  exact⟨y,hy,hvy.iE q2⟩
end rules
end Go.Am
namespace Go.Am
open Go Go.ChangeShapes Go.WideShapes Go.ChangeAt Go.RowKit AV IntKind
inductive PK where
 |list
 |int (k:IntKind)
 |bool
 |Bk
def Ks (P:Program):PK->TypeId->Prop
 |.list,t=>∃e,P.underlying t=some (.slice e)/\P.underlying e=some (.int .i64)/\P.cellsOf e=1
 |.int k,t=>P.underlying t=some (.int k)
 |.bool,t=>P.underlying t=some .bool
 |.Bk,t=>∃e,P.underlying t=some (.array 4 e)/\P.underlying e=some (.int .i64)/\P.cellTypes P.depth t=some [e,e,e,e]/\P.cellsOf t=4
def uW (P:Program):List PK->List TypeId->Prop
 |[],[]=>True
 |k::ks,t::ts=>(Ks P k t/\P.readableRec t=true/\t<P.types.size)/\uW P ks ts
 |_,_=>False
def MT:PK->AV->Prop
 |.list,a=>∃(n:Nat) (z:Nat->Int),a=.ak 1 n (fun i=>.int .i64 (z i))
 |.int k,a=>∃n,a=.int k n
 |.bool,a=>∃b,a=.bool b
 |.Bk,a=>∃z0 z1 z2 z3:Int,a=.agg [.int .i64 z0,.int .i64 z1,.int .i64 z2,.int .i64 z3]
def BL:List PK->List AV->Prop
 |[],as=>as=[]
 |k::ks,as=>∃a l,as=a::l/\MT k a/\BL ks l
section
variable {P:Program} {H:Type} {enc:TypeId×Value->H} {W:World} {base:Nat}
theorem UW {k:PK} {t:TypeId} {v:Value} {d:DataW H} {p:List MemPlace} (hk:Ks P k t) (h:DataW.Trod enc P W 0 (fun _=>true) true t v d p) (hv:Value.okWide P W .any base t v):∃a,MT k a/\bw (fun _=>False) W bt a v:=by
 cases k with
 |int k=>
  obtain⟨n,rfl⟩:=okWide_int hk hv
  exact⟨_,⟨n,rfl⟩,.cz (.int .nil) rfl⟩
 |bool=>
  obtain⟨b,rfl⟩:=okWide_bool hk hv
  exact⟨_,⟨b,rfl⟩,.cz (.bool .nil) rfl⟩
 |Bk=>
  obtain⟨e,h1,h2,h3,h4⟩:=hk
  unfold Value.okWide at hv
  rw[h1]at hv
  obtain⟨cs,rfl,hs,ts,g1,_,g2⟩:=hv
  rw[h4]at hs
  rw[h3,ax]at g1
  subst g1
  have key:∀i,i<4->∃z:Int,cs[i]?=some (.int .i64 z):=fun i hi=>by
   obtain⟨v,hv⟩:∃v,cs[i]?=some v:=⟨_,Array.getElem?_eq_getElem aa⟩
   obtain⟨u,k1,k2⟩:=g2 i v hv
   have hu:u=e:=by
    rcases(show i=0\/i=1\/i=2\/i=3 by omega)with rfl|rfl|rfl|rfl<;>exact(Option.some.inj k1).symm
   subst hu
   obtain⟨n,rfl⟩:=okWide_int (base:=base) (r:=.any) (w:=W) h2 (by unfold Value.okWide;rw[h2];exact k2)
   exact⟨n,hv⟩
  obtain⟨z0,e0⟩:=key 0 aa
  obtain⟨z1,e1⟩:=key 1 aa
  obtain⟨z2,e2⟩:=key 2 aa
  obtain⟨z3,e3⟩:=key 3 aa
  have hc:cs=[Value.int .i64 z0,.int .i64 z1,.int .i64 z2,.int .i64 z3].toArray:=by
   refine Array.ext_getElem? fun i=>?_
   by_cases hi:i<4
   ·rcases(show i=0\/i=1\/i=2\/i=3 by omega)with rfl|rfl|rfl|rfl
    ·exact e0
    ·exact e1
    ·exact e2
    ·exact e3
   ·rw[Array.getElem?_eq_none aa,Array.getElem?_eq_none (by simpa using by omega)]
  refine⟨_,⟨z0,z1,z2,z3,rfl⟩,_,.agg (.int (.int (.int (.int .nil)))) .nil,.inl ⟨rfl,?_⟩⟩
  rw[hc];rfl
 |list=>
  obtain⟨e,h1,h2,h3⟩:=hk
  obtain⟨a0,len,cap,rfl⟩:=okWide_slice h1 hv
  obtain⟨fuel,hf⟩:=h
  have key:∀{z:Nat->Int},len<=cap->(len=0\/∃b o,a0=some ⟨b,o,none⟩/\∀i,i<len->W.cell? ⟨b,o+i,none⟩=some (.int .i64 (z i)))->bw (fun _=>False) W bt (.ak 1 len (fun i=>.int .i64 (z i))) (.slice a0 len cap):=fun {z} hcap hr=>by
   refine .cz (.ak (cf:=fun i=>[.int .i64 (z i)]) ?_ aa hcap (fun _ _=>rfl) (fun _ _=>.int .nil) .nil) rfl
   rcases hr with hr|⟨b,o,rfl,hr⟩
   ·exact .inl hr
   ·refine .inr ⟨b,o,rfl,fun i hi=>?_⟩
    have hc:=hr i hi
    simp only[World.cell?]at hc
    split at hc
    ·rename_i cs ty fr hh
     simp only[Option.isSome_none,Bool.false_eq_true,if_false]at hc
     refine⟨cs,ty,fr,hh,id,fun j v hj=>?_⟩
     have hj0:j=0:=by have:=(List.getElem?_eq_some_iff.1 hj).1;simp at this;exact this
     subst hj0
     simp only[List.getElem?_cons_zero,ax]at hj
     subst hj
     simpa using hc
    ·simp at hc
  rcases open_ints h1 h2 h3 hf with⟨hcs,hx⟩|⟨a,len',cap',zs,hcs,_,hl,hm,hz,hx,hcell,hwz⟩
  ·simp only[Value.cells,List.cons.injEq,Value.slice.injEq,and_true]at hcs
   obtain⟨rfl,rfl,rfl⟩:=hcs
   exact⟨_,⟨0,fun _=>0,rfl⟩,key (z:=fun _=>0) aR (.inl rfl)⟩
  ·simp only[Value.cells,List.cons.injEq,Value.slice.injEq,and_true]at hcs
   obtain⟨rfl,rfl,rfl⟩:=hcs
   simp only[if_true]at hz
   refine⟨_,⟨len,fun i=>zs.getD i 0,rfl⟩,key hl ?_⟩
   rcases Nat.eq_zero_or_pos len with h0|h0
   ·exact .inl h0
   ·obtain⟨b,o,m⟩:=a
    have h1:=hcell 0 aa
    have:m=none:=by
     cases m with
     |none=>rfl
     |some y=>exfalso;simp only[Addr.add,World.cell?]at h1;split at h1<;>simp at h1
    subst this
    exact .inr ⟨b,o,rfl,fun i hi=>by
     have h2:=hcell i aa
     rcases Nat.eq_zero_or_pos i with hi|hi
     ·subst hi;simpa [Addr.add]using h2
     ·simpa [Addr.add,Nat.pos_iff_ne_zero.1 hi]using h2⟩
theorem Mk:∀{ks:List PK} {ts:List TypeId} {vs:List Value} {ds:List (DataW H)} {p:List MemPlace},uW P ks ts->DataW.TrodAll enc P W 0 (fun _=>true) true ts vs ds p->(∀(j:Nat) t v,ts[j]?=some t->vs[j]?=some v->Value.okWide P W .any base t v)->
  ∃as,BL ks as/\cH (fun _=>False) W bt as vs
 |[],[],vs,ds,p,_,h,_=>by
  obtain⟨rfl,_,_⟩:=trodAll_nil h
  exact⟨[],rfl,trivial⟩
 |k::ks,t::ts,vs,ds,p,hk,h,hv=>by
  obtain⟨v,vs',d,ds',p1,q,rfl,rfl,rfl,hd,hrest⟩:=trodAll_cons h
  obtain⟨a,h1,h2⟩:=UW hk.1.1 hd (hv 0 t v rfl rfl)
  obtain⟨as,h3,h4⟩:=Mk hk.2 hrest fun j t v h1 h2=>hv (j+1) t v h1 h2
  exact⟨a::as,⟨a,as,rfl,h1,h3⟩,h2,h4⟩
 |[],_::_,_,_,_,h,_,_=>h.elim
 |_::_,[],_,_,_,h,_,_=>h.elim
theorem On {b:Nat} {sp:Nat->Bool} {held:Bool}:∀{ts:List TypeId} {vs:List Value} {ds:List (DataW H)} {p:List MemPlace},DataW.TrodAll enc P W b sp held ts vs ds p->ds.length=ts.length
 |[],vs,ds,p,h=>by
  obtain⟨_,rfl,_⟩:=trodAll_nil h
  rfl
 |t::ts,vs,ds,p,h=>by
  obtain⟨v,vs',d,ds',p1,q,rfl,rfl,rfl,hd,hrest⟩:=trodAll_cons h
  simp[On hrest]
theorem HG (hl:laidOutB P=true) {W':World} (hb:Below W.heap.size W W'):∀{ks:List PK} {ts:List TypeId} {vs:List Value} {ds:List (DataW H)} {p:List MemPlace},uW P ks ts->DataW.TrodAll enc P W 0 (fun _=>true) true ts vs ds p->(∀x∈p,x.block<W.heap.size)->
  DataW.TrodAll enc P W' 0 (fun b=>decide (b<W.heap.size)) true ts vs ds p
 |[],[],vs,ds,p,_,h,_=>by
  obtain⟨rfl,rfl,rfl⟩:=trodAll_nil h
  exact trodAll_mk0
 |k::ks,t::ts,vs,ds,p,hk,h,hlt=>by
  obtain⟨v,vs',d,ds',p1,q,rfl,rfl,rfl,hd,hrest⟩:=trodAll_cons h
  exact⟨_,_,Below.trod hl hk.1.2.1 hk.1.2.2 hd hb fun x hx=>hlt x (List.mem_append_left _ hx),HG hl hb hk.2 hrest fun x hx=>hlt x (List.mem_append_right _ hx),rfl⟩
 |[],_::_,_,_,_,h,_,_=>h.elim
 |_::_,[],_,_,_,h,_,_=>h.elim
theorem aav (hl:laidOutB P=true) {f:FuncId} {fn:Func} (hf:P.funcs[f]?=some fn) (hb:fn.body.isNone=false) {ks:List PK} {ts:List TypeId} (hk:uW P ks ts) {args:Array Value} {ds:List (DataW H)} {p:List MemPlace}
  (hA:DataW.TrodAll enc P W 0 (fun _=>true) true ts args.toList ds p) (hv:∀(j:Nat) t v,ts[j]?=some t->args[j]?=some v->Value.okWide P W .any base t v) (hlt:∀x∈p,x.block<W.heap.size) (hF:∀as,BL ks as->aN P f 0 as [] ⟨.bool true,[],[]⟩):
  Calls P f args W fun e W'=>e=.returned (.bool true)/\Below W.heap.size W W'/\DataW.TrodAll enc P W' 0 (fun b=>decide (b<W.heap.size)) true ts args.toList ds p:=by
 obtain⟨as,h1,h2⟩:=Mk hk hA fun j t v h1 h2=>hv j t v h1 (by simpa using h2)
 obtain⟨_,hF⟩:=hF as h1 trivial
 have hrel:bu ⟨fun _=>False,W,fun _=>False,bt,none⟩ [] (fun _=>False) bt W:=
  {obj:=fun k o h=>by simp[look]at h,dM:=fun k o h=>by simp[look]at h,inj:=fun k k' o o' b N N' h=>by simp[look]at h,dom:=fun k x h=>by simp[bt]at h,keep:=fun k x h=>h,lt:=fun k b N h=>by simp[bt]at h,os:=rfl,tape:=rfl,output:=rfl,size:=aR,block:=fun _ _ _=>rfl,gB:=fun b h=>h.elim,new:=fun k o b N h=>by simp[look]at h}
 have hM:aO ⟨fun _=>False,W,fun _=>False,bt,none⟩ [] bt=fun _=>False:=by
  funext b
  simp[aO,look]
 have hinv:=hF ⟨fun _=>False,W,fun _=>False,bt,none⟩ (fun _=>False) (fun _=>True) bt W _ rfl (fun b h=>h.elim) hrel (fun k h=>h.elim) (fun k _ _=>⟨id,trivial⟩) (by rw[hM];exact h2)
 rcases hinv with⟨fn',g1,g2,g3,g4⟩|⟨x,g1,_⟩
 ·have g5:=g4
  rw[show args.toList.toArray=args from by simp]at g5
  refine g5.mono fun e W' ⟨x,he,hx⟩=>?_
  obtain⟨β',q1,q2,q3⟩:=hx
  have:=q3.bool
  subst this
  have hbl:Below W.heap.size W W':=⟨q1.os,q1.tape,q1.output,q1.size,fun k hk=>q1.block k hk id⟩
  exact⟨he,hbl,HG hl hbl hk hA hlt⟩
 ·exfalso
  simp only[callFunc,Sem.run_bind,run_program,Result.andThen_ok,hf,hb,Bool.false_eq_true,if_false]at g1
  split at g1<;>simp at g1
end
end Go.Am
