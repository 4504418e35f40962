/- Parts of code; a piece of code inside a chain; loops. -/
import Derived.Test.YtnniljlepppdpaaGreatZ1
import Derived.RangeFuncCalls
import Derived.TacticsIn
import Derived.ProofKit
import Derived.ChangeSlices
set_option linter.unusedVariables false
namespace Go.Am
def part:Code->List Nat->Code
 |c,[]=>c
 |.seq x _,0::p=>part x p
 |.seq _ y,_::p=>part y p
 |.cond _ x _,0::p=>part x p
 |.cond _ _ y,_::p=>part y p
 |.block _ x,_::p=>part x p
 |.loop x,_::p=>part x p
 |_,_=>.skip
def before:Code->List Nat->List Code
 |.seq x _,0::p=>before x p
 |.seq x y,_::p=>x::before y p
 |_,_=>[]
def behind:Code->List Nat->List Code
 |.seq x y,0::p=>behind x p++[y]
 |.seq _ y,_::p=>behind y p
 |_,_=>[]
def chain:Code->List Nat->Bool
 |_,[]=>true
 |.seq x _,0::p=>chain x p
 |.seq _ y,_::p=>chain y p
 |_,_=>false
def az (fn:Func):Code:=match fn.body with
 |some x=>x
 |none=>.skip
def dM (k:aH->Prop) (Q:ak->aH->Prop):ak->aH->Prop
 |.normal,s=>k s
 |e,s=>Q e s
def aG (P:Program) (c:Ctx) (nt:Nat):List Code->aH->(ak->aH->Prop)->Prop
 |[],s,Q=>Q .normal s
 |x::l,s,Q=>ay P c nt x s (dM (fun s'=>aG P c nt l s' Q) Q)
section rules
variable {P:Program} {c:Ctx} {nt:Nat} {s:aH} {Q:ak->aH->Prop}
theorem ay.KL {x y:Code} (h:ay P c nt x s (dM (fun s'=>ay P c nt y s' Q) Q)):ay P c nt (.seq x y) s Q:=
 .seq (h.mono fun e s' h=>by cases e<;>exact h)
theorem aG.mono {Q Q':ak->aH->Prop} (hq:∀e s',Q e s'->Q' e s'):∀{l:List Code} {s:aH},aG P c nt l s Q->aG P c nt l s Q'
 |[],_,h=>hq _ _ h
 |x::l,s,h=>ay.mono h fun e s' h=>by
  cases e with
  |normal=>exact aG.mono hq (l:=l) h
  |exit i=>exact hq _ _ h
  |ret=>exact hq _ _ h
theorem aG.append {Q:ak->aH->Prop}:∀{a b:List Code} {s:aH},aG P c nt (a++b) s Q->aG P c nt a s (dM (fun s'=>aG P c nt b s' Q) Q)
 |[],b,s,h=>h
 |x::a,b,s,h=>ay.mono h fun e s' h=>by
  cases e with
  |normal=>exact aG.append (a:=a) h
  |exit i=>exact h
  |ret=>exact h
theorem ay.hole:∀(p:List Nat) {x:Code} {s:aH} {Q:ak->aH->Prop},chain x p=true->
  aG P c nt (before x p) s (dM (fun s'=>ay P c nt (part x p) s' (dM (fun s''=>aG P c nt (behind x p) s'' Q) Q)) Q)->ay P c nt x s Q
 |[],x,s,Q,_,h=>by
  have hb:before x []=[]:=by cases x<;>rfl
  have hh:behind x []=[]:=by cases x<;>rfl
  have hp:part x []=x:=by cases x<;>rfl
  rw[hb,hh,hp]at h
  exact ay.mono h fun e s' h=>by cases e<;>exact h
 |0::p,.seq x y,s,Q,hc,h=>by
  refine .KL (ay.hole p (x:=x) hc ?_)
  refine aG.mono ?_ h
  intro e s' h1
  cases e with
  |normal=>
   refine ay.mono h1 ?_
   intro e s'' h2
   cases e with
   |normal=>
    refine aG.mono ?_ (aG.append h2)
    intro e s3 h3
    cases e with
    |normal=>exact ay.mono h3 fun e s' h=>by cases e<;>exact h
    |exit i=>exact h3
    |ret=>exact h3
   |exit i=>exact h2
   |ret=>exact h2
  |exit i=>exact h1
  |ret=>exact h1
 |(n+1)::p,.seq x y,s,Q,hc,h=>by
  refine .KL (ay.mono h ?_)
  intro e s' h1
  cases e with
  |normal=>exact ay.hole p (x:=y) hc h1
  |exit i=>exact h1
  |ret=>exact h1
 |_::_,.cond _ _ _,_,_,hc,_=>by simp[chain]at hc
 |_::_,.block _ _,_,_,hc,_=>by simp[chain]at hc
 |_::_,.loop _,_,_,hc,_=>by simp[chain]at hc
 |_::_,.region _ _ _,_,_,hc,_=>by simp[chain]at hc
 |_::_,.skip,_,_,hc,_=>by simp[chain]at hc
 |_::_,.label _,_,_,hc,_=>by simp[chain]at hc
 |_::_,.exit _,_,_,hc,_=>by simp[chain]at hc
 |_::_,.ret,_,_,hc,_=>by simp[chain]at hc
 |_::_,.scope _,_,_,hc,_=>by simp[chain]at hc
 |_::_,.goto _,_,_,hc,_=>by simp[chain]at hc
 |_::_,.refuse _,_,_,hc,_=>by simp[chain]at hc
 |_::_,.rangeFunc _ _ _ _,_,_,hc,_=>by simp[chain]at hc
def inBlock (i:Nat) (Q:ak->aH->Prop):ak->aH->Prop
 |.exit j,s=>if j=i then Q .normal s else Q (.exit j) s
 |e,s=>Q e s
theorem ay.KK {i:Nat} {x:Code} (h:ay P c nt x s (inBlock i Q)):ay P c nt (.block i x) s Q:=
 .block (h.mono fun e s' h=>by cases e<;>exact h)
theorem ay.iz {x y:Code} {i:Nat} (hx:x=.block i (.loop y)) {α:Type} (S:α->aH) (I:α->Prop) (μ:α->Nat) (j:α) (hs:∃ρ,Le c ρ s (S j)) (h0:I j)
  (round:∀j,I j->ay P c nt y (S j) (dM (fun s'=>∃k,(∃ρ,Le c ρ s' (S k))/\I k/\μ k<μ j) (inBlock i Q))):ay P c nt x s Q:=by
 subst hx
 exact .KK (.aiU S I μ j hs h0 fun j hj=>(round j hj).mono fun e s' h=>by cases e<;>exact h)
variable {T:Types} (hT:dK P T) {Γ:aV} (hΓ:bn P Γ) (hm:P.follows .mixedOrders=true)
def o9 (T:Types) (Γ:aV) (forks:List Nat) (n:Nat):List Code->aH->Option (ag aH)
 |[],s=>some (.leaf .normal s)
 |x::l,s=>match dU T Γ forks n x s with
  |some t=>t.bind fun e s'=>match e with
   |.normal=>o9 T Γ forks n l s'
   |.exit i=>some (.leaf (.exit i) s')
   |.ret=>some (.leaf .ret s')
  |none=>none
include hT hΓ hm in
theorem xX {forks:List Nat} {n:Nat}:∀{l:List Code} {s:aH} {t:ag aH},(l.all fun x=>ck nt x)=true->o9 T Γ forks n l s=some t->t.all Q->aG P c nt l s Q
 |[],s,t,_,h,ht=>by
  simp only[o9,au]at h
  subst h
  exact ht
 |x::l,s,t,hd,h,ht=>by
  simp only[List.all_cons,Bool.and_eq_true]at hd
  simp only[o9]at h
  cases hx:dU T Γ forks n x s with
  |none=>rw[hx]at h;simp at h
  |some u=>
   rw[hx]at h
   refine kB hT hΓ hm n hd.1 hx (ag.fz ?_ (ag.jH h ht))
   rintro e s' ⟨v,h1,h2⟩
   cases e with
   |normal=>exact xX hd.2 h1 h2
   |exit i=>simp only[au]at h1;subst h1;exact h2
   |ret=>simp only[au]at h1;subst h1;exact h2
def aJ (T:Types) (Γ:aV) (forks:List Nat) (n:Nat) (ls:List Nat) (l:List Code) (s:aH):Option (ag (List AV×aE)):=
 match o9 T Γ forks n l s with
 |some t=>t.bind (Jp ls)
 |none=>none
include hT hΓ hm in
theorem aG.bz {forks:List Nat} (n:Nat) (ls:List Nat) {l:List Code} {s:aH} {t:ag (List AV×aE)} (hc:aJ T Γ forks n ls l s=some t) (hd:(l.all fun x=>ck nt x)=true)
  (h:t.all fun e v=>∀s',bk ls s'=some v->Q e s'):aG P c nt l s Q:=by
 unfold aJ at hc
 split at hc
 ·rename_i u hx
  refine xX hT hΓ hm hd hx (ag.fz ?_ (ag.jH hc h))
  rintro e s' ⟨v,h1,h2⟩
  unfold Jp at h1
  cases hv:bk ls s' with
  |none=>rw[hv]at h1;simp at h1
  |some z=>
   rw[hv]at h1
   simp only[au]at h1
   subst h1
   exact h2 s' hv
 ·simp at hc
include hT hΓ hm in
theorem ay.bz {x:Code} {forks:List Nat} (n:Nat) (ls:List Nat) {t:ag (List AV×aE)} (hc:aJ T Γ forks n ls [x] s=some t) (hd:ck nt x=true)
  (h:t.all fun e v=>∀s',bk ls s'=some v->Q e s'):ay P c nt x s Q:=by
 have:=aG.bz (P:=P) (c:=c) (nt:=nt) (l:=[x]) (Q:=Q) hT hΓ hm n ls hc (by simp[hd]) h
 exact ay.mono this fun e s' h=>by cases e<;>exact h
def cJ (T:Types) (Γ:aV) (forks:List Nat) (n:Nat) (fn:Func) (l:List Code) (s:aH):Option (ag (List AV)):=
 match o9 T Γ forks n l s with
 |some t=>t.bind (kU T fn)
 |none=>none
def Fin (T:Types) (fn:Func) (res:AV) (e:ak) (s:aH):Prop:=(e=.normal\/e=.ret)/\Ends T fn res s
theorem Db {fn:Func} {e:ak} {s':aH} {v:ag (List AV)} {res:AV} (h1:kU T fn e s'=some v) (h2:v.all fun _ us=>er us res):Fin T fn res e s':=by
 unfold kU at h1
 have key:∀{e':ak},(match fE T s' fn.results.toList with
   |some (vs,q)=>match eC (jW (pick s'.store (AV.bu vs))) vs with
    |some us=>some (ag.need q (.leaf e' us))
    |none=>none
   |none=>none)=some v->Ends T fn res s':=by
  intro e' h1
  cases hr:fE T s' fn.results.toList with
  |none=>rw[hr]at h1;simp at h1
  |some p=>
   obtain⟨vs,q⟩:=p
   rw[hr]at h1
   simp only at h1
   cases hf:eC (jW (pick s'.store (AV.bu vs))) vs with
   |none=>rw[hf]at h1;simp at h1
   |some us=>
    rw[hf]at h1
    simp only[au]at h1
    subst h1
    obtain⟨g1,g2⟩:=ag.zl.1 h2
    exact⟨vs,q,us,hr,g1,hf,g2⟩
 cases e with
 |normal=>exact⟨.inl rfl,key h1⟩
 |ret=>exact⟨.inr rfl,key h1⟩
 |exit i=>simp at h1
include hT hΓ hm in
theorem aG.fin {fn:Func} {forks:List Nat} (n:Nat) {l:List Code} {s:aH} {t:ag (List AV)} (hc:cJ T Γ forks n fn l s=some t) (hd:(l.all fun x=>ck nt x)=true) {res:AV}
  (h:t.all fun _ us=>er us res):aG P c nt l s (Fin T fn res):=by
 unfold cJ at hc
 split at hc
 ·rename_i u hx
  refine xX hT hΓ hm hd hx (ag.fz ?_ (ag.jH hc h))
  rintro e s' ⟨v,h1,h2⟩
  exact Db h1 h2
 ·simp at hc
theorem aG.weak {l:List Code} {s2:aH} (hl:l.isEmpty=false) (hle:∃ρ,Le c ρ s s2) (h:aG P c nt l s2 Q):aG P c nt l s Q:=by
 obtain⟨ρ,hle⟩:=hle
 cases l with
 |nil=>simp at hl
 |cons x l=>exact ay.weak hle h
theorem ay.lT {x:Code} {s2:aH} (hle:∃ρ,Le c ρ s s2) (h:ay P c nt x s2 Q):ay P c nt x s Q:=by
 obtain⟨ρ,hle⟩:=hle
 exact ay.weak hle h
end rules
theorem aT {P:Program} {f:FuncId} {fn:Func} (h:P.funcs[f]?=some fn) (hb:fn.body.isSome=true) (hn:(fn.name== "runtime.NumGoroutine")=false) (hd:ck fn.ntmps (az fn)=true):aU P f fn (az fn):=by
 refine⟨h,?_,hn,hd⟩
 unfold az
 cases hbd:fn.body with
 |none=>rw[hbd]at hb;simp at hb
 |some x=>rfl
end Go.Am
namespace Go.Am
def val:Nat->(Nat->Nat)->Nat
 |0,_=>0
 |n+1,z=>val n z+z n*2^(32*n)
theorem fD {z:Nat->Nat}:∀{n:Nat},(∀i,i<n->z i<2^32)->val n z<2^(32*n)
 |0,_=>by simp[val]
 |n+1,h=>by
  have ih:=fD (z:=z) (n:=n) fun i hi=>h i aa
  have h1:=h n aa
  have:z n*2^(32*n)+2^(32*n)<=2^32*2^(32*n):=by
   rw[<-Nat.succ_mul];exact Nat.mul_le_mul_right _ h1
  have e:2^(32*(n+1))=2^32*2^(32*n):=by rw[<-Nat.pow_add];congr 1;omega
  rw[e,val];omega
theorem val_congr {z y:Nat->Nat}:∀{n:Nat},(∀i,i<n->z i=y i)->val n z=val n y
 |0,_=>rfl
 |n+1,h=>by rw[val,val,val_congr fun i hi=>h i aa,h n aa]
theorem nH {z:Nat->Nat} {k:Nat}:∀{n:Nat},k<=n->(∀i,k<=i->i<n->z i=0)->val n z=val k z
 |0,h,_=>by
    have:k=0:=aa
    subst this;rfl
 |n+1,h,hz=>by
  by_cases hk:k=n+1
  ·subst hk;rfl
  ·rw[val,nH (n:=n) aa fun i h1 h2=>hz i h1 aa,hz n aa aa]
   simp
theorem pU {z:Nat->Nat}:∀{n i:Nat},(∀j,j<n->z j<2^32)->i<n->aC (val n z) i=z i
 |0,i,_,hi=>aa
 |n+1,i,h,hi=>by
  unfold aC
  rw[val]
  by_cases he:i=n
  ·subst he
   have:=fD (z:=z) (n:=i) fun j hj=>h j aa
   rw[Nat.add_mul_div_right _ _ (Nat.two_pow_pos _),Nat.div_eq_of_lt this,Nat.zero_add]
   exact Nat.mod_eq_of_lt (h i aa)
  ·have ih:=pU (z:=z) (n:=n) (i:=i) (fun j hj=>h j aa) aa
   unfold aC at ih
   have e:2^(32*n)=2^32*2^(32*(n-i-1))*2^(32*i):=by
    rw[<-Nat.pow_add,<-Nat.pow_add];congr 1;omega
   rw[e,<-Nat.mul_assoc,Nat.add_mul_div_right _ _ (Nat.two_pow_pos _),<-ih]
   rw[show z n*(2^32*2^(32*(n-i-1)))=2^32*(z n*2^(32*(n-i-1))) by
    rw[<-Nat.mul_assoc,Nat.mul_comm (z n),Nat.mul_assoc]]
   rw[Nat.add_mul_mod_self_left]
theorem dG {N i:Nat}:aC N i<2^32:=Nat.mod_lt _ (by decide)
theorem Re {N:Nat}:∀{n:Nat},val n (aC N)=N%2^(32*n)
 |0=>by simp[val,Nat.mod_one]
 |n+1=>by
  rw[val,Re,aC]
  have e:2^(32*(n+1))=2^(32*n)*2^32:=by rw[<-Nat.pow_add];congr 1
  rw[e,Nat.mod_mul,Nat.mul_comm (2^(32*n))]
theorem p7 {N n:Nat} (h:N<2^(32*n)):val n (aC N)=N:=by rw[Re,Nat.mod_eq_of_lt h]
theorem dm {N n:Nat}:nl N<=n↔N<2^(32*n):=by
 unfold nl
 by_cases h:N=0
 ·subst h;simp[Nat.two_pow_pos]
 ·rw[if_neg h]
  rw[<-Nat.log2_lt h]
  omega
theorem mT {N:Nat}:N<2^(32*nl N):=dm.1 bp
theorem fS {N:Nat}:val (nl N) (aC N)=N:=p7 mT
theorem adV {z:Nat->Nat} {n:Nat} (h0:0<n) (h:z (n-1)≠0):2^(32*(n-1))<=val n z:=by
 obtain⟨m,rfl⟩:∃m,n=m+1:=⟨n-1,aa⟩
 rw[val]
 simp only[Nat.add_sub_cancel]at h ⊢
 have:1*2^(32*m)<=z m*2^(32*m):=Nat.mul_le_mul_right _ aa
 omega
theorem AA {z:Nat->Nat} {n:Nat} (hz:∀i,i<n->z i<2^32) (h:n=0\/z (n-1)≠0):nl (val n z)=n:=by
 rcases Nat.eq_zero_or_pos n with rfl|h0
 ·simp[val,nl]
 ·have h1:nl (val n z)<=n:=dm.2 (fD hz)
  have h2:¬nl (val n z)<=n-1:=by
   rw[dm]
   have:=adV h0 (h.resolve_left aa)
   omega
  omega
theorem BJ {N:Nat} (h:N≠0):aC N (nl N-1)≠0:=by
 intro h0
 have hn:0<nl N:=by unfold nl;rw[if_neg h];omega
 have h1:val (nl N) (aC N)=val (nl N-1) (aC N):=nH aa fun i h1 h2=>by
  have:i=nl N-1:=aa
  rw[this,h0]
 rw[fS]at h1
 have h3:N<2^(32*(nl N-1)):=by
  exact Nat.lt_of_le_of_lt (Nat.le_of_eq h1) (fD (z:=aC N) (n:=nl N-1) fun i _=>dG)
 have h2:nl N<=nl N-1:=dm.2 h3
 omega
theorem gd {N:Nat}:0<nl N↔N≠0:=by
 unfold nl
 split<;>simp_all
theorem gJ {a b:Nat} (h:a<=b):nl a<=nl b:=dm.2 (Nat.lt_of_le_of_lt h mT)
theorem wrap_i64 {x:Int} (h1:-2^63<=x) (h2:x<2^63):IntKind.i64.wrap x=x:=by
 simp[IntKind.wrap,IntKind.bits,IntKind.signed];omega
theorem bZ {x:Int} (h1:0<=x) (h2:x<2^64):IntKind.u64.wrap x=x:=by
 simp[IntKind.wrap,IntKind.bits,IntKind.signed];omega
theorem ou {x:Int}:IntKind.u64.wrap x=x%2^64:=by
 simp[IntKind.wrap,IntKind.bits,IntKind.signed]
theorem lV {x:Int}:IntKind.u32.wrap x=x%2^32:=by
 simp[IntKind.wrap,IntKind.bits,IntKind.signed]
theorem wrap_u32 {x:Int} (h1:0<=x) (h2:x<2^32):IntKind.u32.wrap x=x:=by
 rw[lV];omega
theorem wW {x:Nat}:IntKind.u64.wrap (x:Int)=(x%2^64:Nat):=by
 rw[ou];omega
theorem jy {x:Nat}:IntKind.u32.wrap (x:Int)=(x%2^32:Nat):=by
 rw[lV];omega
theorem u9 {a b:Nat} (ha:a<2^64) (hb:b<2^64):
  IntKind.u64.wrap ((BitVec.ofInt IntKind.u64.bits (a:Int)|||BitVec.ofInt IntKind.u64.bits (b:Int)).toNat:Int)=((a|||b:Nat):Int):=by
 have e:(BitVec.ofInt IntKind.u64.bits (a:Int)|||BitVec.ofInt IntKind.u64.bits (b:Int)).toNat=a|||b:=by
  rw[BitVec.toNat_or,BitVec.ofInt_natCast,BitVec.ofInt_natCast,BitVec.toNat_ofNat,BitVec.toNat_ofNat]
  rw[show IntKind.u64.bits=64 from rfl,Nat.mod_eq_of_lt ha,Nat.mod_eq_of_lt hb]
 rw[e]
 have:a|||b<2^64:=Nat.or_lt_two_pow ha hb
 exact bZ aa aa
theorem ag1 {a b:Nat} (ha:a<2^64) (hb:b<2^64):
  IntKind.u64.wrap ((BitVec.ofInt IntKind.u64.bits (a:Int)&&&BitVec.ofInt IntKind.u64.bits (b:Int)).toNat:Int)=((a&&&b:Nat):Int):=by
 have e:(BitVec.ofInt IntKind.u64.bits (a:Int)&&&BitVec.ofInt IntKind.u64.bits (b:Int)).toNat=a&&&b:=by
  rw[BitVec.toNat_and,BitVec.ofInt_natCast,BitVec.ofInt_natCast,BitVec.toNat_ofNat,BitVec.toNat_ofNat]
  rw[show IntKind.u64.bits=64 from rfl,Nat.mod_eq_of_lt ha,Nat.mod_eq_of_lt hb]
 rw[e]
 have:a&&&b<2^64:=Nat.and_lt_two_pow a hb
 exact bZ aa aa
theorem sn {a b i:Nat} (h:b<2^i):a*2^i|||b=a*2^i+b:=by
 rw[<-Nat.shiftLeft_eq,<-Nat.shiftLeft_add_eq_or_of_lt h]
theorem lG {x:Int}:x.fdiv (2^min (Int.toNat 32) IntKind.u64.bits)=x/4294967296:=by
 have:min (Int.toNat 32) IntKind.u64.bits=32:=rfl
 rw[this,Int.fdiv_eq_ediv_of_nonneg _ (by decide)]
 rfl
theorem G3 {x:Int}:x.fdiv (2^min (Int.toNat 63) IntKind.u64.bits)=x/9223372036854775808:=by
 have:min (Int.toNat 63) IntKind.u64.bits=63:=rfl
 rw[this,Int.fdiv_eq_ediv_of_nonneg _ (by decide)]
 rfl
theorem xM {x:Int}:x*2^min (Int.toNat 32) IntKind.u64.bits=x*4294967296:=by
 have:min (Int.toNat 32) IntKind.u64.bits=32:=rfl
 rw[this];rfl
theorem EN {B c z y v t s:Nat} (hs:s=c+z+y) (h:v+c*B=t):v+s%4294967296*B+s/4294967296*(4294967296*B)=t+z*B+y*B:=by
 have h1:=Nat.div_add_mod s 4294967296
 generalize s/4294967296=q at*
 generalize s%4294967296=r at*
 subst h1 h
 have:c*B+z*B+y*B=(4294967296*q+r)*B:=by rw[<-Nat.add_mul,<-Nat.add_mul,hs]
 grind
theorem gL {i:Nat}:2^(32*(i+1))=4294967296*2^(32*i):=by
 rw[show 32*(i+1)=32+32*i by omega,Nat.pow_add]
open AV
def numOf (v:AV):Nat:=match v with
 |.int _ z=>z.toNat
 |_=>0
def dN (n:Nat) (f:Nat->AV):Prop:=∀i,i<n->∃z:Nat,z<2^32/\f i=.int .u32 z
theorem FY {z:Nat->Nat} {i:Nat}:numOf (aB z i)=z i:=by simp[numOf,aB]
theorem jE {n:Nat} {z:Nat->Nat}:(val n fun i=>numOf (aB z i))=val n z:=val_congr fun _ _=>FY
theorem fW {n:Nat} {z:Nat->Nat} (h:∀i,i<n->z i<2^32):dN n (aB z):=fun i hi=>⟨z i,h i hi,rfl⟩
def qI:AV->Option (Nat×Nat×List Prop)
 |.mag N=>some (N,nl N,[])
 |.nil=>some (0,0,[])
 |.aq es n f=>if es==1 then some (val n fun i=>numOf (f i),n,[dN n f])else none
 |_=>none
theorem ze {a:AV} {N n:Nat} {q:List Prop} (h:qI a=some (N,n,q)) (hq:aA q):∃z:Nat->Nat,(∀i,i<n->z i<2^32)/\val n z=N/\bD a (.aq 1 n (aB z)):=by
 cases a<;>simp only[qI,reduceCtorEq,au,Prod.mk.injEq]at h
 case mag M=>
  obtain⟨rfl,rfl,rfl⟩:=h
  exact⟨aC M,fun i _=>dG,fS,M4 rfl fun i _=>rfl⟩
 case nil=>
  obtain⟨rfl,rfl,rfl⟩:=h
  exact⟨fun _=>0,fun i hi=>aa,rfl,jI aa⟩
 case aq es m f=>
  split at h
  ·rename_i he
   simp only[au,Prod.mk.injEq]at h
   obtain⟨rfl,rfl,rfl⟩:=h
   have hq:dN m f:=hq
   have he:es=1:=by simpa using he
   subst he
   refine⟨fun i=>numOf (f i),fun i hi=>?_,rfl,rU rfl fun i hi=>?_⟩
   ·obtain⟨z,h1,h2⟩:=hq i hi
    simp only[h2,numOf];omega
   ·obtain⟨z,h1,h2⟩:=hq i hi
    simp[h2,numOf,aB]
  ·simp at h
def lN (g:Nat->Nat->cZ):List AV->Option cZ
 |[a]=>match qI a with
  |some (N,n,q)=>some ⟨(g N n).res,[],q++(g N n).gI⟩
  |none=>none
 |_=>none
def iu (g:Nat->Nat->Nat->Nat->cZ):List AV->Option cZ
 |[a,b]=>match qI a,qI b with
  |some (A,n,p),some (B,m,q)=>some ⟨(g A n B m).res,[],p++(q++(g A n B m).gI)⟩
  |_,_=>none
 |_=>none
def B2 (g:Nat->Nat->Int->cZ):List AV->Option cZ
 |[a,.int .u32 k]=>match qI a with
  |some (N,n,q)=>some ⟨(g N n k).res,[],q++(g N n k).gI⟩
  |none=>none
 |_=>none
abbrev aL (v:AV) (l:List Prop):cZ:=⟨v,[],l⟩
section oks
variable {P:Program} {f:FuncId}
theorem ve {g:Nat->Nat->cZ} (h:∀z n K,(∀i,i<n->z i<2^32)->(g (val n z) n).need->aD P f K [.aq 1 n (aB z)] [] (aL (g (val n z) n).res [])):
  ∀K args r,bu args=[]->lN g args=some r->r.post=[]->aD P f K args [] r:=by
 intro K args r hk hs _ need
 match args,hs with
 |[a],hs=>
  simp only[lN]at hs
  split at hs
  ·rename_i N n q hn
   simp only[au]at hs
   subst hs
   obtain⟨n1,n2⟩:=dn.1 need
   obtain⟨z,hz,rfl,hle⟩:=ze hn n1
   exact gv (h z n K hz n2) hk ⟨hle,trivial⟩ [] trivial
  ·simp at hs
theorem Vh {g:Nat->Nat->Int->cZ} (h:∀z n i K,(∀i,i<n->z i<2^32)->(g (val n z) n i).need->aD P f K [.aq 1 n (aB z),.int .u32 i] [] (aL (g (val n z) n i).res [])):
  ∀K args r,bu args=[]->B2 g args=some r->r.post=[]->aD P f K args [] r:=by
 intro K args r hk hs _ need
 unfold B2 at hs
 split at hs
 ·rename_i a i
  split at hs
  ·rename_i N n q hn
   simp only[au]at hs
   subst hs
   obtain⟨n1,n2⟩:=dn.1 need
   obtain⟨z,hz,rfl,hle⟩:=ze hn n1
   exact gv (h z n i K hz n2) hk ⟨hle,.refl _,trivial⟩ [] trivial
  ·simp at hs
 ·simp at hs
theorem uX {g:Nat->Nat->Nat->Nat->cZ} (h:∀z n y m K,(∀i,i<n->z i<2^32)->(∀i,i<m->y i<2^32)->(g (val n z) n (val m y) m).need->
   aD P f K [.aq 1 n (aB z),.aq 1 m (aB y)] [] (aL (g (val n z) n (val m y) m).res [])):
  ∀K args r,bu args=[]->iu g args=some r->r.post=[]->aD P f K args [] r:=by
 intro K args r hk hs _ need
 match args,hs with
 |[a,b],hs=>
  simp only[iu]at hs
  split at hs
  ·rename_i N n q M m p hn hm
   simp only[au]at hs
   subst hs
   obtain⟨n1,n4⟩:=dn.1 need
   obtain⟨n2,n3⟩:=dn.1 n4
   obtain⟨z,hz,rfl,hle⟩:=ze hn n1
   obtain⟨y,hy,rfl,hle2⟩:=ze hm n2
   exact gv (h z n y m K hz hy n3) hk ⟨hle,hle2,trivial⟩ [] trivial
  ·simp at hs
theorem bE {P:Program}:bn P []:=fun f s h=>by simp[look]at h
theorem aI {f:FuncId} {s:Spec} {Γ:aV} (h:∀K args pre r,s K args pre=some r->aD P f K args pre r) (hΓ:bn P Γ):bn P ((f,s)::Γ):=by
 intro f' s' hl
 simp only[look]at hl
 split at hl
 ·rename_i he
  have:f=f':=by simpa using he
  subst this
  simp only[au]at hl
  subst hl
  exact h
 ·exact hΓ f' s' hl
end oks
def cO (a b:Nat):Int:=if a<b then-1 else if b<a then 1 else 0
def bG (N:Nat):Nat:=if N=0 then 0 else N.log2+1
end Go.Am
namespace Go.Am
open AV
def lS (sl:List (Nat×AV)):List ResultVar->Option (List AV)
 |[]=>some []
 |.tmp t::l=>match look t sl,lS sl l with
  |some v,some m=>if v.isTuple then none else some (v::m)
  |_,_=>none
 |_=>none
def II (fn:Func) (sl:List (Nat×AV)):Option (List AV):=
 match lS sl fn.results.toList with
 |some us=>match bu us with
  |[]=>eC [] us
  |_=>none
 |none=>none
theorem xW {s:aH} {t:Nat} {v:AV} (hv:v.isTuple=false):∀{ls:List Nat},look t (aF ls (jR s ls))=some v->look t s.cH=some v
 |[],h=>by simp[aF,look]at h
 |x::ls,h=>by
  simp only[jR,aF,look]at h
  split at h
  ·rename_i he
   have:x=t:=by simpa using he
   subst this
   simp only[au]at h
   subst h
   exact Kf hv
  ·exact xW hv h
theorem Gf {T:Types} {s:aH} {ls:List Nat}:∀{l:List ResultVar} {us:List AV},lS (aF ls (jR s ls)) l=some us->fE T s l=some (us,[])
 |[],us,h=>by simp only[lS,au]at h;subst h;rfl
 |.tmp t::l,us,h=>by
  simp only[lS]at h
  split at h
  ·rename_i v m hv hm
   split at h
   ·simp at h
   ·rename_i ht
    simp only[au]at h
    subst h
    simp only[fE,qD,xW (by simpa using ht) hv,Gf hm]
    simp[ht]
  ·simp at h
 |.cell _ _::_,us,h=>by simp[lS]at h
theorem gj {T:Types} {fn:Func} {ls:List Nat} {vs us:List AV} {os:aE} {e:ak} {s':aH} {res:AV} (he:e=.normal\/e=.ret) (hv:bk ls s'=some (vs,os)) (hr:II fn (aF ls vs)=some us) (hres:er us res):Fin T fn res e s':=by
 unfold bk at hv
 simp only[au,Prod.mk.injEq]at hv
 obtain⟨rfl,_⟩:=hv
 unfold II at hr
 split at hr
 ·rename_i rs hrs
  split at hr
  ·rename_i hk
   refine⟨he,rs,[],us,Gf hrs,trivial,?_,hres⟩
   rw[hk];exact hr
  ·simp at hr
 ·simp at hr
theorem Mj {P:Program} {f:FuncId} {K es n:Nat} {g:Nat->AV} {l:List AV} {r:cZ} (h:∀b,(b=true->n=0)->aD P f K (.dI b es n g::l) [] r):aD P f K (.aq es n g::l) [] r:=by
 intro need
 refine⟨((h false fun h=>by simp at h) need).1,fun c D D' β w vs hw0 hMw hrel hD hK hv=>?_⟩
 match vs,hv with
 |x::xs,hv=>
  obtain⟨⟨cs,h1,h2⟩,h3⟩:=hv
  have:∃b,(b=true->n=0)/\bh (aN c [] β) w β (.dI b es n g) x:=by
   cases h1 with
   |aq g1 g2 g3 g4 g5 g6=>
    rename_i base cap cs' cf
    cases g6
    refine⟨base.isNone,fun hb=>?_,_,.dI rfl g1 g2 g3 g4 g5 .nil,h2⟩
    rcases g1 with g1|⟨b,o,rfl,_⟩
    ·exact g1
    ·simp at hb
  obtain⟨b,hb0,hb⟩:=this
  exact((h b hb0) need).2 c D D' β w (x::xs) hw0 hMw hrel hD hK ⟨hb,h3⟩
theorem RA {z y:Nat->Nat} {k:Nat}:∀{n:Nat},k<n->(∀j,k<j->j<n->z j=y j)->z k<y k->(∀i,i<n->z i<2^32)->val n z<val n y
 |0,h,_,_,_=>aa
 |n+1,h,he,hk,hz=>by
  rw[val,val]
  by_cases hn:k=n
  ·subst hn
   have h1:=fD (z:=z) (n:=k) fun i hi=>hz i aa
   have h2:(z k+1)*2^(32*k)<=y k*2^(32*k):=Nat.mul_le_mul_right _ hk
   rw[Nat.add_mul,Nat.one_mul]at h2
   omega
  ·have:=RA (n:=n) aa (fun j h1 h2=>he j h1 aa) hk fun i hi=>hz i aa
   rw[he n aa aa]
   omega
theorem EF {A B:Nat} (hn:nl A=nl B) (h:∀i,i<nl A->aC A i=aC B i):A=B:=by
 rw[<-fS (N:=A),<-fS (N:=B),<-hn]
 exact val_congr h
theorem Eg {A B k:Nat} (hn:nl A=nl B) (hk:k<nl A) (h:∀j,k<j->j<nl A->aC A j=aC B j) (hlt:aC A k<aC B k):A<B:=by
 have:=RA (z:=aC A) (y:=aC B) hk h hlt fun i _=>dG
 rw[fS,hn,fS]at this
 exact this
theorem Ea {A B:Nat} (h:nl A<nl B):A<B:=by
 rcases Nat.lt_or_ge A B with h1|h1
 ·exact h1
 ·have:=gJ h1;omega
theorem fq {ρ:Nat->Option Nat} {r w:Bool} {n m:Nat} {f:Nat->AV} {o:Nat->Nat} (hn:m=n) (h:∀j,j<n->f j=aB o j):cM ρ ⟨r,w,1,n,f⟩ ⟨r,w,1,m,aB o⟩:=
 iA hn fun j hj=>by rw[h j hj];exact aK rfl
def cm (o:Nat->Nat) (i x:Nat):Nat->Nat:=fun j=>if j=i then x else o j
theorem jP {o:Nat->Nat} {i x:Nat}:cm o i x i=x:=if_pos rfl
theorem fB {o:Nat->Nat} {i x j:Nat} (h:j≠i):cm o i x j=o j:=if_neg h
theorem hU {o:Nat->Nat} {i x b:Nat} {n:Nat} (hx:x<b) (ho:∀j,j<n->o j<b):∀j,j<n->cm o i x j<b:=fun j hj=>by
 unfold cm
 split
 ·exact hx
 ·exact ho j hj
theorem gE {o:Nat->Nat} {i x:Nat} {v:Int} (hv:v=(x:Nat)) (j:Nat):(if j=i then AV.int .u32 v else aB o j)=aB (cm o i x) j:=by
 unfold aB cm
 split
 ·rw[hv]
 ·rfl
theorem qV {o:Nat->Nat} {i x:Nat}:∀{n:Nat},i<n->o i=0->val n (cm o i x)=val n o+x*2^(32*i)
 |0,h,_=>aa
 |n+1,h,h0=>by
  rw[val,val]
  by_cases hn:i=n
  ·subst hn
   rw[jP,h0,val_congr (y:=o) fun j hj=>fB aa]
   omega
  ·rw[qV (n:=n) aa h0,fB aa]
   omega
theorem qA {o:Nat->Nat} {i x:Nat}:val (i+1) (cm o i x)=val i o+x*2^(32*i):=by
 rw[val,jP,val_congr (y:=o) fun j hj=>fB aa]
theorem tL {x k:Nat} (h:2^k<=x):bG x=k+bG (x/2^k):=by
 have hk:=Nat.two_pow_pos k
 have h0:x≠0:=aa
 have h1:x/2^k≠0:=by
  have:=(Nat.le_div_iff_mul_le hk (x:=1) (y:=x)).2 aa
  omega
 unfold bG
 rw[if_neg h0,if_neg h1]
 have:x.log2=k+(x/2^k).log2:=by
  obtain⟨g1,g2⟩:=(Nat.log2_eq_iff h1).1 rfl
  rw[Nat.log2_eq_iff h0]
  refine⟨?_,?_⟩
  ·rw[Nat.pow_add,Nat.mul_comm]
   exact(Nat.le_div_iff_mul_le hk).1 g1
  ·rw[show k+(x/2^k).log2+1=((x/2^k).log2+1)+k by omega,Nat.pow_add]
   exact(Nat.div_lt_iff_lt_mul hk).1 g2
 omega
theorem je {x k:Nat}:bG x<=k↔x<2^k:=by
 unfold bG
 split
 ·rename_i h;subst h;simp[Nat.two_pow_pos]
 ·rename_i h;rw[<-Nat.log2_lt h];omega
theorem Jt {N:Nat} (h:N≠0):bG N=32*(nl N-1)+bG (aC N (nl N-1)):=by
 have hp:=gd.2 h
 have h1:2^(32*(nl N-1))<=N:=by
  rcases Nat.lt_or_ge N (2^(32*(nl N-1)))with h1|h1
  ·have:=dm.2 h1;omega
  ·exact h1
 have h2:N/2^(32*(nl N-1))<2^32:=by
  rw[Nat.div_lt_iff_lt_mul (Nat.two_pow_pos _),<-Nat.pow_add]
  have:=mT (N:=N)
  rw[show 32+32*(nl N-1)=32*nl N by omega]
  exact this
 rw[tL h1,aC,Nat.mod_eq_of_lt h2]
theorem HA {o:Nat->Nat} {i x:Nat}:∀{n:Nat},i<n->val n (cm o i x)+o i*2^(32*i)=val n o+x*2^(32*i)
 |0,h=>aa
 |n+1,h=>by
  rw[val,val]
  by_cases hn:i=n
  ·subst hn
   rw[jP,val_congr (y:=o) fun j hj=>fB aa]
   omega
  ·have:=HA (o:=o) (x:=x) (n:=n) (i:=i) aa
   rw[fB (show n≠i by omega)]
   omega
theorem ay.oK {P:Program} {c:Ctx} {nt:Nat} {s:aH} {Q:ak->aH->Prop} {x y:Code} {i:Nat} (hx:x=.block i y) (h:ay P c nt y s (inBlock i Q)):ay P c nt x s Q:=hx▸.KK h
theorem Nc {c x y o:Nat} (hc:c<2^32) (hx:x<2^32) (hy:y<2^32) (ho:o<2^32):
  IntKind.u64.wrap ((c:Int)+IntKind.u64.wrap (IntKind.u64.wrap (IntKind.u64.wrap (x:Int)*IntKind.u64.wrap (y:Int))+IntKind.u64.wrap (o:Int)))=((c+x*y+o:Nat):Int)/\
   c+x*y+o<2^64/\(c+x*y+o)/4294967296<2^32:=by
 have h1:x*y<=(2^32-1)*(2^32-1):=Nat.mul_le_mul aa aa
 have e:(x:Int)*(y:Int)=((x*y:Nat):Int):=by simp
 rw[bZ (x:=(x:Int)) aa aa,bZ (x:=(y:Int)) aa aa,bZ (x:=(o:Int)) aa aa,e]
 generalize x*y=p at*
 refine⟨?_,aa,aa⟩
 rw[bZ (x:=(p:Int)) aa aa,bZ (x:=(p:Int)+o) aa aa,bZ aa aa]
 omega
theorem Rq {vo vo' oi c x yj B s q r v Bi Bj vy:Nat} (hs:s=c+x*yj+oi) (hq:4294967296*q+r=s) (hset:vo'+oi*B=vo+r*B) (hB:B=Bi*Bj) (h:vo+c*B=v+x*vy*Bi):
  vo'+q*(4294967296*B)=v+x*(vy+yj*Bj)*Bi:=by
 subst hB
 have e:(4294967296*q+r)*(Bi*Bj)=(c+x*yj+oi)*(Bi*Bj):=by rw[hq,hs]
 grind
theorem rL {P:Program} {f:FuncId} {K:Nat} {args:List AV} {u v:AV} {l l':List Prop} (hf:aD P f K args [] ⟨u,[],l⟩) (hl:aA l'->aA l) (hk:keys u=[]) (ht:u.isTuple=false) (hle:bD u v):aD P f K args [] ⟨v,[],l'⟩:=by
 intro need
 obtain⟨h1,h2⟩:=hf (hl need)
 refine⟨fun k o ho=>by simp[look]at ho,fun c D D' β w vs hw0 hMw hrel hD hK hv=>(h2 c D D' β w vs hw0 hMw hrel hD hK hv).mono ?_⟩
 rintro x w' ⟨β',g1,g2,g3⟩
 refine⟨β',g1,g2,?_⟩
 have h3:cq _ w' β' [u] [x]:=⟨bC.one g3 ht,trivial⟩
 have h4:=yS (us:=[u]) (vs:=[v]) ⟨hle,trivial⟩ (h3.br (by rw[E0];exact hk))
 have h5:=h4.mono (fun b o h1 h2=>⟨h2,h1⟩) (β':=β') fun k x hx=>by simp[br]at hx
 exact bh.bI h5.1
theorem zB {i:Nat} {Q:ak->aH->Prop} {s:aH} (h:Q .normal s):inBlock i Q (.exit i) s:=by
 simp only[inBlock,if_true];exact h
theorem fc {i:Nat} {k:aH->Prop} {Q:ak->aH->Prop} {s:aH} (h:Q .normal s):dM k (inBlock i Q) (.exit i) s:=by
 show inBlock i Q (.exit i) s
 exact zB h
theorem qS {i:Nat} {k:aH->Prop} {Q:ak->aH->Prop} {s:aH} (h:Q (.exit i) s):dM k Q (.exit i) s:=h
theorem KV {i:Nat} {k:aH->Prop} {Q:ak->aH->Prop} {s:aH} (h:Q .ret s):dM k (inBlock i Q) .ret s:=h
theorem ff {k:aH->Prop} {Q:ak->aH->Prop} {s:aH} (h:Q .ret s):dM k Q .ret s:=h
theorem Fo {s:aH}:∀{a b:List Nat},jR s (a++b)=jR s a++jR s b
 |[],_=>rfl
 |x::a,b=>by simp only[List.cons_append,jR,Fo]
theorem Fa {s:aH}:∀{a:List Nat},(jR s a).length=a.length
 |[]=>rfl
 |x::a=>by simp only[jR,List.length_cons,Fa]
theorem Kq {a b:List AV}:bu (a++b)=bu a++bu b:=by
 induction a with
 |nil=>rfl
 |cons x a ih=>simp only[List.cons_append,bu,ih,List.append_assoc]
theorem iD {s:aH} {ls l:List Nat} {vs us:List AV} {os:aE} (hv:bk (ls++l) s=some (vs++us,os)) (hl:vs.length=ls.length) (hk:bu us=[]):bk ls s=some (vs,os):=by
 unfold bk at hv ⊢
 simp only[au,Prod.mk.injEq,Fo]at hv ⊢
 obtain⟨h1,h2⟩:=hv
 obtain⟨h3,h4⟩:=List.append_inj h1 (by rw[Fa,hl])
 subst h3
 refine⟨rfl,?_⟩
 rw[<-h2,h4,Kq,hk,List.append_nil]
mutual
def zeroCells:AV->Option (List Value)
 |.bool b=>some [.bool b]
 |.int k n=>some [.int k n]
 |.nil=>some [.slice none 0 0]
 |.rat q n=>if q=0/\n=1 then some [.bool false,.slice none 0 0,.slice none 0 0]else none
 |.agg l=>sP l
 |_=>none
def sP:List AV->Option (List Value)
 |[]=>some []
 |a::l=>match zeroCells a,sP l with
  |some c,some d=>some (c++d)
  |_,_=>none
end
mutual
theorem Gp {M:Nat->Prop} {w:World} {β:aS}:∀{v:AV} {cs:List Value},zeroCells v=some cs->aM M w β [v] cs
 |.bool b,cs,h=>by simp only[zeroCells,au]at h;subst h;exact .bool .nil
 |.int k n,cs,h=>by simp only[zeroCells,au]at h;subst h;exact .int .nil
 |.nil,cs,h=>by simp only[zeroCells,au]at h;subst h;exact .vnil .nil
 |.rat q n,cs,h=>by
  simp only[zeroCells]at h
  split at h
  ·rename_i hq
   obtain⟨rfl,rfl⟩:=hq
   simp only[au]at h
   subst h
   have h0:aM M w br [.mag 0] [.slice none 0 0]:=by
    have:=aM.mag (M:=M) (w:=w) (β:=br) (N:=0) (base:=none) (cap:=0) (.inl rfl) (by simp[uY]) .nil
    simpa [uY]using this
   have:=aM.rat (M:=M) (w:=w) (β:=β) (q:=0) (n:=1) (x:=.slice none 0 0) (y:=.slice none 0 0) (l:=[]) (cs:=[]) ⟨by decide,by decide⟩ (by simpa using h0) (by simpa using h0) .nil
   simpa using this
  ·simp at h
 |.agg l,cs,h=>by
  simp only[zeroCells]at h
  simpa using aM.agg (J7 h) .nil
 |.mag _,cs,h=>by simp[zeroCells]at h
 |.aq _ _ _,cs,h=>by simp[zeroCells]at h
 |.dI _ _ _ _,cs,h=>by simp[zeroCells]at h
 |.bw _,cs,h=>by simp[zeroCells]at h
 |.ptr _ _ _ _ _,cs,h=>by simp[zeroCells]at h
 |.own _ _ _ _,cs,h=>by simp[zeroCells]at h
 |.func _ _,cs,h=>by simp[zeroCells]at h
 |.tuple _,cs,h=>by simp[zeroCells]at h
 |.bH _ _,cs,h=>by simp[zeroCells]at h
theorem J7 {M:Nat->Prop} {w:World} {β:aS}:∀{l:List AV} {cs:List Value},sP l=some cs->aM M w β l cs
 |[],cs,h=>by simp only[sP,au]at h;subst h;exact .nil
 |a::l,cs,h=>by
  simp only[sP]at h
  cases ha:zeroCells a with
  |none=>rw[ha]at h;simp at h
  |some c=>
   cases hl:sP l with
   |none=>rw[ha,hl]at h;simp at h
   |some d=>
    rw[ha,hl]at h
    simp only[au]at h
    subst h
    exact(Gp ha).cons (J7 hl)
end
def EL (v:AV):Option Value:=
 match zeroCells v with
 |some cs=>if v.isAgg then some (.agg cs.toArray)else match cs with
  |[x]=>some x
  |_=>none
 |none=>none
theorem cL {P:Program} {t:TypeId} {ti:TI} (h1:P.underlying t=some ti.desc) (h2:(P.info? t).map (fun i=>(i.size,i.bytes,i.zero))=some (ti.size,ti.bytes,EL ti.zero))
  (h3:(EL ti.zero).isSome=true):bS P t ti:=by
 cases hi:P.info? t with
 |none=>rw[hi]at h2;simp at h2
 |some i=>
  rw[hi]at h2
  simp only[Option.map_some,au,Prod.mk.injEq]at h2
  refine⟨h1,⟨i,hi,h2.1,h2.2.1⟩,fun _=>?_⟩
  obtain⟨z,hz⟩:=Option.isSome_iff_exists.1 h3
  refine⟨i,z,hi,by rw[h2.2.2,hz],fun M w β=>?_⟩
  unfold EL at hz
  cases hc:zeroCells ti.zero with
  |none=>rw[hc]at hz;simp at hz
  |some cs=>
   rw[hc]at hz
   simp only at hz
   split at hz
   ·rename_i ha
    simp only[au]at hz
    subst hz
    exact .Cq (Gp hc) ha
   ·rename_i ha
    split at hz
    ·simp only[au]at hz
     subst hz
     exact .cj (Gp hc) (by simpa using ha)
    ·simp at hz
theorem jh {P:Program} {t:TypeId} {ti:TI} (h1:P.underlying t=some ti.desc) (h2:(P.info? t).map (fun i=>(i.size,i.bytes))=some (ti.size,ti.bytes)) (h3:ti.zero=.tuple []):bS P t ti:=by
 cases hi:P.info? t with
 |none=>rw[hi]at h2;simp at h2
 |some i=>
  rw[hi]at h2
  simp only[Option.map_some,au,Prod.mk.injEq]at h2
  exact⟨h1,⟨i,hi,h2.1,h2.2⟩,fun h=>by rw[h3]at h;simp[isTuple]at h⟩
theorem aet {P:Program}:dK P []:=fun t ti h=>by simp[look]at h
theorem b7 {P:Program} {t:TypeId} {ti:TI} {T:Types} (h:bS P t ti) (hT:dK P T):dK P ((t,ti)::T):=by
 intro t' ti' ht
 simp only[look]at ht
 split at ht
 ·rename_i he
  have:t=t':=by simpa using he
  subst this
  simp only[au]at ht
  subst ht
  exact h
 ·exact hT t' ti' ht
end Go.Am
namespace Go.Am
open AV
theorem cq.length {M:Nat->Prop} {w:World} {β:aS}:∀{us:List AV} {xs:List Value},cq M w β us xs->us.length=xs.length
 |[],[],_=>rfl
 |_::_,_::_,h=>by simp[cq.length h.2]
 |[],_::_,h=>h.elim
 |_::_,[],h=>h.elim
theorem cq.weak {c c':Ctx} {β β2:aS} {w:World} {ρ:Nat->Option Nat} {M M':Nat->Prop} (hM:∀b,M' b->M b) (hβ:∀k2 k1,ρ k2=some k1->β2 k2=β k1):∀{us vs:List AV} {xs:List Value},eU ρ us vs->cq M w β us xs->cq M' w β2 vs xs
 |[],[],[],_,_=>trivial
 |u::us,v::vs,x::xs,h,hv=>⟨hv.1.weak hM hβ h.1.2,cq.weak (c:=c) (c':=c') hM hβ h.2 hv.2⟩
 |[],_::_,_,h,_=>h.elim
 |_::_,[],_,h,_=>h.elim
 |_::_,_::_,[],_,h=>h.elim
 |[],[],_::_,_,h=>h.elim
theorem agA {nx:Nat} {rl:List (Nat×Nat)} (hr:iO nx rl=true):∀a b k,aY rl a=some k->aY rl b=some k->a=b:=by
 intro a b k ha hb
 have:=List.all_eq_true.1 hr _ (qo ha)
 simp only[Bool.and_eq_true,bf]at this
 simpa using List.all_eq_true.1 this.2 _ (qo hb)
theorem Nr {nx:Nat} {rl:List (Nat×Nat)} (hr:iO nx rl=true) {a k:Nat} (ha:aY rl a=some k):a<nx:=by
 have:=List.all_eq_true.1 hr _ (qo ha)
 simp only[Bool.and_eq_true,bf]at this
 exact this.1
theorem adt {M:Nat->Prop} {w:World} {β:aS} {us:List AV} {xs:List Value} (h:cq M w β us xs):bC M w β (iw us) (if h:xs.length=1 then xs.toArray[0]'(by simpa using(show 0<xs.length by omega))else .tuple xs.toArray):=by
 have hl:=h.length
 match us,xs,h,hl with
 |[],[],_,_=>exact⟨[],rfl,trivial⟩
 |[u],[x],h,_=>exact h.1.bI
 |u::u'::us,x::x'::xs,h,_=>simp only[List.length_cons,Nat.add_eq_right,Nat.add_eq_zero_iff,Nat.succ_ne_zero,and_false,dite_false];exact⟨_,rfl,h⟩
section core
variable {P:Program} {T:Types}
structure Ef (T:Types) (fn:Func) (τ:Nat->Option Nat) (pre:aE) (r:cZ) (s:aH):Prop where
 ends:Ends T fn r.res s
 GC:∀k o,look k (cA (eI r.post) pre)=some o->∃k1 o1,τ k=some k1/\look k1 s.store=some o1/\o1.row=false/\cM τ o1 o
structure sW (T:Types) (fn:Func) (τ:Nat->Option Nat) (pre:aE) (r:cZ) (s:aH):Prop where
 ends:∃vs q us,fE T s fn.results.toList=some (vs,q)/\aA q/\eU τ vs us/\r.res=iw us
 GC:∀k o,look k (cA (eI r.post) pre)=some o->∃k1 o1,τ k=some k1/\look k1 s.store=some o1/\cM τ o1 o
structure tu (rl:List (Nat×Nat)) (K:Nat) (pre:aE) (τ:Nat->Option Nat):Prop where
 inj:∀a b k,τ a=some k->τ b=some k->a=b
 dom:∀k a,τ k=some a->aY rl a=some k\/(K<=k/\k<K+cE)
theorem ahV (hT:dK P T) {f:FuncId} {fn:Func} {x:Code} (hf:aU P f fn x) {args args0:List AV} {pre pre0:aE} {r:cZ} {K nx:Nat} (rl:List (Nat×Nat)) (hlen:args0.length<=fn.ntmps) (hr:iO nx rl=true)
  (ha:eU (aY rl) args args0) (hp:mJ (aY rl) pre pre0) (hrl:∀a k,aY rl a=some k->∃o,look k pre=some o)
  (hpost:∀k o,look k r.post=some o->(∃o',look k pre=some o')\/(K<=k/\k<K+cE))
  (h:r.need->∀c:Ctx,c.ro=none->(∀k x,c.k0 k=some x->(aY rl k).isSome=true)->ay P c fn.ntmps x ⟨aQ 0 args0,pre0,nx⟩ fun e s'=>(e=.normal\/e=.ret)/\∃τ,tu rl K pre τ/\(Ef T fn τ pre r s'\/sW T fn τ pre r s')):aD P f K args pre r:=by
 intro need
 refine⟨hpost,fun c D D' β w vs hw0 hMw hrel hD hK hv=>.inl ⟨fn,hf.get,hf.name,by simp[hf.body],?_⟩⟩
 have hobj0:=AK hp
 have hβ0:∀k2 k1,aY rl k2=some k1->(fun a=>(aY rl a).bind β) k2=β k1:=fun k2 k1 h=>by simp[h]
 have hW:bq {c with k0:=fun a=>(aY rl a).bind β,ro:=none} pre0 (fun k=>k<nx) (fun a=>(aY rl a).bind β) w:=by
  refine hrel.weak (c':={c with k0:=fun a=>(aY rl a).bind β,ro:=none}) (ρ:=aY rl) rfl rfl rfl (agA hr) (fun k o h=>.inl (hobj0 k o h)) hβ0 (fun k2 k1 h=>Nr hr h) (fun k2 x hk=>?_) (fun k2 b N hk=>?_) (fun k x hk=>hk)
  ·cases h1:aY rl k2 with
   |none=>simp[h1]at hk
   |some k1=>exact Nr hr h1
  ·cases h1:aY rl k2 with
   |none=>simp[h1]at hk
   |some k1=>simp[h1]at hk;exact hrel.lt k1 b N hk
 have hv0:cq (aN {c with k0:=fun a=>(aY rl a).bind β,ro:=none} pre0 (fun a=>(aY rl a).bind β)) w (fun a=>(aY rl a).bind β) args0 vs:=
  hv.weak (c:=c) (c':=c) (ρ:=aY rl) (Ee rfl (fun k o h=>.inl (hobj0 k o h)) hβ0) hβ0 ha
 have hl0:=hv0.length
 have hstart:Rel {c with k0:=fun a=>(aY rl a).bind β,ro:=none} fn.ntmps (fun k=>k<nx) (aQ 0 args0) pre0 {tmps:=vs.toArray++Array.replicate (fn.ntmps-vs.toArray.size) undef,defers:=[]} w:=by
  refine⟨.nil,by simp;omega,_,hW,?_⟩
  have:=EI (pre:=#[]) (post:=Array.replicate (fn.ntmps-vs.toArray.size) undef) hv0 rfl
  simpa using this
 refine callsIn_wide.1 (callsIn_of_wp_marks (F:=Fence.wide) (n:=3) hf.get hf.body trivial (wpIn_mono (h need {c with k0:=fun a=>(aY rl a).bind β,ro:=none} rfl (fun k x hk=>by
  cases h1:aY rl k with
  |none=>simp[h1]at hk
  |some k1=>rfl) _ w hstart) ?_))
 rintro e a' w9 ⟨ae,s',rfl,hr9,hex,τ,hτ,hends⟩
 obtain⟨w',hr',hleave⟩:=Rel.leave (P:=P) (fn:=fn) (R:=fun e w'=>∃x,e=.returned x/\en c pre D' β w (eI r.post) r.res x w') hr9
 -- what the end gives, in the function's own keys
 have hfin:∃x β1 st1,(results fn a'.tmps).run P w'=.ok x w'/\bq {c with k0:=fun a=>(aY rl a).bind β,ro:=none} st1 (fun k=>k<s'.next) β1 w'/\
   (∀k o,look k (cA (eI r.post) pre)=some o->∃k1 o1,τ k=some k1/\look k1 st1=some o1/\cM τ o1 o)/\
   bC (aN {c with k0:=fun a=>(aY rl a).bind β,ro:=none} st1 β1) w' (fun k=>(τ k).bind β1) r.res x:=by
  rcases hends with hends|hends
  ·obtain⟨hdef,x,β1,st1,hrun,hw1,hvx,hrow⟩:=LJ hT hends.ends hr'
   refine⟨x,β1,st1,hrun,hw1,fun k o hk=>?_,hvx.mono (fun b o h1 h2=>⟨h2,h1⟩) fun k x hk=>by simp[br]at hk⟩
   obtain⟨k1,o1,g1,g2,g3,g4⟩:=hends.GC k o hk
   exact⟨k1,o1,g1,hrow k1 o1 g2 g3,g4⟩
  ·obtain⟨a1,a2,β1,a3,a4⟩:=hr'
   obtain⟨vs1,q,us,h1,hq,h2,h3⟩:=hends.ends
   obtain⟨xs,hxs,hv,hlen⟩:=EJ hT a3 a4 (g:=fun x=>match x with
    |ResultVar.tmp t=>pure (a'.tmps.getD t undef)
    |ResultVar.cell r t=>do let y <-asAddr (a'.tmps.getD r undef);loadVar t y) (fun _=>rfl) (fun _ _=>rfl) h1 hq
   refine⟨if h:xs.length=1 then xs.toArray[0]'(by simpa using(show 0<xs.length by omega))else .tuple xs.toArray,β1,s'.store,?_,a3,hends.GC,?_⟩
   ·have key:results fn a'.tmps=(do
      let vs <-fn.results.mapM fun x=>match x with
       |ResultVar.tmp t=>pure (a'.tmps.getD t undef)
       |ResultVar.cell r t=>do let y <-asAddr (a'.tmps.getD r undef);loadVar t y
      pure (if h:vs.size=1 then vs[0]else Value.tuple vs)):=rfl
    rw[key,Sem.run_bind,Array.mapM_eq_mapM_toList,Sem.run_map,hxs]
    simp only[Result.andThen_ok,Sem.run_pure]
    congr 1
   ·rw[h3]
    exact adt (hv.weak (c:=c) (c':=c) (ρ:=τ) (fun _ h=>h) (fun k2 k1 h=>by simp[h]) h2)
 obtain⟨x,β1,st1,hrun,hw1,hobj1,hvx⟩:=hfin
 have hkeep1:∀k a,τ k=some a->∀y,β k=some y->β1 a=some y:=by
  intro k a hka y hy
  rcases hτ.dom k a hka with h1|⟨h1,h2⟩
  ·exact hw1.keep a y (by simp only[h1,Option.bind_some];exact hy)
  ·exact absurd (hrel.dom k y hy) (hK k h1 h2).1
 have hβ2:∀k2 k1,τ k2=some k1->(fun k=>match τ k with
   |some a=>β1 a
   |none=>β k) k2=β1 k1:=fun k2 k1 h=>by simp[h]
 have hW2:bq c (cA (eI r.post) pre) D' (fun k=>match τ k with
   |some a=>β1 a
   |none=>β k) w':=by
  have hd2:∀k2 a,τ k2=some a->D' k2:=fun k2 a ha=>by
   rcases hτ.dom k2 a ha with h1|⟨h1,h2⟩
   ·obtain⟨o,ho⟩:=hrl a k2 h1
    cases hb:β k2 with
    |some x=>exact hD _ (hrel.dom k2 _ hb)
    |none=>exact hD _ (hrel.dw k2 o ho hb).2
   ·exact(hK k2 h1 h2).2
  refine hw1.weak (c':=c) (ρ:=τ) rfl rfl rfl hτ.inj (fun k o h=>.inl (hobj1 k o h)) hβ2 hd2 (fun k2 y hk=>?_) (fun k2 b N hk=>?_) (fun k y hk=>?_)
  ·split at hk
   ·rename_i a ha
    exact hd2 k2 a ha
   ·exact hD _ (hrel.dom k2 y hk)
  ·split at hk
   ·exact hw1.lt _ b N hk
   ·exact Nat.lt_of_lt_of_le (hrel.lt k2 b N hk) (by have:=hw1.size;rw[<-hw0];exact this)
  ·have hy:=hrel.keep k y hk
   split
   ·rename_i a ha
    exact hkeep1 k a ha y hy
   ·exact hy
 have hO:en c pre D' β w (eI r.post) r.res x w':=by
  refine⟨_,hW2,⟨fun b o hb ho=>?_,fun k y hk=>?_⟩,?_⟩
  ·have hlt:b<c.w0.heap.size:=by rw[hw0];exact vL ho
   have hmw:¬c.Mw b:=fun hm=>hb (hMw b hm)
   refine⟨?_,?_⟩
   ·rw[hw1.block b hlt hmw]
    show c.w0.heap[b]?=_
    rw[hw0];exact ho
   ·rintro(hm|⟨k,o',N,h1,h2,h3⟩)
    ·exact hb (.inl hm)
    ·rcases hW2.new k o' b N h1 h2 h3 with h4|h4
     ·omega
     ·exact hmw h4
  ·split
   ·rename_i a ha
    exact hkeep1 k a ha y hk
   ·exact hk
  ·refine hvx.mono (fun b o h1 h2=>⟨h2,fun h3=>h1 (Ee (c:={c with k0:=fun a=>(aY rl a).bind β,ro:=none}) rfl (fun k o h=>.inl (hobj1 k o h)) hβ2 b h3)⟩) (fun k y hk=>?_)
   cases h1:τ k with
   |none=>simp[h1]at hk
   |some a=>simpa [h1]using hk
 rcases hex with rfl|rfl
 ·exact hleave x hrun ⟨x,rfl,hO⟩
 ·exact hleave x hrun ⟨x,rfl,hO⟩
theorem mZ (hT:dK P T) {f:FuncId} {fn:Func} {x:Code} (hf:aU P f fn x) {args args0:List AV} {pre pre0:aE} {r:cZ} {K nx:Nat} (rl:List (Nat×Nat)) (hlen:args0.length<=fn.ntmps) (hr:iO nx rl=true)
  (ha:eU (aY rl) args args0) (hp:mJ (aY rl) pre pre0) (hrl:∀a k,aY rl a=some k->∃o,look k pre=some o)
  (hpost:∀k o,look k r.post=some o->(∃o',look k pre=some o')\/(K<=k/\k<K+cE))
  (h:r.need->∀c:Ctx,(∀k x,c.k0 k=some x->(aY rl k).isSome=true)->ay P c fn.ntmps x ⟨aQ 0 args0,pre0,nx⟩ fun e s'=>(e=.normal\/e=.ret)/\∃τ,tu rl K pre τ/\(Ef T fn τ pre r s'\/sW T fn τ pre r s')):aD P f K args pre r:=
 ahV hT hf rl hlen hr ha hp hrl hpost fun need c _=>h need c
end core
def ju (nx:Nat) (vs:List AV):Bool:=(vs.all fun v=>!v.isTuple)&&(bu vs).all fun k=>decide (k<nx)
def gG (nx:Nat):aE->Prop
 |[]=>True
 |(k,o)::l=>(k<nx/\∀i,i<o.len->keys (o.f i)=[])/\gG nx l
theorem KY {nx:Nat}:∀{os:aE},gG nx os->∀{k:Nat} {o:ax},look k os=some o->k<nx/\∀i,i<o.len->keys (o.f i)=[]
 |[],_,k,o,h=>by simp[look]at h
 |(j,b)::l,h,k,o,hk=>by
  simp only[look]at hk
  split at hk
  ·rename_i he
   have:j=k:=by simpa using he
   subst this
   simp only[au]at hk
   subst hk
   exact h.1
  ·exact KY h.2 hk
theorem MT {nx:Nat} {u:AV} (hk:∀k∈keys u,k<nx):gD (fun k=>if k<nx then some k else none) u u:=by
 refine⟨rfl,fun M w β cs hc=>?_⟩
 have gen:∀{l:List AV} {cs:List Value},aM M w β l cs->(∀k∈bu l,k<nx)->aM M w (fun k=>(if k<nx then some k else none).bind β) l cs:=by
  intro l cs h
  generalize hβ:β=β' at h
  induction h with
  |nil=>exact fun _=>.nil
  |bool _ ih=>exact fun h=>.bool (ih hβ (by simpa [bu,keys]using h))
  |int _ ih=>exact fun h=>.int (ih hβ (by simpa [bu,keys]using h))
  |rat hs h1 h2 _ _ _ ih=>exact fun h=>.rat hs h1 h2 (ih hβ (by simpa [bu,keys]using h))
  |mag h1 h2 _ ih=>exact fun h=>.mag h1 h2 (ih hβ (by simpa [bu,keys]using h))
  |agg _ _ ih1 ih2=>exact fun h=>.agg (ih1 hβ fun k hk=>h k (by simp only[bu,keys];exact List.mem_append_left _ hk)) (ih2 hβ fun k hk=>h k (by simp only[bu];exact List.mem_append_right _ hk))
  |aq h1 h2 h3 h4 h5 _ _ ih=>exact fun h=>.aq h1 h2 h3 h4 h5 (ih hβ (by simpa [bu,keys]using h))
  |dI hq h1 h2 h3 h4 h5 _ _ ih=>exact fun h=>.dI hq h1 h2 h3 h4 h5 (ih hβ (by simpa [bu,keys]using h))
  |vnil _ ih=>exact fun h=>.vnil (ih hβ (by simpa [bu,keys]using h))
  |void hx _ ih=>exact fun h=>.void hx (ih hβ (by simpa [bu,keys]using h))
  |str _ ih=>exact fun h=>.str (ih hβ (by simpa [bu,keys]using h))
  |bw h1 h2 _ _ ih=>exact fun h=>.bw h1 h2 (ih hβ (by simpa [bu,keys]using h))
  |@ptr _ k _ _ _ _ _ _ _ _ hk _ ih=>
   intro h
   have:k<nx:=h k (by simp[bu,keys])
   exact .ptr (by simp only[this,if_true,Option.bind_some];rw[<-hβ]at hk ⊢;exact hk) (ih hβ fun k hk=>h k (by simp only[bu];exact List.mem_append_right _ hk))
  |@own _ k _ _ _ _ _ _ _ _ _ hk h1 h2 h4 h3 _ ih=>
   intro h
   have:k<nx:=h k (by simp[bu,keys])
   exact .own (by simp only[this,if_true,Option.bind_some];rw[<-hβ]at hk ⊢;exact hk) h1 h2 h4 h3 (ih hβ fun k hk=>h k (by simp only[bu];exact List.mem_append_right _ hk))
  |own0 h3 _ ih=>exact fun h=>.own0 h3 (ih hβ fun k hk=>h k (by simp only[bu];exact List.mem_append_right _ hk))
  |bH ha _ _ ih1 ih2=>exact fun h=>.bH ha (ih1 hβ fun k hk=>h k (by simp only[bu,keys,List.append_nil]at hk ⊢;exact List.mem_append_left _ hk)) (ih2 hβ fun k hk=>h k (by simp only[bu];exact List.mem_append_right _ hk))
  |func _ hc _ ih1 ih2=>exact fun h=>.func (ih1 hβ fun k hk=>h k (by simp only[bu,keys];exact List.mem_append_left _ hk)) hc (ih2 hβ fun k hk=>h k (by simp only[bu];exact List.mem_append_right _ hk))
 exact gen hc fun k h=>hk k (by rw[E0]at h;exact h)
theorem L9 {nx:Nat}:∀{vs:List AV},ju nx vs=true->eU (fun k=>if k<nx then some k else none) vs vs
 |[],_=>trivial
 |v::vs,h=>by
  simp only[ju,List.all_cons,bu,List.all_append,Bool.and_eq_true,Bool.not_eq_true']at h
  obtain⟨⟨h1,h2⟩,h3,h4⟩:=h
  refine⟨⟨h1,MT fun k hk=>by simpa using List.all_eq_true.1 h3 k hk⟩,L9 ?_⟩
  simp only[ju,Bool.and_eq_true]
  exact⟨h2,h4⟩
theorem m7 {c:Ctx} {s':aH} {ls:List Nat} {vs:List AV} {os:aE} {nx:Nat} (hv:bk ls s'=some (vs,os)) (h0:∀k x,c.k0 k=some x->k<nx) (hok:ju nx vs=true) (ho:gG nx os):∃ρ,Le c ρ s' ⟨aF ls vs,os,nx⟩:=by
 unfold bk at hv
 simp only[au,Prod.mk.injEq]at hv
 obtain⟨rfl,rfl⟩:=hv
 refine⟨fun k=>if k<nx then some k else none,?_,Hr (L9 hok),fun k2 o2 hk=>?_,fun k2 k1 hk=>?_,fun k x hk=>by simp[h0 k x hk]⟩
 ·intro a b k ha hb
  split at ha<;>split at hb<;>simp_all
 ·obtain⟨h1,h2⟩:=KY ho hk
  refine .inl ⟨k2,o2,by simp[h1],?_,⟨rfl,rfl,rfl,rfl,fun i hi=>MT fun k hk=>by rw[h2 i hi]at hk;simp at hk⟩⟩
  rw[mu]at hk
  split at hk
  ·exact hk
  ·simp at hk
 ·split at hk
  ·assumption
  ·simp at hk
section rules
variable {P:Program} {c:Ctx} {nt:Nat} {s:aH} {Q:ak->aH->Prop} {T:Types} {Γ:aV}
theorem ay.gP {x y:Code} {i:Nat} (hx:x=.block i (.loop y)) (ls:List Nat) (nx:Nat) (h0:∀k x,c.k0 k=some x->k<nx) {α:Type} (vs:α->List AV) (os:α->aE) (hok:∀a,ju nx (vs a)=true) (ho:∀a,gG nx (os a)) (I:α->Prop) (μ:α->Nat) (j:α)
  (hv:bk ls s=some (vs j,os j)) (hI:I j)
  (round:∀j,I j->ay P c nt y ⟨aF ls (vs j),os j,nx⟩ (dM (fun s'=>∃k,bk ls s'=some (vs k,os k)/\I k/\μ k<μ j) (inBlock i Q))):ay P c nt x s Q:=
 ay.iz hx (fun a=>⟨aF ls (vs a),os a,nx⟩) I μ j (m7 hv h0 (hok j) (ho j)) hI fun j hj=>(round j hj).mono fun e s' h=>by
  cases e with
  |normal=>
   obtain⟨k,h1,h2,h3⟩:=h
   exact⟨k,m7 h1 h0 (hok k) (ho k),h2,h3⟩
  |exit i=>exact h
  |ret=>exact h
theorem ay.j0 {x:Code} {ls:List Nat} {nx:Nat} {vs:List AV} {os:aE} (hv:bk ls s=some (vs,os)) (h0:∀k x,c.k0 k=some x->k<nx) (hok:ju nx vs=true) (ho:gG nx os) (h:ay P c nt x ⟨aF ls vs,os,nx⟩ Q):ay P c nt x s Q:=
 .lT (m7 hv h0 hok ho) h
theorem aG.j0 {l:List Code} {ls:List Nat} {nx:Nat} {vs:List AV} {os:aE} (hv:bk ls s=some (vs,os)) (h0:∀k x,c.k0 k=some x->k<nx) (hl:l.isEmpty=false) (hok:ju nx vs=true) (ho:gG nx os) (h:aG P c nt l ⟨aF ls vs,os,nx⟩ Q):aG P c nt l s Q:=
 .weak hl (m7 hv h0 hok ho) h
theorem aG.CZ (hT:dK P T) (hΓ:bn P Γ) (hm:P.follows .mixedOrders=true) {fn:Func} {forks:List Nat} (n:Nat) {l:List Code} {ls:List Nat} {nx:Nat} {vs:List AV} {os:aE} (hv:bk ls s=some (vs,os)) (h0:∀k x,c.k0 k=some x->k<nx)
  (hok:ju nx vs=true) (ho:gG nx os) {t:ag (List AV)} (hc:cJ T Γ forks n fn l ⟨aF ls vs,os,nx⟩=some t) (hd:(l.all fun x=>ck nt x)=true) (hl:l.isEmpty=false) {res:AV} (h:t.all fun _ us=>er us res):aG P c nt l s (Fin T fn res):=
 .j0 hv h0 hl hok ho (.fin hT hΓ hm n hc hd h)
theorem aG.eW (hT:dK P T) (hΓ:bn P Γ) (hm:P.follows .mixedOrders=true) {forks:List Nat} (n:Nat) {l:List Code} {ls:List Nat} {nx:Nat} {vs:List AV} {os:aE} (hv:bk ls s=some (vs,os)) (h0:∀k x,c.k0 k=some x->k<nx)
  (hok:ju nx vs=true) (ho:gG nx os) (ls2:List Nat) {t:ag (List AV×aE)} (hc:aJ T Γ forks n ls2 l ⟨aF ls vs,os,nx⟩=some t) (hd:(l.all fun x=>ck nt x)=true) (hl:l.isEmpty=false) (h:t.all fun e v=>∀s',bk ls2 s'=some v->Q e s'):aG P c nt l s Q:=
 .j0 hv h0 hl hok ho (.bz hT hΓ hm n ls2 hc hd h)
theorem ay.eW (hT:dK P T) (hΓ:bn P Γ) (hm:P.follows .mixedOrders=true) {x:Code} {forks:List Nat} (n:Nat) {ls:List Nat} {nx:Nat} {vs:List AV} {os:aE} (hv:bk ls s=some (vs,os)) (h0:∀k x,c.k0 k=some x->k<nx)
  (hok:ju nx vs=true) (ho:gG nx os) (ls2:List Nat) {t:ag (List AV×aE)} (hc:aJ T Γ forks n ls2 [x] ⟨aF ls vs,os,nx⟩=some t) (hd:ck nt x=true) (h:t.all fun e v=>∀s',bk ls2 s'=some v->Q e s'):ay P c nt x s Q:=
 .j0 hv h0 hok ho (.bz hT hΓ hm n ls2 hc hd h)
end rules
theorem sR {T:Types} {fn:Func} {ls:List Nat} {vs us ws:List AV} {os ps pre:aE} {s':aH} {τ:Nat->Option Nat} {r:cZ} (hv:bk ls s'=some (vs,os)) (hr:lS (aF ls vs) fn.results.toList=some us) (hle:eU τ us ws) (hres:r.res=iw ws)
  (he:cA (eI r.post) pre=ps) (ho:mJ τ os ps):sW T fn τ pre r s':=by
 unfold bk at hv
 simp only[au,Prod.mk.injEq]at hv
 obtain⟨rfl,rfl⟩:=hv
 refine⟨⟨us,[],ws,Gf hr,trivial,hle,hres⟩,fun k o hk=>?_⟩
 rw[he]at hk
 obtain⟨k1,o1,g1,g2,g3⟩:=AK ho k o hk
 refine⟨k1,o1,g1,?_,g3⟩
 rw[mu]at g2
 split at g2
 ·exact g2
 ·simp at g2
def pX (g:Nat->List AV->Option cZ):Spec:=fun K args pre=>match eC pre args with
 |some as=>g K as
 |none=>none
theorem uM {P:Program} {f:FuncId} {g:Nat->List AV->Option cZ} (h:∀K args r,bu args=[]->g K args=some r->aD P f K args [] r):
  ∀K args pre r,pX g K args pre=some r->aD P f K args pre r:=by
 intro K args pre r hg
 unfold pX at hg
 split at hg
 ·rename_i as has
  have hf:=h K as r (wK has) hg
  intro need
  obtain⟨h1,h2⟩:=hf need
  refine⟨fun k o ho=>.inr ((h1 k o ho).resolve_left fun⟨o',h⟩=>by simp[look]at h),fun c D D' β w vs hw0 hMw hrel hD hK hv=>?_⟩
  have hv':cq (aN c pre β) w br as vs:=DD hrel (fun _ _ h=>h) has hv
  exact(hf.frame (pre':=pre) (fun k o hk=>by simp[look]at hk)).use need hrel (fun _ _ h=>h) hD hK (hv'.mono (fun b o h1 h2=>⟨h2,h1⟩) fun k x hx=>by simp[br]at hx)
 ·simp at hg
theorem EH {K k a:Nat} {pre:aE} (h:K<=k/\k<K+cE):tu [] K pre (aY [(k,a)]):=
 ⟨fun x y z hx hy=>by
  simp only[aY,look]at hx hy
  split at hx<;>split at hy<;>simp_all,fun x y hx=>by
  simp only[aY,look]at hx
  split at hx
  ·rename_i he
   have:k=x:=by simpa using he
   subst this
   exact .inr h
  ·simp at hx⟩
theorem vc {K k a:Nat} {pre:aE}:tu [(a,k)] K pre (aY [(k,a)]):=
 ⟨fun x y z hx hy=>by
  simp only[aY,look]at hx hy
  split at hx<;>split at hy<;>simp_all,fun x y hx=>by
  simp only[aY,look]at hx ⊢
  split at hx
  ·rename_i he
   have:k=x:=by simpa using he
   subst this
   simp only[au]at hx
   subst hx
   exact .inl (by simp)
  ·simp at hx⟩
theorem jU {c:Ctx} (h:c.k0=br) {nx:Nat}:∀k x,c.k0 k=some x->k<nx:=fun k x hk=>by rw[h]at hk;simp[br]at hk
theorem dH {ls:List Nat} {s':aH} {vs us:List AV} {os ps:aE} (hv:bk ls s'=some (vs,os)) (h1:vs=us) (h2:os=ps):bk ls s'=some (us,ps):=by rw[hv,h1,h2]
end Go.Am
namespace Go.Am
open AV
def fM (b:Bool) (n:Nat):Int:=if b then-(n:Int)else n
def sQ (b:Bool) (n d:Nat):Rat:=mkRat (fM b n) d
def cK (q:Rat):Nat:=max (bG q.num.natAbs) (bG q.den)
theorem Bl {b:Bool} {n:Nat}:(fM b n).natAbs=n:=by unfold fM;split<;>simp
theorem abH {b:Bool}:fM b 0=0:=by unfold fM;split<;>simp
theorem Zm {b:Bool} {n g:Nat} (h:g∣n):fM b n/(g:Int)=fM b (n/g):=by
 unfold fM
 split
 ·rw[Int.neg_ediv_of_dvd (Int.natCast_dvd_natCast.2 h)];simp
 ·simp
theorem iN {q:Rat}:q<0↔q.num<0:=by rw[Rat.lt_iff];simp
theorem AI {b:Bool} {n d:Nat} (hd:d≠0):(sQ b n d).num=fM b (n/Nat.gcd n d):=by
 unfold sQ
 rw[Rat.num_mkRat,if_neg hd,Bl,Nat.gcd_comm,Zm (Nat.gcd_dvd_left n d)]
theorem Qs {b:Bool} {n d:Nat} (hd:d≠0):(sQ b n d).den=d/Nat.gcd n d:=by
 unfold sQ
 rw[Rat.den_mkRat,if_neg hd,Bl,Nat.gcd_comm]
theorem Fy {b:Bool} {d:Nat}:sQ b 0 d=0:=by unfold sQ;rw[abH];simp
theorem acC {b:Bool} {n d:Nat} (hn:n≠0) (hd:d≠0):decide (sQ b n d<0)=b:=by
 have h1:0<n/Nat.gcd n d:=Nat.div_pos (Nat.le_of_dvd aa (Nat.gcd_dvd_left n d)) (Nat.gcd_pos_of_pos_left _ aa)
 cases b
 ·simp only[bt,iN,AI hd,fM];simp;omega
 ·simp only[bf,iN,AI hd,fM];simp;omega
theorem yM {q:Rat}:Sz q (cK q):=
 ⟨Nat.lt_of_lt_of_le (je.1 bp) (Nat.pow_le_pow_right aa (Nat.le_max_left _ _)),Nat.lt_of_lt_of_le (je.1 bp) (Nat.pow_le_pow_right aa (Nat.le_max_right _ _))⟩
theorem VX {q:Rat} {n:Nat}:Sz q n↔cK q<=n:=by
 unfold Sz cK
 rw[<-je,<-je];omega
theorem cV {q r:Rat} {n k:Nat} (h:q=r) (hs:Sz r k):bD (.rat q n) (.rat r k):=by
 subst h
 refine⟨rfl,fun M w cs hc=>?_⟩
 cases hc with
 |rat _ h1 h2 h3=>cases h3;exact .rat hs h1 h2 .nil
theorem Cl {b:Bool} {n d k:Nat} (hd:d≠0) (hn:n<2^k) (hdk:d<2^k):Sz (sQ b n d) k:=by
 refine⟨?_,?_⟩
 ·rw[AI hd,Bl];exact Nat.lt_of_le_of_lt (Nat.div_le_self _ _) hn
 ·rw[Qs hd];exact Nat.lt_of_le_of_lt (Nat.div_le_self _ _) hdk
theorem kJ (q:Rat):sQ (decide (q<0)) q.num.natAbs q.den=q:=by
 unfold sQ
 have:fM (decide (q<0)) q.num.natAbs=q.num:=by
  unfold fM
  by_cases h:q<0
  ·have:=iN.1 h;simp[h];omega
  ·have:¬q.num<0:=fun h'=>h (iN.2 h')
   simp[h];omega
 rw[this,Rat.mkRat_self]
theorem tM {b:Bool} {x y n d k:Nat} (hn:n≠0) (hd:d≠0) (hx:x=n/Nat.gcd n d) (hy:y=if d/Nat.gcd n d=1 then 0 else d/Nat.gcd n d) (hs:Sz (sQ b n d) k):bD (.agg [.bool b,.mag x,.mag y]) (.rat (sQ b n d) k):=
 rE hs (acC hn hd).symm (by rw[AI hd,Bl,hx]) (by rw[Qs hd,hy])
theorem nh {k:Nat}:bD (.agg [.bool false,.mag 0,.mag 0]) (.rat 0 (k+1)):=
 rE ⟨by simp[Nat.two_pow_pos],by simp⟩ (by decide) rfl rfl
section down
variable {P:Program} {c:Ctx} {nt:Nat} {s:aH} {Q:ak->aH->Prop} {T:Types}
def dX (c:Ctx) (Q:ak->aH->Prop) (e:ak) (s':aH):Prop:=Q e s'\/∃s2 ρ,Le c ρ s' s2/\Q e s2
theorem ay.down {x:Code} (h:ay P c nt x s (dX c Q)):ay P c nt x s Q:=by
 intro a w hr
 refine wpIn_mono (h a w hr) ?_
 rintro e a' w' ⟨ae,s',h1,h2,hq|⟨s2,ρ,hle,hq⟩⟩
 ·exact⟨ae,s',h1,h2,hq⟩
 ·exact⟨ae,s2,h1,hle.rel h2,hq⟩
theorem yU {fn:Func} {ls:List Nat} {vs:List AV} {os:aE} {nx:Nat} {s':aH} {e:ak} {t:ag (List AV)} {res:AV} (he:kU T fn e ⟨aF ls vs,os,nx⟩=some t) (hv:bk ls s'=some (vs,os)) (h0:∀k x,c.k0 k=some x->k<nx) (hok:ju nx vs=true) (ho:gG nx os)
  (h:t.all fun _ us=>er us res):dX c (Fin T fn res) e s':=by
 obtain⟨ρ,hle⟩:=m7 hv h0 hok ho
 exact .inr ⟨_,ρ,hle,Db he h⟩
theorem aG.j6 (hT:dK P T) {Γ:aV} (hΓ:bn P Γ) (hm:P.follows .mixedOrders=true) {fn:Func} {forks:List Nat} (n:Nat) {l:List Code} {ls:List Nat} {nx:Nat} {vs:List AV} {os:aE} (hv:bk ls s=some (vs,os)) (h0:∀k x,c.k0 k=some x->k<nx)
  (hok:ju nx vs=true) (ho:gG nx os) {t:ag (List AV)} (hc:cJ T Γ forks n fn l ⟨aF ls vs,os,nx⟩=some t) (hd:(l.all fun x=>ck nt x)=true) (hl:l.isEmpty=false) {res:AV} (h:t.all fun _ us=>er us res):aG P c nt l s (dX c (Fin T fn res)):=
 (aG.CZ hT hΓ hm n hv h0 hok ho hc hd hl h).mono fun _ _ h=>.inl h
end down
theorem iy {P:Program} {T:Types} (hT:dK P T) {f:FuncId} {fn:Func} {x:Code} (hf:aU P f fn x) {args:List AV} {r:cZ} (hk:bu args=[]) (hlen:args.length<=fn.ntmps) (hpost:r.post=[])
  (h:r.need->∀c:Ctx,(∀nx k x,c.k0 k=some x->k<nx)->ay P c fn.ntmps x ⟨aQ 0 args,[],0⟩ (dX c (Fin T fn r.res))) (K:Nat) (pre:aE):aD P f K args pre r:=
 jL hT hf hk hlen hpost (fun need c h0=>.down (h need c fun _=>jU h0)) K pre
mutual
def SS:AV->Prop
 |.rat q n=>Sz q n
 |.agg l=>uS l
 |_=>True
def uS:List AV->Prop
 |[]=>True
 |a::l=>SS a/\uS l
end
theorem aM.sz {M:Nat->Prop} {w:World} {β:aS} {l:List AV} {cs:List Value} (h:aM M w β l cs):uS l:=by
 induction h with
 |nil=>trivial
 |rat hs _ _ _ _ _ ih=>exact⟨hs,ih⟩
 |agg _ _ ih1 ih2=>exact⟨ih1,ih2⟩
 |aq _ _ _ _ _ _ _ ih=>exact⟨trivial,ih⟩
 |dI _ _ _ _ _ _ _ _ ih=>exact⟨trivial,ih⟩
 |bw _ _ _ _ ih=>exact⟨trivial,ih⟩
 |func _ _ _ _ ih=>exact⟨trivial,ih⟩
 |bH _ _ _ _ ih=>exact⟨trivial,ih⟩
 |_=>rename_i ih;exact⟨trivial,ih⟩
theorem cq.sz {M:Nat->Prop} {w:World} {β:aS}:∀{l:List AV} {xs:List Value},cq M w β l xs->uS l
 |[],[],_=>trivial
 |a::l,x::xs,h=>by
  obtain⟨⟨cs,h1,_⟩,h2⟩:=h
  exact⟨h1.sz.1,h2.sz⟩
 |[],_::_,h=>h.elim
 |_::_,[],h=>h.elim
theorem VO {P:Program} {f:FuncId} {K:Nat} {args:List AV} {pre:aE} {r:cZ} (hp:∀k o,look k r.post=some o->(∃o',look k pre=some o')\/(K<=k/\k<K+cE)) (h:uS args->aD P f K args pre r):aD P f K args pre r:=
 fun need=>⟨hp,fun c D D' β w vs h1 h2 h3 h4 h5 hv=>(h hv.sz need).2 c D D' β w vs h1 h2 h3 h4 h5 hv⟩
theorem jw {P:Program} {f:FuncId} {K:Nat} {args:List AV} {pre:aE} {v:AV} {l:List Prop} (h:uS args->aD P f K args pre ⟨v,[],l⟩):aD P f K args pre ⟨v,[],l⟩:=
 VO (fun k o hk=>by simp[look]at hk) h
theorem j9 {N n:Nat} (h:N<2^n) (hn:n<2^44):nl N<2^40:=by
 have h1:N<2^(32*(n/32+1)):=Nat.lt_of_lt_of_le h (Nat.pow_le_pow_right aa aa)
 have:=dm.2 h1
 omega
theorem aeE {q:Rat}:(if q.den=1 then 0 else q.den)<=q.den:=by split<;>omega
theorem Sz.jk {q:Rat} {n:Nat} (h:Sz q n) (hn:n<2^44):nl q.num.natAbs<2^40/\nl q.den<2^40/\nl (if q.den=1 then 0 else q.den)<2^40:=
 ⟨j9 h.1 hn,j9 h.2 hn,Nat.lt_of_le_of_lt (gJ aeE) (j9 h.2 hn)⟩
theorem Sz.pos {q:Rat} {n:Nat} (h:Sz q n):0<n:=by
 rcases Nat.eq_zero_or_pos n with h1|h1
 ·subst h1;have:=h.2;have:=q.den_nz;omega
 ·exact h1
theorem Sz.more {q:Rat} {n m:Nat} (h:Sz q n) (hm:n<=m):Sz q m:=
 ⟨Nat.lt_of_lt_of_le h.1 (Nat.pow_le_pow_right aa hm),Nat.lt_of_lt_of_le h.2 (Nat.pow_le_pow_right aa hm)⟩
theorem MV {a:Int} {d:Nat}:(mkRat a d).num.natAbs<=a.natAbs:=by
 rw[Rat.num_mkRat]
 split
 ·simp
 ·rw[Int.natAbs_ediv_of_dvd]
  ·exact Nat.div_le_self _ _
  ·exact Int.ofNat_dvd_left.2 (Nat.gcd_dvd_right _ _)
theorem Pf {a:Int} {d:Nat} (h:d≠0):(mkRat a d).den<=d:=by
 rw[Rat.den_mkRat,if_neg h]
 exact Nat.div_le_self _ _
theorem Sz.add {q r:Rat} {n m:Nat} (h:Sz q n) (h':Sz r m):Sz (q+r) (n+m+1):=by
 rw[Rat.add_def']
 have d0:q.den*r.den≠0:=Nat.mul_ne_zero q.den_nz r.den_nz
 have e:2^(n+m+1)=2^n*2^m+2^n*2^m:=by rw[Nat.pow_succ,Nat.pow_add];omega
 have b1:q.num.natAbs*r.den<=2^n*2^m:=Nat.mul_le_mul (Nat.le_of_lt h.1) (Nat.le_of_lt h'.2)
 have b2:r.num.natAbs*q.den<2^m*2^n:=Nat.mul_lt_mul'' h'.1 h.2
 have b3:q.den*r.den<=2^n*2^m:=Nat.mul_le_mul (Nat.le_of_lt h.2) (Nat.le_of_lt h'.2)
 have b4:0<2^n*2^m:=Nat.mul_pos (Nat.two_pow_pos _) (Nat.two_pow_pos _)
 rw[Nat.mul_comm (2^m)]at b2
 refine⟨Nat.lt_of_le_of_lt MV ?_,Nat.lt_of_le_of_lt (Pf d0) aa⟩
 have b5:=Int.natAbs_add_le (q.num*r.den) (r.num*q.den)
 rw[Int.natAbs_mul,Int.natAbs_mul,Int.natAbs_natCast,Int.natAbs_natCast]at b5
 omega
theorem Sz.neg {q:Rat} {n:Nat} (h:Sz q n):Sz (-q) n:=by
 refine⟨?_,?_⟩
 ·rw[Rat.neg_num,Int.natAbs_neg];exact h.1
 ·rw[Rat.neg_den];exact h.2
theorem Sz.sub {q r:Rat} {n m:Nat} (h:Sz q n) (h':Sz r m):Sz (q-r) (n+m+1):=by
 rw[Rat.sub_eq_add_neg];exact h.add h'.neg
theorem Sz.mul {q r:Rat} {n m:Nat} (h:Sz q n) (h':Sz r m):Sz (q*r) (n+m):=by
 rw[Rat.mul_def']
 have d0:q.den*r.den≠0:=Nat.mul_ne_zero q.den_nz r.den_nz
 refine⟨Nat.lt_of_le_of_lt MV ?_,Nat.lt_of_le_of_lt (Pf d0) ?_⟩
 ·rw[Int.natAbs_mul,Nat.pow_add];exact Nat.mul_lt_mul'' h.1 h'.1
 ·rw[Nat.pow_add];exact Nat.mul_lt_mul'' h.2 h'.2
theorem Sz.inv {q:Rat} {n:Nat} (h:Sz q n):Sz q⁻¹ n:=by
 by_cases h0:q=0
 ·subst h0
  rw[Rat.inv_zero]
  exact h
 ·have hn:q.num≠0:=fun h=>h0 (Rat.num_eq_zero.1 h)
  refine⟨?_,?_⟩
  ·rw[Rat.num_inv,Int.natAbs_mul,Int.natAbs_natCast,Int.natAbs_sign_of_ne_zero hn,Nat.one_mul];exact h.2
  ·rw[Rat.den_inv,if_neg hn];exact h.1
theorem Sz.div {q r:Rat} {n m:Nat} (h:Sz q n) (h':Sz r m):Sz (q/r) (n+m):=by
 rw[Rat.div_def];exact h.mul h'.inv
def eP (q:Rat):Int:=if q<0 then-1 else if 0<q then 1 else 0
def ek (q r:Rat):Int:=if q<r then-1 else if r<q then 1 else 0
end Go.Am
namespace Go.Am
open AV
def AE (T:Types) (fn:Func) (e:ak) (s:aH):Option (ag (List AV×Option ax)):=
 match kU T fn e s with
 |some t=>t.bind fun e us=>some (.leaf e (us,look 0 s.store))
 |none=>none
def uj (T:Types) (Γ:aV) (forks:List Nat) (n:Nat) (fn:Func) (x:Code) (s:aH):Option (ag (List AV×Option ax)):=
 match dU T Γ forks n x s with
 |some t=>t.bind (AE T fn)
 |none=>none
theorem Dm {P:Program} {T:Types} (hT:dK P T) {Γ:aV} (hΓ:bn P Γ) (hm:P.follows .mixedOrders=true) {f:FuncId} {fn:Func} {x:Code} (hf:aU P f fn x) {k idx es off:Nat} {p:List Nat} {rest:List AV} {o2 o o':ax} {res:AV} {l:List Prop}
  (hkr:bu rest=[]) (hrt:(rest.all fun v=>!v.isTuple)=true) (hlen:rest.length+1<=fn.ntmps) (ho:∀ρ,cM ρ o2 o) {forks:List Nat} (n:Nat) {t:ag (List AV×Option ax)}
  (hc:uj T Γ forks n fn x ⟨aQ 0 (.ptr 0 idx es off p::rest),[(0,o)],1⟩=some t)
  (h:aA l->t.all fun _ v=>er v.1 res/\∃o1,v.2=some o1/\o1.row=false/\cM (aY [(k,0)]) o1 o') (K:Nat):
  aD P f K (.ptr k idx es off p::rest) [(k,o2)] ⟨res,[(k,o')],l⟩:=by
 have hrest:∀{rest:List AV},bu rest=[]->(rest.all fun v=>!v.isTuple)=true->eU (aY [(0,k)]) rest rest:=by
  intro rest
  induction rest with
  |nil=>intro _ _;trivial
  |cons v r ih=>
   intro h1 h2
   simp only[bu,List.append_eq_nil_iff]at h1
   simp only[List.all_cons,Bool.and_eq_true,Bool.not_eq_true']at h2
   exact⟨⟨h2.1,aK h1.1⟩,ih h1.2 h2.2⟩
 refine mZ hT hf (args0:=.ptr 0 idx es off p::rest) (pre0:=[(0,o)]) (nx:=1) [(0,k)] (by simpa using hlen) (by simp[iO]) ⟨⟨rfl,mI rfl⟩,hrest hkr hrt⟩ ⟨⟨k,o2,rfl,by simp[look],ho _⟩,trivial⟩
  (fun a x h=>?_) (fun x o h=>.inl ?_) (fun need c h0=>?_)
 ·simp only[aY,look]at h
  split at h
  ·simp only[au]at h;subst h;exact⟨_,by simp[look];rfl⟩
  ·simp at h
 ·simp only[look]at h
  split at h
  ·rename_i he
   exact⟨_,by simp only[look,he,if_true];rfl⟩
  ·simp at h
 have h:=h need
 unfold uj at hc
 cases hx:dU T Γ forks n x ⟨aQ 0 (.ptr 0 idx es off p::rest),[(0,o)],1⟩with
 |none=>rw[hx]at hc;simp at hc
 |some u=>
  rw[hx]at hc
  refine kB hT hΓ hm n hf.dst hx (ag.fz ?_ (ag.jH hc h))
  rintro e s' ⟨v,h1,h2⟩
  unfold AE at h1
  split at h1
  ·rename_i v' hv'
   have h3:=ag.jH h1 h2
   have h4:v'.all fun _ us=>er us res/\∃o1,look 0 s'.store=some o1/\o1.row=false/\cM (aY [(k,0)]) o1 o':=by
    refine ag.fz ?_ h3
    rintro e us ⟨w,g1,g2⟩
    simp only[au]at g1
    subst g1
    exact g2
   have h5:Fin T fn res e s':=Db hv' (ag.fz (fun _ _ h=>h.1) h4)
   have h6:∃o1,look 0 s'.store=some o1/\o1.row=false/\cM (aY [(k,0)]) o1 o':=by
    have:∀{t:ag (List AV)},(t.all fun _ us=>er us res/\∃o1,look 0 s'.store=some o1/\o1.row=false/\cM (aY [(k,0)]) o1 o')->∃o1,look 0 s'.store=some o1/\o1.row=false/\cM (aY [(k,0)]) o1 o':=by
     intro t
     induction t with
     |leaf e us=>exact fun h=>h.2
     |aj ps t ih=>exact fun h=>ih h.2
     |fork b t1 t2 ih1 ih2=>
      intro h
      cases b with
      |true=>exact ih1 (h.1 rfl)
      |false=>exact ih2 (h.2 rfl)
    exact this h4
   refine⟨h5.1,aY [(k,0)],vc,.inl ⟨h5.2,fun x ox hx=>?_⟩⟩
   obtain⟨o1,g1,g2,g3⟩:=h6
   have he:cA (eI [(k,o')]) [(k,o2)]=[(k,o')]:=by simp[cA,eI,put]
   rw[he]at hx
   simp only[look]at hx
   split at hx
   ·rename_i hk
    have:k=x:=by simpa using hk
    subst this
    simp only[au]at hx
    subst hx
    exact⟨0,o1,by simp[aY,look],g1,g2,g3⟩
   ·simp at hx
  ·simp at h1
theorem agy {P:Program} {T:Types} (hT:dK P T) {Γ:aV} (hΓ:bn P Γ) (hm:P.follows .mixedOrders=true) {f:FuncId} {fn:Func} {x:Code} (hf:aU P f fn x) {args:List AV} {o o':ax} {a idx es off ls:Nat} {p:List Nat} {l:List Prop}
  (hka:bu args=[]) (hrt:(args.all fun v=>!v.isTuple)=true) (hlen:args.length<=fn.ntmps) (hres:fn.results.toList=[.tmp ls]) {forks:List Nat} (n:Nat) {e:ak} {q:List Prop}
  (hc:aJ T Γ forks n [ls] [x] ⟨aQ 0 args,[],0⟩=some (.leaf e ([.ptr a idx es off p],[(a,o)])))
  (he:e=.normal\/e=.ret) (h:∀ρ,cM ρ o o') (K:Nat):aD P f K args [] ⟨.ptr K idx es off p,[(K,o')],l⟩:=by
 have hrest:∀{rest:List AV},bu rest=[]->(rest.all fun v=>!v.isTuple)=true->eU (aY []) rest rest:=by
  intro rest
  induction rest with
  |nil=>intro _ _;trivial
  |cons v r ih=>
   intro h1 h2
   simp only[bu,List.append_eq_nil_iff]at h1
   simp only[List.all_cons,Bool.and_eq_true,Bool.not_eq_true']at h2
   exact⟨⟨h2.1,aK h1.1⟩,ih h1.2 h2.2⟩
 refine mZ hT hf (args0:=args) (pre0:=[]) (nx:=0) [] hlen rfl (hrest hka hrt) trivial (fun a k h=>by simp[aY,look]at h) (fun k o h=>?_) (fun _ c h0=>?_)
 ·simp only[look]at h
  split at h
  ·rename_i he
   have:K=k:=by simpa using he
   subst this
   exact .inr ⟨bp,by unfold cE;omega⟩
  ·simp at h
 refine ay.bz hT hΓ hm n [ls] hc hf.dst fun s' hv=>⟨he,aY [(K,a)],EH ⟨bp,by unfold cE;omega⟩,.inr ?_⟩
 refine sR (us:=[.ptr a idx es off p]) (ws:=[.ptr K idx es off p]) (ps:=[(K,o')]) hv ?_ ⟨⟨rfl,mI (by simp[aY,look])⟩,trivial⟩ rfl rfl ⟨⟨a,_,by simp[aY,look],by simp[look],h _⟩,trivial⟩
 rw[hres]
 simp only[lS,aF,look,beq_self_eq_true,if_true]
 rfl
mutual
def ew (b:Bool):AV->AV->Option AV
 |.rat q n,.rat r m=>some (.rat (cond b q r) (max n m))
 |.int k x,.int j y=>match isKind k j with
  |true=>some (.int k (cond b x y))
  |false=>none
 |.bool x,.bool y=>some (.bool (cond b x y))
 |.aq e n f,.aq e' m g=>match e==e' with
  |true=>some (.aq e (cond b n m) fun i=>cond b (f i) (g i))
  |false=>none
 |.nil,.nil=>some .nil
 |.nil,.aq e n f=>match Nat.blt 0 e with
  |true=>some (.aq e (cond b 0 n) f)
  |false=>none
 |.aq e n f,.nil=>match Nat.blt 0 e with
  |true=>some (.aq e (cond b n 0) f)
  |false=>none
 |.agg l,.agg m=>match oB b l m with
  |some x=>some (.agg x)
  |none=>none
 |_,_=>none
def oB (b:Bool):List AV->List AV->Option (List AV)
 |[],[]=>some []
 |u::l,v::m=>match ew b u v,oB b l m with
  |some x,some y=>some (x::y)
  |_,_=>none
 |_,_=>none
end
mutual
theorem Yw:∀{u v x:AV},ew true u v=some x->bD u x
 |.rat q n,v,x,h=>by
  cases v<;>simp only[ew,au,reduceCtorEq]at h
  subst h;exact fJ (Nat.le_max_left ..)
 |.int k a,v,x,h=>by
  cases v<;>simp only[ew,reduceCtorEq]at h
  split at h
  ·simp only[au]at h;subst h;exact .refl _
  ·simp at h
 |.bool a,v,x,h=>by
  cases v<;>simp only[ew,au,reduceCtorEq]at h
  subst h;exact .refl _
 |.aq e n f,v,x,h=>by
  cases v<;>simp only[ew,reduceCtorEq]at h
  ·split at h
   ·simp only[au]at h;subst h;exact .refl _
   ·simp at h
  ·split at h
   ·simp only[au]at h;subst h;exact .refl _
   ·simp at h
 |.nil,v,x,h=>by
  cases v<;>simp only[ew,au,reduceCtorEq]at h
  ·split at h
   ·rename_i he
    simp only[au]at h;subst h
    exact jI (by rw[Nat.blt_eq]at he;exact he)
   ·simp at h
  ·subst h;exact .refl _
 |.agg l,v,x,h=>by
  cases v<;>simp only[ew,reduceCtorEq]at h
  split at h
  ·rename_i hl
   simp only[au]at h;subst h;exact cu (Iu hl)
  ·simp at h
 |.mag _,v,x,h=>by simp[ew]at h
 |.dI _ _ _ _,v,x,h=>by simp[ew]at h
 |.void,v,x,h=>by simp[ew]at h
 |.str _,v,x,h=>by simp[ew]at h
 |.bw _,v,x,h=>by simp[ew]at h
 |.ptr _ _ _ _ _,v,x,h=>by simp[ew]at h
 |.own _ _ _ _,v,x,h=>by simp[ew]at h
 |.func _ _,v,x,h=>by simp[ew]at h
 |.tuple _,v,x,h=>by simp[ew]at h
 |.bH _ _,v,x,h=>by simp[ew]at h
theorem Iu:∀{u v x:List AV},oB true u v=some x->eL u x
 |[],v,x,h=>by
  cases v<;>simp only[oB,au,reduceCtorEq]at h
  subst h;trivial
 |a::l,v,x,h=>by
  cases v<;>simp only[oB,reduceCtorEq]at h
  split at h
  ·rename_i h1 h2
   simp only[au]at h;subst h;exact⟨Yw h1,Iu h2⟩
  ·simp at h
end
mutual
theorem air:∀{u v x:AV},ew false u v=some x->bD v x
 |.rat q n,v,x,h=>by
  cases v<;>simp only[ew,au,reduceCtorEq]at h
  subst h;exact fJ (Nat.le_max_right ..)
 |.int k a,v,x,h=>by
  cases v<;>simp only[ew,reduceCtorEq]at h
  split at h
  ·rename_i hk
   have:=zR hk
   subst this
   simp only[au]at h;subst h;exact .refl _
  ·simp at h
 |.bool a,v,x,h=>by
  cases v<;>simp only[ew,au,reduceCtorEq]at h
  subst h;exact .refl _
 |.aq e n f,v,x,h=>by
  cases v<;>simp only[ew,reduceCtorEq]at h
  ·split at h
   ·rename_i hk
    have:=eq_of_beq hk
    subst this
    simp only[au]at h;subst h;exact .refl _
   ·simp at h
  ·split at h
   ·rename_i he
    simp only[au]at h;subst h
    exact jI (by rw[Nat.blt_eq]at he;exact he)
   ·simp at h
 |.nil,v,x,h=>by
  cases v<;>simp only[ew,au,reduceCtorEq]at h
  ·split at h
   ·simp only[au]at h;subst h;exact .refl _
   ·simp at h
  ·subst h;exact .refl _
 |.agg l,v,x,h=>by
  cases v<;>simp only[ew,reduceCtorEq]at h
  split at h
  ·rename_i hl
   simp only[au]at h;subst h;exact cu (Fv hl)
  ·simp at h
 |.mag _,v,x,h=>by simp[ew]at h
 |.dI _ _ _ _,v,x,h=>by simp[ew]at h
 |.void,v,x,h=>by simp[ew]at h
 |.str _,v,x,h=>by simp[ew]at h
 |.bw _,v,x,h=>by simp[ew]at h
 |.ptr _ _ _ _ _,v,x,h=>by simp[ew]at h
 |.own _ _ _ _,v,x,h=>by simp[ew]at h
 |.func _ _,v,x,h=>by simp[ew]at h
 |.tuple _,v,x,h=>by simp[ew]at h
 |.bH _ _,v,x,h=>by simp[ew]at h
theorem Fv:∀{u v x:List AV},oB false u v=some x->eL v x
 |[],v,x,h=>by
  cases v<;>simp only[oB,au,reduceCtorEq]at h
  subst h;trivial
 |a::l,v,x,h=>by
  cases v<;>simp only[oB,reduceCtorEq]at h
  split at h
  ·rename_i h1 h2
   simp only[au]at h;subst h;exact⟨air h1,Fv h2⟩
  ·simp at h
end
theorem eL.trans:∀{a b c:List AV},eL a b->eL b c->eL a c
 |[],[],[],_,_=>trivial
 |_::_,_::_,_::_,h,h'=>⟨h.1.trans h'.1,h.2.trans h'.2⟩
 |[],[],_::_,_,h=>h.elim
 |[],_::_,_,h,_=>h.elim
 |_::_,[],_,h,_=>h.elim
 |_::_,_::_,[],_,h=>h.elim
def pS:ag (List AV)->Option (List AV×List Prop)
 |.leaf _ us=>some (us,[])
 |.aj ps t=>match pS t with
  |some (us,qs)=>some (us,ps++qs)
  |none=>none
 |.fork b t u=>match pS t,pS u with
  |some (x,p),some (y,q)=>match oB b x y with
   |some z=>match p,q with
    |[],[]=>some (z,[])
    |p,q=>some (z,[b=true->aA p,b=false->aA q])
   |none=>none
  |_,_=>none
theorem yD:∀{t:ag (List AV)} {us:List AV} {ps:List Prop},pS t=some (us,ps)->aA ps->t.all fun _ vs=>eL vs us
 |.leaf e vs,us,ps,h,_=>by
  simp only[pS,au,Prod.mk.injEq]at h
  obtain⟨rfl,rfl⟩:=h
  exact .refl _
 |.aj l t,us,ps,h,hp=>by
  simp only[pS]at h
  split at h
  ·rename_i h1
   simp only[au,Prod.mk.injEq]at h
   obtain⟨rfl,rfl⟩:=h
   obtain⟨p1,p2⟩:=dn.1 hp
   exact⟨p1,yD h1 p2⟩
  ·simp at h
 |.fork b t u,us,ps,h,hp=>by
  simp only[pS]at h
  split at h
  ·rename_i x p y q h1 h2
   split at h
   ·rename_i z hz
    have key:us=z/\(b=true->aA p)/\(b=false->aA q):=by
     split at h
     ·simp only[au,Prod.mk.injEq]at h
      exact⟨h.1.symm,fun _=>trivial,fun _=>trivial⟩
     ·simp only[au,Prod.mk.injEq]at h
      obtain⟨rfl,rfl⟩:=h
      exact⟨rfl,hp⟩
    obtain⟨rfl,p1,p2⟩:=key
    refine⟨fun hb=>?_,fun hb=>?_⟩
    ·subst hb
     exact ag.fz (fun _ vs hv=>hv.trans (Iu hz)) (yD h1 (p1 rfl))
    ·subst hb
     exact ag.fz (fun _ vs hv=>hv.trans (Fv hz)) (yD h2 (p2 rfl))
   ·simp at h
  ·simp at h
def gT (T:Types) (Γ:aV) (forks:List Nat) (fuel:Nat) (fn:Func):Spec:=bM fun args=>
 match Nat.ble args.length fn.ntmps with
 |true=>match bP T Γ forks fuel fn (az fn) ⟨aQ 0 args,[],0⟩with
  |some t=>match pS t with
   |some (us,ps)=>match us with
    |[u]=>some ⟨u,[],ps⟩
    |us=>some ⟨.tuple us,[],ps⟩
   |none=>none
  |none=>none
 |false=>none
theorem Sc {us:List AV} {v:AV} (h:eL us [v]):er us v:=by
 match us,h with
 |[u],h=>exact h.1
theorem abc {us vs:List AV} (hv:∀u,vs≠[u]) (h:eL us vs):er us (.tuple vs):=by
 match us,vs,h with
 |[],[],h=>exact h
 |[u],[v],h=>exact absurd rfl (hv v)
 |a::b::l,_::_::_,h=>exact h
 |[u],_::_::_,h=>exact absurd h.2 (by simp[eL])
 |a::b::l,[v],h=>exact absurd h.2 (by simp[eL])
 |[],_::_,h=>exact h.elim
 |_::_,[],h=>exact h.elim
theorem ig {P:Program} {T:Types} (hT:dK P T) {Γ:aV} (hΓ:bn P Γ) (hm:P.follows .mixedOrders=true) {f:FuncId} {fn:Func} (hf:aU P f fn (az fn)) (forks:List Nat) (fuel:Nat):
  ∀K args pre r,gT T Γ forks fuel fn K args pre=some r->aD P f K args pre r:=by
 refine ct fun K args r hk hs hp=>?_
 split at hs
 ·rename_i hlen
  have hlen:=Nat.le_of_ble_eq_true hlen
  split at hs
  ·rename_i t ht
   split at hs
   ·rename_i us ps hc
    split at hs
    ·simp only[au]at hs
     subst hs
     exact bW (r:=⟨_,[],ps⟩) hT hΓ hm hf hk hlen rfl fuel ht (fun hn=>ag.fz (fun _ vs hv=>Sc hv) (yD hc hn)) K []
    ·rename_i hne
     simp only[au]at hs
     subst hs
     exact bW (r:=⟨_,[],ps⟩) hT hΓ hm hf hk hlen rfl fuel ht (fun hn=>ag.fz (fun _ vs hv=>abc hne hv) (yD hc hn)) K []
   ·simp at hs
  ·simp at hs
 ·simp at hs
theorem ke {P:Program} {Γ:aV} (h:bn P Γ):bn P (sG::Γ):=aI (fun K args pre r hs=>by simp at hs) h
theorem dB {P:Program} {Γ:aV} (h:bn P Γ):bn P (nG::Γ):=aI (fun K args pre r hs=>by simp at hs) h
end Go.Am
namespace Go.Am
open AV
def nq (rl:List (Nat×Nat)):AV->AV
 |.ptr k i e o p=>match look k rl with
  |some j=>.ptr j i e o p
  |none=>.void
 |.own k e s n=>match look k rl with
  |some j=>.own j e s n
  |none=>match s,n,e with
   |0,0,_+1=>.nil
   |_,_,_=>.void
 |.bH c (.own k e s n)=>match look k rl with
  |some j=>.bH c (.own j e s n)
  |none=>.void
 |v=>v
def lZ (rl:List (Nat×Nat)):AV->Bool
 |.ptr k _ _ _ _=>(look k rl).isSome
 |.own k e s n=>(look k rl).isSome||match s,n,e with
  |0,0,_+1=>true
  |_,_,_=>false
 |.tuple _=>false
 |.bH _ (.own k _ _ _)=>(look k rl).isSome
 |v=>(keys v).isEmpty
theorem ahc {ρ:Nat->Option Nat} {c c2:Nat} {u v:AV} (hc:c=c2) (hv:v.isAgg=false) (h:gD ρ u v):gD ρ (.bH c u) (.bH c2 v):=by
 subst hc
 refine⟨rfl,fun M w β cs hcs=>?_⟩
 cases hcs with
 |bH _ h1 h2=>cases h2;exact .bH hv (h.2 _ _ _ _ h1) .nil
theorem N3 {rl:List (Nat×Nat)} {u v:AV} (hu:u=nq rl v) (hv:lZ rl v=true):u.isTuple=false/\gD (aY rl) u v:=by
 subst hu
 cases v with
 |ptr k i e o p=>
  simp only[lZ,Option.isSome_iff_exists]at hv
  obtain⟨j,hj⟩:=hv
  simp only[nq,hj]
  exact⟨rfl,mI hj⟩
 |own k e s n=>
  simp only[lZ]at hv
  cases hj:look k rl with
  |some j=>
   simp only[nq,hj]
   exact⟨rfl,cP hj rfl rfl⟩
  |none=>
   rw[hj]at hv
   simp only[Option.isSome_none,Bool.false_or]at hv
   split at hv
   ·simp only[nq,hj]
    exact⟨rfl,r9 aa⟩
   ·simp at hv
 |tuple l=>simp[lZ]at hv
 |bH c v=>
  cases v with
  |own k e s n=>
   simp only[lZ,Option.isSome_iff_exists]at hv
   obtain⟨j,hj⟩:=hv
   simp only[nq,hj]
   exact⟨rfl,ahc rfl rfl (cP hj rfl rfl)⟩
  |_=>
   simp only[lZ,List.isEmpty_iff]at hv
   exact⟨rfl,aK hv⟩
 |_=>
  simp only[lZ,List.isEmpty_iff]at hv
  exact⟨rfl,aK hv⟩
theorem JK {rl:List (Nat×Nat)}:∀{vs us:List AV},us=vs.map (nq rl)->vs.all (lZ rl)=true->eU (aY rl) us vs
 |[],_,h,_=>by subst h;trivial
 |v::vs,_,h,hv=>by
  subst h
  simp only[List.all_cons,Bool.and_eq_true]at hv
  exact⟨N3 rfl hv.1,JK rfl hv.2⟩
def sC:AV->Bool
 |.tuple _=>false
 |v=>(keys v).isEmpty
theorem WY {rl:List (Nat×Nat)} {v:AV} (h:sC v=true):nq rl v=v:=by
 cases v with
 |bH c v=>cases v<;>first|rfl|simp[sC,keys]at h
 |_=>first|rfl|simp[sC,keys]at h
theorem aiP {rl:List (Nat×Nat)} {v:AV} (h:sC v=true):lZ rl v=true:=by
 cases v with
 |bH c v=>cases v<;>first|exact h|simp[sC,keys]at h
 |_=>first|exact h|simp[sC,keys]at h
def gA (rl:List (Nat×Nat)) (u v:AV):Prop:=((lZ rl v=true/\u=nq rl v)\/∃us vs,u=.agg us/\v=.agg vs/\eU (aY rl) us vs)\/(keys u=[]/\bD u v)
theorem P6 {ρ:Nat->Option Nat} {M:Nat->Prop} {w:World} {β:aS}:∀{us vs:List AV} {cs:List Value},eU ρ us vs->aM M w β us cs->aM M w (fun k=>(ρ k).bind β) vs cs
 |[],[],_,_,h=>by cases h;exact .nil
 |u::us,v::vs,cs,hl,h=>by
  obtain⟨c1,c2,rfl,h1,h2⟩:=h.split
  exact(hl.1.2.2 M w β c1 h1).cons (P6 hl.2 h2)
 |[],_::_,_,h,_=>h.elim
 |_::_,[],_,h,_=>h.elim
theorem Oa {ρ:Nat->Option Nat} {us vs:List AV} (h:eU ρ us vs):gD ρ (.agg us) (.agg vs):=by
 refine⟨rfl,fun M w β cs hc=>?_⟩
 cases hc with
 |agg h1 h2=>cases h2;exact .agg (P6 h h1) .nil
theorem l9 {rl:List (Nat×Nat)} {us vs:List AV} (h:eU (aY rl) us vs):gA rl (.agg us) (.agg vs):=.inl (.inr ⟨_,_,rfl,rfl,h⟩)
theorem gA.le {rl:List (Nat×Nat)} {u v:AV} (h:gA rl u v):gD (aY rl) u v:=by
 rcases h with(h|⟨us,vs,rfl,rfl,h⟩)|h
 ·exact(N3 h.2 h.1).2
 ·exact Oa h
 ·exact nB h.1 h.2
def kg (nx:Nat) (rl:List (Nat×Nat)) (os:aE):aE->Prop
 |[]=>True
 |(k2,o2)::ps=>((look k2 rl=none/\s9 o2/\k2<nx)\/∃k1 o1,look k2 rl=some k1/\look k1 os=some o1/\o1.row=o2.row/\o1.wr=o2.wr/\o1.es=o2.es/\o1.len=o2.len/\∀i,i<o2.len->gA rl (o1.f i) (o2.f i))/\kg nx rl os ps
theorem IG {nx:Nat} {rl:List (Nat×Nat)} {os:aE}:∀{ps:aE},kg nx rl os ps->x9 nx (aY rl) os ps
 |[],_=>trivial
 |(k2,o2)::ps,h=>by
  obtain⟨h|⟨k1,o1,h1,h2,h3,h4,h5,h6,h7⟩,h8⟩:=h
  ·exact⟨.inr h,IG h8⟩
  ·exact⟨.inl ⟨k1,o1,h1,h2,⟨h3.symm▸rfl,h4.symm▸rfl,h5.symm▸rfl,h6.symm▸rfl,fun i hi=>(h7 i (h6▸hi)).le⟩⟩,IG h8⟩
theorem cB {rl:List (Nat×Nat)} {u v:AV} (hk:keys u=[]) (h:u=v):gA rl u v:=.inr ⟨hk,h▸.refl _⟩
theorem bO {nx:Nat} {rl:List (Nat×Nat)} {os ps:aE} {k2 k1:Nat} {r w:Bool} {es n m:Nat} {f g:Nat->AV} (hk:look k2 rl=some k1) (ho:look k1 os=some ⟨r,w,es,n,f⟩) (hn:n=m) (h:∀i,i<m->gA rl (f i) (g i))
  (hs:kg nx rl os ps):kg nx rl os ((k2,⟨r,w,es,m,g⟩)::ps):=⟨.inr ⟨k1,_,hk,ho,rfl,rfl,rfl,hn,h⟩,hs⟩
theorem dF {nx:Nat} {rl:List (Nat×Nat)} {os ps:aE} {k2 k1:Nat} {r w:Bool} {es:Nat} {f g:Nat->AV} (hk:look k2 rl=some k1) (ho:look k1 os=some ⟨r,w,es,1,f⟩) (h:gA rl (f 0) (g 0))
  (hs:kg nx rl os ps):kg nx rl os ((k2,⟨r,w,es,1,g⟩)::ps):=bO hk ho rfl (fun i hi=>by rw[Nat.lt_one_iff.1 hi];exact h) hs
theorem qL {nx:Nat} {rl:List (Nat×Nat)} {os ps:aE} {k2 es:Nat} {w:Bool} {f:Nat->AV} (hk:look k2 rl=none) (hes:0<es) (hn:k2<nx) (hs:kg nx rl os ps):kg nx rl os ((k2,⟨true,w,es,0,f⟩)::ps):=⟨.inl ⟨hk,⟨rfl,rfl,hes⟩,hn⟩,hs⟩
theorem Bf {α:Type} {k:Nat} {a:α} {l:List (Nat×α)}:look k ((k,a)::l)=some a:=by simp[look]
theorem Ml {α:Type} {j k:Nat} {b:α} {l:List (Nat×α)} (h:(j==k)=false):look k ((j,b)::l)=look k l:=by simp[look,h]
theorem Ny {α:Type} {k:Nat} {b:List (Nat×α)}:∀{a:List (Nat×α)},look k (a++b)=match look k a with
  |some x=>some x
  |none=>look k b
 |[]=>rfl
 |(j,x)::a=>by
  simp only[List.cons_append,look]
  split
  ·rfl
  ·exact Ny
theorem oF {P:Program} {a b:aV} (ha:bn P a) (hb:bn P b):bn P (a++b):=by
 intro f s hl
 have hl:look f (a++b)=some s:=hl
 rw[Ny]at hl
 split at hl
 ·rename_i h
  simp only[au]at hl
  subst hl
  exact ha f _ h
 ·exact hb f s hl
def Kept (kp:List Nat) (c:Ctx):Prop:=∀k x,c.k0 k=some x->k∈kp
theorem sL {c:Ctx} (h0:∀nx k x,c.k0 k=some x->k<nx):Kept [] c:=fun k x hk=>absurd (h0 0 k x hk) aa
def eu (kp:List Nat) (v:List AV×aE) (vs:List AV) (os:aE) (nx:Nat):Prop:=
 ∃rl,(iO nx rl&&kp.all fun k=>look k rl==some k)=true/\v.1=vs.map (nq rl)/\vs.all (lZ rl)=true/\kg nx rl v.2 os
theorem eu.le {kp:List Nat} {c:Ctx} {s':aH} {ls:List Nat} {v:List AV×aE} {vs:List AV} {os:aE} {nx:Nat} (h:eu kp v vs os nx) (hv:bk ls s'=some v) (h0:Kept kp c):∃ρ,Le c ρ s' ⟨aF ls vs,os,nx⟩:=by
 obtain⟨rl,h1,h2,h3,h4⟩:=h
 simp only[Bool.and_eq_true]at h1
 exact OJ rl hv (fun k x hk=>by simpa using List.all_eq_true.1 h1.2 k (h0 k x hk)) h1.1 (JK h2 h3) (IG h4)
theorem eu.vals {vs:List AV} {nx:Nat} (h:vs.all sC=true):eu [] (vs,[]) vs [] nx:=by
 simp only[List.all_eq_true]at h
 refine⟨[],rfl,?_,List.all_eq_true.2 fun v hv=>aiP (h v hv),trivial⟩
 have:vs.map (nq [])=vs.map id:=List.map_congr_left fun v hv=>WY (h v hv)
 rw[this,List.map_id]
theorem nW {nt:Nat}:∀{x:Code} {p:List Nat},ck nt x=true->(before x p).all (fun x=>ck nt x)=true
 |.seq x y,0::p,h=>by
  simp only[ck,Bool.and_eq_true]at h
  exact nW (x:=x) h.1
 |.seq x y,(n+1)::p,h=>by
  simp only[ck,Bool.and_eq_true]at h
  simp only[before,List.all_cons,Bool.and_eq_true]
  exact⟨h.1,nW (x:=y) h.2⟩
 |.seq _ _,[],_|.cond _ _ _,_,_|.block _ _,_,_|.loop _,_,_|.region _ _ _,_,_|.skip,_,_|.label _,_,_|.exit _,_,_|.ret,_,_|.scope _,_,_|.goto _,_,_|.refuse _,_,_|.rangeFunc _ _ _ _,_,_=>by simp[before]
theorem yt {nt:Nat}:∀{x:Code} {p:List Nat},ck nt x=true->(behind x p).all (fun x=>ck nt x)=true
 |.seq x y,0::p,h=>by
  simp only[ck,Bool.and_eq_true]at h
  simp only[behind,List.all_append,List.all_cons,List.all_nil,Bool.and_true,Bool.and_eq_true]
  exact⟨yt (x:=x) h.1,h.2⟩
 |.seq x y,(n+1)::p,h=>by
  simp only[ck,Bool.and_eq_true]at h
  exact yt (x:=y) (p:=p) h.2
 |.seq _ _,[],_|.cond _ _ _,_,_|.block _ _,_,_|.loop _,_,_|.region _ _ _,_,_|.skip,_,_|.label _,_,_|.exit _,_,_|.ret,_,_|.scope _,_,_|.goto _,_,_|.refuse _,_,_|.rangeFunc _ _ _ _,_,_=>by simp[behind]
theorem wD {nt:Nat}:∀{x:Code} {p:List Nat},chain x p=true->ck nt x=true->ck nt (part x p)=true
 |x,[],_,h=>by cases x<;>exact h
 |.seq x y,0::p,hc,h=>by
  simp only[ck,Bool.and_eq_true]at h
  exact wD (x:=x) hc h.1
 |.seq x y,(n+1)::p,hc,h=>by
  simp only[ck,Bool.and_eq_true]at h
  exact wD (x:=y) hc h.2
 |.cond _ _ _,_::_,hc,_|.block _ _,_::_,hc,_|.loop _,_::_,hc,_|.region _ _ _,_::_,hc,_|.skip,_::_,hc,_|.label _,_::_,hc,_|.exit _,_::_,hc,_|.ret,_::_,hc,_|.scope _,_::_,hc,_|.goto _,_::_,hc,_|.refuse _,_::_,hc,_|.rangeFunc _ _ _ _,_::_,hc,_=>by simp[chain]at hc
section rules
variable {P:Program} {c:Ctx} {nt:Nat} {s:aH} {Q:ak->aH->Prop} {T:Types} (hT:dK P T) {Γ:aV} (hΓ:bn P Γ) (hm:P.follows .mixedOrders=true)
def Round (kp:List Nat) {α:Type} (V:α->List AV) (O:α->aE) (nx:Nat) (I D:α->Prop) (μ:α->Nat) (i:Nat) (R:List AV×aE->Prop) (a:α):ak->List AV×aE->Prop
 |.normal,v=>∃b,I b/\μ b<μ a/\eu kp v (V b) (O b) nx
 |.exit k,v=>k=i/\∃b,D b/\eu kp v (V b) (O b) nx
 |.ret,v=>R v
include hT hΓ hm in
theorem ay.aeG {x y:Code} {i:Nat} (hx:x=.block i (.loop y)) {kp:List Nat} (h0:Kept kp c) {forks:List Nat} (n:Nat) (L:List Nat) (nx:Nat) {α:Type} (V:α->List AV) (O:α->aE) (I D:α->Prop) (μ:α->Nat) (R:List AV×aE->Prop)
  (a0:α) (hI:I a0) (hs:∃ρ,Le c ρ s ⟨aF L (V a0),O a0,nx⟩) (hd:ck nt y=true)
  (hb:∀a,I a->∃t,aJ T Γ forks n L [y] ⟨aF L (V a),O a,nx⟩=some t/\t.all (Round kp V O nx I D μ i R a))
  (hD:∀b s',D b->(∃ρ,Le c ρ s' ⟨aF L (V b),O b,nx⟩)->Q .normal s') (hR:∀v s',R v->bk L s'=some v->Q .ret s'):ay P c nt x s Q:=by
 refine ay.iz hx (fun a=>⟨aF L (V a),O a,nx⟩) I μ a0 hs hI fun a ha=>?_
 obtain⟨t,h1,h2⟩:=hb a ha
 refine ay.bz hT hΓ hm n L h1 hd (ag.fz ?_ h2)
 rintro e v hv s' hs'
 cases e with
 |normal=>
  obtain⟨b,g1,g2,g3⟩:=hv
  exact⟨b,g3.le hs' h0,g1,g2⟩
 |exit k=>
  obtain⟨rfl,b,g1,g2⟩:=hv
  exact zB (hD b s' g1 (g2.le hs' h0))
 |ret=>exact hR v s' hv hs'
theorem aG.one {x:Code} (h:ay P c nt x s Q):aG P c nt [x] s Q:=h.mono fun e s' h=>by cases e<;>exact h
theorem ay.mC {x:Code} (h:aG P c nt [x] s Q):ay P c nt x s Q:=ay.mono h fun e s' h=>by cases e<;>exact h
def Start (kp:List Nat) {α:Type} (V:α->List AV) (O:α->aE) (nx:Nat) (I:α->Prop) (R:List AV×aE->Prop):ak->List AV×aE->Prop
 |.normal,v=>∃a,I a/\eu kp v (V a) (O a) nx
 |.ret,v=>R v
 |.exit _,_=>False
include hT hΓ hm in
theorem ay.vH {x y:Code} (p:List Nat) {i:Nat} (hc:chain x p=true) (hx:part x p=.block i (.loop y)) (hd:ck nt x=true) {kp:List Nat} (h0:Kept kp c) {f1 f2:List Nat} (n:Nat) (L:List Nat) (nx:Nat) {α:Type} (V:α->List AV) (O:α->aE) (I D:α->Prop) (μ:α->Nat) (R:List AV×aE->Prop)
  (hp:∃t,aJ T Γ f1 n L (before x p) s=some t/\t.all (Start kp V O nx I R))
  (hb:∀a,I a->∃t,aJ T Γ f2 n L [y] ⟨aF L (V a),O a,nx⟩=some t/\t.all (Round kp V O nx I D μ i R a))
  (hD:∀b s',D b->(∃ρ,Le c ρ s' ⟨aF L (V b),O b,nx⟩)->aG P c nt (behind x p) s' Q) (hR:∀v s',R v->bk L s'=some v->Q .ret s'):ay P c nt x s Q:=by
 obtain⟨t,h1,h2⟩:=hp
 refine ay.hole p hc (aG.bz hT hΓ hm n L h1 (nW hd) (ag.fz ?_ h2))
 rintro e v hv s' hs'
 cases e with
 |normal=>
  obtain⟨a,hI,hre⟩:=hv
  refine(show ay P c nt (part x p) s' _ from ay.aeG hT hΓ hm hx h0 n L nx V O I D μ R a hI (hre.le hs' h0) ?_ hb (fun b s' hD' hle=>hD b s' hD' hle) fun v s' hv hs'=>hR v s' hv hs')
  have:=wD (nt:=nt) hc hd
  rw[hx]at this
  exact this
 |ret=>exact hR v s' hv hs'
 |exit k=>exact hv.elim
include hT hΓ hm in
theorem ay.jx {x y z:Code} (p:List Nat) {i:Nat} (hc:chain x p=true) (hx:part x p=.block i (.loop y)) (hz:behind x p=[z]) (hd:ck nt x=true) {kp:List Nat} (h0:Kept kp c) {f1 f2:List Nat} (n:Nat) (L:List Nat) (nx:Nat) {α:Type} (V:α->List AV) (O:α->aE) (I D:α->Prop) (μ:α->Nat) (R:List AV×aE->Prop)
  (hp:∃t,aJ T Γ f1 n L (before x p) s=some t/\t.all (Start kp V O nx I R))
  (hb:∀a,I a->∃t,aJ T Γ f2 n L [y] ⟨aF L (V a),O a,nx⟩=some t/\t.all (Round kp V O nx I D μ i R a))
  (hD:∀b,D b->ay P c nt z ⟨aF L (V b),O b,nx⟩ Q) (hR:∀v s',R v->bk L s'=some v->Q .ret s'):ay P c nt x s Q:=
 ay.vH hT hΓ hm p hc hx hd h0 n L nx V O I D μ R hp hb (fun b s' hD' hle=>by rw[hz];exact aG.weak rfl hle (aG.one (hD b hD'))) hR
def CL (c:Ctx) (L:List Nat) {α:Type} (V:α->List AV) (O:α->aE) (nx:Nat) (I D:α->Prop) (μ:α->Nat) (i:Nat) (R:aH->Prop) (a:α):ak->aH->Prop
 |.normal,s'=>∃b,I b/\μ b<μ a/\∃ρ,Le c ρ s' ⟨aF L (V b),O b,nx⟩
 |.exit k,s'=>k=i/\∃b,D b/\∃ρ,Le c ρ s' ⟨aF L (V b),O b,nx⟩
 |.ret,s'=>R s'
include hT hΓ hm in
theorem ay.Dr {x y z:Code} (p:List Nat) {i:Nat} (hc:chain x p=true) (hx:part x p=.block i (.loop y)) (hz:behind x p=[z]) (hd:ck nt x=true) {kp:List Nat} (h0:Kept kp c) {f1:List Nat} (n:Nat) (L:List Nat) (nx:Nat) {α:Type} (V:α->List AV) (O:α->aE) (I D:α->Prop) (μ:α->Nat) (R:List AV×aE->Prop)
  (hp:∃t,aJ T Γ f1 n L (before x p) s=some t/\t.all (Start kp V O nx I R))
  (hb:∀a,I a->ay P c nt y ⟨aF L (V a),O a,nx⟩ (CL c L V O nx I D μ i (fun s'=>∃v,R v/\bk L s'=some v) a))
  (hD:∀b,D b->ay P c nt z ⟨aF L (V b),O b,nx⟩ Q) (hR:∀v s',R v->bk L s'=some v->Q .ret s'):ay P c nt x s Q:=by
 obtain⟨t,h1,h2⟩:=hp
 refine ay.hole p hc (aG.bz hT hΓ hm n L h1 (nW hd) (ag.fz ?_ h2))
 rintro e v hv s' hs'
 cases e with
 |normal=>
  obtain⟨a,hI,hre⟩:=hv
  refine ay.iz hx (fun a=>⟨aF L (V a),O a,nx⟩) I μ a (hre.le hs' h0) hI fun a ha=>(hb a ha).mono fun e s' h=>?_
  cases e with
  |normal=>
   obtain⟨b,g1,g2,g3⟩:=h
   exact⟨b,g3,g1,g2⟩
  |exit k=>
   obtain⟨rfl,b,g1,g2⟩:=h
   refine zB ?_
   show aG P c nt (behind x p) s' _
   rw[hz]
   exact aG.weak rfl g2 (aG.one (hD b g1))
  |ret=>
   obtain⟨v,g1,g2⟩:=h
   exact hR v s' g1 g2
 |ret=>exact hR v s' hv hs'
 |exit k=>exact hv.elim
include hT hΓ hm in
theorem ay.tY {y x1 zb:Code} (p:List Nat) {j:Nat} (hc:chain y p=true) (hx:part y p=.block j x1) (hz:behind y p=[zb]) (hd:ck nt y=true) {kp:List Nat} (h0:Kept kp c) {f1:List Nat} (n:Nat) (L:List Nat) (nx:Nat) {α:Type} (V:α->List AV) (O:α->aE) (I:α->Prop)
  (hp:∃t,aJ T Γ f1 n L (before y p) s=some t/\t.all fun e v=>match e with
   |.normal=>∃a,I a/\eu kp v (V a) (O a) nx
   |e=>∀s',bk L s'=some v->Q e s')
  (hb:∀a,I a->ay P c nt x1 ⟨aF L (V a),O a,nx⟩ (inBlock j (dM (fun s'=>ay P c nt zb s' Q) Q))):ay P c nt y s Q:=by
 obtain⟨t,h1,h2⟩:=hp
 refine ay.hole p hc (aG.bz hT hΓ hm n L h1 (nW hd) (ag.fz ?_ h2))
 rintro e v hv s' hs'
 cases e with
 |normal=>
  obtain⟨a,hI,hre⟩:=hv
  refine ay.lT (hre.le hs' h0) (ay.oK hx ((hb a hI).mono fun e s' h=>?_))
  have key:∀{e s'},dM (fun s'=>ay P c nt zb s' Q) Q e s'->dM (fun s''=>aG P c nt (behind y p) s'' Q) Q e s':=fun {e s'} h=>by
   cases e with
   |normal=>show aG P c nt (behind y p) s' Q;rw[hz];exact aG.one h
   |exit k=>exact h
   |ret=>exact h
  cases e with
  |normal=>exact key (e:=.normal) h
  |exit k=>
   simp only[inBlock]at h ⊢
   split
   ·rename_i hk;rw[if_pos hk]at h;exact key (e:=.normal) h
   ·rename_i hk;rw[if_neg hk]at h;exact key (e:=.exit k) h
  |ret=>exact key (e:=.ret) h
 |ret=>exact hv s' hs'
 |exit k=>exact hv s' hs'
theorem ay.tail {z zb:Code} {j:Nat} (hne:∀s',Q (.exit j) s'->False) (h:aG P c nt [z,zb] s Q):ay P c nt z s (inBlock j (dM (fun s'=>ay P c nt zb s' Q) Q)):=
 ay.mono h fun e s' h=>by
  cases e with
  |normal=>exact ay.mono h fun e s' h=>by cases e<;>exact h
  |exit k=>
   simp only[inBlock]
   split
   ·rename_i hk;subst hk;exact(hne _ h).elim
   ·exact h
  |ret=>exact h
def nO (fn:Func) (L:List Nat) (res:AV) (v:List AV×aE):Prop:=∃us,II fn (aF L v.1)=some us/\er us res
theorem nO.fin {fn:Func} {L:List Nat} {res:AV} {v:List AV×aE} {s':aH} (h:nO fn L res v) (hs':bk L s'=some v):dX c (Fin T fn res) .ret s':=by
 obtain⟨us,g1,g2⟩:=h
 exact .inl (gj (.inr rfl) hs' g1 g2)
theorem xy {c:Prop} [Decidable c] {u v:AV} (hu:keys u=[]) (hv:keys v=[]):keys (if c then u else v)=[]:=by split<;>assumption
def wO (T:Types) (fn:Func) (L:List Nat) (res:AV) (v:List AV×aE):Prop:=
 ∃vs us nx t,v.1=vs++us/\vs.length=L.length/\bu us=[]/\kU T fn .ret ⟨aF L vs,v.2,nx⟩=some t/\ju nx vs=true/\gG nx v.2/\t.all fun _ us=>er us res
theorem wO.fin {fn:Func} {L L1:List Nat} {res:AV} {v:List AV×aE} {s':aH} (h0:Kept [] c) (h:wO T fn L res v) (hs':bk (L++L1) s'=some v):dX c (Fin T fn res) .ret s':=by
 obtain⟨vs,us,nx,t,h1,h2,h3,h4,h5,h6,h7⟩:=h
 obtain⟨v1,v2⟩:=v
 simp only at h1
 subst h1
 exact yU h4 (iD hs' h2 h3) (fun k x hk=>by simpa using h0 k x hk) h5 h6 h7
include hT hΓ hm in
theorem g8 {f:FuncId} {fn:Func} (hf:aU P f fn (az fn)) {args:List AV} {r:cZ} (hk:bu args=[]) (hlen:args.length<=fn.ntmps) (hpost:r.post=[]) (p:List Nat) {i:Nat} {y z:Code} (hc:chain (az fn) p=true) (hx:part (az fn) p=.block i (.loop y)) (hz:behind (az fn) p=[z])
  {f1 f2 f3:List Nat} (n:Nat) (L:List Nat) (nx:Nat) {α:Type} (V:α->List AV) (O:α->aE) (I D:α->Prop) (μ:α->Nat)
  (h:r.need->(∃t,aJ T Γ f1 n L (before (az fn) p) ⟨aQ 0 args,[],0⟩=some t/\t.all (Start [] V O nx I (nO fn L r.res)))/\
   (∀a,I a->∃t,aJ T Γ f2 n L [y] ⟨aF L (V a),O a,nx⟩=some t/\t.all (Round [] V O nx I D μ i (nO fn L r.res) a))/\
   ∀a,D a->∃t,cJ T Γ f3 n fn [z] ⟨aF L (V a),O a,nx⟩=some t/\t.all fun _ us=>er us r.res) (K:Nat) (pre:aE):aD P f K args pre r:=by
 refine iy hT hf hk hlen hpost (fun need c h0=>?_) K pre
 obtain⟨hp,hb,he⟩:=h need
 refine ay.jx hT hΓ hm p hc hx hz hf.dst (sL h0) n L nx V O I D μ (nO fn L r.res) hp hb (fun a ha=>?_) fun v s' hv hs'=>hv.fin hs'
 obtain⟨t,g1,g2⟩:=he a ha
 have:=yt (x:=az fn) (p:=p) hf.dst
 rw[hz]at this
 exact ay.mC ((aG.fin hT hΓ hm n g1 this g2).mono fun _ _ h=>.inl h)
def JE (T:Types) (fn:Func) (k:Nat) (res:AV) (o':ax) (e:ak) (s':aH):Prop:=
 (e=.normal\/e=.ret)/\Ends T fn res s'/\∃o1,look 0 s'.store=some o1/\o1.row=false/\cM (aY [(k,0)]) o1 o'
def zX (T:Types) (Γ:aV) (forks:List Nat) (n:Nat) (fn:Func) (l:List Code) (s:aH):Option (ag (List AV×Option ax)):=
 match o9 T Γ forks n l s with
 |some t=>t.bind (AE T fn)
 |none=>none
include hT hΓ hm in
theorem aG.Nz {fn:Func} {forks:List Nat} (n:Nat) {l:List Code} {s:aH} {t:ag (List AV×Option ax)} (hc:zX T Γ forks n fn l s=some t) (hd:(l.all fun x=>ck nt x)=true) {k:Nat} {res:AV} {o':ax}
  (h:t.all fun _ v=>er v.1 res/\∃o1,v.2=some o1/\o1.row=false/\cM (aY [(k,0)]) o1 o'):aG P c nt l s (JE T fn k res o'):=by
 unfold zX at hc
 split at hc
 ·rename_i u hx
  refine xX hT hΓ hm hd hx (ag.fz ?_ (ag.jH hc h))
  rintro e s' ⟨v,h1,h2⟩
  unfold AE at h1
  split at h1
  ·rename_i v' hv'
   have h4:v'.all fun _ us=>er us res/\∃o1,look 0 s'.store=some o1/\o1.row=false/\cM (aY [(k,0)]) o1 o':=by
    refine ag.fz ?_ (ag.jH h1 h2)
    rintro e us ⟨w,g1,g2⟩
    simp only[au]at g1
    subst g1
    exact g2
   have h5:Fin T fn res e s':=Db hv' (ag.fz (fun _ _ h=>h.1) h4)
   refine⟨h5.1,h5.2,?_⟩
   have:∀{t:ag (List AV)},(t.all fun _ us=>er us res/\∃o1,look 0 s'.store=some o1/\o1.row=false/\cM (aY [(k,0)]) o1 o')->∃o1,look 0 s'.store=some o1/\o1.row=false/\cM (aY [(k,0)]) o1 o':=by
    intro t
    induction t with
    |leaf e us=>exact fun h=>h.2
    |aj ps t ih=>exact fun h=>ih h.2
    |fork b t1 t2 ih1 ih2=>
     intro h
     cases b with
     |true=>exact ih1 (h.1 rfl)
     |false=>exact ih2 (h.2 rfl)
   exact this h4
  ·simp at h1
 ·simp at hc
theorem Ey {rl:List (Nat×Nat)}:∀{rest:List AV},bu rest=[]->(rest.all fun v=>!v.isTuple)=true->eU (aY rl) rest rest
 |[],_,_=>trivial
 |v::r,h1,h2=>by
  simp only[bu,List.append_eq_nil_iff]at h1
  simp only[List.all_cons,Bool.and_eq_true,Bool.not_eq_true']at h2
  exact⟨⟨h2.1,aK h1.1⟩,Ey h1.2 h2.2⟩
include hT in
theorem OG {f:FuncId} {fn:Func} {x:Code} (hf:aU P f fn x) {k idx es off:Nat} {p:List Nat} {rest:List AV} {o2 o o':ax} {res:AV} {l:List Prop}
  (hkr:bu rest=[]) (hrt:(rest.all fun v=>!v.isTuple)=true) (hlen:rest.length+1<=fn.ntmps) (ho:∀ρ,cM ρ o2 o)
  (h:aA l->∀c:Ctx,Kept [0] c->ay P c fn.ntmps x ⟨aQ 0 (.ptr 0 idx es off p::rest),[(0,o)],1⟩ (JE T fn k res o')) (K:Nat):
  aD P f K (.ptr k idx es off p::rest) [(k,o2)] ⟨res,[(k,o')],l⟩:=by
 refine mZ hT hf (args0:=.ptr 0 idx es off p::rest) (pre0:=[(0,o)]) (nx:=1) [(0,k)] (by simpa using hlen) (by simp[iO]) ⟨⟨rfl,mI rfl⟩,Ey hkr hrt⟩ ⟨⟨k,o2,rfl,by simp[look],ho _⟩,trivial⟩
  (fun a x h=>?_) (fun x o h=>.inl ?_) (fun need c h0=>?_)
 ·simp only[aY,look]at h
  split at h
  ·simp only[au]at h;subst h;exact⟨_,by simp[look];rfl⟩
  ·simp at h
 ·simp only[look]at h
  split at h
  ·rename_i he
   exact⟨_,by simp only[look,he,if_true];rfl⟩
  ·simp at h
 have hk:Kept [0] c:=fun a y hy=>by
  have:=h0 a y hy
  simp only[aY,look]at this
  split at this
  ·rename_i he;have:=eq_of_beq he;subst this;exact List.mem_singleton_self _
  ·simp at this
 refine(h need c hk).mono fun e s' ⟨h1,h2,o1,g1,g2,g3⟩=>⟨h1,aY [(k,0)],vc,.inl ⟨h2,fun x ox hx=>?_⟩⟩
 have he:cA (eI [(k,o')]) [(k,o2)]=[(k,o')]:=by simp[cA,eI,put]
 rw[he]at hx
 simp only[look]at hx
 split at hx
 ·rename_i hk
  have:k=x:=by simpa using hk
  subst this
  simp only[au]at hx
  subst hx
  exact⟨0,o1,by simp[aY,look],g1,g2,g3⟩
 ·simp at hx
end rules
theorem aO {nx:Nat} {rl:List (Nat×Nat)} {os ps:aE} {k2 k1:Nat} {r w:Bool} {es:Nat} {f g:Nat->AV} (hs:kg nx rl os ps) (hk:look k2 rl=some k1:=by exact rfl) (ho:look k1 os=some ⟨r,w,es,1,f⟩:=by exact rfl) (h1:keys (f 0)=[]:=by exact rfl) (h2:f 0=g 0:=by exact rfl):kg nx rl os ((k2,⟨r,w,es,1,g⟩)::ps):=dF hk ho (cB h1 h2) hs
theorem g9 {nx:Nat} {rl:List (Nat×Nat)} {os ps:aE} {k2 k1:Nat} {r w:Bool} {es n m:Nat} {f g:Nat->AV} (hs:kg nx rl os ps) (hk:look k2 rl=some k1:=by exact rfl) (ho:look k1 os=some ⟨r,w,es,n,f⟩:=by exact rfl) (hn:n=m:=by exact rfl) (h1:∀i,keys (f i)=[]:=by exact fun _=>rfl) (h2:∀i,f i=g i:=by exact fun _=>rfl):kg nx rl os ((k2,⟨r,w,es,m,g⟩)::ps):=bO hk ho hn (fun i _=>cB (h1 i) (h2 i)) hs
end Go.Am
namespace Go.Am
open AV
theorem xq {ρ:Nat->Option Nat}:∀{us vs:List AV},bu us=[]->(us.all fun v=>!v.isTuple)=true->eL us vs->eU ρ us vs
 |[],[],_,_,_=>trivial
 |u::us,v::vs,h1,h2,h=>by
  simp only[bu,List.append_eq_nil_iff]at h1
  simp only[List.all_cons,Bool.and_eq_true,Bool.not_eq_true']at h2
  exact⟨⟨h2.1,nB h1.1 h.1⟩,xq h1.2 h2.2 h.2⟩
 |[],_::_,_,_,h=>h.elim
 |_::_,[],_,_,h=>h.elim
def HS (T:Types) (fn:Func) (e:ak) (s:aH):Option (ag (List AV×Option ax×Option ax)):=match e with
 |.exit _=>none
 |e=>match fE T s fn.results.toList with
  |some (vs,q)=>some (.need q (.leaf e (vs,look 0 s.store,look 1 s.store)))
  |none=>none
def NP (us:List AV) (o p:ax) (v:List AV×Option ax×Option ax):Prop:=
 bu v.1=[]/\(v.1.all fun v=>!v.isTuple)=true/\eL v.1 us/\(∃o1,v.2.1=some o1/\∀ρ,cM ρ o1 o)/\∃p1,v.2.2=some p1/\∀ρ,cM ρ p1 p
def NG (T:Types) (fn:Func) (us:List AV) (o p:ax) (e:ak) (s:aH):Prop:=
 (e=.normal\/e=.ret)/\(∃vs q,fE T s fn.results.toList=some (vs,q)/\aA q/\bu vs=[]/\(vs.all fun v=>!v.isTuple)=true/\eL vs us)/\(∃o1,look 0 s.store=some o1/\∀ρ,cM ρ o1 o)/\∃p1,look 1 s.store=some p1/\∀ρ,cM ρ p1 p
theorem RF {T:Types} {fn:Func} {e:ak} {s:aH} {t:ag (List AV×Option ax×Option ax)} {us:List AV} {o p:ax} (h1:HS T fn e s=some t) (h2:t.all fun _ v=>NP us o p v):NG T fn us o p e s:=by
 unfold HS at h1
 have key:∀{e':ak},(match fE T s fn.results.toList with
   |some (vs,q)=>some (ag.need q (.leaf e' (vs,look 0 s.store,look 1 s.store)))
   |none=>none)=some t->(∃vs q,fE T s fn.results.toList=some (vs,q)/\aA q/\bu vs=[]/\(vs.all fun v=>!v.isTuple)=true/\eL vs us)/\(∃o1,look 0 s.store=some o1/\∀ρ,cM ρ o1 o)/\∃p1,look 1 s.store=some p1/\∀ρ,cM ρ p1 p:=by
  intro e' h1
  cases hr:fE T s fn.results.toList with
  |none=>rw[hr]at h1;simp at h1
  |some r=>
   obtain⟨vs,q⟩:=r
   rw[hr]at h1
   simp only[au]at h1
   subst h1
   obtain⟨g1,g2,g3,g4,g5,g6⟩:=ag.zl.1 h2
   exact⟨⟨vs,q,rfl,g1,g2,g3,g4⟩,g5,g6⟩
 cases e with
 |normal=>exact⟨.inl rfl,key h1⟩
 |ret=>exact⟨.inr rfl,key h1⟩
 |exit i=>simp at h1
section rules
variable {P:Program} {c:Ctx} {nt:Nat} {s:aH} {Q:ak->aH->Prop} {T:Types} (hT:dK P T) {Γ:aV} (hΓ:bn P Γ) (hm:P.follows .mixedOrders=true)
def P3 (T:Types) (fn:Func) (L:List Nat) (us:List AV) (o p:ax) (v:List AV×aE):Prop:=
 ∃vs ws nx t,v.1=vs++ws/\vs.length=L.length/\bu ws=[]/\HS T fn .ret ⟨aF L vs,v.2,nx⟩=some t/\ju nx vs=true/\gG nx v.2/\2<=nx/\t.all fun _ v=>NP us o p v
theorem P3.fin {fn:Func} {L L1:List Nat} {us:List AV} {o p:ax} {v:List AV×aE} {s':aH} (h0:Kept [0,1] c) (h:P3 T fn L us o p v) (hs':bk (L++L1) s'=some v):dX c (NG T fn us o p) .ret s':=by
 obtain⟨vs,ws,nx,t,h1,h2,h3,h4,h5,h6,hn,h7⟩:=h
 obtain⟨v1,v2⟩:=v
 simp only at h1
 subst h1
 obtain⟨ρ,hle⟩:=m7 (iD hs' h2 h3) (fun k x hk=>by
  have:=h0 k x hk
  simp only[List.mem_cons,List.not_mem_nil,or_false]at this
  omega) h5 h6
 exact .inr ⟨_,ρ,hle,RF h4 h7⟩
end rules
end Go.Am
namespace Go.Am
open AV
def Fe (fn:Func) (k:Nat) (ws:List AV) (o':ax) (e:ak) (s':aH):Prop:=
 (e=.normal\/e=.ret)/\∃ls vs us os o1,bk ls s'=some (vs,os)/\lS (aF ls vs) fn.results.toList=some us/\eU (aY [(k,0)]) us ws/\look 0 os=some o1/\cM (aY [(k,0)]) o1 o'
def BK (fn:Func) (k:Nat) (ws:List AV) (o':ax) (L:List Nat) (v:List AV×aE):Prop:=∃us o1,lS (aF L v.1) fn.results.toList=some us/\eU (aY [(k,0)]) us ws/\look 0 v.2=some o1/\cM (aY [(k,0)]) o1 o'
theorem BK.fin {fn:Func} {k:Nat} {ws:List AV} {o':ax} {L:List Nat} {v:List AV×aE} {s':aH} (h:BK fn k ws o' L v) (hs':bk L s'=some v):Fe fn k ws o' .ret s':=by
 obtain⟨us,o1,h1,h2,h3,h4⟩:=h
 exact⟨.inr rfl,L,v.1,us,v.2,o1,hs',h1,h2,h3,h4⟩
section rules
variable {P:Program} {c:Ctx} {nt:Nat} {s:aH} {Q:ak->aH->Prop} {T:Types} (hT:dK P T) {Γ:aV} (hΓ:bn P Γ) (hm:P.follows .mixedOrders=true)
include hT hΓ hm in
theorem ay.branch {x u v:Code} {b:Operand} (p:List Nat) (hc:chain x p=true) (hx:part x p=.cond b u v) (hz:behind x p=[]) (hd:ck nt x=true) {kp:List Nat} (h0:Kept kp c) {f1:List Nat} (n:Nat) (L:List Nat) (nx:Nat) {α:Type} (V:α->List AV) (O:α->aE) (I:α->Prop)
  (hp:∃t,aJ T Γ f1 n L (before x p) s=some t/\t.all fun e v=>match e with
   |.normal=>∃a,I a/\eu kp v (V a) (O a) nx
   |e=>∀s',bk L s'=some v->Q e s')
  (hb:∀a,I a->∃t,(⟨aF L (V a),O a,nx⟩:aH).gx b=some (.bool t)/\(t=true->ay P c nt u ⟨aF L (V a),O a,nx⟩ Q)/\(t=false->ay P c nt v ⟨aF L (V a),O a,nx⟩ Q)):ay P c nt x s Q:=by
 obtain⟨t,h1,h2⟩:=hp
 refine ay.hole p hc (aG.bz hT hΓ hm n L h1 (nW hd) (ag.fz ?_ h2))
 rintro e v hv s' hs'
 cases e with
 |normal=>
  obtain⟨a,hI,hre⟩:=hv
  obtain⟨t,g1,g2,g3⟩:=hb a hI
  show ay P c nt (part x p) s' _
  rw[hx,hz]
  have key:∀{y:Code} {s:aH},ay P c nt y s Q->ay P c nt y s (dM (fun s''=>aG P c nt [] s'' Q) Q):=fun h=>h.mono fun e s' h=>by cases e<;>exact h
  exact ay.lT (hre.le hs' h0) (ay.cond g1 (fun ht=>key (g2 ht)) fun ht=>key (g3 ht))
 |ret=>exact hv s' hs'
 |exit k=>exact hv s' hs'
include hT in
theorem WD {f:FuncId} {fn:Func} {x:Code} (hf:aU P f fn x) {k es st n:Nat} {rest ws:List AV} {o2 o o':ax} {l:List Prop}
  (hkr:bu rest=[]) (hrt:(rest.all fun v=>!v.isTuple)=true) (hlen:rest.length+1<=fn.ntmps) (ho:∀ρ,cM ρ o2 o)
  (h:aA l->∀c:Ctx,Kept [0] c->ay P c fn.ntmps x ⟨aQ 0 (.own 0 es st n::rest),[(0,o)],1⟩ (Fe fn k ws o')) (K:Nat):
  aD P f K (.own k es st n::rest) [(k,o2)] ⟨iw ws,[(k,o')],l⟩:=by
 refine mZ hT hf (args0:=.own 0 es st n::rest) (pre0:=[(0,o)]) (nx:=1) [(0,k)] (by simpa using hlen) (by simp[iO]) ⟨⟨rfl,cP rfl rfl rfl⟩,Ey hkr hrt⟩ ⟨⟨k,o2,rfl,by simp[look],ho _⟩,trivial⟩
  (fun a x h=>?_) (fun x o h=>.inl ?_) (fun need c h0=>?_)
 ·simp only[aY,look]at h
  split at h
  ·simp only[au]at h;subst h;exact⟨_,by simp[look];rfl⟩
  ·simp at h
 ·simp only[look]at h
  split at h
  ·rename_i he
   exact⟨_,by simp only[look,he,if_true];rfl⟩
  ·simp at h
 have hk:Kept [0] c:=fun a y hy=>by
  have:=h0 a y hy
  simp only[aY,look]at this
  split at this
  ·rename_i he;have:=eq_of_beq he;subst this;exact List.mem_singleton_self _
  ·simp at this
 refine(h need c hk).mono fun e s' ⟨h1,ls,vs,us,os,o1,g1,g2,g3,g4,g5⟩=>⟨h1,aY [(k,0)],vc,.inr (sR (ws:=ws) (ps:=[(k,o')]) g1 g2 g3 rfl (by simp[cA,eI,put]) ⟨⟨0,o1,by simp[aY,look],g4,g5⟩,trivial⟩)⟩
include hT in
theorem Ir {f:FuncId} {fn:Func} {x:Code} (hf:aU P f fn x) {args args0 ws:List AV} {o':ax} {K:Nat} {l:List Prop} (ha:aA l->eU (aY []) args args0) (hlen:args0.length<=fn.ntmps)
  (h:aA l->∀c:Ctx,Kept [] c->ay P c fn.ntmps x ⟨aQ 0 args0,[],0⟩ fun e s'=>(e=.normal\/e=.ret)/\∃ls vs us os a o,bk ls s'=some (vs,os)/\lS (aF ls vs) fn.results.toList=some us/\eU (aY [(K,a)]) us ws/\look a os=some o/\cM (aY [(K,a)]) o o'):
  aD P f K args [] ⟨iw ws,[(K,o')],l⟩:=by
 intro need
 refine(mZ hT hf (args0:=args0) (pre0:=[]) (nx:=0) [] hlen rfl (ha need) trivial (fun a k h=>by simp[aY,look]at h) (fun k o h=>?_) (fun need c h0=>?_):aD P f K args [] ⟨iw ws,[(K,o')],l⟩) need
 ·simp only[look]at h
  split at h
  ·rename_i he
   have:K=k:=by simpa using he
   subst this
   exact .inr ⟨bp,by unfold cE;omega⟩
  ·simp at h
 ·refine(h need c fun k x hk=>by simpa [aY,look]using h0 k x hk).mono ?_
  rintro e s' ⟨h1,ls,vs,us,os,a,o,h2,h3,h4,h5,h6⟩
  exact⟨h1,aY [(K,a)],EH ⟨bp,by unfold cE;omega⟩,.inr (sR (ws:=ws) (ps:=[(K,o')]) h2 h3 h4 rfl rfl ⟨⟨a,o,by simp[aY,look],h5,h6⟩,trivial⟩)⟩
end rules
end Go.Am
namespace Go.Am
open AV
section rules
variable {P:Program} {c:Ctx} {nt:Nat} {s:aH} {Q:ak->aH->Prop} {T:Types} (hT:dK P T) {Γ:aV} (hΓ:bn P Γ) (hm:P.follows .mixedOrders=true)
def Head (kp:List Nat) {α:Type} (V:α->List AV) (O:α->aE) (nx:Nat) (D:α->Prop) (i:Nat) (R:List AV×aE->Prop) (G:α->Prop) (a:α):ak->List AV×aE->Prop
 |.normal,v=>G a/\eu kp v (V a) (O a) nx
 |.exit k,v=>k=i/\∃b,D b/\eu kp v (V b) (O b) nx
 |.ret,v=>R v
def SJ (kp:List Nat) {α:Type} (V:α->List AV) (O:α->aE) (nx:Nat) (I:α->Prop) (μ:α->Nat) (a:α):ak->List AV×aE->Prop
 |.normal,v=>∃b,I b/\μ b<μ a/\eu kp v (V b) (O b) nx
 |_,_=>False
theorem ahx {i:Nat} {y:Code} (h:ck nt (.block i (.loop y))=true):ck nt y=true:=by simpa [ck]using h
theorem SX {i:Nat} {y:Code} (h:ck nt (.block i y)=true):ck nt y=true:=by simpa [ck]using h
include hT hΓ hm in
theorem ay.S4 {x y x1 zb y2:Code} (p:List Nat) {i:Nat} (hc:chain x p=true) (hx:part x p=.block i (.loop y)) (hd:ck nt x=true)
  (q:List Nat) {j:Nat} (hcq:chain y q=true) (hxq:part y q=.block j x1) (hzq:behind y q=[zb]) (r:List Nat) {i2:Nat} (hcr:chain x1 r=true) (hxr:part x1 r=.block i2 (.loop y2)) (hij:(i==j)=false)
  {kp:List Nat} (h0:Kept kp c) {f1 f2 f3 f4 f5:List Nat} (n:Nat) (L1 L2:List Nat) (nx1 nx2:Nat) {α β:Type} (V1:α->List AV) (O1:α->aE) (I1 D1:α->Prop) (μ1:α->Nat) (G:α->Prop) (R1 R2:List AV×aE->Prop)
  (V2:α->β->List AV) (O2:α->β->aE) (I2 D2:α->β->Prop) (μ2:α->β->Nat)
  (hp:∃t,aJ T Γ f1 n L1 (before x p) s=some t/\t.all (Start kp V1 O1 nx1 I1 R1))
  (ho:∀a,I1 a->∃t,aJ T Γ f2 n L1 (before y q) ⟨aF L1 (V1 a),O1 a,nx1⟩=some t/\t.all (Head kp V1 O1 nx1 D1 i R1 G a))
  (hi:∀a,I1 a->G a->∃t,aJ T Γ f3 n L2 (before x1 r) ⟨aF L1 (V1 a),O1 a,nx1⟩=some t/\t.all (Start kp (V2 a) (O2 a) nx2 (I2 a) R2))
  (hb:∀a,I1 a->G a->∀b,I2 a b->∃t,aJ T Γ f4 n L2 [y2] ⟨aF L2 (V2 a b),O2 a b,nx2⟩=some t/\t.all (Round kp (V2 a) (O2 a) nx2 (I2 a) (D2 a) (μ2 a) i2 R2 b))
  (ht:∀a,I1 a->G a->∀b,D2 a b->∃t,aJ T Γ f5 n L1 (behind x1 r++[zb]) ⟨aF L2 (V2 a b),O2 a b,nx2⟩=some t/\t.all (SJ kp V1 O1 nx1 I1 μ1 a))
  (hD:∀b s',D1 b->(∃ρ,Le c ρ s' ⟨aF L1 (V1 b),O1 b,nx1⟩)->aG P c nt (behind x p) s' Q) (hR1:∀v s',R1 v->bk L1 s'=some v->Q .ret s') (hR2:∀v s',R2 v->bk L2 s'=some v->Q .ret s'):ay P c nt x s Q:=by
 have hdy:ck nt y=true:=by
  have:=wD (nt:=nt) hc hd
  rw[hx]at this
  exact ahx this
 have hdx1:ck nt x1=true:=by
  have:=wD (nt:=nt) hcq hdy
  rw[hxq]at this
  exact SX this
 have hdz:((behind x1 r++[zb]).all fun x=>ck nt x)=true:=by
  have h1:=yt (nt:=nt) (p:=r) hdx1
  have h2:=yt (nt:=nt) (p:=q) hdy
  rw[hzq]at h2
  rw[List.all_append,h1,h2];rfl
 obtain⟨t,h1,h2⟩:=hp
 refine ay.hole p hc (aG.bz hT hΓ hm n L1 h1 (nW hd) (ag.fz ?_ h2))
 rintro e v hv s' hs'
 cases e with
 |ret=>exact hR1 v s' hv hs'
 |exit k=>exact hv.elim
 |normal=>
  obtain⟨a,hI,hre⟩:=hv
  refine(show ay P c nt (part x p) s' _ from ay.iz hx (fun a=>⟨aF L1 (V1 a),O1 a,nx1⟩) I1 μ1 a (hre.le hs' h0) hI fun a ha=>?_)
  refine ay.mono (Q:=CL c L1 V1 O1 nx1 I1 D1 μ1 i (fun s'=>Q .ret s') a) ?_ fun e s' h=>?_
  ·refine ay.tY hT hΓ hm q hcq hxq hzq hdy h0 (f1:=f2) n L1 nx1 (fun _:Unit=>V1 a) (fun _=>O1 a) (fun _=>G a) ?_ (fun _ hG=>?_)
   ·obtain⟨t,g1,g2⟩:=ho a ha
    refine⟨t,g1,ag.fz ?_ g2⟩
    rintro e v hv
    cases e with
    |normal=>exact⟨(),hv.1,hv.2⟩
    |exit k=>exact fun s' hs'=>⟨hv.1,hv.2.imp fun b hb=>⟨hb.1,hb.2.le hs' h0⟩⟩
    |ret=>exact fun s' hs'=>hR1 v s' hv hs'
   ·refine ay.vH hT hΓ hm r hcr hxr hdx1 h0 (f1:=f3) (f2:=f4) n L2 nx2 (V2 a) (O2 a) (I2 a) (D2 a) (μ2 a) R2 (hi a ha hG) (hb a ha hG) (fun b s' hb hle=>?_) (fun v s' hv hs'=>hR2 v s' hv hs')
    obtain⟨t,g1,g2⟩:=ht a ha hG b hb
    have key:aG P c nt (behind x1 r++[zb]) s' (CL c L1 V1 O1 nx1 I1 D1 μ1 i (fun s'=>Q .ret s') a):=by
     refine aG.weak (by cases behind x1 r<;>rfl) hle (aG.bz hT hΓ hm n L1 g1 hdz (ag.fz ?_ g2))
     rintro e v hv s' hs'
     cases e with
     |normal=>
      obtain⟨b,k1,k2,k3⟩:=hv
      exact⟨b,k1,k2,k3.le hs' h0⟩
     |exit k=>exact hv.elim
     |ret=>exact hv.elim
    refine aG.mono ?_ (aG.append key)
    rintro e s' h
    cases e with
    |normal=>exact ay.mC h
    |exit k=>
     simp only[inBlock]
     have hk:k=i:=h.1
     rw[if_neg (by rw[hk];simpa using hij)]
     exact h
    |ret=>exact h
  ·cases e with
   |normal=>
    obtain⟨b,g1,g2,g3⟩:=h
    exact⟨b,g3,g1,g2⟩
   |exit k=>
    obtain⟨rfl,b,g1,g2⟩:=h
    refine zB ?_
    show aG P c nt (behind x p) s' _
    exact hD b s' g1 g2
   |ret=>exact h
end rules
end Go.Am
namespace Go.Am
open AV
def yd (T:Types) (fn:Func) (e:ak) (s:aH):Option (ag (List AV×Option ax)):=match e with
 |.exit _=>none
 |e=>match fE T s fn.results.toList with
  |some (vs,q)=>some (.need q (.leaf e (vs,look 0 s.store)))
  |none=>none
def Eu (T:Types) (Γ:aV) (forks:List Nat) (n:Nat) (fn:Func) (l:List Code) (s:aH):Option (ag (List AV×Option ax)):=
 match o9 T Γ forks n l s with
 |some t=>t.bind (yd T fn)
 |none=>none
def Hg (us:List AV) (o:ax) (v:List AV×Option ax):Prop:=
 bu v.1=[]/\(v.1.all fun v=>!v.isTuple)=true/\eL v.1 us/\∃o1,v.2=some o1/\∀ρ,cM ρ o1 o
def yO (T:Types) (fn:Func) (us:List AV) (o:ax) (e:ak) (s:aH):Prop:=
 (e=.normal\/e=.ret)/\(∃vs q,fE T s fn.results.toList=some (vs,q)/\aA q/\bu vs=[]/\(vs.all fun v=>!v.isTuple)=true/\eL vs us)/\∃o1,look 0 s.store=some o1/\∀ρ,cM ρ o1 o
theorem Lf {T:Types} {fn:Func} {e:ak} {s:aH} {t:ag (List AV×Option ax)} {us:List AV} {o:ax} (h1:yd T fn e s=some t) (h2:t.all fun _ v=>Hg us o v):yO T fn us o e s:=by
 unfold yd at h1
 have key:∀{e':ak},(match fE T s fn.results.toList with
   |some (vs,q)=>some (ag.need q (.leaf e' (vs,look 0 s.store)))
   |none=>none)=some t->(∃vs q,fE T s fn.results.toList=some (vs,q)/\aA q/\bu vs=[]/\(vs.all fun v=>!v.isTuple)=true/\eL vs us)/\∃o1,look 0 s.store=some o1/\∀ρ,cM ρ o1 o:=by
  intro e' h1
  cases hr:fE T s fn.results.toList with
  |none=>rw[hr]at h1;simp at h1
  |some r=>
   obtain⟨vs,q⟩:=r
   rw[hr]at h1
   simp only[au]at h1
   subst h1
   obtain⟨g1,g2,g3,g4,g5⟩:=ag.zl.1 h2
   exact⟨⟨vs,q,rfl,g1,g2,g3,g4⟩,g5⟩
 cases e with
 |normal=>exact⟨.inl rfl,key h1⟩
 |ret=>exact⟨.inr rfl,key h1⟩
 |exit i=>simp at h1
section rules
variable {P:Program} {c:Ctx} {nt:Nat} {s:aH} {Q:ak->aH->Prop} {T:Types} (hT:dK P T) {Γ:aV} (hΓ:bn P Γ) (hm:P.follows .mixedOrders=true)
include hT hΓ hm in
theorem aG.Um {fn:Func} {forks:List Nat} (n:Nat) {l:List Code} {t:ag (List AV×Option ax)} (hc:Eu T Γ forks n fn l s=some t) (hd:(l.all fun x=>ck nt x)=true) {us:List AV} {o:ax}
  (h:t.all fun _ v=>Hg us o v):aG P c nt l s (yO T fn us o):=by
 unfold Eu at hc
 split at hc
 ·rename_i u hx
  refine xX hT hΓ hm hd hx (ag.fz ?_ (ag.jH hc h))
  rintro e s' ⟨v,h1,h2⟩
  exact Lf h1 h2
 ·simp at hc
def DC (T:Types) (fn:Func) (L:List Nat) (us:List AV) (o:ax) (v:List AV×aE):Prop:=
 ∃vs ws nx t,v.1=vs++ws/\vs.length=L.length/\bu ws=[]/\yd T fn .ret ⟨aF L vs,v.2,nx⟩=some t/\ju nx vs=true/\gG nx v.2/\1<=nx/\t.all fun _ v=>Hg us o v
theorem DC.fin {fn:Func} {L L1:List Nat} {us:List AV} {o:ax} {v:List AV×aE} {s':aH} (h0:Kept [0] c) (h:DC T fn L us o v) (hs':bk (L++L1) s'=some v):dX c (yO T fn us o) .ret s':=by
 obtain⟨vs,ws,nx,t,h1,h2,h3,h4,h5,h6,hn,h7⟩:=h
 obtain⟨v1,v2⟩:=v
 simp only at h1
 subst h1
 obtain⟨ρ,hle⟩:=m7 (iD hs' h2 h3) (fun k x hk=>by
  have:=h0 k x hk
  simp only[List.mem_cons,List.not_mem_nil,or_false]at this
  omega) h5 h6
 exact .inr ⟨_,ρ,hle,Lf h4 h7⟩
include hT in
theorem U1 {f:FuncId} {fn:Func} {x:Code} (hf:aU P f fn x) {args args0 us:List AV} {a:Nat} {oa oa0:ax} {l:List Prop} (hlen:args0.length<=fn.ntmps)
  (ha:eU (aY [(0,a)]) args args0) (hoa:aA l->∀ρ,cM ρ oa oa0)
  (h:aA l->∀c:Ctx,Kept [0] c->ay P c fn.ntmps x ⟨aQ 0 args0,[(0,oa0)],1⟩ (dX c (yO T fn us oa0))) (K:Nat):aD P f K args [(a,oa)] ⟨iw us,[(a,oa0)],l⟩:=by
 intro need
 refine(mZ hT hf (args0:=args0) (pre0:=[(0,oa0)]) (nx:=1) [(0,a)] hlen (by simp[iO]) ha ⟨⟨a,oa,rfl,Bf,hoa need _⟩,trivial⟩
  (fun x k h=>?_) (fun x o h=>.inl ?_) (fun need c h0=>?_):aD P f K args [(a,oa)] ⟨iw us,[(a,oa0)],l⟩) need
 ·simp only[aY,look]at h
  split at h
  ·simp only[au]at h;subst h;exact⟨_,Bf⟩
  ·simp at h
 ·simp only[look]at h ⊢
  split at h
  ·rename_i he;exact⟨oa,by rw[if_pos he]⟩
  ·simp at h
 have hk:Kept [0] c:=fun x y hy=>by
  have:=h0 x y hy
  simp only[aY,look]at this
  split at this
  ·rename_i he;have:=eq_of_beq he;subst this;simp
  ·simp at this
 refine(h need c hk).down.mono ?_
 rintro e s' ⟨h1,⟨vs,q,g1,g2,g3,g4,g5⟩,o1,g6,g7⟩
 refine⟨h1,aY [(a,0)],vc,.inr ⟨⟨vs,q,us,g1,g2,xq g3 g4 g5,rfl⟩,fun k o hk=>?_⟩⟩
 have he:cA (eI [(a,oa0)]) [(a,oa)]=[(a,oa0)]:=by simp[cA,eI,put]
 rw[he]at hk
 simp only[look]at hk
 split at hk
 ·rename_i hx
  have:=eq_of_beq hx
  simp only[au]at hk
  subst hk this
  exact⟨0,o1,by simp[aY,look],g6,g7 _⟩
 ·simp at hk
end rules
end Go.Am
namespace Go.Am
open Go AV
section rules
variable {P:Program} {T:Types} (hT:dK P T)
theorem Bs {α:Type} {k a b:Nat} {x y v:α} (h:look k [(a,x),(b,y)]=some v):(k=a/\v=x)\/(k=b/\k≠a/\v=y):=by
 simp only[look]at h
 split at h
 ·rename_i he
  simp only[au]at h
  exact .inl ⟨(eq_of_beq he).symm,h.symm⟩
 ·rename_i hn
  split at h
  ·rename_i he
   simp only[au]at h
   exact .inr ⟨(eq_of_beq he).symm,fun h2=>hn (by simp[h2]),h.symm⟩
  ·simp at h
theorem NY {α:Type} {a b:Nat} {x y:α}:look a [(a,x),(b,y)]=some x:=by simp[look]
theorem OU {α:Type} {a b:Nat} {x y:α} (h:a≠b):look b [(a,x),(b,y)]=some y:=by simp[look,h]
def oS (T:Types) (sl:List (Nat×AV)) (os:aE):List ResultVar->Option (List AV×List Prop)
 |[]=>some ([],[])
 |.tmp t::l=>match look t sl,oS T sl os l with
  |some v,some (m,q)=>if v.isTuple then none else some (v::m,q)
  |_,_=>none
 |.cell a t::l=>match look t T,look a sl,oS T sl os l with
  |some ti,some (.ptr k i es off p),some (m,q)=>match lF os ti (.ptr k i es off p)with
   |some r=>some (r.val::m,r.gI++q)
   |none=>none
  |_,_,_=>none
theorem SY {st:aE} {ks:List Nat} {ti:TI} {k i es off:Nat} {p:List Nat} {r:dQ} (h:lF (pick st ks) ti (.ptr k i es off p)=some r):lF st ti (.ptr k i es off p)=some r:=by
 have:∀o,look k (pick st ks)=some o->look k st=some o:=fun o ho=>by
  rw[mu]at ho
  split at ho
  ·exact ho
  ·simp at ho
 simp only[lF]at h ⊢
 cases hl:look k (pick st ks)with
 |none=>simp[hl]at h
 |some o=>rw[hl]at h;rw[this o hl];exact h
theorem G8 {T:Types} {s:aH} {ls ks:List Nat}:∀{l:List ResultVar} {us:List AV} {q:List Prop},oS T (aF ls (jR s ls)) (pick s.store ks) l=some (us,q)->fE T s l=some (us,q)
 |[],us,q,h=>by simp only[oS,au,Prod.mk.injEq]at h;obtain⟨rfl,rfl⟩:=h;rfl
 |.tmp t::l,us,q,h=>by
  simp only[oS]at h
  split at h
  ·rename_i v m q' hv hm
   split at h
   ·simp at h
   ·rename_i ht
    simp only[au,Prod.mk.injEq]at h
    obtain⟨rfl,rfl⟩:=h
    simp only[fE,qD,xW (by simpa using ht) hv,G8 hm]
    simp[ht]
  ·simp at h
 |.cell a t::l,us,q,h=>by
  simp only[oS]at h
  split at h
  ·rename_i ti k i es off p m q' h1 h2 hm
   split at h
   ·rename_i r hr
    simp only[au,Prod.mk.injEq]at h
    obtain⟨rfl,rfl⟩:=h
    simp only[fE,qD,h1,xW rfl h2,SY hr,G8 hm]
   ·simp at h
  ·simp at h
theorem afW {T:Types} {fn:Func} {ls:List Nat} {vs us ws:List AV} {os ps pre:aE} {s':aH} {τ:Nat->Option Nat} {r:cZ} {q:List Prop} (hv:bk ls s'=some (vs,os)) (hr:oS T (aF ls vs) os fn.results.toList=some (us,q)) (hq:aA q) (hle:eU τ us ws) (hres:r.res=iw ws)
  (he:cA (eI r.post) pre=ps) (ho:mJ τ os ps):sW T fn τ pre r s':=by
 unfold bk at hv
 simp only[au,Prod.mk.injEq]at hv
 obtain⟨rfl,rfl⟩:=hv
 refine⟨⟨us,q,ws,G8 hr,hq,hle,hres⟩,fun k o hk=>?_⟩
 rw[he]at hk
 obtain⟨k1,o1,g1,g2,g3⟩:=AK ho k o hk
 refine⟨k1,o1,g1,?_,g3⟩
 rw[mu]at g2
 split at g2
 ·exact g2
 ·simp at g2
include hT in
theorem aiF {f:FuncId} {fn:Func} {x:Code} (hf:aU P f fn x) {args args0 ws:List AV} {oa ob:ax} {K:Nat} {l:List Prop} (ha:aA l->eU (aY []) args args0) (hlen:args0.length<=fn.ntmps)
  (h:aA l->∀c:Ctx,Kept [] c->ay P c fn.ntmps x ⟨aQ 0 args0,[],0⟩ fun e s'=>(e=.normal\/e=.ret)/\∃ls vs us q os a b o1 o2,bk ls s'=some (vs,os)/\oS T (aF ls vs) os fn.results.toList=some (us,q)/\aA q/\a≠b/\eU (aY [(K,a),(K+1,b)]) us ws/\
   look a os=some o1/\cM (aY [(K,a),(K+1,b)]) o1 oa/\look b os=some o2/\cM (aY [(K,a),(K+1,b)]) o2 ob):
  aD P f K args [] ⟨iw ws,[(K,oa),(K+1,ob)],l⟩:=by
 intro need
 refine(mZ hT hf (args0:=args0) (pre0:=[]) (nx:=0) [] hlen rfl (ha need) trivial (fun a k h=>by simp[aY,look]at h) (fun k o h=>?_) (fun need c h0=>?_):aD P f K args [] ⟨iw ws,[(K,oa),(K+1,ob)],l⟩) need
 ·rcases Bs h with⟨h,_⟩|⟨h,_,_⟩<;>subst h<;>exact .inr (by unfold cE;omega)
 ·refine(h need c fun k x hk=>by simpa [aY,look]using h0 k x hk).mono ?_
  rintro e s' ⟨h1,ls,vs,us,q,os,a,b,o1,o2,h2,h3,hq,hab,h4,h5,h6,h7,h8⟩
  refine⟨h1,aY [(K,a),(K+1,b)],⟨fun x y z hx hy=>?_,fun x y hx=>?_⟩,.inr (afW (ws:=ws) (ps:=[(K,oa),(K+1,ob)]) h2 h3 hq h4 rfl (by simp[cA,eI,put]) ⟨⟨a,o1,NY,h5,h6⟩,⟨b,o2,OU aa,h7,h8⟩,trivial⟩)⟩
  ·rcases Bs hx with⟨e1,e2⟩|⟨e1,_,e2⟩<;>rcases Bs hy with⟨e3,e4⟩|⟨e3,_,e4⟩<;>omega
  ·rcases Bs hx with⟨h,_⟩|⟨h,_,_⟩<;>subst h<;>exact .inr (by unfold cE;omega)
end rules
section
variable {P:Program} {c:Ctx} {nt:Nat} {s:aH} {Q:ak->aH->Prop} {T:Types} (hT:dK P T) {Γ:aV} (hΓ:bn P Γ) (hm:P.follows .mixedOrders=true)
end
end Go.Am
namespace Go.Am
open AV
section rules
variable {P:Program} {c:Ctx} {nt:Nat} {x:Code} {s:aH} {Q:ak->aH->Prop}
theorem ay.bH {t k es s0 n:Nat} (ht:look t s.cH=some (.own k es s0 n)) (h:∀cap,n<=cap->ay P c nt x ⟨oX (some t) (.bH cap (.own k es s0 n)) s.cH,s.store,s.next⟩ Q):ay P c nt x s Q:=by
 intro a w ⟨hd,hs,β,hw,hsl⟩
 obtain⟨xv,hx,hv⟩:=hsl t _ ht
 have key:∃base cap,xv=.slice base n cap/\n<=cap:=by
  rcases hv.own with⟨b,o,cap,N,rfl,_,_,_,h4,_⟩|⟨rfl,_,rfl,_⟩
  ·exact⟨_,_,rfl,h4⟩
  ·exact⟨_,_,rfl,bp⟩
 obtain⟨base,cap,rfl,hn⟩:=key
 refine h cap hn a w ⟨hd,hs,β,hw,fun t' v' hv'=>?_⟩
 rw[yX]at hv'
 split at hv'
 ·rename_i he
  simp only[au]at he hv'
  subst he
  subst hv'
  exact⟨_,hx,bh.bI (.cj (.bH rfl (hv.cell rfl) .nil) rfl)⟩
 ·exact hsl t' v' hv'
variable {T:Types} (hT:dK P T)
end rules
end Go.Am
namespace Go.Am
open AV
section rules
variable {P:Program} {c:Ctx} {nt:Nat} {x:Code} {s:aH} {Q:ak->aH->Prop}
theorem ay.Qf {t k:Nat} {o:ax} (ht:look t s.cH=some (.ptr k 0 o.es 0 [])) (hk:look k s.store=some o) (h1:o.row=false) (h2:o.len=1) (h3:(o.f 0).keys=[])
  (h:ay P c nt x ⟨oX (some t) (.bw (o.f 0)) s.cH,put k {o with wr:=false} s.store,s.next⟩ Q):ay P c nt x s Q:=by
 intro a w ⟨hd,hs,β,hw,hsl⟩
 have hcap:qK s.store (.ptr k 0 o.es 0 [])=some (k,o):=by
  unfold qK
  simp[hk,h1,h2,h3]
 obtain⟨xv,hx,hv⟩:=hsl t _ ht
 obtain⟨cs,hc,hx2⟩:=hv.one rfl
 have key:=QU (pre:=s.store) hw (fun k o hk=>⟨o,hk,.inl rfl⟩) hc
 simp only[pL,ry,hcap,cA]at key
 obtain⟨q1,q2,q3⟩:=key
 refine h a w ⟨hd.gN hw q2,hs,β,q1,fun t' v hv'=>?_⟩
 rw[yX]at hv'
 split at hv'
 ·rename_i he
  simp only[au]at he hv'
  subst he
  subst hv'
  refine⟨xv,hx,bh.bI ⟨cs,q3,.inr ⟨rfl,?_⟩⟩⟩
  rcases hx2 with⟨g,_⟩|⟨_,g⟩
  ·exact Bool.noConfusion g
  ·exact g
 ·obtain⟨y,hy,hvy⟩:=hsl t' v hv'
  exact⟨y,hy,hvy.gN q2⟩
end rules
end Go.Am
namespace Go.Am
open AV
def zQ (st:aE) (β:aS):Nat->Prop:=fun b=>∃k o,∃N:Nat×Nat,look k st=some o/\o.wr=true/\β k=some (b,N)
section base
variable {c c1:Ctx} {st st':aE} {D D':Nat->Prop} {β β':aS} {w w':World}
theorem bq.base (h:bq c st D β w) (k0:aS) (ro:Option Nat) (hk:∀k x,k0 k=some x->β k=some x):bq {c with w0:=w,Mw:=zQ st β,k0:=k0,ro:=ro} st D β w:=
 {obj:=h.obj,dw:=h.dw,inj:=h.inj,dom:=h.dom,keep:=hk,lt:=h.lt,os:=rfl,tape:=rfl,output:=rfl,size:=bp,block:=fun _ _ _=>rfl,fQ:=fun b hb=>⟨Nat.lt_of_lt_of_le (h.fQ b hb).1 h.size,fun⟨k,o,N,h1,h2,h3⟩=>(h.new k o b N h1 h2 h3).elim (fun h4=>Nat.not_lt.2 h4 (h.fQ b hb).1) (h.fQ b hb).2⟩,new:=fun k o b N h1 h2 h3=>.inr ⟨k,o,N,h1,h2,h3⟩}
theorem bq.back {k0:aS} {ro:Option Nat} (h0:bq c st D β w) (hk:∀k x,c.k0 k=some x->k0 k=some x) (h:bq {c with w0:=w,Mw:=zQ st β,k0:=k0,ro:=ro} st' D' β' w'):bq c st' D' β' w':=by
 have hnw:∀b,b<c.w0.heap.size->¬c.Mw b->¬zQ st β b:=fun b hb hm ⟨k,o,N,h1,h2,h3⟩=>(h0.new k o b N h1 h2 h3).elim (fun h4=>aa) hm
 exact {obj:=h.obj,dw:=h.dw,inj:=h.inj,dom:=h.dom,keep:=fun k x hx=>h.keep k x (hk k x hx),lt:=h.lt,os:=h.os.trans h0.os,tape:=h.tape.trans h0.tape,output:=h.output.trans h0.output,size:=Nat.le_trans h0.size h.size,block:=fun b hb hm=>(h.block b (Nat.lt_of_lt_of_le hb h0.size) (hnw b hb hm)).trans (h0.block b hb hm),fQ:=h0.fQ,new:=fun k o b N h1 h2 h3=>(h.new k o b N h1 h2 h3).elim (fun h4=>.inl (Nat.le_trans h0.size h4)) fun⟨k',o',N',g1,g2,g3⟩=>h0.new k' o' b N' g1 g2 g3}
theorem bq.hc {k0:aS} {ro:Option Nat} {c':Ctx} (hMf:c'.Mf=c.Mf) (h:bq {c with w0:=w,Mw:=zQ st β,k0:=k0,ro:=ro} st' D' β' w'):HC (aN c st β) w (aN c' st' β') w':=by
 intro b x ty fr hm hb
 have hlt:=vL hb
 refine⟨(h.block b hlt fun hw=>hm (.inr hw)).trans hb,?_⟩
 rintro(hf|⟨k,o,N,g1,g2,g3⟩)
 ·exact hm (.inl (hMf▸hf))
 ·rcases h.new k o b N g1 g2 g3 with g|g
  ·exact absurd hlt (Nat.not_lt.2 g)
  ·exact hm (.inr g)
end base
section rule
variable {P:Program} {c:Ctx} {nt:Nat} {s:aH} {Q:ak->aH->Prop}
end rule
end Go.Am
namespace Go.Am
open AV
def SO (c:Code) (p:List Nat):Array Oper:=match part c p with
 |.region _ ops _=>ops
 |_=>#[]
def Ar (c:Code) (p:List Nat):Nat:=match part c p with
 |.region i _ _=>i
 |_=>0
def acT:Oper:={dst:=none,op:=.move (.const undef),type:=0,pos:= "",after:=#[],guard:=none}
def eE (c:Code) (p:List Nat) (i:Nat):Oper:=match(SO c p).toList[i]? with
 |some o=>o
 |none=>acT
def iZ (o:Oper) (d:Tmp) (op:Op):Prop:=o.dst=some d/\o.op=op/\o.guard=none
structure BackCode (x:Code) (tS tE tI:TypeId):Prop where
 shape:x=.seq (.region (Ar x [0]) #[eE x [0] 0,eE x [0] 1,eE x [0] 2,eE x [0] 3] false) (.block 0 (.loop (.seq
  (.seq (.region (Ar x [1,0,0,0,0]) #[eE x [1,0,0,0,0] 0,eE x [1,0,0,0,0] 1] false) (.cond (.tmp 8) .skip (.exit 0)))
  (.seq (.block 1 (.seq (.region (Ar x [1,0,0,1,0,0,0]) #[eE x [1,0,0,1,0,0,0] 0,eE x [1,0,0,1,0,0,0] 1,eE x [1,0,0,1,0,0,0] 2,eE x [1,0,0,1,0,0,0] 3,eE x [1,0,0,1,0,0,0] 4,eE x [1,0,0,1,0,0,0] 5,eE x [1,0,0,1,0,0,0] 6,eE x [1,0,0,1,0,0,0] 7] false) (.cond (.tmp 18) .ret .skip)))
   (.region (Ar x [1,0,0,1,1]) #[eE x [1,0,0,1,1] 0,eE x [1,0,0,1,1] 1,eE x [1,0,0,1,1] 2] false)))))
 o0:iZ (eE x [0] 0) 4 (.load tS (.tmp 1))
 o1:iZ (eE x [0] 1) 5 (.call ⟨.builtin .len,#[.tmp 4],#[tS]⟩)
 o2:iZ (eE x [0] 2) 6 (.binOp .sub tI (.tmp 5) (.const (.int .i64 1)) tI)
 o3:iZ (eE x [0] 3) 3 (.assign (.tmp 6))
 p0:iZ (eE x [1,0,0,0,0] 0) 7 (.move (.tmp 3))
 p1:iZ (eE x [1,0,0,0,0] 1) 8 (.binOp .geq tI (.tmp 7) (.const (.int .i64 0)) tI)
 q0:iZ (eE x [1,0,0,1,0,0,0] 0) 11 (.move (.tmp 0))
 q1:iZ (eE x [1,0,0,1,0,0,0] 1) 12 (.move (.tmp 3))
 q2:iZ (eE x [1,0,0,1,0,0,0] 2) 13 (.load tS (.tmp 1))
 q3:iZ (eE x [1,0,0,1,0,0,0] 3) 14 (.move (.tmp 3))
 q4:iZ (eE x [1,0,0,1,0,0,0] 4) 15 (.indexAddr tS (.tmp 13) (.tmp 14))
 q5:iZ (eE x [1,0,0,1,0,0,0] 5) 16 (.load tE (.tmp 15))
 q6:∃ts,iZ (eE x [1,0,0,1,0,0,0] 6) 17 (.call ⟨.value (.tmp 11),#[.tmp 12,.tmp 16],ts⟩)
 q7:∃t,iZ (eE x [1,0,0,1,0,0,0] 7) 18 (.unOp .not t (.tmp 17))
 s0:iZ (eE x [1,0,0,1,1] 0) 9 (.move (.tmp 3))
 s1:iZ (eE x [1,0,0,1,1] 1) 10 (.binOp .sub tI (.tmp 9) (.const (.int .i64 1)) tI)
 s2:iZ (eE x [1,0,0,1,1] 2) 3 (.assign (.tmp 10))
section steps
variable {P:Program} {n:Nat} {ops:Array Oper} {Q:Exit->Act->World->Prop} {a:Act} {w:World} {rest:List Oper}
end steps
section funcs
variable {P:Program} {T:Types} (hT:dK P T)
end funcs
section rule
variable {P:Program} {c:Ctx} {nt:Nat} {s:aH} {Q:ak->aH->Prop} {T:Types} (hT:dK P T) {Γ:aV} (hΓ:bn P Γ) (hm:P.follows .mixedOrders=true)
end rule
end Go.Am
namespace Go.Am
open Go Go.ChangeShapes Go.WideShapes Go.ChangeAt Go.RowKit AV
inductive PK where
 |list
 |int (k:IntKind)
 |bool
def QV (P:Program):PK->TypeId->Prop
 |.list,t=>∃e,P.underlying t=some (.slice e)/\P.underlying e=some (.int .i64)/\P.cellsOf e=1
 |.int k,t=>P.underlying t=some (.int k)
 |.bool,t=>P.underlying t=some .bool
def yo (P:Program):List PK->List TypeId->Prop
 |[],[]=>True
 |k::ks,t::ts=>(QV P k t/\P.readableRec t=true/\t<P.types.size)/\yo P ks ts
 |_,_=>False
def Mc:PK->AV->Prop
 |.list,a=>∃(n:Nat) (z:Nat->Int),a=.aq 1 n (fun i=>.int .i64 (z i))
 |.int k,a=>∃n,a=.int k n
 |.bool,a=>∃b,a=.bool b
def I8:List PK->List AV->Prop
 |[],as=>as=[]
 |k::ks,as=>∃a l,as=a::l/\Mc k a/\I8 ks l
section
variable {P:Program} {H:Type} {enc:TypeId×Value->H} {W:World} {base:Nat}
theorem ab6 {k:PK} {t:TypeId} {v:Value} {d:DataW H} {p:List MemPlace} (hk:QV P k t) (h:DataW.Trod enc P W 0 (fun _=>true) true t v d p) (hv:Value.okWide P W .any base t v):∃a,Mc k a/\bh (fun _=>False) W br a v:=by
 cases k with
 |int k=>
  obtain⟨n,rfl⟩:=okWide_int hk hv
  exact⟨_,⟨n,rfl⟩,.cj (.int .nil) rfl⟩
 |bool=>
  obtain⟨b,rfl⟩:=okWide_bool hk hv
  exact⟨_,⟨b,rfl⟩,.cj (.bool .nil) rfl⟩
 |list=>
  obtain⟨e,h1,h2,h3⟩:=hk
  obtain⟨a0,len,cap,rfl⟩:=okWide_slice h1 hv
  obtain⟨fuel,hf⟩:=h
  have key:∀{z:Nat->Int},len<=cap->(len=0\/∃b o,a0=some ⟨b,o,none⟩/\∀i,i<len->W.cell? ⟨b,o+i,none⟩=some (.int .i64 (z i)))->bh (fun _=>False) W br (.aq 1 len (fun i=>.int .i64 (z i))) (.slice a0 len cap):=fun {z} hcap hr=>by
   refine .cj (.aq (cf:=fun i=>[.int .i64 (z i)]) ?_ aa hcap (fun _ _=>rfl) (fun _ _=>.int .nil) .nil) rfl
   rcases hr with hr|⟨b,o,rfl,hr⟩
   ·exact .inl hr
   ·refine .inr ⟨b,o,rfl,fun i hi=>?_⟩
    have hc:=hr i hi
    simp only[World.cell?]at hc
    split at hc
    ·rename_i cs ty fr hh
     simp only[Option.isSome_none,Bool.false_eq_true,if_false]at hc
     refine⟨cs,ty,fr,hh,id,fun j v hj=>?_⟩
     have hj0:j=0:=by have:=(List.getElem?_eq_some_iff.1 hj).1;simp at this;exact this
     subst hj0
     simp only[List.getElem?_cons_zero,au]at hj
     subst hj
     simpa using hc
    ·simp at hc
  rcases open_ints h1 h2 h3 hf with⟨hcs,hx⟩|⟨a,len',cap',zs,hcs,_,hl,hm,hz,hx,hcell,hwz⟩
  ·simp only[Value.cells,List.cons.injEq,Value.slice.injEq,and_true]at hcs
   obtain⟨rfl,rfl,rfl⟩:=hcs
   exact⟨_,⟨0,fun _=>0,rfl⟩,key (z:=fun _=>0) bp (.inl rfl)⟩
  ·simp only[Value.cells,List.cons.injEq,Value.slice.injEq,and_true]at hcs
   obtain⟨rfl,rfl,rfl⟩:=hcs
   simp only[if_true]at hz
   refine⟨_,⟨len,fun i=>zs.getD i 0,rfl⟩,key hl ?_⟩
   rcases Nat.eq_zero_or_pos len with h0|h0
   ·exact .inl h0
   ·obtain⟨b,o,m⟩:=a
    have h1:=hcell 0 aa
    have:m=none:=by
     cases m with
     |none=>rfl
     |some y=>exfalso;simp only[Addr.add,World.cell?]at h1;split at h1<;>simp at h1
    subst this
    exact .inr ⟨b,o,rfl,fun i hi=>by
     have h2:=hcell i aa
     rcases Nat.eq_zero_or_pos i with hi|hi
     ·subst hi;simpa [Addr.add]using h2
     ·simpa [Addr.add,Nat.pos_iff_ne_zero.1 hi]using h2⟩
theorem PJ:∀{ks:List PK} {ts:List TypeId} {vs:List Value} {ds:List (DataW H)} {p:List MemPlace},yo P ks ts->DataW.TrodAll enc P W 0 (fun _=>true) true ts vs ds p->(∀(j:Nat) t v,ts[j]?=some t->vs[j]?=some v->Value.okWide P W .any base t v)->
  ∃as,I8 ks as/\cq (fun _=>False) W br as vs
 |[],[],vs,ds,p,_,h,_=>by
  obtain⟨rfl,_,_⟩:=trodAll_nil h
  exact⟨[],rfl,trivial⟩
 |k::ks,t::ts,vs,ds,p,hk,h,hv=>by
  obtain⟨v,vs',d,ds',p1,q,rfl,rfl,rfl,hd,hrest⟩:=trodAll_cons h
  obtain⟨a,h1,h2⟩:=ab6 hk.1.1 hd (hv 0 t v rfl rfl)
  obtain⟨as,h3,h4⟩:=PJ hk.2 hrest fun j t v h1 h2=>hv (j+1) t v h1 h2
  exact⟨a::as,⟨a,as,rfl,h1,h3⟩,h2,h4⟩
 |[],_::_,_,_,_,h,_,_=>h.elim
 |_::_,[],_,_,_,h,_,_=>h.elim
theorem Lv {b:Nat} {sp:Nat->Bool} {held:Bool}:∀{ts:List TypeId} {vs:List Value} {ds:List (DataW H)} {p:List MemPlace},DataW.TrodAll enc P W b sp held ts vs ds p->ds.length=ts.length
 |[],vs,ds,p,h=>by
  obtain⟨_,rfl,_⟩:=trodAll_nil h
  rfl
 |t::ts,vs,ds,p,h=>by
  obtain⟨v,vs',d,ds',p1,q,rfl,rfl,rfl,hd,hrest⟩:=trodAll_cons h
  simp[Lv hrest]
theorem Mb (hl:laidOutB P=true) {W':World} (hb:Below W.heap.size W W'):∀{ks:List PK} {ts:List TypeId} {vs:List Value} {ds:List (DataW H)} {p:List MemPlace},yo P ks ts->DataW.TrodAll enc P W 0 (fun _=>true) true ts vs ds p->(∀x∈p,x.block<W.heap.size)->
  DataW.TrodAll enc P W' 0 (fun b=>decide (b<W.heap.size)) true ts vs ds p
 |[],[],vs,ds,p,_,h,_=>by
  obtain⟨rfl,rfl,rfl⟩:=trodAll_nil h
  exact trodAll_mk0
 |k::ks,t::ts,vs,ds,p,hk,h,hlt=>by
  obtain⟨v,vs',d,ds',p1,q,rfl,rfl,rfl,hd,hrest⟩:=trodAll_cons h
  exact⟨_,_,Below.trod hl hk.1.2.1 hk.1.2.2 hd hb fun x hx=>hlt x (List.mem_append_left _ hx),Mb hl hb hk.2 hrest fun x hx=>hlt x (List.mem_append_right _ hx),rfl⟩
 |[],_::_,_,_,_,h,_,_=>h.elim
 |_::_,[],_,_,_,h,_,_=>h.elim
theorem S7 (hl:laidOutB P=true) {f:FuncId} {fn:Func} (hf:P.funcs[f]?=some fn) (hb:fn.body.isNone=false) {ks:List PK} {ts:List TypeId} (hk:yo P ks ts) {args:Array Value} {ds:List (DataW H)} {p:List MemPlace}
  (hA:DataW.TrodAll enc P W 0 (fun _=>true) true ts args.toList ds p) (hv:∀(j:Nat) t v,ts[j]?=some t->args[j]?=some v->Value.okWide P W .any base t v) (hlt:∀x∈p,x.block<W.heap.size) (hF:∀as,I8 ks as->aD P f 0 as [] ⟨.bool true,[],[]⟩):
  Calls P f args W fun e W'=>e=.returned (.bool true)/\Below W.heap.size W W'/\DataW.TrodAll enc P W' 0 (fun b=>decide (b<W.heap.size)) true ts args.toList ds p:=by
 obtain⟨as,h1,h2⟩:=PJ hk hA fun j t v h1 h2=>hv j t v h1 (by simpa using h2)
 obtain⟨_,hF⟩:=hF as h1 trivial
 have hrel:bq ⟨fun _=>False,W,fun _=>False,br,none⟩ [] (fun _=>False) br W:=
  {obj:=fun k o h=>by simp[look]at h,dw:=fun k o h=>by simp[look]at h,inj:=fun k k' o o' b N N' h=>by simp[look]at h,dom:=fun k x h=>by simp[br]at h,keep:=fun k x h=>h,lt:=fun k b N h=>by simp[br]at h,os:=rfl,tape:=rfl,output:=rfl,size:=bp,block:=fun _ _ _=>rfl,fQ:=fun b h=>h.elim,new:=fun k o b N h=>by simp[look]at h}
 have hM:aN ⟨fun _=>False,W,fun _=>False,br,none⟩ [] br=fun _=>False:=by
  funext b
  simp[aN,look]
 have hinv:=hF ⟨fun _=>False,W,fun _=>False,br,none⟩ (fun _=>False) (fun _=>True) br W _ rfl (fun b h=>h.elim) hrel (fun k h=>h.elim) (fun k _ _=>⟨id,trivial⟩) (by rw[hM];exact h2)
 rcases hinv with⟨fn',g1,g2,g3,g4⟩|⟨x,g1,_⟩
 ·have g5:=g4
  rw[show args.toList.toArray=args from by simp]at g5
  refine g5.mono fun e W' ⟨x,he,hx⟩=>?_
  obtain⟨β',q1,q2,q3⟩:=hx
  have:=q3.bool
  subst this
  have hbl:Below W.heap.size W W':=⟨q1.os,q1.tape,q1.output,q1.size,fun k hk=>q1.block k hk id⟩
  exact⟨he,hbl,Mb hl hbl hk hA hlt⟩
 ·exfalso
  simp only[callFunc,Sem.run_bind,run_program,Result.andThen_ok,hf,hb,Bool.false_eq_true,if_false]at g1
  split at g1<;>simp at g1
end
end Go.Am
