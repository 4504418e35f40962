/- Parts of code; a piece of code inside a chain; loops. -/
import Derived.Test.YtfjlccdmhpdiiaaGreatZ1
import Derived.Below
import Derived.RangeFuncCalls
import Derived.ProofKit
import Derived.ChangeSlices
set_option linter.unusedVariables false
namespace Go.Am
def part:Code->List Nat->Code
 |c,[]=>c
 |.seq x _,0::p=>part x p
 |.seq _ y,_::p=>part y p
 |.cond _ x _,0::p=>part x p
 |.cond _ _ y,_::p=>part y p
 |.block _ x,_::p=>part x p
 |.loop x,_::p=>part x p
 |_,_=>.skip
def before:Code->List Nat->List Code
 |.seq x _,0::p=>before x p
 |.seq x y,_::p=>x::before y p
 |_,_=>[]
def behind:Code->List Nat->List Code
 |.seq x y,0::p=>behind x p++[y]
 |.seq _ y,_::p=>behind y p
 |_,_=>[]
def chain:Code->List Nat->Bool
 |_,[]=>true
 |.seq x _,0::p=>chain x p
 |.seq _ y,_::p=>chain y p
 |_,_=>false
def aF (fn:Func):Code:=match fn.body with
 |some x=>x
 |none=>.skip
def eo (k:aK->Prop) (Q:aq->aK->Prop):aq->aK->Prop
 |.normal,s=>k s
 |e,s=>Q e s
def aG (P:Program) (c:Ctx) (nt:Nat):List Code->aK->(aq->aK->Prop)->Prop
 |[],s,Q=>Q .normal s
 |x::l,s,Q=>ax P c nt x s (eo (fun s'=>aG P c nt l s' Q) Q)
section rules
variable {P:Program} {c:Ctx} {nt:Nat} {s:aK} {Q:aq->aK->Prop}
theorem ax.NM {x y:Code} (h:ax P c nt x s (eo (fun s'=>ax P c nt y s' Q) Q)):ax P c nt (.seq x y) s Q:=
 .seq (h.mono fun e s' h=>by cases e<;>exact h)
theorem aG.mono {Q Q':aq->aK->Prop} (hq:∀e s',Q e s'->Q' e s'):∀{l:List Code} {s:aK},aG P c nt l s Q->aG P c nt l s Q'
 |[],_,h=>hq _ _ h
 |x::l,s,h=>ax.mono h fun e s' h=>by
  cases e with
  |normal=>exact aG.mono hq (l:=l) h
  |exit i=>exact hq _ _ h
  |ret=>exact hq _ _ h
theorem aG.append {Q:aq->aK->Prop}:∀{a b:List Code} {s:aK},aG P c nt (a++b) s Q->aG P c nt a s (eo (fun s'=>aG P c nt b s' Q) Q)
 |[],b,s,h=>h
 |x::a,b,s,h=>ax.mono h fun e s' h=>by
  cases e with
  |normal=>exact aG.append (a:=a) h
  |exit i=>exact h
  |ret=>exact h
theorem ax.hole:∀(p:List Nat) {x:Code} {s:aK} {Q:aq->aK->Prop},chain x p=true->
  aG P c nt (before x p) s (eo (fun s'=>ax P c nt (part x p) s' (eo (fun s''=>aG P c nt (behind x p) s'' Q) Q)) Q)->ax P c nt x s Q
 |[],x,s,Q,_,h=>by
  have hb:before x []=[]:=by cases x<;>rfl
  have hh:behind x []=[]:=by cases x<;>rfl
  have hp:part x []=x:=by cases x<;>rfl
  rw[hb,hh,hp]at h
  exact ax.mono h fun e s' h=>by cases e<;>exact h
 |0::p,.seq x y,s,Q,hc,h=>by
  refine .NM (ax.hole p (x:=x) hc ?_)
  refine aG.mono ?_ h
  intro e s' h1
  cases e with
  |normal=>
   refine ax.mono h1 ?_
   intro e s'' h2
   cases e with
   |normal=>
    refine aG.mono ?_ (aG.append h2)
    intro e s3 h3
    cases e with
    |normal=>exact ax.mono h3 fun e s' h=>by cases e<;>exact h
    |exit i=>exact h3
    |ret=>exact h3
   |exit i=>exact h2
   |ret=>exact h2
  |exit i=>exact h1
  |ret=>exact h1
 |(n+1)::p,.seq x y,s,Q,hc,h=>by
  refine .NM (ax.mono h ?_)
  intro e s' h1
  cases e with
  |normal=>exact ax.hole p (x:=y) hc h1
  |exit i=>exact h1
  |ret=>exact h1
 |_::_,.cond _ _ _,_,_,hc,_=>by simp[chain]at hc
 |_::_,.block _ _,_,_,hc,_=>by simp[chain]at hc
 |_::_,.loop _,_,_,hc,_=>by simp[chain]at hc
 |_::_,.region _ _ _,_,_,hc,_=>by simp[chain]at hc
 |_::_,.skip,_,_,hc,_=>by simp[chain]at hc
 |_::_,.label _,_,_,hc,_=>by simp[chain]at hc
 |_::_,.exit _,_,_,hc,_=>by simp[chain]at hc
 |_::_,.ret,_,_,hc,_=>by simp[chain]at hc
 |_::_,.scope _,_,_,hc,_=>by simp[chain]at hc
 |_::_,.goto _,_,_,hc,_=>by simp[chain]at hc
 |_::_,.refuse _,_,_,hc,_=>by simp[chain]at hc
 |_::_,.rangeFunc _ _ _ _,_,_,hc,_=>by simp[chain]at hc
def inBlock (i:Nat) (Q:aq->aK->Prop):aq->aK->Prop
 |.exit j,s=>if j=i then Q .normal s else Q (.exit j) s
 |e,s=>Q e s
theorem ax.M8 {i:Nat} {x:Code} (h:ax P c nt x s (inBlock i Q)):ax P c nt (.block i x) s Q:=
 .block (h.mono fun e s' h=>by cases e<;>exact h)
theorem ax.jq {x y:Code} {i:Nat} (hx:x=.block i (.loop y)) {α:Type} (S:α->aK) (I:α->Prop) (μ:α->Nat) (j:α) (hs:∃ρ,Le c ρ s (S j)) (h0:I j)
  (round:∀j,I j->ax P c nt y (S j) (eo (fun s'=>∃k,(∃ρ,Le c ρ s' (S k))/\I k/\μ k<μ j) (inBlock i Q))):ax P c nt x s Q:=by
 subst hx
 exact .M8 (.aat S I μ j hs h0 fun j hj=>(round j hj).mono fun e s' h=>by cases e<;>exact h)
variable {T:Types} (hT:fu P T) {Γ:aX} (hΓ:bq P Γ) (hm:P.follows .mixedOrders=true)
def qY (T:Types) (Γ:aX) (forks:List Nat) (n:Nat):List Code->aK->Option (ag aK)
 |[],s=>some (.leaf .normal s)
 |x::l,s=>match eV T Γ forks n x s with
  |some t=>t.bind fun e s'=>match e with
   |.normal=>qY T Γ forks n l s'
   |.exit i=>some (.leaf (.exit i) s')
   |.ret=>some (.leaf .ret s')
  |none=>none
include hT hΓ hm in
theorem y7 {forks:List Nat} {n:Nat}:∀{l:List Code} {s:aK} {t:ag aK},(l.all fun x=>cm nt x)=true->qY T Γ forks n l s=some t->t.all Q->aG P c nt l s Q
 |[],s,t,_,h,ht=>by
  simp only[qY,ay]at h
  subst h
  exact ht
 |x::l,s,t,hd,h,ht=>by
  simp only[List.all_cons,Bool.and_eq_true]at hd
  simp only[qY]at h
  cases hx:eV T Γ forks n x s with
  |none=>rw[hx]at h;simp at h
  |some u=>
   rw[hx]at h
   refine lE hT hΓ hm n hd.1 hx (ag.gh ?_ (ag.kr h ht))
   rintro e s' ⟨v,h1,h2⟩
   cases e with
   |normal=>exact y7 hd.2 h1 h2
   |exit i=>simp only[ay]at h1;subst h1;exact h2
   |ret=>simp only[ay]at h1;subst h1;exact h2
def aH (T:Types) (Γ:aX) (forks:List Nat) (n:Nat) (ls:List Nat) (l:List Code) (s:aK):Option (ag (List AV×aC)):=
 match qY T Γ forks n l s with
 |some t=>t.bind (JO ls)
 |none=>none
include hT hΓ hm in
theorem aG.bE {forks:List Nat} (n:Nat) (ls:List Nat) {l:List Code} {s:aK} {t:ag (List AV×aC)} (hc:aH T Γ forks n ls l s=some t) (hd:(l.all fun x=>cm nt x)=true)
  (h:t.all fun e v=>∀s',bA ls s'=some v->Q e s'):aG P c nt l s Q:=by
 unfold aH at hc
 split at hc
 ·rename_i u hx
  refine y7 hT hΓ hm hd hx (ag.gh ?_ (ag.kr hc h))
  rintro e s' ⟨v,h1,h2⟩
  unfold JO at h1
  cases hv:bA ls s' with
  |none=>rw[hv]at h1;simp at h1
  |some z=>
   rw[hv]at h1
   simp only[ay]at h1
   subst h1
   exact h2 s' hv
 ·simp at hc
include hT hΓ hm in
theorem ax.bE {x:Code} {forks:List Nat} (n:Nat) (ls:List Nat) {t:ag (List AV×aC)} (hc:aH T Γ forks n ls [x] s=some t) (hd:cm nt x=true)
  (h:t.all fun e v=>∀s',bA ls s'=some v->Q e s'):ax P c nt x s Q:=by
 have:=aG.bE (P:=P) (c:=c) (nt:=nt) (l:=[x]) (Q:=Q) hT hΓ hm n ls hc (by simp[hd]) h
 exact ax.mono this fun e s' h=>by cases e<;>exact h
def cy (T:Types) (Γ:aX) (forks:List Nat) (n:Nat) (fn:Func) (l:List Code) (s:aK):Option (ag (List AV)):=
 match qY T Γ forks n l s with
 |some t=>t.bind (kH T fn)
 |none=>none
def Fin (T:Types) (fn:Func) (res:AV) (e:aq) (s:aK):Prop:=(e=.normal\/e=.ret)/\Ends T fn res s
theorem CK {fn:Func} {e:aq} {s':aK} {v:ag (List AV)} {res:AV} (h1:kH T fn e s'=some v) (h2:v.all fun _ us=>fK us res):Fin T fn res e s':=by
 unfold kH at h1
 have key:∀{e':aq},(match iW T s' fn.results.toList with
   |some (vs,q)=>match fA (kY (pick s'.store (AV.bH vs))) vs with
    |some us=>some (ag.need q (.leaf e' us))
    |none=>none
   |none=>none)=some v->Ends T fn res s':=by
  intro e' h1
  cases hr:iW T s' fn.results.toList with
  |none=>rw[hr]at h1;simp at h1
  |some p=>
   obtain⟨vs,q⟩:=p
   rw[hr]at h1
   simp only at h1
   cases hf:fA (kY (pick s'.store (AV.bH vs))) vs with
   |none=>rw[hf]at h1;simp at h1
   |some us=>
    rw[hf]at h1
    simp only[ay]at h1
    subst h1
    obtain⟨g1,g2⟩:=ag.An.1 h2
    exact⟨vs,q,us,hr,g1,hf,g2⟩
 cases e with
 |normal=>exact⟨.inl rfl,key h1⟩
 |ret=>exact⟨.inr rfl,key h1⟩
 |exit i=>simp at h1
include hT hΓ hm in
theorem aG.fin {fn:Func} {forks:List Nat} (n:Nat) {l:List Code} {s:aK} {t:ag (List AV)} (hc:cy T Γ forks n fn l s=some t) (hd:(l.all fun x=>cm nt x)=true) {res:AV}
  (h:t.all fun _ us=>fK us res):aG P c nt l s (Fin T fn res):=by
 unfold cy at hc
 split at hc
 ·rename_i u hx
  refine y7 hT hΓ hm hd hx (ag.gh ?_ (ag.kr hc h))
  rintro e s' ⟨v,h1,h2⟩
  exact CK h1 h2
 ·simp at hc
theorem aG.weak {l:List Code} {s2:aK} (hl:l.isEmpty=false) (hle:∃ρ,Le c ρ s s2) (h:aG P c nt l s2 Q):aG P c nt l s Q:=by
 obtain⟨ρ,hle⟩:=hle
 cases l with
 |nil=>simp at hl
 |cons x l=>exact ax.weak hle h
theorem ax.ja {x:Code} {s2:aK} (hle:∃ρ,Le c ρ s s2) (h:ax P c nt x s2 Q):ax P c nt x s Q:=by
 obtain⟨ρ,hle⟩:=hle
 exact ax.weak hle h
end rules
theorem Tc {P:Program} {f:FuncId} {fn:Func} (h:P.funcs[f]?=some fn) (hb:fn.body.isSome=true) (hn:(fn.name== "runtime.NumGoroutine")=false) (hd:cm fn.ntmps (aF fn)=true):jI P f fn (aF fn):=by
 refine⟨h,?_,hn,hd⟩
 unfold aF
 cases hbd:fn.body with
 |none=>rw[hbd]at hb;simp at hb
 |some x=>rfl
end Go.Am
namespace Go.Am
def val:Nat->(Nat->Nat)->Nat
 |0,_=>0
 |n+1,z=>val n z+z n*2^(32*n)
theorem gq {z:Nat->Nat}:∀{n:Nat},(∀i,i<n->z i<2^32)->val n z<2^(32*n)
 |0,_=>by simp[val]
 |n+1,h=>by
  have ih:=gq (z:=z) (n:=n) fun i hi=>h i aa
  have h1:=h n aa
  have:z n*2^(32*n)+2^(32*n)<=2^32*2^(32*n):=by
   rw[<-Nat.succ_mul];exact Nat.mul_le_mul_right _ h1
  have e:2^(32*(n+1))=2^32*2^(32*n):=by rw[<-Nat.pow_add];congr 1;omega
  rw[e,val];omega
theorem val_congr {z y:Nat->Nat}:∀{n:Nat},(∀i,i<n->z i=y i)->val n z=val n y
 |0,_=>rfl
 |n+1,h=>by rw[val,val,val_congr fun i hi=>h i aa,h n aa]
theorem nR {z:Nat->Nat} {k:Nat}:∀{n:Nat},k<=n->(∀i,k<=i->i<n->z i=0)->val n z=val k z
 |0,h,_=>by
    have:k=0:=aa
    subst this;rfl
 |n+1,h,hz=>by
  by_cases hk:k=n+1
  ·subst hk;rfl
  ·rw[val,nR (n:=n) aa fun i h1 h2=>hz i h1 aa,hz n aa aa]
   simp
theorem pZ {z:Nat->Nat}:∀{n i:Nat},(∀j,j<n->z j<2^32)->i<n->aD (val n z) i=z i
 |0,i,_,hi=>aa
 |n+1,i,h,hi=>by
  unfold aD
  rw[val]
  by_cases he:i=n
  ·subst he
   have:=gq (z:=z) (n:=i) fun j hj=>h j aa
   rw[Nat.add_mul_div_right _ _ (Nat.two_pow_pos _),Nat.div_eq_of_lt this,Nat.zero_add]
   exact Nat.mod_eq_of_lt (h i aa)
  ·have ih:=pZ (z:=z) (n:=n) (i:=i) (fun j hj=>h j aa) aa
   unfold aD at ih
   have e:2^(32*n)=2^32*2^(32*(n-i-1))*2^(32*i):=by
    rw[<-Nat.pow_add,<-Nat.pow_add];congr 1;omega
   rw[e,<-Nat.mul_assoc,Nat.add_mul_div_right _ _ (Nat.two_pow_pos _),<-ih]
   rw[show z n*(2^32*2^(32*(n-i-1)))=2^32*(z n*2^(32*(n-i-1))) by
    rw[<-Nat.mul_assoc,Nat.mul_comm (z n),Nat.mul_assoc]]
   rw[Nat.add_mul_mod_self_left]
theorem dY {N i:Nat}:aD N i<2^32:=Nat.mod_lt _ (by decide)
theorem OA {N:Nat}:∀{n:Nat},val n (aD N)=N%2^(32*n)
 |0=>by simp[val,Nat.mod_one]
 |n+1=>by
  rw[val,OA,aD]
  have e:2^(32*(n+1))=2^(32*n)*2^32:=by rw[<-Nat.pow_add];congr 1
  rw[e,Nat.mod_mul,Nat.mul_comm (2^(32*n))]
theorem qi {N n:Nat} (h:N<2^(32*n)):val n (aD N)=N:=by rw[OA,Nat.mod_eq_of_lt h]
theorem dF {N n:Nat}:nl N<=n↔N<2^(32*n):=by
 unfold nl
 by_cases h:N=0
 ·subst h;simp[Nat.two_pow_pos]
 ·rw[if_neg h]
  rw[<-Nat.log2_lt h]
  omega
theorem oD {N:Nat}:N<2^(32*nl N):=dF.1 bz
theorem gI {N:Nat}:val (nl N) (aD N)=N:=qi oD
theorem aeU {z:Nat->Nat} {n:Nat} (h0:0<n) (h:z (n-1)≠0):2^(32*(n-1))<=val n z:=by
 obtain⟨m,rfl⟩:∃m,n=m+1:=⟨n-1,aa⟩
 rw[val]
 simp only[Nat.add_sub_cancel]at h ⊢
 have:1*2^(32*m)<=z m*2^(32*m):=Nat.mul_le_mul_right _ aa
 omega
theorem zS {z:Nat->Nat} {n:Nat} (hz:∀i,i<n->z i<2^32) (h:n=0\/z (n-1)≠0):nl (val n z)=n:=by
 rcases Nat.eq_zero_or_pos n with rfl|h0
 ·simp[val,nl]
 ·have h1:nl (val n z)<=n:=dF.2 (gq hz)
  have h2:¬nl (val n z)<=n-1:=by
   rw[dF]
   have:=aeU h0 (h.resolve_left aa)
   omega
  omega
theorem Bo {N:Nat} (h:N≠0):aD N (nl N-1)≠0:=by
 intro h0
 have hn:0<nl N:=by unfold nl;rw[if_neg h];omega
 have h1:val (nl N) (aD N)=val (nl N-1) (aD N):=nR aa fun i h1 h2=>by
  have:i=nl N-1:=aa
  rw[this,h0]
 rw[gI]at h1
 have h3:N<2^(32*(nl N-1)):=by
  exact Nat.lt_of_le_of_lt (Nat.le_of_eq h1) (gq (z:=aD N) (n:=nl N-1) fun i _=>dY)
 have h2:nl N<=nl N-1:=dF.2 h3
 omega
theorem g9 {N:Nat}:0<nl N↔N≠0:=by
 unfold nl
 split<;>simp_all
theorem iI {a b:Nat} (h:a<=b):nl a<=nl b:=dF.2 (Nat.lt_of_le_of_lt h oD)
theorem wrap_i64 {x:Int} (h1:-2^63<=x) (h2:x<2^63):IntKind.i64.wrap x=x:=by
 simp[IntKind.wrap,IntKind.bits,IntKind.signed];omega
theorem cr {x:Int} (h1:0<=x) (h2:x<2^64):IntKind.u64.wrap x=x:=by
 simp[IntKind.wrap,IntKind.bits,IntKind.signed];omega
theorem pA {x:Int}:IntKind.u64.wrap x=x%2^64:=by
 simp[IntKind.wrap,IntKind.bits,IntKind.signed]
theorem mI {x:Int}:IntKind.u32.wrap x=x%2^32:=by
 simp[IntKind.wrap,IntKind.bits,IntKind.signed]
theorem wrap_u32 {x:Int} (h1:0<=x) (h2:x<2^32):IntKind.u32.wrap x=x:=by
 rw[mI];omega
theorem xE {x:Nat}:IntKind.u64.wrap (x:Int)=(x%2^64:Nat):=by
 rw[pA];omega
theorem kE {x:Nat}:IntKind.u32.wrap (x:Int)=(x%2^32:Nat):=by
 rw[mI];omega
theorem vO {a b:Nat} (ha:a<2^64) (hb:b<2^64):
  IntKind.u64.wrap ((BitVec.ofInt IntKind.u64.bits (a:Int)|||BitVec.ofInt IntKind.u64.bits (b:Int)).toNat:Int)=((a|||b:Nat):Int):=by
 have e:(BitVec.ofInt IntKind.u64.bits (a:Int)|||BitVec.ofInt IntKind.u64.bits (b:Int)).toNat=a|||b:=by
  rw[BitVec.toNat_or,BitVec.ofInt_natCast,BitVec.ofInt_natCast,BitVec.toNat_ofNat,BitVec.toNat_ofNat]
  rw[show IntKind.u64.bits=64 from rfl,Nat.mod_eq_of_lt ha,Nat.mod_eq_of_lt hb]
 rw[e]
 have:a|||b<2^64:=Nat.or_lt_two_pow ha hb
 exact cr aa aa
theorem QS {a b:Nat} (ha:a<2^64) (hb:b<2^64):
  IntKind.u64.wrap ((BitVec.ofInt IntKind.u64.bits (a:Int)&&&BitVec.ofInt IntKind.u64.bits (b:Int)).toNat:Int)=((a&&&b:Nat):Int):=by
 have e:(BitVec.ofInt IntKind.u64.bits (a:Int)&&&BitVec.ofInt IntKind.u64.bits (b:Int)).toNat=a&&&b:=by
  rw[BitVec.toNat_and,BitVec.ofInt_natCast,BitVec.ofInt_natCast,BitVec.toNat_ofNat,BitVec.toNat_ofNat]
  rw[show IntKind.u64.bits=64 from rfl,Nat.mod_eq_of_lt ha,Nat.mod_eq_of_lt hb]
 rw[e]
 have:a&&&b<2^64:=Nat.and_lt_two_pow a hb
 exact cr aa aa
theorem r8 {a b i:Nat} (h:b<2^i):a*2^i|||b=a*2^i+b:=by
 rw[<-Nat.shiftLeft_eq,<-Nat.shiftLeft_add_eq_or_of_lt h]
theorem mq {x:Int}:x.fdiv (2^min (Int.toNat 32) IntKind.u64.bits)=x/4294967296:=by
 have:min (Int.toNat 32) IntKind.u64.bits=32:=rfl
 rw[this,Int.fdiv_eq_ediv_of_nonneg _ (by decide)]
 rfl
theorem CY {x:Int}:x.fdiv (2^min (Int.toNat 63) IntKind.u64.bits)=x/9223372036854775808:=by
 have:min (Int.toNat 63) IntKind.u64.bits=63:=rfl
 rw[this,Int.fdiv_eq_ediv_of_nonneg _ (by decide)]
 rfl
theorem wH {x:Int}:x*2^min (Int.toNat 32) IntKind.u64.bits=x*4294967296:=by
 have:min (Int.toNat 32) IntKind.u64.bits=32:=rfl
 rw[this];rfl
theorem EX {B c z y v t s:Nat} (hs:s=c+z+y) (h:v+c*B=t):v+s%4294967296*B+s/4294967296*(4294967296*B)=t+z*B+y*B:=by
 have h1:=Nat.div_add_mod s 4294967296
 generalize s/4294967296=q at*
 generalize s%4294967296=r at*
 subst h1 h
 have:c*B+z*B+y*B=(4294967296*q+r)*B:=by rw[<-Nat.add_mul,<-Nat.add_mul,hs]
 grind
theorem iS {i:Nat}:2^(32*(i+1))=4294967296*2^(32*i):=by
 rw[show 32*(i+1)=32+32*i by omega,Nat.pow_add]
open AV
def numOf (v:AV):Nat:=match v with
 |.int _ z=>z.toNat
 |_=>0
def eG (n:Nat) (f:Nat->AV):Prop:=∀i,i<n->∃z:Nat,z<2^32/\f i=.int .u32 z
theorem FA {z:Nat->Nat} {i:Nat}:numOf (aB z i)=z i:=by simp[numOf,aB]
theorem kq {n:Nat} {z:Nat->Nat}:(val n fun i=>numOf (aB z i))=val n z:=val_congr fun _ _=>FA
theorem gV {n:Nat} {z:Nat->Nat} (h:∀i,i<n->z i<2^32):eG n (aB z):=fun i hi=>⟨z i,h i hi,rfl⟩
def tQ:AV->Option (Nat×Nat×List Prop)
 |.mag N=>some (N,nl N,[])
 |.nil=>some (0,0,[])
 |.ak es n f=>if es==1 then some (val n fun i=>numOf (f i),n,[eG n f])else none
 |_=>none
theorem zh {a:AV} {N n:Nat} {q:List Prop} (h:tQ a=some (N,n,q)) (hq:az q):∃z:Nat->Nat,(∀i,i<n->z i<2^32)/\val n z=N/\bh a (.ak 1 n (aB z)):=by
 cases a<;>simp only[tQ,reduceCtorEq,ay,Prod.mk.injEq]at h
 case mag M=>
  obtain⟨rfl,rfl,rfl⟩:=h
  exact⟨aD M,fun i _=>dY,gI,Ir rfl fun i _=>rfl⟩
 case nil=>
  obtain⟨rfl,rfl,rfl⟩:=h
  exact⟨fun _=>0,fun i hi=>aa,rfl,iJ aa⟩
 case ak es m f=>
  split at h
  ·rename_i he
   simp only[ay,Prod.mk.injEq]at h
   obtain⟨rfl,rfl,rfl⟩:=h
   have hq:eG m f:=hq
   have he:es=1:=by simpa using he
   subst he
   refine⟨fun i=>numOf (f i),fun i hi=>?_,rfl,tu rfl fun i hi=>?_⟩
   ·obtain⟨z,h1,h2⟩:=hq i hi
    simp only[h2,numOf];omega
   ·obtain⟨z,h1,h2⟩:=hq i hi
    simp[h2,numOf,aB]
  ·simp at h
def l7 (g:Nat->Nat->dI):List AV->Option dI
 |[a]=>match tQ a with
  |some (N,n,q)=>some ⟨(g N n).res,[],q++(g N n).iV⟩
  |none=>none
 |_=>none
def iU (g:Nat->Nat->Nat->Nat->dI):List AV->Option dI
 |[a,b]=>match tQ a,tQ b with
  |some (A,n,p),some (B,m,q)=>some ⟨(g A n B m).res,[],p++(q++(g A n B m).iV)⟩
  |_,_=>none
 |_=>none
def BB (g:Nat->Nat->Int->dI):List AV->Option dI
 |[a,.int .u32 k]=>match tQ a with
  |some (N,n,q)=>some ⟨(g N n k).res,[],q++(g N n k).iV⟩
  |none=>none
 |_=>none
abbrev aJ (v:AV) (l:List Prop):dI:=⟨v,[],l⟩
section oks
variable {P:Program} {f:FuncId}
theorem u9 {g:Nat->Nat->dI} (h:∀z n K,(∀i,i<n->z i<2^32)->(g (val n z) n).need->aS P f K [.ak 1 n (aB z)] [] (aJ (g (val n z) n).res [])):
  ∀K args r,bH args=[]->l7 g args=some r->r.post=[]->aS P f K args [] r:=by
 intro K args r hk hs _ need
 match args,hs with
 |[a],hs=>
  simp only[l7]at hs
  split at hs
  ·rename_i N n q hn
   simp only[ay]at hs
   subst hs
   obtain⟨n1,n2⟩:=fD.1 need
   obtain⟨z,hz,rfl,hle⟩:=zh hn n1
   exact iD (h z n K hz n2) hk ⟨hle,trivial⟩ [] trivial
  ·simp at hs
theorem aeP {g:Nat->Nat->Int->dI} (h:∀z n i K,(∀i,i<n->z i<2^32)->(g (val n z) n i).need->aS P f K [.ak 1 n (aB z),.int .u32 i] [] (aJ (g (val n z) n i).res [])):
  ∀K args r,bH args=[]->BB g args=some r->r.post=[]->aS P f K args [] r:=by
 intro K args r hk hs _ need
 unfold BB at hs
 split at hs
 ·rename_i a i
  split at hs
  ·rename_i N n q hn
   simp only[ay]at hs
   subst hs
   obtain⟨n1,n2⟩:=fD.1 need
   obtain⟨z,hz,rfl,hle⟩:=zh hn n1
   exact iD (h z n i K hz n2) hk ⟨hle,.refl _,trivial⟩ [] trivial
  ·simp at hs
 ·simp at hs
theorem vX {g:Nat->Nat->Nat->Nat->dI} (h:∀z n y m K,(∀i,i<n->z i<2^32)->(∀i,i<m->y i<2^32)->(g (val n z) n (val m y) m).need->
   aS P f K [.ak 1 n (aB z),.ak 1 m (aB y)] [] (aJ (g (val n z) n (val m y) m).res [])):
  ∀K args r,bH args=[]->iU g args=some r->r.post=[]->aS P f K args [] r:=by
 intro K args r hk hs _ need
 match args,hs with
 |[a,b],hs=>
  simp only[iU]at hs
  split at hs
  ·rename_i N n q M m p hn hm
   simp only[ay]at hs
   subst hs
   obtain⟨n1,n4⟩:=fD.1 need
   obtain⟨n2,n3⟩:=fD.1 n4
   obtain⟨z,hz,rfl,hle⟩:=zh hn n1
   obtain⟨y,hy,rfl,hle2⟩:=zh hm n2
   exact iD (h z n y m K hz hy n3) hk ⟨hle,hle2,trivial⟩ [] trivial
  ·simp at hs
theorem bB {P:Program}:bq P []:=fun f s h=>by simp[look]at h
theorem aI {f:FuncId} {s:Spec} {Γ:aX} (h:∀K args pre r,s K args pre=some r->aS P f K args pre r) (hΓ:bq P Γ):bq P ((f,s)::Γ):=by
 intro f' s' hl
 simp only[look]at hl
 split at hl
 ·rename_i he
  have:f=f':=by simpa using he
  subst this
  simp only[ay]at hl
  subst hl
  exact h
 ·exact hΓ f' s' hl
end oks
def cZ (a b:Nat):Int:=if a<b then-1 else if b<a then 1 else 0
def bN (N:Nat):Nat:=if N=0 then 0 else N.log2+1
end Go.Am
namespace Go.Am
open AV
def mQ (sl:List (Nat×AV)):List ResultVar->Option (List AV)
 |[]=>some []
 |.tmp t::l=>match look t sl,mQ sl l with
  |some v,some m=>if v.isTuple then none else some (v::m)
  |_,_=>none
 |_=>none
def Ed (fn:Func) (sl:List (Nat×AV)):Option (List AV):=
 match mQ sl fn.results.toList with
 |some us=>match bH us with
  |[]=>fA [] us
  |_=>none
 |none=>none
theorem Hg {s:aK} {t:Nat} {v:AV} (hv:v.isTuple=false):∀{ls:List Nat},look t (aA ls (lS s ls))=some v->look t s.cQ=some v
 |[],h=>by simp[aA,look]at h
 |x::ls,h=>by
  simp only[lS,aA,look]at h
  split at h
  ·rename_i he
   have:x=t:=by simpa using he
   subst this
   simp only[ay]at h
   subst h
   exact OB hv
  ·exact Hg hv h
theorem Hh {T:Types} {s:aK} {ls:List Nat}:∀{l:List ResultVar} {us:List AV},mQ (aA ls (lS s ls)) l=some us->iW T s l=some (us,[])
 |[],us,h=>by simp only[mQ,ay]at h;subst h;rfl
 |.tmp t::l,us,h=>by
  simp only[mQ]at h
  split at h
  ·rename_i v m hv hm
   split at h
   ·simp at h
   ·rename_i ht
    simp only[ay]at h
    subst h
    simp only[iW,xw,Hg (by simpa using ht) hv,Hh hm]
    simp[ht]
  ·simp at h
 |.cell _ _::_,us,h=>by simp[mQ]at h
theorem gX {T:Types} {fn:Func} {ls:List Nat} {vs us:List AV} {os:aC} {e:aq} {s':aK} {res:AV} (he:e=.normal\/e=.ret) (hv:bA ls s'=some (vs,os)) (hr:Ed fn (aA ls vs)=some us) (hres:fK us res):Fin T fn res e s':=by
 unfold bA at hv
 simp only[ay,Prod.mk.injEq]at hv
 obtain⟨rfl,_⟩:=hv
 unfold Ed at hr
 split at hr
 ·rename_i rs hrs
  split at hr
  ·rename_i hk
   refine⟨he,rs,[],us,Hh hrs,trivial,?_,hres⟩
   rw[hk];exact hr
  ·simp at hr
 ·simp at hr
theorem Wu {P:Program} {f:FuncId} {K es n:Nat} {g:Nat->AV} {l:List AV} {r:dI} (h:∀b,(b=true->n=0)->aS P f K (.eR b es n g::l) [] r):aS P f K (.ak es n g::l) [] r:=by
 intro need
 refine⟨((h false fun h=>by simp at h) need).1,fun c D D' β w vs hw0 hMw hrel hD hK hv=>?_⟩
 match vs,hv with
 |x::xs,hv=>
  obtain⟨⟨cs,h1,h2⟩,h3⟩:=hv
  have:∃b,(b=true->n=0)/\bw (aO c [] β) w β (.eR b es n g) x:=by
   cases h1 with
   |ak g1 g2 g3 g4 g5 g6=>
    rename_i base cap cs' cf
    cases g6
    refine⟨base.isNone,fun hb=>?_,_,.eR rfl g1 g2 g3 g4 g5 .nil,h2⟩
    rcases g1 with g1|⟨b,o,rfl,_⟩
    ·exact g1
    ·simp at hb
  obtain⟨b,hb0,hb⟩:=this
  exact((h b hb0) need).2 c D D' β w (x::xs) hw0 hMw hrel hD hK ⟨hb,h3⟩
theorem HJ {z y:Nat->Nat} {k:Nat}:∀{n:Nat},k<n->(∀j,k<j->j<n->z j=y j)->z k<y k->(∀i,i<n->z i<2^32)->val n z<val n y
 |0,h,_,_,_=>aa
 |n+1,h,he,hk,hz=>by
  rw[val,val]
  by_cases hn:k=n
  ·subst hn
   have h1:=gq (z:=z) (n:=k) fun i hi=>hz i aa
   have h2:(z k+1)*2^(32*k)<=y k*2^(32*k):=Nat.mul_le_mul_right _ hk
   rw[Nat.add_mul,Nat.one_mul]at h2
   omega
  ·have:=HJ (n:=n) aa (fun j h1 h2=>he j h1 aa) hk fun i hi=>hz i aa
   rw[he n aa aa]
   omega
theorem EK {A B:Nat} (hn:nl A=nl B) (h:∀i,i<nl A->aD A i=aD B i):A=B:=by
 rw[<-gI (N:=A),<-gI (N:=B),<-hn]
 exact val_congr h
theorem B7 {A B k:Nat} (hn:nl A=nl B) (hk:k<nl A) (h:∀j,k<j->j<nl A->aD A j=aD B j) (hlt:aD A k<aD B k):A<B:=by
 have:=HJ (z:=aD A) (y:=aD B) hk h hlt fun i _=>dY
 rw[gI,hn,gI]at this
 exact this
theorem Bu {A B:Nat} (h:nl A<nl B):A<B:=by
 rcases Nat.lt_or_ge A B with h1|h1
 ·exact h1
 ·have:=iI h1;omega
theorem gi {ρ:Nat->Option Nat} {r w:Bool} {n m:Nat} {f:Nat->AV} {o:Nat->Nat} (hn:m=n) (h:∀j,j<n->f j=aB o j):dK ρ ⟨r,w,1,n,f⟩ ⟨r,w,1,m,aB o⟩:=
 jR hn fun j hj=>by rw[h j hj];exact gy rfl
def cE (o:Nat->Nat) (i x:Nat):Nat->Nat:=fun j=>if j=i then x else o j
theorem kP {o:Nat->Nat} {i x:Nat}:cE o i x i=x:=if_pos rfl
theorem gn {o:Nat->Nat} {i x j:Nat} (h:j≠i):cE o i x j=o j:=if_neg h
theorem je {o:Nat->Nat} {i x b:Nat} {n:Nat} (hx:x<b) (ho:∀j,j<n->o j<b):∀j,j<n->cE o i x j<b:=fun j hj=>by
 unfold cE
 split
 ·exact hx
 ·exact ho j hj
theorem iA {o:Nat->Nat} {i x:Nat} {v:Int} (hv:v=(x:Nat)) (j:Nat):(if j=i then AV.int .u32 v else aB o j)=aB (cE o i x) j:=by
 unfold aB cE
 split
 ·rw[hv]
 ·rfl
theorem tV {o:Nat->Nat} {i x:Nat}:∀{n:Nat},i<n->o i=0->val n (cE o i x)=val n o+x*2^(32*i)
 |0,h,_=>aa
 |n+1,h,h0=>by
  rw[val,val]
  by_cases hn:i=n
  ·subst hn
   rw[kP,h0,val_congr (y:=o) fun j hj=>gn aa]
   omega
  ·rw[tV (n:=n) aa h0,gn aa]
   omega
theorem tH {o:Nat->Nat} {i x:Nat}:val (i+1) (cE o i x)=val i o+x*2^(32*i):=by
 rw[val,kP,val_congr (y:=o) fun j hj=>gn aa]
theorem uW {x k:Nat} (h:2^k<=x):bN x=k+bN (x/2^k):=by
 have hk:=Nat.two_pow_pos k
 have h0:x≠0:=aa
 have h1:x/2^k≠0:=by
  have:=(Nat.le_div_iff_mul_le hk (x:=1) (y:=x)).2 aa
  omega
 unfold bN
 rw[if_neg h0,if_neg h1]
 have:x.log2=k+(x/2^k).log2:=by
  obtain⟨g1,g2⟩:=(Nat.log2_eq_iff h1).1 rfl
  rw[Nat.log2_eq_iff h0]
  refine⟨?_,?_⟩
  ·rw[Nat.pow_add,Nat.mul_comm]
   exact(Nat.le_div_iff_mul_le hk).1 g1
  ·rw[show k+(x/2^k).log2+1=((x/2^k).log2+1)+k by omega,Nat.pow_add]
   exact(Nat.div_lt_iff_lt_mul hk).1 g2
 omega
theorem jr {x k:Nat}:bN x<=k↔x<2^k:=by
 unfold bN
 split
 ·rename_i h;subst h;simp[Nat.two_pow_pos]
 ·rename_i h;rw[<-Nat.log2_lt h];omega
theorem LM {N:Nat} (h:N≠0):bN N=32*(nl N-1)+bN (aD N (nl N-1)):=by
 have hp:=g9.2 h
 have h1:2^(32*(nl N-1))<=N:=by
  rcases Nat.lt_or_ge N (2^(32*(nl N-1)))with h1|h1
  ·have:=dF.2 h1;omega
  ·exact h1
 have h2:N/2^(32*(nl N-1))<2^32:=by
  rw[Nat.div_lt_iff_lt_mul (Nat.two_pow_pos _),<-Nat.pow_add]
  have:=oD (N:=N)
  rw[show 32+32*(nl N-1)=32*nl N by omega]
  exact this
 rw[uW h1,aD,Nat.mod_eq_of_lt h2]
theorem EC {o:Nat->Nat} {i x:Nat}:∀{n:Nat},i<n->val n (cE o i x)+o i*2^(32*i)=val n o+x*2^(32*i)
 |0,h=>aa
 |n+1,h=>by
  rw[val,val]
  by_cases hn:i=n
  ·subst hn
   rw[kP,val_congr (y:=o) fun j hj=>gn aa]
   omega
  ·have:=EC (o:=o) (x:=x) (n:=n) (i:=i) aa
   rw[gn (show n≠i by omega)]
   omega
theorem ax.qw {P:Program} {c:Ctx} {nt:Nat} {s:aK} {Q:aq->aK->Prop} {x y:Code} {i:Nat} (hx:x=.block i y) (h:ax P c nt y s (inBlock i Q)):ax P c nt x s Q:=hx▸.M8 h
theorem LX {c x y o:Nat} (hc:c<2^32) (hx:x<2^32) (hy:y<2^32) (ho:o<2^32):
  IntKind.u64.wrap ((c:Int)+IntKind.u64.wrap (IntKind.u64.wrap (IntKind.u64.wrap (x:Int)*IntKind.u64.wrap (y:Int))+IntKind.u64.wrap (o:Int)))=((c+x*y+o:Nat):Int)/\
   c+x*y+o<2^64/\(c+x*y+o)/4294967296<2^32:=by
 have h1:x*y<=(2^32-1)*(2^32-1):=Nat.mul_le_mul aa aa
 have e:(x:Int)*(y:Int)=((x*y:Nat):Int):=by simp
 rw[cr (x:=(x:Int)) aa aa,cr (x:=(y:Int)) aa aa,cr (x:=(o:Int)) aa aa,e]
 generalize x*y=p at*
 refine⟨?_,aa,aa⟩
 rw[cr (x:=(p:Int)) aa aa,cr (x:=(p:Int)+o) aa aa,cr aa aa]
 omega
theorem PO {vo vo' oi c x yj B s q r v Bi Bj vy:Nat} (hs:s=c+x*yj+oi) (hq:4294967296*q+r=s) (hset:vo'+oi*B=vo+r*B) (hB:B=Bi*Bj) (h:vo+c*B=v+x*vy*Bi):
  vo'+q*(4294967296*B)=v+x*(vy+yj*Bj)*Bi:=by
 subst hB
 have e:(4294967296*q+r)*(Bi*Bj)=(c+x*yj+oi)*(Bi*Bj):=by rw[hq,hs]
 grind
theorem sP {P:Program} {f:FuncId} {K:Nat} {args:List AV} {u v:AV} {l l':List Prop} (hf:aS P f K args [] ⟨u,[],l⟩) (hl:az l'->az l) (hk:keys u=[]) (ht:u.isTuple=false) (hle:bh u v):aS P f K args [] ⟨v,[],l'⟩:=by
 intro need
 obtain⟨h1,h2⟩:=hf (hl need)
 refine⟨fun k o ho=>by simp[look]at ho,fun c D D' β w vs hw0 hMw hrel hD hK hv=>(h2 c D D' β w vs hw0 hMw hrel hD hK hv).mono ?_⟩
 rintro x w' ⟨β',g1,g2,g3⟩
 refine⟨β',g1,g2,?_⟩
 have h3:cH _ w' β' [u] [x]:=⟨bK.one g3 ht,trivial⟩
 have h4:=AL (us:=[u]) (vs:=[v]) ⟨hle,trivial⟩ (h3.bG (by rw[Fc];exact hk))
 have h5:=h4.mono (fun b o h1 h2=>⟨h2,h1⟩) (β':=β') fun k x hx=>by simp[bG]at hx
 exact bw.bT h5.1
theorem Ap {i:Nat} {Q:aq->aK->Prop} {s:aK} (h:Q .normal s):inBlock i Q (.exit i) s:=by
 simp only[inBlock,if_true];exact h
theorem fZ {i:Nat} {k:aK->Prop} {Q:aq->aK->Prop} {s:aK} (h:Q .normal s):eo k (inBlock i Q) (.exit i) s:=by
 show inBlock i Q (.exit i) s
 exact Ap h
theorem rS {i:Nat} {k:aK->Prop} {Q:aq->aK->Prop} {s:aK} (h:Q (.exit i) s):eo k Q (.exit i) s:=h
theorem JD {i:Nat} {k:aK->Prop} {Q:aq->aK->Prop} {s:aK} (h:Q .ret s):eo k (inBlock i Q) .ret s:=h
theorem fW {k:aK->Prop} {Q:aq->aK->Prop} {s:aK} (h:Q .ret s):eo k Q .ret s:=h
theorem C4 {s:aK}:∀{a b:List Nat},lS s (a++b)=lS s a++lS s b
 |[],_=>rfl
 |x::a,b=>by simp only[List.cons_append,lS,C4]
theorem Dy {s:aK}:∀{a:List Nat},(lS s a).length=a.length
 |[]=>rfl
 |x::a=>by simp only[lS,List.length_cons,Dy]
theorem Nw {a b:List AV}:bH (a++b)=bH a++bH b:=by
 induction a with
 |nil=>rfl
 |cons x a ih=>simp only[List.cons_append,bH,ih,List.append_assoc]
theorem jG {s:aK} {ls l:List Nat} {vs us:List AV} {os:aC} (hv:bA (ls++l) s=some (vs++us,os)) (hl:vs.length=ls.length) (hk:bH us=[]):bA ls s=some (vs,os):=by
 unfold bA at hv ⊢
 simp only[ay,Prod.mk.injEq,C4]at hv ⊢
 obtain⟨h1,h2⟩:=hv
 obtain⟨h3,h4⟩:=List.append_inj h1 (by rw[Dy,hl])
 subst h3
 refine⟨rfl,?_⟩
 rw[<-h2,h4,Nw,hk,List.append_nil]
mutual
def zeroCells:AV->Option (List Value)
 |.bool b=>some [.bool b]
 |.int k n=>some [.int k n]
 |.nil=>some [.slice none 0 0]
 |.rat q n=>if q=0/\n=1 then some [.bool false,.slice none 0 0,.slice none 0 0]else none
 |.agg l=>uG l
 |_=>none
def uG:List AV->Option (List Value)
 |[]=>some []
 |a::l=>match zeroCells a,uG l with
  |some c,some d=>some (c++d)
  |_,_=>none
end
mutual
theorem Ht {M:Nat->Prop} {w:World} {β:aY}:∀{v:AV} {cs:List Value},zeroCells v=some cs->aN M w β [v] cs
 |.bool b,cs,h=>by simp only[zeroCells,ay]at h;subst h;exact .bool .nil
 |.int k n,cs,h=>by simp only[zeroCells,ay]at h;subst h;exact .int .nil
 |.nil,cs,h=>by simp only[zeroCells,ay]at h;subst h;exact .vnil .nil
 |.rat q n,cs,h=>by
  simp only[zeroCells]at h
  split at h
  ·rename_i hq
   obtain⟨rfl,rfl⟩:=hq
   simp only[ay]at h
   subst h
   have h0:aN M w bG [.mag 0] [.slice none 0 0]:=by
    have:=aN.mag (M:=M) (w:=w) (β:=bG) (N:=0) (base:=none) (cap:=0) (.inl rfl) (by simp[vJ]) .nil
    simpa [vJ]using this
   have:=aN.rat (M:=M) (w:=w) (β:=β) (q:=0) (n:=1) (x:=.slice none 0 0) (y:=.slice none 0 0) (l:=[]) (cs:=[]) ⟨by decide,by decide⟩ (by simpa using h0) (by simpa using h0) .nil
   simpa using this
  ·simp at h
 |.agg l,cs,h=>by
  simp only[zeroCells]at h
  simpa using aN.agg (QE h) .nil
 |.mag _,cs,h=>by simp[zeroCells]at h
 |.ak _ _ _,cs,h=>by simp[zeroCells]at h
 |.eR _ _ _ _,cs,h=>by simp[zeroCells]at h
 |.bg _,cs,h=>by simp[zeroCells]at h
 |.ptr _ _ _ _ _,cs,h=>by simp[zeroCells]at h
 |.own _ _ _ _,cs,h=>by simp[zeroCells]at h
 |.func _ _,cs,h=>by simp[zeroCells]at h
 |.tuple _,cs,h=>by simp[zeroCells]at h
 |.bO _ _,cs,h=>by simp[zeroCells]at h
theorem QE {M:Nat->Prop} {w:World} {β:aY}:∀{l:List AV} {cs:List Value},uG l=some cs->aN M w β l cs
 |[],cs,h=>by simp only[uG,ay]at h;subst h;exact .nil
 |a::l,cs,h=>by
  simp only[uG]at h
  cases ha:zeroCells a with
  |none=>rw[ha]at h;simp at h
  |some c=>
   cases hl:uG l with
   |none=>rw[ha,hl]at h;simp at h
   |some d=>
    rw[ha,hl]at h
    simp only[ay]at h
    subst h
    exact(Ht ha).cons (QE hl)
end
def Ek (v:AV):Option Value:=
 match zeroCells v with
 |some cs=>if v.isAgg then some (.agg cs.toArray)else match cs with
  |[x]=>some x
  |_=>none
 |none=>none
theorem cY {P:Program} {t:TypeId} {ti:TI} (h1:P.underlying t=some ti.desc) (h2:(P.info? t).map (fun i=>(i.size,i.bytes,i.zero))=some (ti.size,ti.bytes,Ek ti.zero))
  (h3:(Ek ti.zero).isSome=true):b9 P t ti:=by
 cases hi:P.info? t with
 |none=>rw[hi]at h2;simp at h2
 |some i=>
  rw[hi]at h2
  simp only[Option.map_some,ay,Prod.mk.injEq]at h2
  refine⟨h1,⟨i,hi,h2.1,h2.2.1⟩,fun _=>?_⟩
  obtain⟨z,hz⟩:=Option.isSome_iff_exists.1 h3
  refine⟨i,z,hi,by rw[h2.2.2,hz],fun M w β=>?_⟩
  unfold Ek at hz
  cases hc:zeroCells ti.zero with
  |none=>rw[hc]at hz;simp at hz
  |some cs=>
   rw[hc]at hz
   simp only at hz
   split at hz
   ·rename_i ha
    simp only[ay]at hz
    subst hz
    exact .Av (Ht hc) ha
   ·rename_i ha
    split at hz
    ·simp only[ay]at hz
     subst hz
     exact .cD (Ht hc) (by simpa using ha)
    ·simp at hz
theorem jU {P:Program} {t:TypeId} {ti:TI} (h1:P.underlying t=some ti.desc) (h2:(P.info? t).map (fun i=>(i.size,i.bytes))=some (ti.size,ti.bytes)) (h3:ti.zero=.tuple []):b9 P t ti:=by
 cases hi:P.info? t with
 |none=>rw[hi]at h2;simp at h2
 |some i=>
  rw[hi]at h2
  simp only[Option.map_some,ay,Prod.mk.injEq]at h2
  exact⟨h1,⟨i,hi,h2.1,h2.2⟩,fun h=>by rw[h3]at h;simp[isTuple]at h⟩
theorem ag1 {P:Program} {t:TypeId} {ti:TI} (h1:P.underlying t=some ti.desc) (h2:(P.info? t).map (fun i=>(i.size,i.bytes,i.zero))=some (ti.size,ti.bytes,some .nilFunc)) (h3:ti.zero=.void):b9 P t ti:=by
 cases hi:P.info? t with
 |none=>rw[hi]at h2;simp at h2
 |some i=>
  rw[hi]at h2
  simp only[Option.map_some,ay,Prod.mk.injEq]at h2
  refine⟨h1,⟨i,hi,h2.1,h2.2.1⟩,fun _=>⟨i,.nilFunc,hi,h2.2.2,fun M w β=>?_⟩⟩
  rw[h3]
  exact⟨[.nilFunc],.void rfl .nil,.inr ⟨rfl,rfl⟩⟩
theorem afC {P:Program}:fu P []:=fun t ti h=>by simp[look]at h
theorem cw {P:Program} {t:TypeId} {ti:TI} {T:Types} (h:b9 P t ti) (hT:fu P T):fu P ((t,ti)::T):=by
 intro t' ti' ht
 simp only[look]at ht
 split at ht
 ·rename_i he
  have:t=t':=by simpa using he
  subst this
  simp only[ay]at ht
  subst ht
  exact h
 ·exact hT t' ti' ht
end Go.Am
namespace Go.Am
open AV
theorem cH.length {M:Nat->Prop} {w:World} {β:aY}:∀{us:List AV} {xs:List Value},cH M w β us xs->us.length=xs.length
 |[],[],_=>rfl
 |_::_,_::_,h=>by simp[cH.length h.2]
 |[],_::_,h=>h.elim
 |_::_,[],h=>h.elim
theorem cH.weak {c c':Ctx} {β β2:aY} {w:World} {ρ:Nat->Option Nat} {M M':Nat->Prop} (hM:∀b,M' b->M b) (hβ:∀k2 k1,ρ k2=some k1->β2 k2=β k1):∀{us vs:List AV} {xs:List Value},gO ρ us vs->cH M w β us xs->cH M' w β2 vs xs
 |[],[],[],_,_=>trivial
 |u::us,v::vs,x::xs,h,hv=>⟨hv.1.weak hM hβ h.1.2,cH.weak (c:=c) (c':=c') hM hβ h.2 hv.2⟩
 |[],_::_,_,h,_=>h.elim
 |_::_,[],_,h,_=>h.elim
 |_::_,_::_,[],_,h=>h.elim
 |[],[],_::_,_,h=>h.elim
theorem Y9 {nx:Nat} {rl:List (Nat×Nat)} (hr:jE nx rl=true):∀a b k,bC rl a=some k->bC rl b=some k->a=b:=by
 intro a b k ha hb
 have:=List.all_eq_true.1 hr _ (rK ha)
 simp only[Bool.and_eq_true,bk]at this
 simpa using List.all_eq_true.1 this.2 _ (rK hb)
theorem Pu {nx:Nat} {rl:List (Nat×Nat)} (hr:jE nx rl=true) {a k:Nat} (ha:bC rl a=some k):a<nx:=by
 have:=List.all_eq_true.1 hr _ (rK ha)
 simp only[Bool.and_eq_true,bk]at this
 exact this.1
theorem VA {M:Nat->Prop} {w:World} {β:aY} {us:List AV} {xs:List Value} (h:cH M w β us xs):bK M w β (mA us) (if h:xs.length=1 then xs.toArray[0]'(by simpa using(show 0<xs.length by omega))else .tuple xs.toArray):=by
 have hl:=h.length
 match us,xs,h,hl with
 |[],[],_,_=>exact⟨[],rfl,trivial⟩
 |[u],[x],h,_=>exact h.1.bT
 |u::u'::us,x::x'::xs,h,_=>simp only[List.length_cons,Nat.add_eq_right,Nat.add_eq_zero_iff,Nat.succ_ne_zero,and_false,dite_false];exact⟨_,rfl,h⟩
section core
variable {P:Program} {T:Types}
structure Ak (T:Types) (fn:Func) (τ:Nat->Option Nat) (pre:aC) (r:dI) (s:aK):Prop where
 ends:Ends T fn r.res s
 Dm:∀k o,look k (cM (gu r.post) pre)=some o->∃k1 o1,τ k=some k1/\look k1 s.store=some o1/\o1.row=false/\dK τ o1 o
structure wM (T:Types) (fn:Func) (τ:Nat->Option Nat) (pre:aC) (r:dI) (s:aK):Prop where
 ends:∃vs q us,iW T s fn.results.toList=some (vs,q)/\az q/\gO τ vs us/\r.res=mA us
 Dm:∀k o,look k (cM (gu r.post) pre)=some o->∃k1 o1,τ k=some k1/\look k1 s.store=some o1/\dK τ o1 o
structure we (rl:List (Nat×Nat)) (K:Nat) (pre:aC) (τ:Nat->Option Nat):Prop where
 inj:∀a b k,τ a=some k->τ b=some k->a=b
 dom:∀k a,τ k=some a->bC rl a=some k\/(K<=k/\k<K+cT)
theorem ah1 (hT:fu P T) {f:FuncId} {fn:Func} {x:Code} (hf:jI P f fn x) {args args0:List AV} {pre pre0:aC} {r:dI} {K nx:Nat} (rl:List (Nat×Nat)) (hlen:args0.length<=fn.ntmps) (hr:jE nx rl=true)
  (ha:gO (bC rl) args args0) (hp:o9 (bC rl) pre pre0) (hrl:∀a k,bC rl a=some k->∃o,look k pre=some o)
  (hpost:∀k o,look k r.post=some o->(∃o',look k pre=some o')\/(K<=k/\k<K+cT))
  (h:r.need->∀c:Ctx,c.ro=none->(∀k x,c.k0 k=some x->(bC rl k).isSome=true)->ax P c fn.ntmps x ⟨aQ 0 args0,pre0,nx⟩ fun e s'=>(e=.normal\/e=.ret)/\∃τ,we rl K pre τ/\(Ak T fn τ pre r s'\/wM T fn τ pre r s')):aS P f K args pre r:=by
 intro need
 refine⟨hpost,fun c D D' β w vs hw0 hMw hrel hD hK hv=>.inl ⟨fn,hf.get,hf.name,by simp[hf.body],?_⟩⟩
 have hobj0:=D6 hp
 have hβ0:∀k2 k1,bC rl k2=some k1->(fun a=>(bC rl a).bind β) k2=β k1:=fun k2 k1 h=>by simp[h]
 have hW:bF {c with k0:=fun a=>(bC rl a).bind β,ro:=none} pre0 (fun k=>k<nx) (fun a=>(bC rl a).bind β) w:=by
  refine hrel.weak (c':={c with k0:=fun a=>(bC rl a).bind β,ro:=none}) (ρ:=bC rl) rfl rfl rfl (Y9 hr) (fun k o h=>.inl (hobj0 k o h)) hβ0 (fun k2 k1 h=>Pu hr h) (fun k2 x hk=>?_) (fun k2 b N hk=>?_) (fun k x hk=>hk)
  ·cases h1:bC rl k2 with
   |none=>simp[h1]at hk
   |some k1=>exact Pu hr h1
  ·cases h1:bC rl k2 with
   |none=>simp[h1]at hk
   |some k1=>simp[h1]at hk;exact hrel.lt k1 b N hk
 have hv0:cH (aO {c with k0:=fun a=>(bC rl a).bind β,ro:=none} pre0 (fun a=>(bC rl a).bind β)) w (fun a=>(bC rl a).bind β) args0 vs:=
  hv.weak (c:=c) (c':=c) (ρ:=bC rl) (CB rfl (fun k o h=>.inl (hobj0 k o h)) hβ0) hβ0 ha
 have hl0:=hv0.length
 have hstart:Rel {c with k0:=fun a=>(bC rl a).bind β,ro:=none} fn.ntmps (fun k=>k<nx) (aQ 0 args0) pre0 {tmps:=vs.toArray++Array.replicate (fn.ntmps-vs.toArray.size) undef,defers:=[]} w:=by
  refine⟨.nil,by simp;omega,_,hW,?_⟩
  have:=DB (pre:=#[]) (post:=Array.replicate (fn.ntmps-vs.toArray.size) undef) hv0 rfl
  simpa using this
 refine callsIn_wide.1 (callsIn_of_wp_marks (F:=Fence.wide) (n:=3) hf.get hf.body trivial (wpIn_mono (h need {c with k0:=fun a=>(bC rl a).bind β,ro:=none} rfl (fun k x hk=>by
  cases h1:bC rl k with
  |none=>simp[h1]at hk
  |some k1=>rfl) _ w hstart) ?_))
 rintro e a' w9 ⟨ae,s',rfl,hr9,hex,τ,hτ,hends⟩
 obtain⟨w',hr',hleave⟩:=Rel.leave (P:=P) (fn:=fn) (R:=fun e w'=>∃x,e=.returned x/\fo c pre D' β w (gu r.post) r.res x w') hr9
 -- what the end gives, in the function's own keys
 have hfin:∃x β1 st1,(results fn a'.tmps).run P w'=.ok x w'/\bF {c with k0:=fun a=>(bC rl a).bind β,ro:=none} st1 (fun k=>k<s'.next) β1 w'/\
   (∀k o,look k (cM (gu r.post) pre)=some o->∃k1 o1,τ k=some k1/\look k1 st1=some o1/\dK τ o1 o)/\
   bK (aO {c with k0:=fun a=>(bC rl a).bind β,ro:=none} st1 β1) w' (fun k=>(τ k).bind β1) r.res x:=by
  rcases hends with hends|hends
  ·obtain⟨hdef,x,β1,st1,hrun,hw1,hvx,hrow⟩:=MH hT hends.ends hr'
   refine⟨x,β1,st1,hrun,hw1,fun k o hk=>?_,hvx.mono (fun b o h1 h2=>⟨h2,h1⟩) fun k x hk=>by simp[bG]at hk⟩
   obtain⟨k1,o1,g1,g2,g3,g4⟩:=hends.Dm k o hk
   exact⟨k1,o1,g1,hrow k1 o1 g2 g3,g4⟩
  ·obtain⟨a1,a2,β1,a3,a4⟩:=hr'
   obtain⟨vs1,q,us,h1,hq,h2,h3⟩:=hends.ends
   obtain⟨xs,hxs,hv,hlen⟩:=Fu hT a3 a4 (g:=fun x=>match x with
    |ResultVar.tmp t=>pure (a'.tmps.getD t undef)
    |ResultVar.cell r t=>do let y <-asAddr (a'.tmps.getD r undef);loadVar t y) (fun _=>rfl) (fun _ _=>rfl) h1 hq
   refine⟨if h:xs.length=1 then xs.toArray[0]'(by simpa using(show 0<xs.length by omega))else .tuple xs.toArray,β1,s'.store,?_,a3,hends.Dm,?_⟩
   ·have key:results fn a'.tmps=(do
      let vs <-fn.results.mapM fun x=>match x with
       |ResultVar.tmp t=>pure (a'.tmps.getD t undef)
       |ResultVar.cell r t=>do let y <-asAddr (a'.tmps.getD r undef);loadVar t y
      pure (if h:vs.size=1 then vs[0]else Value.tuple vs)):=rfl
    rw[key,Sem.run_bind,Array.mapM_eq_mapM_toList,Sem.run_map,hxs]
    simp only[Result.andThen_ok,Sem.run_pure]
    congr 1
   ·rw[h3]
    exact VA (hv.weak (c:=c) (c':=c) (ρ:=τ) (fun _ h=>h) (fun k2 k1 h=>by simp[h]) h2)
 obtain⟨x,β1,st1,hrun,hw1,hobj1,hvx⟩:=hfin
 have hkeep1:∀k a,τ k=some a->∀y,β k=some y->β1 a=some y:=by
  intro k a hka y hy
  rcases hτ.dom k a hka with h1|⟨h1,h2⟩
  ·exact hw1.keep a y (by simp only[h1,Option.bind_some];exact hy)
  ·exact absurd (hrel.dom k y hy) (hK k h1 h2).1
 have hβ2:∀k2 k1,τ k2=some k1->(fun k=>match τ k with
   |some a=>β1 a
   |none=>β k) k2=β1 k1:=fun k2 k1 h=>by simp[h]
 have hW2:bF c (cM (gu r.post) pre) D' (fun k=>match τ k with
   |some a=>β1 a
   |none=>β k) w':=by
  have hd2:∀k2 a,τ k2=some a->D' k2:=fun k2 a ha=>by
   rcases hτ.dom k2 a ha with h1|⟨h1,h2⟩
   ·obtain⟨o,ho⟩:=hrl a k2 h1
    cases hb:β k2 with
    |some x=>exact hD _ (hrel.dom k2 _ hb)
    |none=>exact hD _ (hrel.dS k2 o ho hb).2
   ·exact(hK k2 h1 h2).2
  refine hw1.weak (c':=c) (ρ:=τ) rfl rfl rfl hτ.inj (fun k o h=>.inl (hobj1 k o h)) hβ2 hd2 (fun k2 y hk=>?_) (fun k2 b N hk=>?_) (fun k y hk=>?_)
  ·split at hk
   ·rename_i a ha
    exact hd2 k2 a ha
   ·exact hD _ (hrel.dom k2 y hk)
  ·split at hk
   ·exact hw1.lt _ b N hk
   ·exact Nat.lt_of_lt_of_le (hrel.lt k2 b N hk) (by have:=hw1.size;rw[<-hw0];exact this)
  ·have hy:=hrel.keep k y hk
   split
   ·rename_i a ha
    exact hkeep1 k a ha y hy
   ·exact hy
 have hO:fo c pre D' β w (gu r.post) r.res x w':=by
  refine⟨_,hW2,⟨fun b o hb ho=>?_,fun k y hk=>?_⟩,?_⟩
  ·have hlt:b<c.w0.heap.size:=by rw[hw0];exact AG ho
   have hmw:¬c.Mw b:=fun hm=>hb (hMw b hm)
   refine⟨?_,?_⟩
   ·rw[hw1.block b hlt hmw]
    show c.w0.heap[b]?=_
    rw[hw0];exact ho
   ·rintro(hm|⟨k,o',N,h1,h2,h3⟩)
    ·exact hb (.inl hm)
    ·rcases hW2.new k o' b N h1 h2 h3 with h4|h4
     ·omega
     ·exact hmw h4
  ·split
   ·rename_i a ha
    exact hkeep1 k a ha y hk
   ·exact hk
  ·refine hvx.mono (fun b o h1 h2=>⟨h2,fun h3=>h1 (CB (c:={c with k0:=fun a=>(bC rl a).bind β,ro:=none}) rfl (fun k o h=>.inl (hobj1 k o h)) hβ2 b h3)⟩) (fun k y hk=>?_)
   cases h1:τ k with
   |none=>simp[h1]at hk
   |some a=>simpa [h1]using hk
 rcases hex with rfl|rfl
 ·exact hleave x hrun ⟨x,rfl,hO⟩
 ·exact hleave x hrun ⟨x,rfl,hO⟩
theorem oO (hT:fu P T) {f:FuncId} {fn:Func} {x:Code} (hf:jI P f fn x) {args args0:List AV} {pre pre0:aC} {r:dI} {K nx:Nat} (rl:List (Nat×Nat)) (hlen:args0.length<=fn.ntmps) (hr:jE nx rl=true)
  (ha:gO (bC rl) args args0) (hp:o9 (bC rl) pre pre0) (hrl:∀a k,bC rl a=some k->∃o,look k pre=some o)
  (hpost:∀k o,look k r.post=some o->(∃o',look k pre=some o')\/(K<=k/\k<K+cT))
  (h:r.need->∀c:Ctx,(∀k x,c.k0 k=some x->(bC rl k).isSome=true)->ax P c fn.ntmps x ⟨aQ 0 args0,pre0,nx⟩ fun e s'=>(e=.normal\/e=.ret)/\∃τ,we rl K pre τ/\(Ak T fn τ pre r s'\/wM T fn τ pre r s')):aS P f K args pre r:=
 ah1 hT hf rl hlen hr ha hp hrl hpost fun need c _=>h need c
end core
def j8 (nx:Nat) (vs:List AV):Bool:=(vs.all fun v=>!v.isTuple)&&(bH vs).all fun k=>decide (k<nx)
def iF (nx:Nat):aC->Prop
 |[]=>True
 |(k,o)::l=>(k<nx/\∀i,i<o.len->keys (o.f i)=[])/\iF nx l
theorem Lx {nx:Nat}:∀{os:aC},iF nx os->∀{k:Nat} {o:au},look k os=some o->k<nx/\∀i,i<o.len->keys (o.f i)=[]
 |[],_,k,o,h=>by simp[look]at h
 |(j,b)::l,h,k,o,hk=>by
  simp only[look]at hk
  split at hk
  ·rename_i he
   have:j=k:=by simpa using he
   subst this
   simp only[ay]at hk
   subst hk
   exact h.1
  ·exact Lx h.2 hk
theorem MU {nx:Nat} {u:AV} (hk:∀k∈keys u,k<nx):gz (fun k=>if k<nx then some k else none) u u:=by
 refine⟨rfl,fun M w β cs hc=>?_⟩
 have gen:∀{l:List AV} {cs:List Value},aN M w β l cs->(∀k∈bH l,k<nx)->aN M w (fun k=>(if k<nx then some k else none).bind β) l cs:=by
  intro l cs h
  generalize hβ:β=β' at h
  induction h with
  |nil=>exact fun _=>.nil
  |bool _ ih=>exact fun h=>.bool (ih hβ (by simpa [bH,keys]using h))
  |int _ ih=>exact fun h=>.int (ih hβ (by simpa [bH,keys]using h))
  |rat hs h1 h2 _ _ _ ih=>exact fun h=>.rat hs h1 h2 (ih hβ (by simpa [bH,keys]using h))
  |mag h1 h2 _ ih=>exact fun h=>.mag h1 h2 (ih hβ (by simpa [bH,keys]using h))
  |agg _ _ ih1 ih2=>exact fun h=>.agg (ih1 hβ fun k hk=>h k (by simp only[bH,keys];exact List.mem_append_left _ hk)) (ih2 hβ fun k hk=>h k (by simp only[bH];exact List.mem_append_right _ hk))
  |ak h1 h2 h3 h4 h5 _ _ ih=>exact fun h=>.ak h1 h2 h3 h4 h5 (ih hβ (by simpa [bH,keys]using h))
  |eR hq h1 h2 h3 h4 h5 _ _ ih=>exact fun h=>.eR hq h1 h2 h3 h4 h5 (ih hβ (by simpa [bH,keys]using h))
  |vnil _ ih=>exact fun h=>.vnil (ih hβ (by simpa [bH,keys]using h))
  |void hx _ ih=>exact fun h=>.void hx (ih hβ (by simpa [bH,keys]using h))
  |str _ ih=>exact fun h=>.str (ih hβ (by simpa [bH,keys]using h))
  |bg h1 h2 _ _ ih=>exact fun h=>.bg h1 h2 (ih hβ (by simpa [bH,keys]using h))
  |@ptr _ k _ _ _ _ _ _ _ _ hk _ ih=>
   intro h
   have:k<nx:=h k (by simp[bH,keys])
   exact .ptr (by simp only[this,if_true,Option.bind_some];rw[<-hβ]at hk ⊢;exact hk) (ih hβ fun k hk=>h k (by simp only[bH];exact List.mem_append_right _ hk))
  |@own _ k _ _ _ _ _ _ _ _ _ hk h1 h2 h4 h3 _ ih=>
   intro h
   have:k<nx:=h k (by simp[bH,keys])
   exact .own (by simp only[this,if_true,Option.bind_some];rw[<-hβ]at hk ⊢;exact hk) h1 h2 h4 h3 (ih hβ fun k hk=>h k (by simp only[bH];exact List.mem_append_right _ hk))
  |own0 h3 _ ih=>exact fun h=>.own0 h3 (ih hβ fun k hk=>h k (by simp only[bH];exact List.mem_append_right _ hk))
  |bO ha _ _ ih1 ih2=>exact fun h=>.bO ha (ih1 hβ fun k hk=>h k (by simp only[bH,keys,List.append_nil]at hk ⊢;exact List.mem_append_left _ hk)) (ih2 hβ fun k hk=>h k (by simp only[bH];exact List.mem_append_right _ hk))
  |func _ hc _ ih1 ih2=>exact fun h=>.func (ih1 hβ fun k hk=>h k (by simp only[bH,keys];exact List.mem_append_left _ hk)) hc (ih2 hβ fun k hk=>h k (by simp only[bH];exact List.mem_append_right _ hk))
 exact gen hc fun k h=>hk k (by rw[Fc]at h;exact h)
theorem Ke {nx:Nat}:∀{vs:List AV},j8 nx vs=true->gO (fun k=>if k<nx then some k else none) vs vs
 |[],_=>trivial
 |v::vs,h=>by
  simp only[j8,List.all_cons,bH,List.all_append,Bool.and_eq_true,Bool.not_eq_true']at h
  obtain⟨⟨h1,h2⟩,h3,h4⟩:=h
  refine⟨⟨h1,MU fun k hk=>by simpa using List.all_eq_true.1 h3 k hk⟩,Ke ?_⟩
  simp only[j8,Bool.and_eq_true]
  exact⟨h2,h4⟩
theorem pg {c:Ctx} {s':aK} {ls:List Nat} {vs:List AV} {os:aC} {nx:Nat} (hv:bA ls s'=some (vs,os)) (h0:∀k x,c.k0 k=some x->k<nx) (hok:j8 nx vs=true) (ho:iF nx os):∃ρ,Le c ρ s' ⟨aA ls vs,os,nx⟩:=by
 unfold bA at hv
 simp only[ay,Prod.mk.injEq]at hv
 obtain⟨rfl,rfl⟩:=hv
 refine⟨fun k=>if k<nx then some k else none,?_,GY (Ke hok),fun k2 o2 hk=>?_,fun k2 k1 hk=>?_,fun k x hk=>by simp[h0 k x hk]⟩
 ·intro a b k ha hb
  split at ha<;>split at hb<;>simp_all
 ·obtain⟨h1,h2⟩:=Lx ho hk
  refine .inl ⟨k2,o2,by simp[h1],?_,⟨rfl,rfl,rfl,rfl,fun i hi=>MU fun k hk=>by rw[h2 i hi]at hk;simp at hk⟩⟩
  rw[oS]at hk
  split at hk
  ·exact hk
  ·simp at hk
 ·split at hk
  ·assumption
  ·simp at hk
section rules
variable {P:Program} {c:Ctx} {nt:Nat} {s:aK} {Q:aq->aK->Prop} {T:Types} {Γ:aX}
theorem ax.iH {x y:Code} {i:Nat} (hx:x=.block i (.loop y)) (ls:List Nat) (nx:Nat) (h0:∀k x,c.k0 k=some x->k<nx) {α:Type} (vs:α->List AV) (os:α->aC) (hok:∀a,j8 nx (vs a)=true) (ho:∀a,iF nx (os a)) (I:α->Prop) (μ:α->Nat) (j:α)
  (hv:bA ls s=some (vs j,os j)) (hI:I j)
  (round:∀j,I j->ax P c nt y ⟨aA ls (vs j),os j,nx⟩ (eo (fun s'=>∃k,bA ls s'=some (vs k,os k)/\I k/\μ k<μ j) (inBlock i Q))):ax P c nt x s Q:=
 ax.jq hx (fun a=>⟨aA ls (vs a),os a,nx⟩) I μ j (pg hv h0 (hok j) (ho j)) hI fun j hj=>(round j hj).mono fun e s' h=>by
  cases e with
  |normal=>
   obtain⟨k,h1,h2,h3⟩:=h
   exact⟨k,pg h1 h0 (hok k) (ho k),h2,h3⟩
  |exit i=>exact h
  |ret=>exact h
theorem ax.kV {x:Code} {ls:List Nat} {nx:Nat} {vs:List AV} {os:aC} (hv:bA ls s=some (vs,os)) (h0:∀k x,c.k0 k=some x->k<nx) (hok:j8 nx vs=true) (ho:iF nx os) (h:ax P c nt x ⟨aA ls vs,os,nx⟩ Q):ax P c nt x s Q:=
 .ja (pg hv h0 hok ho) h
theorem aG.kV {l:List Code} {ls:List Nat} {nx:Nat} {vs:List AV} {os:aC} (hv:bA ls s=some (vs,os)) (h0:∀k x,c.k0 k=some x->k<nx) (hl:l.isEmpty=false) (hok:j8 nx vs=true) (ho:iF nx os) (h:aG P c nt l ⟨aA ls vs,os,nx⟩ Q):aG P c nt l s Q:=
 .weak hl (pg hv h0 hok ho) h
theorem aG.zT (hT:fu P T) (hΓ:bq P Γ) (hm:P.follows .mixedOrders=true) {fn:Func} {forks:List Nat} (n:Nat) {l:List Code} {ls:List Nat} {nx:Nat} {vs:List AV} {os:aC} (hv:bA ls s=some (vs,os)) (h0:∀k x,c.k0 k=some x->k<nx)
  (hok:j8 nx vs=true) (ho:iF nx os) {t:ag (List AV)} (hc:cy T Γ forks n fn l ⟨aA ls vs,os,nx⟩=some t) (hd:(l.all fun x=>cm nt x)=true) (hl:l.isEmpty=false) {res:AV} (h:t.all fun _ us=>fK us res):aG P c nt l s (Fin T fn res):=
 .kV hv h0 hl hok ho (.fin hT hΓ hm n hc hd h)
theorem aG.fS (hT:fu P T) (hΓ:bq P Γ) (hm:P.follows .mixedOrders=true) {forks:List Nat} (n:Nat) {l:List Code} {ls:List Nat} {nx:Nat} {vs:List AV} {os:aC} (hv:bA ls s=some (vs,os)) (h0:∀k x,c.k0 k=some x->k<nx)
  (hok:j8 nx vs=true) (ho:iF nx os) (ls2:List Nat) {t:ag (List AV×aC)} (hc:aH T Γ forks n ls2 l ⟨aA ls vs,os,nx⟩=some t) (hd:(l.all fun x=>cm nt x)=true) (hl:l.isEmpty=false) (h:t.all fun e v=>∀s',bA ls2 s'=some v->Q e s'):aG P c nt l s Q:=
 .kV hv h0 hl hok ho (.bE hT hΓ hm n ls2 hc hd h)
theorem ax.fS (hT:fu P T) (hΓ:bq P Γ) (hm:P.follows .mixedOrders=true) {x:Code} {forks:List Nat} (n:Nat) {ls:List Nat} {nx:Nat} {vs:List AV} {os:aC} (hv:bA ls s=some (vs,os)) (h0:∀k x,c.k0 k=some x->k<nx)
  (hok:j8 nx vs=true) (ho:iF nx os) (ls2:List Nat) {t:ag (List AV×aC)} (hc:aH T Γ forks n ls2 [x] ⟨aA ls vs,os,nx⟩=some t) (hd:cm nt x=true) (h:t.all fun e v=>∀s',bA ls2 s'=some v->Q e s'):ax P c nt x s Q:=
 .kV hv h0 hok ho (.bE hT hΓ hm n ls2 hc hd h)
end rules
theorem vW {T:Types} {fn:Func} {ls:List Nat} {vs us ws:List AV} {os ps pre:aC} {s':aK} {τ:Nat->Option Nat} {r:dI} (hv:bA ls s'=some (vs,os)) (hr:mQ (aA ls vs) fn.results.toList=some us) (hle:gO τ us ws) (hres:r.res=mA ws)
  (he:cM (lz r.post) pre=ps) (ho:o9 τ os ps):wM T fn τ pre r s':=by
 unfold bA at hv
 simp only[ay,Prod.mk.injEq]at hv
 obtain⟨rfl,rfl⟩:=hv
 refine⟨⟨us,[],ws,Hh hr,trivial,hle,hres⟩,fun k o hk=>?_⟩
 replace hk:=Aw hk
 rw[he]at hk
 obtain⟨k1,o1,g1,g2,g3⟩:=D6 ho k o hk
 refine⟨k1,o1,g1,?_,g3⟩
 rw[oS]at g2
 split at g2
 ·exact g2
 ·simp at g2
def rY (g:Nat->List AV->Option dI):Spec:=fun K args pre=>match fA pre args with
 |some as=>g K as
 |none=>none
theorem wS {P:Program} {f:FuncId} {g:Nat->List AV->Option dI} (h:∀K args r,bH args=[]->g K args=some r->aS P f K args [] r):
  ∀K args pre r,rY g K args pre=some r->aS P f K args pre r:=by
 intro K args pre r hg
 unfold rY at hg
 split at hg
 ·rename_i as has
  have hf:=h K as r (yU has) hg
  intro need
  obtain⟨h1,h2⟩:=hf need
  refine⟨fun k o ho=>.inr ((h1 k o ho).resolve_left fun⟨o',h⟩=>by simp[look]at h),fun c D D' β w vs hw0 hMw hrel hD hK hv=>?_⟩
  have hv':cH (aO c pre β) w bG as vs:=AM hrel (fun _ _ h=>h) has hv
  exact(hf.frame (pre':=pre) (fun k o hk=>by simp[look]at hk)).use need hrel (fun _ _ h=>h) hD hK (hv'.mono (fun b o h1 h2=>⟨h2,h1⟩) fun k x hx=>by simp[bG]at hx)
 ·simp at hg
theorem Ej {K k a:Nat} {pre:aC} (h:K<=k/\k<K+cT):we [] K pre (bC [(k,a)]):=
 ⟨fun x y z hx hy=>by
  simp only[bC,look]at hx hy
  split at hx<;>split at hy<;>simp_all,fun x y hx=>by
  simp only[bC,look]at hx
  split at hx
  ·rename_i he
   have:k=x:=by simpa using he
   subst this
   exact .inr h
  ·simp at hx⟩
theorem vg {K k a:Nat} {pre:aC}:we [(a,k)] K pre (bC [(k,a)]):=
 ⟨fun x y z hx hy=>by
  simp only[bC,look]at hx hy
  split at hx<;>split at hy<;>simp_all,fun x y hx=>by
  simp only[bC,look]at hx ⊢
  split at hx
  ·rename_i he
   have:k=x:=by simpa using he
   subst this
   simp only[ay]at hx
   subst hx
   exact .inl (by simp)
  ·simp at hx⟩
theorem kX {c:Ctx} (h:c.k0=bG) {nx:Nat}:∀k x,c.k0 k=some x->k<nx:=fun k x hk=>by rw[h]at hk;simp[bG]at hk
theorem ec {ls:List Nat} {s':aK} {vs us:List AV} {os ps:aC} (hv:bA ls s'=some (vs,os)) (h1:vs=us) (h2:os=ps):bA ls s'=some (us,ps):=by rw[hv,h1,h2]
end Go.Am
namespace Go.Am
open AV
def gx (b:Bool) (n:Nat):Int:=if b then-(n:Int)else n
def sQ (b:Bool) (n d:Nat):Rat:=mkRat (gx b n) d
def cW (q:Rat):Nat:=max (bN q.num.natAbs) (bN q.den)
theorem Cy {b:Bool} {n:Nat}:(gx b n).natAbs=n:=by unfold gx;split<;>simp
theorem aic {b:Bool}:gx b 0=0:=by unfold gx;split<;>simp
theorem aej {b:Bool} {n g:Nat} (h:g∣n):gx b n/(g:Int)=gx b (n/g):=by
 unfold gx
 split
 ·rw[Int.neg_ediv_of_dvd (Int.natCast_dvd_natCast.2 h)];simp
 ·simp
theorem jv {q:Rat}:q<0↔q.num<0:=by rw[Rat.lt_iff];simp
theorem CD {b:Bool} {n d:Nat} (hd:d≠0):(sQ b n d).num=gx b (n/Nat.gcd n d):=by
 unfold sQ
 rw[Rat.num_mkRat,if_neg hd,Cy,Nat.gcd_comm,aej (Nat.gcd_dvd_left n d)]
theorem IF {b:Bool} {n d:Nat} (hd:d≠0):(sQ b n d).den=d/Nat.gcd n d:=by
 unfold sQ
 rw[Rat.den_mkRat,if_neg hd,Cy,Nat.gcd_comm]
theorem Gv {b:Bool} {d:Nat}:sQ b 0 d=0:=by unfold sQ;rw[aic];simp
theorem ahQ {b:Bool} {n d:Nat} (hn:n≠0) (hd:d≠0):decide (sQ b n d<0)=b:=by
 have h1:0<n/Nat.gcd n d:=Nat.div_pos (Nat.le_of_dvd aa (Nat.gcd_dvd_left n d)) (Nat.gcd_pos_of_pos_left _ aa)
 cases b
 ·simp only[bt,jv,CD hd,gx];simp;omega
 ·simp only[bk,jv,CD hd,gx];simp;omega
theorem wW {q:Rat}:Sz q (cW q):=
 ⟨Nat.lt_of_lt_of_le (jr.1 bz) (Nat.pow_le_pow_right aa (Nat.le_max_left _ _)),Nat.lt_of_lt_of_le (jr.1 bz) (Nat.pow_le_pow_right aa (Nat.le_max_right _ _))⟩
theorem RC {q:Rat} {n:Nat}:Sz q n↔cW q<=n:=by
 unfold Sz cW
 rw[<-jr,<-jr];omega
theorem dU {q r:Rat} {n k:Nat} (h:q=r) (hs:Sz r k):bh (.rat q n) (.rat r k):=by
 subst h
 refine⟨rfl,fun M w cs hc=>?_⟩
 cases hc with
 |rat _ h1 h2 h3=>cases h3;exact .rat hs h1 h2 .nil
theorem B0 {b:Bool} {n d k:Nat} (hd:d≠0) (hn:n<2^k) (hdk:d<2^k):Sz (sQ b n d) k:=by
 refine⟨?_,?_⟩
 ·rw[CD hd,Cy];exact Nat.lt_of_le_of_lt (Nat.div_le_self _ _) hn
 ·rw[IF hd];exact Nat.lt_of_le_of_lt (Nat.div_le_self _ _) hdk
theorem lU (q:Rat):sQ (decide (q<0)) q.num.natAbs q.den=q:=by
 unfold sQ
 have:gx (decide (q<0)) q.num.natAbs=q.num:=by
  unfold gx
  by_cases h:q<0
  ·have:=jv.1 h;simp[h];omega
  ·have:¬q.num<0:=fun h'=>h (jv.2 h')
   simp[h];omega
 rw[this,Rat.mkRat_self]
theorem vK {b:Bool} {x y n d k:Nat} (hn:n≠0) (hd:d≠0) (hx:x=n/Nat.gcd n d) (hy:y=if d/Nat.gcd n d=1 then 0 else d/Nat.gcd n d) (hs:Sz (sQ b n d) k):bh (.agg [.bool b,.mag x,.mag y]) (.rat (sQ b n d) k):=
 tI hs (ahQ hn hd).symm (by rw[CD hd,Cy,hx]) (by rw[IF hd,hy])
theorem mM {k:Nat}:bh (.agg [.bool false,.mag 0,.mag 0]) (.rat 0 (k+1)):=
 tI ⟨by simp[Nat.two_pow_pos],by simp⟩ (by decide) rfl rfl
section down
variable {P:Program} {c:Ctx} {nt:Nat} {s:aK} {Q:aq->aK->Prop} {T:Types}
def dH (c:Ctx) (Q:aq->aK->Prop) (e:aq) (s':aK):Prop:=Q e s'\/∃s2 ρ,Le c ρ s' s2/\Q e s2
theorem ax.down {x:Code} (h:ax P c nt x s (dH c Q)):ax P c nt x s Q:=by
 intro a w hr
 refine wpIn_mono (h a w hr) ?_
 rintro e a' w' ⟨ae,s',h1,h2,hq|⟨s2,ρ,hle,hq⟩⟩
 ·exact⟨ae,s',h1,h2,hq⟩
 ·exact⟨ae,s2,h1,hle.rel h2,hq⟩
theorem xC {fn:Func} {ls:List Nat} {vs:List AV} {os:aC} {nx:Nat} {s':aK} {e:aq} {t:ag (List AV)} {res:AV} (he:kH T fn e ⟨aA ls vs,os,nx⟩=some t) (hv:bA ls s'=some (vs,os)) (h0:∀k x,c.k0 k=some x->k<nx) (hok:j8 nx vs=true) (ho:iF nx os)
  (h:t.all fun _ us=>fK us res):dH c (Fin T fn res) e s':=by
 obtain⟨ρ,hle⟩:=pg hv h0 hok ho
 exact .inr ⟨_,ρ,hle,CK he h⟩
theorem aG.kU (hT:fu P T) {Γ:aX} (hΓ:bq P Γ) (hm:P.follows .mixedOrders=true) {fn:Func} {forks:List Nat} (n:Nat) {l:List Code} {ls:List Nat} {nx:Nat} {vs:List AV} {os:aC} (hv:bA ls s=some (vs,os)) (h0:∀k x,c.k0 k=some x->k<nx)
  (hok:j8 nx vs=true) (ho:iF nx os) {t:ag (List AV)} (hc:cy T Γ forks n fn l ⟨aA ls vs,os,nx⟩=some t) (hd:(l.all fun x=>cm nt x)=true) (hl:l.isEmpty=false) {res:AV} (h:t.all fun _ us=>fK us res):aG P c nt l s (dH c (Fin T fn res)):=
 (aG.zT hT hΓ hm n hv h0 hok ho hc hd hl h).mono fun _ _ h=>.inl h
end down
theorem fX {P:Program} {T:Types} (hT:fu P T) {f:FuncId} {fn:Func} {x:Code} (hf:jI P f fn x) {args:List AV} {r:dI} (hk:bH args=[]) (hlen:args.length<=fn.ntmps) (hpost:r.post=[])
  (h:r.need->∀c:Ctx,(∀nx k x,c.k0 k=some x->k<nx)->ax P c fn.ntmps x ⟨aQ 0 args,[],0⟩ (dH c (Fin T fn r.res))) (K:Nat) (pre:aC):aS P f K args pre r:=
 kG hT hf hk hlen hpost (fun need c h0=>.down (h need c fun _=>kX h0)) K pre
mutual
def szA:AV->Prop
 |.rat q n=>Sz q n
 |.agg l=>vc l
 |_=>True
def vc:List AV->Prop
 |[]=>True
 |a::l=>szA a/\vc l
end
theorem aN.sz {M:Nat->Prop} {w:World} {β:aY} {l:List AV} {cs:List Value} (h:aN M w β l cs):vc l:=by
 induction h with
 |nil=>trivial
 |rat hs _ _ _ _ _ ih=>exact⟨hs,ih⟩
 |agg _ _ ih1 ih2=>exact⟨ih1,ih2⟩
 |ak _ _ _ _ _ _ _ ih=>exact⟨trivial,ih⟩
 |eR _ _ _ _ _ _ _ _ ih=>exact⟨trivial,ih⟩
 |bg _ _ _ _ ih=>exact⟨trivial,ih⟩
 |func _ _ _ _ ih=>exact⟨trivial,ih⟩
 |bO _ _ _ _ ih=>exact⟨trivial,ih⟩
 |_=>rename_i ih;exact⟨trivial,ih⟩
theorem cH.sz {M:Nat->Prop} {w:World} {β:aY}:∀{l:List AV} {xs:List Value},cH M w β l xs->vc l
 |[],[],_=>trivial
 |a::l,x::xs,h=>by
  obtain⟨⟨cs,h1,_⟩,h2⟩:=h
  exact⟨h1.sz.1,h2.sz⟩
 |[],_::_,h=>h.elim
 |_::_,[],h=>h.elim
theorem ah4 {P:Program} {f:FuncId} {K:Nat} {args:List AV} {pre:aC} {r:dI} (hp:∀k o,look k r.post=some o->(∃o',look k pre=some o')\/(K<=k/\k<K+cT)) (h:vc args->aS P f K args pre r):aS P f K args pre r:=
 fun need=>⟨hp,fun c D D' β w vs h1 h2 h3 h4 h5 hv=>(h hv.sz need).2 c D D' β w vs h1 h2 h3 h4 h5 hv⟩
theorem kD {P:Program} {f:FuncId} {K:Nat} {args:List AV} {pre:aC} {v:AV} {l:List Prop} (h:vc args->aS P f K args pre ⟨v,[],l⟩):aS P f K args pre ⟨v,[],l⟩:=
 ah4 (fun k o hk=>by simp[look]at hk) h
theorem kT {N n:Nat} (h:N<2^n) (hn:n<2^44):nl N<2^40:=by
 have h1:N<2^(32*(n/32+1)):=Nat.lt_of_lt_of_le h (Nat.pow_le_pow_right aa aa)
 have:=dF.2 h1
 omega
theorem ad5 {q:Rat}:(if q.den=1 then 0 else q.den)<=q.den:=by split<;>omega
theorem Sz.jJ {q:Rat} {n:Nat} (h:Sz q n) (hn:n<2^44):nl q.num.natAbs<2^40/\nl q.den<2^40/\nl (if q.den=1 then 0 else q.den)<2^40:=
 ⟨kT h.1 hn,kT h.2 hn,Nat.lt_of_le_of_lt (iI ad5) (kT h.2 hn)⟩
theorem Sz.pos {q:Rat} {n:Nat} (h:Sz q n):0<n:=by
 rcases Nat.eq_zero_or_pos n with h1|h1
 ·subst h1;have:=h.2;have:=q.den_nz;omega
 ·exact h1
theorem Sz.more {q:Rat} {n m:Nat} (h:Sz q n) (hm:n<=m):Sz q m:=
 ⟨Nat.lt_of_lt_of_le h.1 (Nat.pow_le_pow_right aa hm),Nat.lt_of_lt_of_le h.2 (Nat.pow_le_pow_right aa hm)⟩
theorem ID {a:Int} {d:Nat}:(mkRat a d).num.natAbs<=a.natAbs:=by
 rw[Rat.num_mkRat]
 split
 ·simp
 ·rw[Int.natAbs_ediv_of_dvd]
  ·exact Nat.div_le_self _ _
  ·exact Int.ofNat_dvd_left.2 (Nat.gcd_dvd_right _ _)
theorem Oo {a:Int} {d:Nat} (h:d≠0):(mkRat a d).den<=d:=by
 rw[Rat.den_mkRat,if_neg h]
 exact Nat.div_le_self _ _
theorem Sz.add {q r:Rat} {n m:Nat} (h:Sz q n) (h':Sz r m):Sz (q+r) (n+m+1):=by
 rw[Rat.add_def']
 have d0:q.den*r.den≠0:=Nat.mul_ne_zero q.den_nz r.den_nz
 have e:2^(n+m+1)=2^n*2^m+2^n*2^m:=by rw[Nat.pow_succ,Nat.pow_add];omega
 have b1:q.num.natAbs*r.den<=2^n*2^m:=Nat.mul_le_mul (Nat.le_of_lt h.1) (Nat.le_of_lt h'.2)
 have b2:r.num.natAbs*q.den<2^m*2^n:=Nat.mul_lt_mul'' h'.1 h.2
 have b3:q.den*r.den<=2^n*2^m:=Nat.mul_le_mul (Nat.le_of_lt h.2) (Nat.le_of_lt h'.2)
 have b4:0<2^n*2^m:=Nat.mul_pos (Nat.two_pow_pos _) (Nat.two_pow_pos _)
 rw[Nat.mul_comm (2^m)]at b2
 refine⟨Nat.lt_of_le_of_lt ID ?_,Nat.lt_of_le_of_lt (Oo d0) aa⟩
 have b5:=Int.natAbs_add_le (q.num*r.den) (r.num*q.den)
 rw[Int.natAbs_mul,Int.natAbs_mul,Int.natAbs_natCast,Int.natAbs_natCast]at b5
 omega
theorem Sz.neg {q:Rat} {n:Nat} (h:Sz q n):Sz (-q) n:=by
 refine⟨?_,?_⟩
 ·rw[Rat.neg_num,Int.natAbs_neg];exact h.1
 ·rw[Rat.neg_den];exact h.2
theorem Sz.sub {q r:Rat} {n m:Nat} (h:Sz q n) (h':Sz r m):Sz (q-r) (n+m+1):=by
 rw[Rat.sub_eq_add_neg];exact h.add h'.neg
theorem Sz.mul {q r:Rat} {n m:Nat} (h:Sz q n) (h':Sz r m):Sz (q*r) (n+m):=by
 rw[Rat.mul_def']
 have d0:q.den*r.den≠0:=Nat.mul_ne_zero q.den_nz r.den_nz
 refine⟨Nat.lt_of_le_of_lt ID ?_,Nat.lt_of_le_of_lt (Oo d0) ?_⟩
 ·rw[Int.natAbs_mul,Nat.pow_add];exact Nat.mul_lt_mul'' h.1 h'.1
 ·rw[Nat.pow_add];exact Nat.mul_lt_mul'' h.2 h'.2
theorem Sz.inv {q:Rat} {n:Nat} (h:Sz q n):Sz q⁻¹ n:=by
 by_cases h0:q=0
 ·subst h0
  rw[Rat.inv_zero]
  exact h
 ·have hn:q.num≠0:=fun h=>h0 (Rat.num_eq_zero.1 h)
  refine⟨?_,?_⟩
  ·rw[Rat.num_inv,Int.natAbs_mul,Int.natAbs_natCast,Int.natAbs_sign_of_ne_zero hn,Nat.one_mul];exact h.2
  ·rw[Rat.den_inv,if_neg hn];exact h.1
theorem Sz.div {q r:Rat} {n m:Nat} (h:Sz q n) (h':Sz r m):Sz (q/r) (n+m):=by
 rw[Rat.div_def];exact h.mul h'.inv
def fQ (q:Rat):Int:=if q<0 then-1 else if 0<q then 1 else 0
def ep (q r:Rat):Int:=if q<r then-1 else if r<q then 1 else 0
end Go.Am
namespace Go.Am
open AV
def Cw (T:Types) (fn:Func) (e:aq) (s:aK):Option (ag (List AV×Option au)):=
 match kH T fn e s with
 |some t=>t.bind fun e us=>some (.leaf e (us,look 0 s.store))
 |none=>none
def vS (T:Types) (Γ:aX) (forks:List Nat) (n:Nat) (fn:Func) (x:Code) (s:aK):Option (ag (List AV×Option au)):=
 match eV T Γ forks n x s with
 |some t=>t.bind (Cw T fn)
 |none=>none
theorem BA {P:Program} {T:Types} (hT:fu P T) {Γ:aX} (hΓ:bq P Γ) (hm:P.follows .mixedOrders=true) {f:FuncId} {fn:Func} {x:Code} (hf:jI P f fn x) {k idx es off:Nat} {p:List Nat} {rest:List AV} {o2 o o':au} {res:AV} {l:List Prop}
  (hkr:bH rest=[]) (hrt:(rest.all fun v=>!v.isTuple)=true) (hlen:rest.length+1<=fn.ntmps) (ho:∀ρ,dK ρ o2 o) {forks:List Nat} (n:Nat) {t:ag (List AV×Option au)}
  (hc:vS T Γ forks n fn x ⟨aQ 0 (.ptr 0 idx es off p::rest),[(0,o)],1⟩=some t)
  (h:az l->t.all fun _ v=>fK v.1 res/\∃o1,v.2=some o1/\o1.row=false/\dK (bC [(k,0)]) o1 o') (K:Nat):
  aS P f K (.ptr k idx es off p::rest) [(k,o2)] ⟨res,[(k,o')],l⟩:=by
 have hrest:∀{rest:List AV},bH rest=[]->(rest.all fun v=>!v.isTuple)=true->gO (bC [(0,k)]) rest rest:=by
  intro rest
  induction rest with
  |nil=>intro _ _;trivial
  |cons v r ih=>
   intro h1 h2
   simp only[bH,List.append_eq_nil_iff]at h1
   simp only[List.all_cons,Bool.and_eq_true,Bool.not_eq_true']at h2
   exact⟨⟨h2.1,gy h1.1⟩,ih h1.2 h2.2⟩
 refine oO hT hf (args0:=.ptr 0 idx es off p::rest) (pre0:=[(0,o)]) (nx:=1) [(0,k)] (by simpa using hlen) (by simp[jE]) ⟨⟨rfl,oe rfl⟩,hrest hkr hrt⟩ ⟨⟨k,o2,rfl,by simp[look],ho _⟩,trivial⟩
  (fun a x h=>?_) (fun x o h=>.inl ?_) (fun need c h0=>?_)
 ·simp only[bC,look]at h
  split at h
  ·simp only[ay]at h;subst h;exact⟨_,by simp[look];rfl⟩
  ·simp at h
 ·simp only[look]at h
  split at h
  ·rename_i he
   exact⟨_,by simp only[look,he,if_true];rfl⟩
  ·simp at h
 have h:=h need
 unfold vS at hc
 cases hx:eV T Γ forks n x ⟨aQ 0 (.ptr 0 idx es off p::rest),[(0,o)],1⟩with
 |none=>rw[hx]at hc;simp at hc
 |some u=>
  rw[hx]at hc
  refine lE hT hΓ hm n hf.dst hx (ag.gh ?_ (ag.kr hc h))
  rintro e s' ⟨v,h1,h2⟩
  unfold Cw at h1
  split at h1
  ·rename_i v' hv'
   have h3:=ag.kr h1 h2
   have h4:v'.all fun _ us=>fK us res/\∃o1,look 0 s'.store=some o1/\o1.row=false/\dK (bC [(k,0)]) o1 o':=by
    refine ag.gh ?_ h3
    rintro e us ⟨w,g1,g2⟩
    simp only[ay]at g1
    subst g1
    exact g2
   have h5:Fin T fn res e s':=CK hv' (ag.gh (fun _ _ h=>h.1) h4)
   have h6:∃o1,look 0 s'.store=some o1/\o1.row=false/\dK (bC [(k,0)]) o1 o':=by
    have:∀{t:ag (List AV)},(t.all fun _ us=>fK us res/\∃o1,look 0 s'.store=some o1/\o1.row=false/\dK (bC [(k,0)]) o1 o')->∃o1,look 0 s'.store=some o1/\o1.row=false/\dK (bC [(k,0)]) o1 o':=by
     intro t
     induction t with
     |leaf e us=>exact fun h=>h.2
     |aj ps t ih=>exact fun h=>ih h.2
     |fork b t1 t2 ih1 ih2=>
      intro h
      cases b with
      |true=>exact ih1 (h.1 rfl)
      |false=>exact ih2 (h.2 rfl)
    exact this h4
   refine⟨h5.1,bC [(k,0)],vg,.inl ⟨h5.2,fun x ox hx=>?_⟩⟩
   obtain⟨o1,g1,g2,g3⟩:=h6
   have he:cM (lz [(k,o')]) [(k,o2)]=[(k,o')]:=by simp[cM,lz,put]
   replace hx:=Aw hx
   rw[he]at hx
   simp only[look]at hx
   split at hx
   ·rename_i hk
    have:k=x:=by simpa using hk
    subst this
    simp only[ay]at hx
    subst hx
    exact⟨0,o1,by simp[bC,look],g1,g2,g3⟩
   ·simp at hx
  ·simp at h1
theorem Ti {P:Program} {T:Types} (hT:fu P T) {Γ:aX} (hΓ:bq P Γ) (hm:P.follows .mixedOrders=true) {f:FuncId} {fn:Func} {x:Code} (hf:jI P f fn x) {args:List AV} {o o':au} {a idx es off ls:Nat} {p:List Nat} {l:List Prop}
  (hka:bH args=[]) (hrt:(args.all fun v=>!v.isTuple)=true) (hlen:args.length<=fn.ntmps) (hres:fn.results.toList=[.tmp ls]) {forks:List Nat} (n:Nat) {e:aq} {q:List Prop}
  (hc:aH T Γ forks n [ls] [x] ⟨aQ 0 args,[],0⟩=some (.leaf e ([.ptr a idx es off p],[(a,o)])))
  (he:e=.normal\/e=.ret) (h:∀ρ,dK ρ o o') (K:Nat):aS P f K args [] ⟨.ptr K idx es off p,[(K,o')],l⟩:=by
 have hrest:∀{rest:List AV},bH rest=[]->(rest.all fun v=>!v.isTuple)=true->gO (bC []) rest rest:=by
  intro rest
  induction rest with
  |nil=>intro _ _;trivial
  |cons v r ih=>
   intro h1 h2
   simp only[bH,List.append_eq_nil_iff]at h1
   simp only[List.all_cons,Bool.and_eq_true,Bool.not_eq_true']at h2
   exact⟨⟨h2.1,gy h1.1⟩,ih h1.2 h2.2⟩
 refine oO hT hf (args0:=args) (pre0:=[]) (nx:=0) [] hlen rfl (hrest hka hrt) trivial (fun a k h=>by simp[bC,look]at h) (fun k o h=>?_) (fun _ c h0=>?_)
 ·simp only[look]at h
  split at h
  ·rename_i he
   have:K=k:=by simpa using he
   subst this
   exact .inr ⟨bz,by unfold cT;omega⟩
  ·simp at h
 refine ax.bE hT hΓ hm n [ls] hc hf.dst fun s' hv=>⟨he,bC [(K,a)],Ej ⟨bz,by unfold cT;omega⟩,.inr ?_⟩
 refine vW (us:=[.ptr a idx es off p]) (ws:=[.ptr K idx es off p]) (ps:=[(K,o')]) hv ?_ ⟨⟨rfl,oe (by simp[bC,look])⟩,trivial⟩ rfl rfl ⟨⟨a,_,by simp[bC,look],by simp[look],h _⟩,trivial⟩
 rw[hres]
 simp only[mQ,aA,look,beq_self_eq_true,if_true]
 rfl
mutual
def fy (b:Bool):AV->AV->Option AV
 |.rat q n,.rat r m=>some (.rat (cond b q r) (max n m))
 |.int k x,.int j y=>match isKind k j with
  |true=>some (.int k (cond b x y))
  |false=>none
 |.bool x,.bool y=>some (.bool (cond b x y))
 |.ak e n f,.ak e' m g=>match e==e' with
  |true=>some (.ak e (cond b n m) fun i=>cond b (f i) (g i))
  |false=>none
 |.nil,.nil=>some .nil
 |.nil,.ak e n f=>match Nat.blt 0 e with
  |true=>some (.ak e (cond b 0 n) f)
  |false=>none
 |.ak e n f,.nil=>match Nat.blt 0 e with
  |true=>some (.ak e (cond b n 0) f)
  |false=>none
 |.agg l,.agg m=>match oF b l m with
  |some x=>some (.agg x)
  |none=>none
 |_,_=>none
def oF (b:Bool):List AV->List AV->Option (List AV)
 |[],[]=>some []
 |u::l,v::m=>match fy b u v,oF b l m with
  |some x,some y=>some (x::y)
  |_,_=>none
 |_,_=>none
end
mutual
theorem Si:∀{u v x:AV},fy true u v=some x->bh u x
 |.rat q n,v,x,h=>by
  cases v<;>simp only[fy,ay,reduceCtorEq]at h
  subst h;exact ey (Nat.le_max_left ..)
 |.int k a,v,x,h=>by
  cases v<;>simp only[fy,reduceCtorEq]at h
  split at h
  ·simp only[ay]at h;subst h;exact .refl _
  ·simp at h
 |.bool a,v,x,h=>by
  cases v<;>simp only[fy,ay,reduceCtorEq]at h
  subst h;exact .refl _
 |.ak e n f,v,x,h=>by
  cases v<;>simp only[fy,reduceCtorEq]at h
  ·split at h
   ·simp only[ay]at h;subst h;exact .refl _
   ·simp at h
  ·split at h
   ·simp only[ay]at h;subst h;exact .refl _
   ·simp at h
 |.nil,v,x,h=>by
  cases v<;>simp only[fy,ay,reduceCtorEq]at h
  ·split at h
   ·rename_i he
    simp only[ay]at h;subst h
    exact iJ (by rw[Nat.blt_eq]at he;exact he)
   ·simp at h
  ·subst h;exact .refl _
 |.agg l,v,x,h=>by
  cases v<;>simp only[fy,reduceCtorEq]at h
  split at h
  ·rename_i hl
   simp only[ay]at h;subst h;exact cL (C6 hl)
  ·simp at h
 |.mag _,v,x,h=>by simp[fy]at h
 |.eR _ _ _ _,v,x,h=>by simp[fy]at h
 |.void,v,x,h=>by simp[fy]at h
 |.str _,v,x,h=>by simp[fy]at h
 |.bg _,v,x,h=>by simp[fy]at h
 |.ptr _ _ _ _ _,v,x,h=>by simp[fy]at h
 |.own _ _ _ _,v,x,h=>by simp[fy]at h
 |.func _ _,v,x,h=>by simp[fy]at h
 |.tuple _,v,x,h=>by simp[fy]at h
 |.bO _ _,v,x,h=>by simp[fy]at h
theorem C6:∀{u v x:List AV},oF true u v=some x->fR u x
 |[],v,x,h=>by
  cases v<;>simp only[oF,ay,reduceCtorEq]at h
  subst h;trivial
 |a::l,v,x,h=>by
  cases v<;>simp only[oF,reduceCtorEq]at h
  split at h
  ·rename_i h1 h2
   simp only[ay]at h;subst h;exact⟨Si h1,C6 h2⟩
  ·simp at h
end
mutual
theorem Rm:∀{u v x:AV},fy false u v=some x->bh v x
 |.rat q n,v,x,h=>by
  cases v<;>simp only[fy,ay,reduceCtorEq]at h
  subst h;exact ey (Nat.le_max_right ..)
 |.int k a,v,x,h=>by
  cases v<;>simp only[fy,reduceCtorEq]at h
  split at h
  ·rename_i hk
   have:=CF hk
   subst this
   simp only[ay]at h;subst h;exact .refl _
  ·simp at h
 |.bool a,v,x,h=>by
  cases v<;>simp only[fy,ay,reduceCtorEq]at h
  subst h;exact .refl _
 |.ak e n f,v,x,h=>by
  cases v<;>simp only[fy,reduceCtorEq]at h
  ·split at h
   ·rename_i hk
    have:=eq_of_beq hk
    subst this
    simp only[ay]at h;subst h;exact .refl _
   ·simp at h
  ·split at h
   ·rename_i he
    simp only[ay]at h;subst h
    exact iJ (by rw[Nat.blt_eq]at he;exact he)
   ·simp at h
 |.nil,v,x,h=>by
  cases v<;>simp only[fy,ay,reduceCtorEq]at h
  ·split at h
   ·simp only[ay]at h;subst h;exact .refl _
   ·simp at h
  ·subst h;exact .refl _
 |.agg l,v,x,h=>by
  cases v<;>simp only[fy,reduceCtorEq]at h
  split at h
  ·rename_i hl
   simp only[ay]at h;subst h;exact cL (GF hl)
  ·simp at h
 |.mag _,v,x,h=>by simp[fy]at h
 |.eR _ _ _ _,v,x,h=>by simp[fy]at h
 |.void,v,x,h=>by simp[fy]at h
 |.str _,v,x,h=>by simp[fy]at h
 |.bg _,v,x,h=>by simp[fy]at h
 |.ptr _ _ _ _ _,v,x,h=>by simp[fy]at h
 |.own _ _ _ _,v,x,h=>by simp[fy]at h
 |.func _ _,v,x,h=>by simp[fy]at h
 |.tuple _,v,x,h=>by simp[fy]at h
 |.bO _ _,v,x,h=>by simp[fy]at h
theorem GF:∀{u v x:List AV},oF false u v=some x->fR v x
 |[],v,x,h=>by
  cases v<;>simp only[oF,ay,reduceCtorEq]at h
  subst h;trivial
 |a::l,v,x,h=>by
  cases v<;>simp only[oF,reduceCtorEq]at h
  split at h
  ·rename_i h1 h2
   simp only[ay]at h;subst h;exact⟨Rm h1,GF h2⟩
  ·simp at h
end
theorem fR.trans:∀{a b c:List AV},fR a b->fR b c->fR a c
 |[],[],[],_,_=>trivial
 |_::_,_::_,_::_,h,h'=>⟨h.1.trans h'.1,h.2.trans h'.2⟩
 |[],[],_::_,_,h=>h.elim
 |[],_::_,_,h,_=>h.elim
 |_::_,[],_,h,_=>h.elim
 |_::_,_::_,[],_,h=>h.elim
def rq:ag (List AV)->Option (List AV×List Prop)
 |.leaf _ us=>some (us,[])
 |.aj ps t=>match rq t with
  |some (us,qs)=>some (us,ps++qs)
  |none=>none
 |.fork b t u=>match rq t,rq u with
  |some (x,p),some (y,q)=>match oF b x y with
   |some z=>match p,q with
    |[],[]=>some (z,[])
    |p,q=>some (z,[b=true->az p,b=false->az q])
   |none=>none
  |_,_=>none
theorem xj:∀{t:ag (List AV)} {us:List AV} {ps:List Prop},rq t=some (us,ps)->az ps->t.all fun _ vs=>fR vs us
 |.leaf e vs,us,ps,h,_=>by
  simp only[rq,ay,Prod.mk.injEq]at h
  obtain⟨rfl,rfl⟩:=h
  exact .refl _
 |.aj l t,us,ps,h,hp=>by
  simp only[rq]at h
  split at h
  ·rename_i h1
   simp only[ay,Prod.mk.injEq]at h
   obtain⟨rfl,rfl⟩:=h
   obtain⟨p1,p2⟩:=fD.1 hp
   exact⟨p1,xj h1 p2⟩
  ·simp at h
 |.fork b t u,us,ps,h,hp=>by
  simp only[rq]at h
  split at h
  ·rename_i x p y q h1 h2
   split at h
   ·rename_i z hz
    have key:us=z/\(b=true->az p)/\(b=false->az q):=by
     split at h
     ·simp only[ay,Prod.mk.injEq]at h
      exact⟨h.1.symm,fun _=>trivial,fun _=>trivial⟩
     ·simp only[ay,Prod.mk.injEq]at h
      obtain⟨rfl,rfl⟩:=h
      exact⟨rfl,hp⟩
    obtain⟨rfl,p1,p2⟩:=key
    refine⟨fun hb=>?_,fun hb=>?_⟩
    ·subst hb
     exact ag.gh (fun _ vs hv=>hv.trans (C6 hz)) (xj h1 (p1 rfl))
    ·subst hb
     exact ag.gh (fun _ vs hv=>hv.trans (GF hz)) (xj h2 (p2 rfl))
   ·simp at h
  ·simp at h
def iZ (T:Types) (Γ:aX) (forks:List Nat) (fuel:Nat) (fn:Func):Spec:=bY fun args=>
 match Nat.ble args.length fn.ntmps with
 |true=>match bU T Γ forks fuel fn (aF fn) ⟨aQ 0 args,[],0⟩with
  |some t=>match rq t with
   |some (us,ps)=>match us with
    |[u]=>some ⟨u,[],ps⟩
    |us=>some ⟨.tuple us,[],ps⟩
   |none=>none
  |none=>none
 |false=>none
theorem aaZ {us:List AV} {v:AV} (h:fR us [v]):fK us v:=by
 match us,h with
 |[u],h=>exact h.1
theorem Tl {us vs:List AV} (hv:∀u,vs≠[u]) (h:fR us vs):fK us (.tuple vs):=by
 match us,vs,h with
 |[],[],h=>exact h
 |[u],[v],h=>exact absurd rfl (hv v)
 |a::b::l,_::_::_,h=>exact h
 |[u],_::_::_,h=>exact absurd h.2 (by simp[fR])
 |a::b::l,[v],h=>exact absurd h.2 (by simp[fR])
 |[],_::_,h=>exact h.elim
 |_::_,[],h=>exact h.elim
theorem jn {P:Program} {T:Types} (hT:fu P T) {Γ:aX} (hΓ:bq P Γ) (hm:P.follows .mixedOrders=true) {f:FuncId} {fn:Func} (hf:jI P f fn (aF fn)) (forks:List Nat) (fuel:Nat):
  ∀K args pre r,iZ T Γ forks fuel fn K args pre=some r->aS P f K args pre r:=by
 refine cF fun K args r hk hs hp=>?_
 split at hs
 ·rename_i hlen
  have hlen:=Nat.le_of_ble_eq_true hlen
  split at hs
  ·rename_i t ht
   split at hs
   ·rename_i us ps hc
    split at hs
    ·simp only[ay]at hs
     subst hs
     exact bX (r:=⟨_,[],ps⟩) hT hΓ hm hf hk hlen rfl fuel ht (fun hn=>ag.gh (fun _ vs hv=>aaZ hv) (xj hc hn)) K []
    ·rename_i hne
     simp only[ay]at hs
     subst hs
     exact bX (r:=⟨_,[],ps⟩) hT hΓ hm hf hk hlen rfl fuel ht (fun hn=>ag.gh (fun _ vs hv=>Tl hne hv) (xj hc hn)) K []
   ·simp at hs
  ·simp at hs
 ·simp at hs
theorem kW {P:Program} {Γ:aX} (h:bq P Γ):bq P (sG::Γ):=aI (fun K args pre r hs=>by simp at hs) h
theorem cz {P:Program} {Γ:aX} (h:bq P Γ):bq P (nG::Γ):=aI (fun K args pre r hs=>by simp at hs) h
end Go.Am
namespace Go.Am
open AV
def nB (rl:List (Nat×Nat)):AV->AV
 |.ptr k i e o p=>match look k rl with
  |some j=>.ptr j i e o p
  |none=>.void
 |.own k e s n=>match look k rl with
  |some j=>.own j e s n
  |none=>match s,n,e with
   |0,0,_+1=>.nil
   |_,_,_=>.void
 |.bO c (.own k e s n)=>match look k rl with
  |some j=>.bO c (.own j e s n)
  |none=>.void
 |v=>v
def ni (rl:List (Nat×Nat)):AV->Bool
 |.ptr k _ _ _ _=>(look k rl).isSome
 |.own k e s n=>(look k rl).isSome||match s,n,e with
  |0,0,_+1=>true
  |_,_,_=>false
 |.tuple _=>false
 |.bO _ (.own k _ _ _)=>(look k rl).isSome
 |v=>(keys v).isEmpty
theorem Ys {ρ:Nat->Option Nat} {c c2:Nat} {u v:AV} (hc:c=c2) (hv:v.isAgg=false) (h:gz ρ u v):gz ρ (.bO c u) (.bO c2 v):=by
 subst hc
 refine⟨rfl,fun M w β cs hcs=>?_⟩
 cases hcs with
 |bO _ h1 h2=>cases h2;exact .bO hv (h.2 _ _ _ _ h1) .nil
theorem Qk {rl:List (Nat×Nat)} {u v:AV} (hu:u=nB rl v) (hv:ni rl v=true):u.isTuple=false/\gz (bC rl) u v:=by
 subst hu
 cases v with
 |ptr k i e o p=>
  simp only[ni,Option.isSome_iff_exists]at hv
  obtain⟨j,hj⟩:=hv
  simp only[nB,hj]
  exact⟨rfl,oe hj⟩
 |own k e s n=>
  simp only[ni]at hv
  cases hj:look k rl with
  |some j=>
   simp only[nB,hj]
   exact⟨rfl,cP hj rfl rfl⟩
  |none=>
   rw[hj]at hv
   simp only[Option.isSome_none,Bool.false_or]at hv
   split at hv
   ·simp only[nB,hj]
    exact⟨rfl,qc aa⟩
   ·simp at hv
 |tuple l=>simp[ni]at hv
 |bO c v=>
  cases v with
  |own k e s n=>
   simp only[ni,Option.isSome_iff_exists]at hv
   obtain⟨j,hj⟩:=hv
   simp only[nB,hj]
   exact⟨rfl,Ys rfl rfl (cP hj rfl rfl)⟩
  |_=>
   simp only[ni,List.isEmpty_iff]at hv
   exact⟨rfl,gy hv⟩
 |_=>
  simp only[ni,List.isEmpty_iff]at hv
  exact⟨rfl,gy hv⟩
theorem Jf {rl:List (Nat×Nat)}:∀{vs us:List AV},us=vs.map (nB rl)->vs.all (ni rl)=true->gO (bC rl) us vs
 |[],_,h,_=>by subst h;trivial
 |v::vs,_,h,hv=>by
  subst h
  simp only[List.all_cons,Bool.and_eq_true]at hv
  exact⟨Qk rfl hv.1,Jf rfl hv.2⟩
def td:AV->Bool
 |.tuple _=>false
 |v=>(keys v).isEmpty
theorem YY {rl:List (Nat×Nat)} {v:AV} (h:td v=true):nB rl v=v:=by
 cases v with
 |bO c v=>cases v<;>first|rfl|simp[td,keys]at h
 |_=>first|rfl|simp[td,keys]at h
theorem agm {rl:List (Nat×Nat)} {v:AV} (h:td v=true):ni rl v=true:=by
 cases v with
 |bO c v=>cases v<;>first|exact h|simp[td,keys]at h
 |_=>first|exact h|simp[td,keys]at h
def ia (rl:List (Nat×Nat)) (u v:AV):Prop:=((ni rl v=true/\u=nB rl v)\/gz (bC rl) u v)\/(keys u=[]/\bh u v)
theorem Qy {ρ:Nat->Option Nat} {M:Nat->Prop} {w:World} {β:aY}:∀{us vs:List AV} {cs:List Value},gO ρ us vs->aN M w β us cs->aN M w (fun k=>(ρ k).bind β) vs cs
 |[],[],_,_,h=>by cases h;exact .nil
 |u::us,v::vs,cs,hl,h=>by
  obtain⟨c1,c2,rfl,h1,h2⟩:=h.split
  exact(hl.1.2.2 M w β c1 h1).cons (Qy hl.2 h2)
 |[],_::_,_,h,_=>h.elim
 |_::_,[],_,h,_=>h.elim
theorem aiI {ρ:Nat->Option Nat} {us vs:List AV} (h:gO ρ us vs):gz ρ (.agg us) (.agg vs):=by
 refine⟨rfl,fun M w β cs hc=>?_⟩
 cases hc with
 |agg h1 h2=>cases h2;exact .agg (Qy h h1) .nil
theorem nF {rl:List (Nat×Nat)} {us vs:List AV} (h:gO (bC rl) us vs):ia rl (.agg us) (.agg vs):=.inl (.inr (aiI h))
theorem ia.le {rl:List (Nat×Nat)} {u v:AV} (h:ia rl u v):gz (bC rl) u v:=by
 rcases h with(h|h)|h
 ·exact(Qk h.2 h.1).2
 ·exact h
 ·exact nS h.1 h.2
def jN (nx:Nat) (rl:List (Nat×Nat)) (os:aC):aC->Prop
 |[]=>True
 |(k2,o2)::ps=>((look k2 rl=none/\vw o2/\k2<nx)\/∃k1 o1,look k2 rl=some k1/\look k1 os=some o1/\o1.row=o2.row/\o1.wr=o2.wr/\o1.es=o2.es/\o1.len=o2.len/\∀i,i<o2.len->ia rl (o1.f i) (o2.f i))/\jN nx rl os ps
theorem FU {nx:Nat} {rl:List (Nat×Nat)} {os:aC}:∀{ps:aC},jN nx rl os ps->yS nx (bC rl) os ps
 |[],_=>trivial
 |(k2,o2)::ps,h=>by
  obtain⟨h|⟨k1,o1,h1,h2,h3,h4,h5,h6,h7⟩,h8⟩:=h
  ·exact⟨.inr h,FU h8⟩
  ·exact⟨.inl ⟨k1,o1,h1,h2,⟨h3.symm▸rfl,h4.symm▸rfl,h5.symm▸rfl,h6.symm▸rfl,fun i hi=>(h7 i (h6▸hi)).le⟩⟩,FU h8⟩
theorem cR {rl:List (Nat×Nat)} {u v:AV} (hk:keys u=[]) (h:u=v):ia rl u v:=.inr ⟨hk,h▸.refl _⟩
theorem b7 {nx:Nat} {rl:List (Nat×Nat)} {os ps:aC} {k2 k1:Nat} {r w:Bool} {es n m:Nat} {f g:Nat->AV} (hk:look k2 rl=some k1) (ho:look k1 os=some ⟨r,w,es,n,f⟩) (hn:n=m) (h:∀i,i<m->ia rl (f i) (g i))
  (hs:jN nx rl os ps):jN nx rl os ((k2,⟨r,w,es,m,g⟩)::ps):=⟨.inr ⟨k1,_,hk,ho,rfl,rfl,rfl,hn,h⟩,hs⟩
theorem dh {nx:Nat} {rl:List (Nat×Nat)} {os ps:aC} {k2 k1:Nat} {r w:Bool} {es:Nat} {f g:Nat->AV} (hk:look k2 rl=some k1) (ho:look k1 os=some ⟨r,w,es,1,f⟩) (h:ia rl (f 0) (g 0))
  (hs:jN nx rl os ps):jN nx rl os ((k2,⟨r,w,es,1,g⟩)::ps):=b7 hk ho rfl (fun i hi=>by rw[Nat.lt_one_iff.1 hi];exact h) hs
theorem ko {nx:Nat} {rl:List (Nat×Nat)} {os ps:aC} {k2 es:Nat} {w:Bool} {f:Nat->AV} (hk:look k2 rl=none) (hes:0<es) (hn:k2<nx) (hs:jN nx rl os ps):jN nx rl os ((k2,⟨true,w,es,0,f⟩)::ps):=⟨.inl ⟨hk,⟨rfl,rfl,hes⟩,hn⟩,hs⟩
theorem CA {α:Type} {k:Nat} {a:α} {l:List (Nat×α)}:look k ((k,a)::l)=some a:=by simp[look]
theorem Nl {α:Type} {j k:Nat} {b:α} {l:List (Nat×α)} (h:(j==k)=false):look k ((j,b)::l)=look k l:=by simp[look,h]
theorem Oi {α:Type} {k:Nat} {b:List (Nat×α)}:∀{a:List (Nat×α)},look k (a++b)=match look k a with
  |some x=>some x
  |none=>look k b
 |[]=>rfl
 |(j,x)::a=>by
  simp only[List.cons_append,look]
  split
  ·rfl
  ·exact Oi
theorem zM {P:Program} {a b:aX} (ha:bq P a) (hb:bq P b):bq P (a++b):=by
 intro f s hl
 have hl:look f (a++b)=some s:=hl
 rw[Oi]at hl
 split at hl
 ·rename_i h
  simp only[ay]at hl
  subst hl
  exact ha f _ h
 ·exact hb f s hl
def Kept (kp:List Nat) (c:Ctx):Prop:=∀k x,c.k0 k=some x->k∈kp
theorem jk {c:Ctx} (h0:∀nx k x,c.k0 k=some x->k<nx):Kept [] c:=fun k x hk=>absurd (h0 0 k x hk) aa
def dN (kp:List Nat) (v:List AV×aC) (vs:List AV) (os:aC) (nx:Nat):Prop:=
 ∃rl,(jE nx rl&&kp.all fun k=>look k rl==some k)=true/\v.1=vs.map (nB rl)/\vs.all (ni rl)=true/\jN nx rl v.2 os
theorem dN.le {kp:List Nat} {c:Ctx} {s':aK} {ls:List Nat} {v:List AV×aC} {vs:List AV} {os:aC} {nx:Nat} (h:dN kp v vs os nx) (hv:bA ls s'=some v) (h0:Kept kp c):∃ρ,Le c ρ s' ⟨aA ls vs,os,nx⟩:=by
 obtain⟨rl,h1,h2,h3,h4⟩:=h
 simp only[Bool.and_eq_true]at h1
 exact LU rl hv (fun k x hk=>by simpa using List.all_eq_true.1 h1.2 k (h0 k x hk)) h1.1 (Jf h2 h3) (FU h4)
theorem dN.vals {vs:List AV} {nx:Nat} (h:vs.all td=true):dN [] (vs,[]) vs [] nx:=by
 simp only[List.all_eq_true]at h
 refine⟨[],rfl,?_,List.all_eq_true.2 fun v hv=>agm (h v hv),trivial⟩
 have:vs.map (nB [])=vs.map id:=List.map_congr_left fun v hv=>YY (h v hv)
 rw[this,List.map_id]
theorem jM {nt:Nat}:∀{x:Code} {p:List Nat},cm nt x=true->(before x p).all (fun x=>cm nt x)=true
 |.seq x y,0::p,h=>by
  simp only[cm,Bool.and_eq_true]at h
  exact jM (x:=x) h.1
 |.seq x y,(n+1)::p,h=>by
  simp only[cm,Bool.and_eq_true]at h
  simp only[before,List.all_cons,Bool.and_eq_true]
  exact⟨h.1,jM (x:=y) h.2⟩
 |.seq _ _,[],_|.cond _ _ _,_,_|.block _ _,_,_|.loop _,_,_|.region _ _ _,_,_|.skip,_,_|.label _,_,_|.exit _,_,_|.ret,_,_|.scope _,_,_|.goto _,_,_|.refuse _,_,_|.rangeFunc _ _ _ _,_,_=>by simp[before]
theorem xb {nt:Nat}:∀{x:Code} {p:List Nat},cm nt x=true->(behind x p).all (fun x=>cm nt x)=true
 |.seq x y,0::p,h=>by
  simp only[cm,Bool.and_eq_true]at h
  simp only[behind,List.all_append,List.all_cons,List.all_nil,Bool.and_true,Bool.and_eq_true]
  exact⟨xb (x:=x) h.1,h.2⟩
 |.seq x y,(n+1)::p,h=>by
  simp only[cm,Bool.and_eq_true]at h
  exact xb (x:=y) (p:=p) h.2
 |.seq _ _,[],_|.cond _ _ _,_,_|.block _ _,_,_|.loop _,_,_|.region _ _ _,_,_|.skip,_,_|.label _,_,_|.exit _,_,_|.ret,_,_|.scope _,_,_|.goto _,_,_|.refuse _,_,_|.rangeFunc _ _ _ _,_,_=>by simp[behind]
theorem yR {nt:Nat}:∀{x:Code} {p:List Nat},chain x p=true->cm nt x=true->cm nt (part x p)=true
 |x,[],_,h=>by cases x<;>exact h
 |.seq x y,0::p,hc,h=>by
  simp only[cm,Bool.and_eq_true]at h
  exact yR (x:=x) hc h.1
 |.seq x y,(n+1)::p,hc,h=>by
  simp only[cm,Bool.and_eq_true]at h
  exact yR (x:=y) hc h.2
 |.cond _ _ _,_::_,hc,_|.block _ _,_::_,hc,_|.loop _,_::_,hc,_|.region _ _ _,_::_,hc,_|.skip,_::_,hc,_|.label _,_::_,hc,_|.exit _,_::_,hc,_|.ret,_::_,hc,_|.scope _,_::_,hc,_|.goto _,_::_,hc,_|.refuse _,_::_,hc,_|.rangeFunc _ _ _ _,_::_,hc,_=>by simp[chain]at hc
section rules
variable {P:Program} {c:Ctx} {nt:Nat} {s:aK} {Q:aq->aK->Prop} {T:Types} (hT:fu P T) {Γ:aX} (hΓ:bq P Γ) (hm:P.follows .mixedOrders=true)
def Round (kp:List Nat) {α:Type} (V:α->List AV) (O:α->aC) (nx:Nat) (I D:α->Prop) (μ:α->Nat) (i:Nat) (R:List AV×aC->Prop) (a:α):aq->List AV×aC->Prop
 |.normal,v=>∃b,I b/\μ b<μ a/\dN kp v (V b) (O b) nx
 |.exit k,v=>k=i/\∃b,D b/\dN kp v (V b) (O b) nx
 |.ret,v=>R v
include hT hΓ hm in
theorem ax.TT {x y:Code} {i:Nat} (hx:x=.block i (.loop y)) {kp:List Nat} (h0:Kept kp c) {forks:List Nat} (n:Nat) (L:List Nat) (nx:Nat) {α:Type} (V:α->List AV) (O:α->aC) (I D:α->Prop) (μ:α->Nat) (R:List AV×aC->Prop)
  (a0:α) (hI:I a0) (hs:∃ρ,Le c ρ s ⟨aA L (V a0),O a0,nx⟩) (hd:cm nt y=true)
  (hb:∀a,I a->∃t,aH T Γ forks n L [y] ⟨aA L (V a),O a,nx⟩=some t/\t.all (Round kp V O nx I D μ i R a))
  (hD:∀b s',D b->(∃ρ,Le c ρ s' ⟨aA L (V b),O b,nx⟩)->Q .normal s') (hR:∀v s',R v->bA L s'=some v->Q .ret s'):ax P c nt x s Q:=by
 refine ax.jq hx (fun a=>⟨aA L (V a),O a,nx⟩) I μ a0 hs hI fun a ha=>?_
 obtain⟨t,h1,h2⟩:=hb a ha
 refine ax.bE hT hΓ hm n L h1 hd (ag.gh ?_ h2)
 rintro e v hv s' hs'
 cases e with
 |normal=>
  obtain⟨b,g1,g2,g3⟩:=hv
  exact⟨b,g3.le hs' h0,g1,g2⟩
 |exit k=>
  obtain⟨rfl,b,g1,g2⟩:=hv
  exact Ap (hD b s' g1 (g2.le hs' h0))
 |ret=>exact hR v s' hv hs'
theorem aG.one {x:Code} (h:ax P c nt x s Q):aG P c nt [x] s Q:=h.mono fun e s' h=>by cases e<;>exact h
theorem ax.gZ {x:Code} (h:aG P c nt [x] s Q):ax P c nt x s Q:=ax.mono h fun e s' h=>by cases e<;>exact h
def Start (kp:List Nat) {α:Type} (V:α->List AV) (O:α->aC) (nx:Nat) (I:α->Prop) (R:List AV×aC->Prop):aq->List AV×aC->Prop
 |.normal,v=>∃a,I a/\dN kp v (V a) (O a) nx
 |.ret,v=>R v
 |.exit _,_=>False
include hT hΓ hm in
theorem ax.zn {x y:Code} (p:List Nat) {i:Nat} (hc:chain x p=true) (hx:part x p=.block i (.loop y)) (hd:cm nt x=true) {kp:List Nat} (h0:Kept kp c) {f1 f2:List Nat} (n:Nat) (L:List Nat) (nx:Nat) {α:Type} (V:α->List AV) (O:α->aC) (I D:α->Prop) (μ:α->Nat) (R:List AV×aC->Prop)
  (hp:∃t,aH T Γ f1 n L (before x p) s=some t/\t.all (Start kp V O nx I R))
  (hb:∀a,I a->∃t,aH T Γ f2 n L [y] ⟨aA L (V a),O a,nx⟩=some t/\t.all (Round kp V O nx I D μ i R a))
  (hD:∀b s',D b->(∃ρ,Le c ρ s' ⟨aA L (V b),O b,nx⟩)->aG P c nt (behind x p) s' Q) (hR:∀v s',R v->bA L s'=some v->Q .ret s'):ax P c nt x s Q:=by
 obtain⟨t,h1,h2⟩:=hp
 refine ax.hole p hc (aG.bE hT hΓ hm n L h1 (jM hd) (ag.gh ?_ h2))
 rintro e v hv s' hs'
 cases e with
 |normal=>
  obtain⟨a,hI,hre⟩:=hv
  refine(show ax P c nt (part x p) s' _ from ax.TT hT hΓ hm hx h0 n L nx V O I D μ R a hI (hre.le hs' h0) ?_ hb (fun b s' hD' hle=>hD b s' hD' hle) fun v s' hv hs'=>hR v s' hv hs')
  have:=yR (nt:=nt) hc hd
  rw[hx]at this
  exact this
 |ret=>exact hR v s' hv hs'
 |exit k=>exact hv.elim
include hT hΓ hm in
theorem ax.lQ {x y z:Code} (p:List Nat) {i:Nat} (hc:chain x p=true) (hx:part x p=.block i (.loop y)) (hz:behind x p=[z]) (hd:cm nt x=true) {kp:List Nat} (h0:Kept kp c) {f1 f2:List Nat} (n:Nat) (L:List Nat) (nx:Nat) {α:Type} (V:α->List AV) (O:α->aC) (I D:α->Prop) (μ:α->Nat) (R:List AV×aC->Prop)
  (hp:∃t,aH T Γ f1 n L (before x p) s=some t/\t.all (Start kp V O nx I R))
  (hb:∀a,I a->∃t,aH T Γ f2 n L [y] ⟨aA L (V a),O a,nx⟩=some t/\t.all (Round kp V O nx I D μ i R a))
  (hD:∀b,D b->ax P c nt z ⟨aA L (V b),O b,nx⟩ Q) (hR:∀v s',R v->bA L s'=some v->Q .ret s'):ax P c nt x s Q:=
 ax.zn hT hΓ hm p hc hx hd h0 n L nx V O I D μ R hp hb (fun b s' hD' hle=>by rw[hz];exact aG.weak rfl hle (aG.one (hD b hD'))) hR
def Ch (c:Ctx) (L:List Nat) {α:Type} (V:α->List AV) (O:α->aC) (nx:Nat) (I D:α->Prop) (μ:α->Nat) (i:Nat) (R:aK->Prop) (a:α):aq->aK->Prop
 |.normal,s'=>∃b,I b/\μ b<μ a/\∃ρ,Le c ρ s' ⟨aA L (V b),O b,nx⟩
 |.exit k,s'=>k=i/\∃b,D b/\∃ρ,Le c ρ s' ⟨aA L (V b),O b,nx⟩
 |.ret,s'=>R s'
include hT hΓ hm in
theorem ax.Ac {x y z:Code} (p:List Nat) {i:Nat} (hc:chain x p=true) (hx:part x p=.block i (.loop y)) (hz:behind x p=[z]) (hd:cm nt x=true) {kp:List Nat} (h0:Kept kp c) {f1:List Nat} (n:Nat) (L:List Nat) (nx:Nat) {α:Type} (V:α->List AV) (O:α->aC) (I D:α->Prop) (μ:α->Nat) (R:List AV×aC->Prop)
  (hp:∃t,aH T Γ f1 n L (before x p) s=some t/\t.all (Start kp V O nx I R))
  (hb:∀a,I a->ax P c nt y ⟨aA L (V a),O a,nx⟩ (Ch c L V O nx I D μ i (fun s'=>∃v,R v/\bA L s'=some v) a))
  (hD:∀b,D b->ax P c nt z ⟨aA L (V b),O b,nx⟩ Q) (hR:∀v s',R v->bA L s'=some v->Q .ret s'):ax P c nt x s Q:=by
 obtain⟨t,h1,h2⟩:=hp
 refine ax.hole p hc (aG.bE hT hΓ hm n L h1 (jM hd) (ag.gh ?_ h2))
 rintro e v hv s' hs'
 cases e with
 |normal=>
  obtain⟨a,hI,hre⟩:=hv
  refine ax.jq hx (fun a=>⟨aA L (V a),O a,nx⟩) I μ a (hre.le hs' h0) hI fun a ha=>(hb a ha).mono fun e s' h=>?_
  cases e with
  |normal=>
   obtain⟨b,g1,g2,g3⟩:=h
   exact⟨b,g3,g1,g2⟩
  |exit k=>
   obtain⟨rfl,b,g1,g2⟩:=h
   refine Ap ?_
   show aG P c nt (behind x p) s' _
   rw[hz]
   exact aG.weak rfl g2 (aG.one (hD b g1))
  |ret=>
   obtain⟨v,g1,g2⟩:=h
   exact hR v s' g1 g2
 |ret=>exact hR v s' hv hs'
 |exit k=>exact hv.elim
include hT hΓ hm in
theorem ax.u5 {y x1 zb:Code} (p:List Nat) {j:Nat} (hc:chain y p=true) (hx:part y p=.block j x1) (hz:behind y p=[zb]) (hd:cm nt y=true) {kp:List Nat} (h0:Kept kp c) {f1:List Nat} (n:Nat) (L:List Nat) (nx:Nat) {α:Type} (V:α->List AV) (O:α->aC) (I:α->Prop)
  (hp:∃t,aH T Γ f1 n L (before y p) s=some t/\t.all fun e v=>match e with
   |.normal=>∃a,I a/\dN kp v (V a) (O a) nx
   |e=>∀s',bA L s'=some v->Q e s')
  (hb:∀a,I a->ax P c nt x1 ⟨aA L (V a),O a,nx⟩ (inBlock j (eo (fun s'=>ax P c nt zb s' Q) Q))):ax P c nt y s Q:=by
 obtain⟨t,h1,h2⟩:=hp
 refine ax.hole p hc (aG.bE hT hΓ hm n L h1 (jM hd) (ag.gh ?_ h2))
 rintro e v hv s' hs'
 cases e with
 |normal=>
  obtain⟨a,hI,hre⟩:=hv
  refine ax.ja (hre.le hs' h0) (ax.qw hx ((hb a hI).mono fun e s' h=>?_))
  have key:∀{e s'},eo (fun s'=>ax P c nt zb s' Q) Q e s'->eo (fun s''=>aG P c nt (behind y p) s'' Q) Q e s':=fun {e s'} h=>by
   cases e with
   |normal=>show aG P c nt (behind y p) s' Q;rw[hz];exact aG.one h
   |exit k=>exact h
   |ret=>exact h
  cases e with
  |normal=>exact key (e:=.normal) h
  |exit k=>
   simp only[inBlock]at h ⊢
   split
   ·rename_i hk;rw[if_pos hk]at h;exact key (e:=.normal) h
   ·rename_i hk;rw[if_neg hk]at h;exact key (e:=.exit k) h
  |ret=>exact key (e:=.ret) h
 |ret=>exact hv s' hs'
 |exit k=>exact hv s' hs'
theorem ax.tail {z zb:Code} {j:Nat} (hne:∀s',Q (.exit j) s'->False) (h:aG P c nt [z,zb] s Q):ax P c nt z s (inBlock j (eo (fun s'=>ax P c nt zb s' Q) Q)):=
 ax.mono h fun e s' h=>by
  cases e with
  |normal=>exact ax.mono h fun e s' h=>by cases e<;>exact h
  |exit k=>
   simp only[inBlock]
   split
   ·rename_i hk;subst hk;exact(hne _ h).elim
   ·exact h
  |ret=>exact h
def oP (fn:Func) (L:List Nat) (res:AV) (v:List AV×aC):Prop:=∃us,Ed fn (aA L v.1)=some us/\fK us res
theorem oP.fin {fn:Func} {L:List Nat} {res:AV} {v:List AV×aC} {s':aK} (h:oP fn L res v) (hs':bA L s'=some v):dH c (Fin T fn res) .ret s':=by
 obtain⟨us,g1,g2⟩:=h
 exact .inl (gX (.inr rfl) hs' g1 g2)
theorem th {c:Prop} [Decidable c] {u v:AV} (hu:keys u=[]) (hv:keys v=[]):keys (if c then u else v)=[]:=by split<;>assumption
def uw (T:Types) (fn:Func) (L:List Nat) (res:AV) (v:List AV×aC):Prop:=
 ∃vs us nx t,v.1=vs++us/\vs.length=L.length/\bH us=[]/\kH T fn .ret ⟨aA L vs,v.2,nx⟩=some t/\j8 nx vs=true/\iF nx v.2/\t.all fun _ us=>fK us res
theorem uw.fin {fn:Func} {L L1:List Nat} {res:AV} {v:List AV×aC} {s':aK} (h0:Kept [] c) (h:uw T fn L res v) (hs':bA (L++L1) s'=some v):dH c (Fin T fn res) .ret s':=by
 obtain⟨vs,us,nx,t,h1,h2,h3,h4,h5,h6,h7⟩:=h
 obtain⟨v1,v2⟩:=v
 simp only at h1
 subst h1
 exact xC h4 (jG hs' h2 h3) (fun k x hk=>by simpa using h0 k x hk) h5 h6 h7
include hT hΓ hm in
theorem iB {f:FuncId} {fn:Func} (hf:jI P f fn (aF fn)) {args:List AV} {r:dI} (hk:bH args=[]) (hlen:args.length<=fn.ntmps) (hpost:r.post=[]) (p:List Nat) {i:Nat} {y z:Code} (hc:chain (aF fn) p=true) (hx:part (aF fn) p=.block i (.loop y)) (hz:behind (aF fn) p=[z])
  {f1 f2 f3:List Nat} (n:Nat) (L:List Nat) (nx:Nat) {α:Type} (V:α->List AV) (O:α->aC) (I D:α->Prop) (μ:α->Nat)
  (h:r.need->(∃t,aH T Γ f1 n L (before (aF fn) p) ⟨aQ 0 args,[],0⟩=some t/\t.all (Start [] V O nx I (oP fn L r.res)))/\
   (∀a,I a->∃t,aH T Γ f2 n L [y] ⟨aA L (V a),O a,nx⟩=some t/\t.all (Round [] V O nx I D μ i (oP fn L r.res) a))/\
   ∀a,D a->∃t,cy T Γ f3 n fn [z] ⟨aA L (V a),O a,nx⟩=some t/\t.all fun _ us=>fK us r.res) (K:Nat) (pre:aC):aS P f K args pre r:=by
 refine fX hT hf hk hlen hpost (fun need c h0=>?_) K pre
 obtain⟨hp,hb,he⟩:=h need
 refine ax.lQ hT hΓ hm p hc hx hz hf.dst (jk h0) n L nx V O I D μ (oP fn L r.res) hp hb (fun a ha=>?_) fun v s' hv hs'=>hv.fin hs'
 obtain⟨t,g1,g2⟩:=he a ha
 have:=xb (x:=aF fn) (p:=p) hf.dst
 rw[hz]at this
 exact ax.gZ ((aG.fin hT hΓ hm n g1 this g2).mono fun _ _ h=>.inl h)
def Oa (T:Types) (fn:Func) (k:Nat) (res:AV) (o':au) (e:aq) (s':aK):Prop:=
 (e=.normal\/e=.ret)/\Ends T fn res s'/\∃o1,look 0 s'.store=some o1/\o1.row=false/\dK (bC [(k,0)]) o1 o'
def BC (T:Types) (Γ:aX) (forks:List Nat) (n:Nat) (fn:Func) (l:List Code) (s:aK):Option (ag (List AV×Option au)):=
 match qY T Γ forks n l s with
 |some t=>t.bind (Cw T fn)
 |none=>none
include hT hΓ hm in
theorem aG.J7 {fn:Func} {forks:List Nat} (n:Nat) {l:List Code} {s:aK} {t:ag (List AV×Option au)} (hc:BC T Γ forks n fn l s=some t) (hd:(l.all fun x=>cm nt x)=true) {k:Nat} {res:AV} {o':au}
  (h:t.all fun _ v=>fK v.1 res/\∃o1,v.2=some o1/\o1.row=false/\dK (bC [(k,0)]) o1 o'):aG P c nt l s (Oa T fn k res o'):=by
 unfold BC at hc
 split at hc
 ·rename_i u hx
  refine y7 hT hΓ hm hd hx (ag.gh ?_ (ag.kr hc h))
  rintro e s' ⟨v,h1,h2⟩
  unfold Cw at h1
  split at h1
  ·rename_i v' hv'
   have h4:v'.all fun _ us=>fK us res/\∃o1,look 0 s'.store=some o1/\o1.row=false/\dK (bC [(k,0)]) o1 o':=by
    refine ag.gh ?_ (ag.kr h1 h2)
    rintro e us ⟨w,g1,g2⟩
    simp only[ay]at g1
    subst g1
    exact g2
   have h5:Fin T fn res e s':=CK hv' (ag.gh (fun _ _ h=>h.1) h4)
   refine⟨h5.1,h5.2,?_⟩
   have:∀{t:ag (List AV)},(t.all fun _ us=>fK us res/\∃o1,look 0 s'.store=some o1/\o1.row=false/\dK (bC [(k,0)]) o1 o')->∃o1,look 0 s'.store=some o1/\o1.row=false/\dK (bC [(k,0)]) o1 o':=by
    intro t
    induction t with
    |leaf e us=>exact fun h=>h.2
    |aj ps t ih=>exact fun h=>ih h.2
    |fork b t1 t2 ih1 ih2=>
     intro h
     cases b with
     |true=>exact ih1 (h.1 rfl)
     |false=>exact ih2 (h.2 rfl)
   exact this h4
  ·simp at h1
 ·simp at hc
theorem FW {rl:List (Nat×Nat)}:∀{rest:List AV},bH rest=[]->(rest.all fun v=>!v.isTuple)=true->gO (bC rl) rest rest
 |[],_,_=>trivial
 |v::r,h1,h2=>by
  simp only[bH,List.append_eq_nil_iff]at h1
  simp only[List.all_cons,Bool.and_eq_true,Bool.not_eq_true']at h2
  exact⟨⟨h2.1,gy h1.1⟩,FW h1.2 h2.2⟩
include hT in
theorem Qp {f:FuncId} {fn:Func} {x:Code} (hf:jI P f fn x) {k idx es off:Nat} {p:List Nat} {rest:List AV} {o2 o o':au} {res:AV} {l:List Prop}
  (hkr:bH rest=[]) (hrt:(rest.all fun v=>!v.isTuple)=true) (hlen:rest.length+1<=fn.ntmps) (ho:∀ρ,dK ρ o2 o)
  (h:az l->∀c:Ctx,Kept [0] c->ax P c fn.ntmps x ⟨aQ 0 (.ptr 0 idx es off p::rest),[(0,o)],1⟩ (Oa T fn k res o')) (K:Nat):
  aS P f K (.ptr k idx es off p::rest) [(k,o2)] ⟨res,[(k,o')],l⟩:=by
 refine oO hT hf (args0:=.ptr 0 idx es off p::rest) (pre0:=[(0,o)]) (nx:=1) [(0,k)] (by simpa using hlen) (by simp[jE]) ⟨⟨rfl,oe rfl⟩,FW hkr hrt⟩ ⟨⟨k,o2,rfl,by simp[look],ho _⟩,trivial⟩
  (fun a x h=>?_) (fun x o h=>.inl ?_) (fun need c h0=>?_)
 ·simp only[bC,look]at h
  split at h
  ·simp only[ay]at h;subst h;exact⟨_,by simp[look];rfl⟩
  ·simp at h
 ·simp only[look]at h
  split at h
  ·rename_i he
   exact⟨_,by simp only[look,he,if_true];rfl⟩
  ·simp at h
 have hk:Kept [0] c:=fun a y hy=>by
  have:=h0 a y hy
  simp only[bC,look]at this
  split at this
  ·rename_i he;have:=eq_of_beq he;subst this;exact List.mem_singleton_self _
  ·simp at this
 refine(h need c hk).mono fun e s' ⟨h1,h2,o1,g1,g2,g3⟩=>⟨h1,bC [(k,0)],vg,.inl ⟨h2,fun x ox hx=>?_⟩⟩
 have he:cM (lz [(k,o')]) [(k,o2)]=[(k,o')]:=by simp[cM,lz,put]
 replace hx:=Aw hx
 rw[he]at hx
 simp only[look]at hx
 split at hx
 ·rename_i hk
  have:k=x:=by simpa using hk
  subst this
  simp only[ay]at hx
  subst hx
  exact⟨0,o1,by simp[bC,look],g1,g2,g3⟩
 ·simp at hx
end rules
theorem aM {nx:Nat} {rl:List (Nat×Nat)} {os ps:aC} {k2 k1:Nat} {r w:Bool} {es:Nat} {f g:Nat->AV} (hs:jN nx rl os ps) (hk:look k2 rl=some k1:=by exact rfl) (ho:look k1 os=some ⟨r,w,es,1,f⟩:=by exact rfl) (h1:keys (f 0)=[]:=by exact rfl) (h2:f 0=g 0:=by exact rfl):jN nx rl os ((k2,⟨r,w,es,1,g⟩)::ps):=dh hk ho (cR h1 h2) hs
theorem dQ {nx:Nat} {rl:List (Nat×Nat)} {os ps:aC} {k2 k1:Nat} {r w:Bool} {es n m:Nat} {f g:Nat->AV} (hs:jN nx rl os ps) (hk:look k2 rl=some k1:=by exact rfl) (ho:look k1 os=some ⟨r,w,es,n,f⟩:=by exact rfl) (hn:n=m:=by exact rfl) (h1:∀i,keys (f i)=[]:=by exact fun _=>rfl) (h2:∀i,f i=g i:=by exact fun _=>rfl):jN nx rl os ((k2,⟨r,w,es,m,g⟩)::ps):=b7 hk ho hn (fun i _=>cR (h1 i) (h2 i)) hs
end Go.Am
namespace Go.Am
open AV
theorem yX {ρ:Nat->Option Nat}:∀{us vs:List AV},bH us=[]->(us.all fun v=>!v.isTuple)=true->fR us vs->gO ρ us vs
 |[],[],_,_,_=>trivial
 |u::us,v::vs,h1,h2,h=>by
  simp only[bH,List.append_eq_nil_iff]at h1
  simp only[List.all_cons,Bool.and_eq_true,Bool.not_eq_true']at h2
  exact⟨⟨h2.1,nS h1.1 h.1⟩,yX h1.2 h2.2 h.2⟩
 |[],_::_,_,_,h=>h.elim
 |_::_,[],_,_,h=>h.elim
section rules
variable {P:Program} {c:Ctx} {nt:Nat} {s:aK} {Q:aq->aK->Prop} {T:Types} (hT:fu P T) {Γ:aX} (hΓ:bq P Γ) (hm:P.follows .mixedOrders=true)
end rules
end Go.Am
namespace Go.Am
open AV
def Ef (fn:Func) (k:Nat) (ws:List AV) (o':au) (e:aq) (s':aK):Prop:=
 (e=.normal\/e=.ret)/\∃ls vs us os o1,bA ls s'=some (vs,os)/\mQ (aA ls vs) fn.results.toList=some us/\gO (bC [(k,0)]) us ws/\look 0 os=some o1/\dK (bC [(k,0)]) o1 o'
def Ae (fn:Func) (k:Nat) (ws:List AV) (o':au) (L:List Nat) (v:List AV×aC):Prop:=∃us o1,mQ (aA L v.1) fn.results.toList=some us/\gO (bC [(k,0)]) us ws/\look 0 v.2=some o1/\dK (bC [(k,0)]) o1 o'
theorem Ae.fin {fn:Func} {k:Nat} {ws:List AV} {o':au} {L:List Nat} {v:List AV×aC} {s':aK} (h:Ae fn k ws o' L v) (hs':bA L s'=some v):Ef fn k ws o' .ret s':=by
 obtain⟨us,o1,h1,h2,h3,h4⟩:=h
 exact⟨.inr rfl,L,v.1,us,v.2,o1,hs',h1,h2,h3,h4⟩
section rules
variable {P:Program} {c:Ctx} {nt:Nat} {s:aK} {Q:aq->aK->Prop} {T:Types} (hT:fu P T) {Γ:aX} (hΓ:bq P Γ) (hm:P.follows .mixedOrders=true)
include hT hΓ hm in
theorem ax.branch {x u v:Code} {b:Operand} (p:List Nat) (hc:chain x p=true) (hx:part x p=.cond b u v) (hz:behind x p=[]) (hd:cm nt x=true) {kp:List Nat} (h0:Kept kp c) {f1:List Nat} (n:Nat) (L:List Nat) (nx:Nat) {α:Type} (V:α->List AV) (O:α->aC) (I:α->Prop)
  (hp:∃t,aH T Γ f1 n L (before x p) s=some t/\t.all fun e v=>match e with
   |.normal=>∃a,I a/\dN kp v (V a) (O a) nx
   |e=>∀s',bA L s'=some v->Q e s')
  (hb:∀a,I a->∃t,(⟨aA L (V a),O a,nx⟩:aK).iw b=some (.bool t)/\(t=true->ax P c nt u ⟨aA L (V a),O a,nx⟩ Q)/\(t=false->ax P c nt v ⟨aA L (V a),O a,nx⟩ Q)):ax P c nt x s Q:=by
 obtain⟨t,h1,h2⟩:=hp
 refine ax.hole p hc (aG.bE hT hΓ hm n L h1 (jM hd) (ag.gh ?_ h2))
 rintro e v hv s' hs'
 cases e with
 |normal=>
  obtain⟨a,hI,hre⟩:=hv
  obtain⟨t,g1,g2,g3⟩:=hb a hI
  show ax P c nt (part x p) s' _
  rw[hx,hz]
  have key:∀{y:Code} {s:aK},ax P c nt y s Q->ax P c nt y s (eo (fun s''=>aG P c nt [] s'' Q) Q):=fun h=>h.mono fun e s' h=>by cases e<;>exact h
  exact ax.ja (hre.le hs' h0) (ax.cond g1 (fun ht=>key (g2 ht)) fun ht=>key (g3 ht))
 |ret=>exact hv s' hs'
 |exit k=>exact hv s' hs'
include hT in
theorem Vs {f:FuncId} {fn:Func} {x:Code} (hf:jI P f fn x) {k es st n:Nat} {rest ws:List AV} {o2 o o':au} {l:List Prop}
  (hkr:bH rest=[]) (hrt:(rest.all fun v=>!v.isTuple)=true) (hlen:rest.length+1<=fn.ntmps) (ho:∀ρ,dK ρ o2 o)
  (h:az l->∀c:Ctx,Kept [0] c->ax P c fn.ntmps x ⟨aQ 0 (.own 0 es st n::rest),[(0,o)],1⟩ (Ef fn k ws o')) (K:Nat):
  aS P f K (.own k es st n::rest) [(k,o2)] ⟨mA ws,[(k,o')],l⟩:=by
 refine oO hT hf (args0:=.own 0 es st n::rest) (pre0:=[(0,o)]) (nx:=1) [(0,k)] (by simpa using hlen) (by simp[jE]) ⟨⟨rfl,cP rfl rfl rfl⟩,FW hkr hrt⟩ ⟨⟨k,o2,rfl,by simp[look],ho _⟩,trivial⟩
  (fun a x h=>?_) (fun x o h=>.inl ?_) (fun need c h0=>?_)
 ·simp only[bC,look]at h
  split at h
  ·simp only[ay]at h;subst h;exact⟨_,by simp[look];rfl⟩
  ·simp at h
 ·simp only[look]at h
  split at h
  ·rename_i he
   exact⟨_,by simp only[look,he,if_true];rfl⟩
  ·simp at h
 have hk:Kept [0] c:=fun a y hy=>by
  have:=h0 a y hy
  simp only[bC,look]at this
  split at this
  ·rename_i he;have:=eq_of_beq he;subst this;exact List.mem_singleton_self _
  ·simp at this
 refine(h need c hk).mono fun e s' ⟨h1,ls,vs,us,os,o1,g1,g2,g3,g4,g5⟩=>⟨h1,bC [(k,0)],vg,.inr (vW (ws:=ws) (ps:=[(k,o')]) g1 g2 g3 rfl (by simp[cM,lz,put]) ⟨⟨0,o1,by simp[bC,look],g4,g5⟩,trivial⟩)⟩
include hT in
theorem FC {f:FuncId} {fn:Func} {x:Code} (hf:jI P f fn x) {args args0 ws:List AV} {o':au} {K:Nat} {l:List Prop} (ha:az l->gO (bC []) args args0) (hlen:args0.length<=fn.ntmps)
  (h:az l->∀c:Ctx,Kept [] c->ax P c fn.ntmps x ⟨aQ 0 args0,[],0⟩ fun e s'=>(e=.normal\/e=.ret)/\∃ls vs us os a o,bA ls s'=some (vs,os)/\mQ (aA ls vs) fn.results.toList=some us/\gO (bC [(K,a)]) us ws/\look a os=some o/\dK (bC [(K,a)]) o o'):
  aS P f K args [] ⟨mA ws,[(K,o')],l⟩:=by
 intro need
 refine(oO hT hf (args0:=args0) (pre0:=[]) (nx:=0) [] hlen rfl (ha need) trivial (fun a k h=>by simp[bC,look]at h) (fun k o h=>?_) (fun need c h0=>?_):aS P f K args [] ⟨mA ws,[(K,o')],l⟩) need
 ·simp only[look]at h
  split at h
  ·rename_i he
   have:K=k:=by simpa using he
   subst this
   exact .inr ⟨bz,by unfold cT;omega⟩
  ·simp at h
 ·refine(h need c fun k x hk=>by simpa [bC,look]using h0 k x hk).mono ?_
  rintro e s' ⟨h1,ls,vs,us,os,a,o,h2,h3,h4,h5,h6⟩
  exact⟨h1,bC [(K,a)],Ej ⟨bz,by unfold cT;omega⟩,.inr (vW (ws:=ws) (ps:=[(K,o')]) h2 h3 h4 rfl rfl ⟨⟨a,o,by simp[bC,look],h5,h6⟩,trivial⟩)⟩
end rules
end Go.Am
namespace Go.Am
open AV
section rules
variable {P:Program} {c:Ctx} {nt:Nat} {s:aK} {Q:aq->aK->Prop} {T:Types} (hT:fu P T) {Γ:aX} (hΓ:bq P Γ) (hm:P.follows .mixedOrders=true)
def Head (kp:List Nat) {α:Type} (V:α->List AV) (O:α->aC) (nx:Nat) (D:α->Prop) (i:Nat) (R:List AV×aC->Prop) (G:α->Prop) (a:α):aq->List AV×aC->Prop
 |.normal,v=>G a/\dN kp v (V a) (O a) nx
 |.exit k,v=>k=i/\∃b,D b/\dN kp v (V b) (O b) nx
 |.ret,v=>R v
def Ln (kp:List Nat) {α:Type} (V:α->List AV) (O:α->aC) (nx:Nat) (I:α->Prop) (μ:α->Nat) (a:α):aq->List AV×aC->Prop
 |.normal,v=>∃b,I b/\μ b<μ a/\dN kp v (V b) (O b) nx
 |_,_=>False
theorem aaM {i:Nat} {y:Code} (h:cm nt (.block i (.loop y))=true):cm nt y=true:=by simpa [cm]using h
theorem Zb {i:Nat} {y:Code} (h:cm nt (.block i y)=true):cm nt y=true:=by simpa [cm]using h
include hT hΓ hm in
theorem ax.H8 {x:Code} (p:List Nat) (hc:chain x p=true) (hz:behind x p=[]) (hd:cm nt x=true) {kp:List Nat} (h0:Kept kp c) {f1:List Nat} (n:Nat) (L:List Nat) (nx:Nat) {α:Type} (V:α->List AV) (O:α->aC) (I:α->Prop)
  (hp:∃t,aH T Γ f1 n L (before x p) s=some t/\t.all fun e v=>match e with
   |.normal=>∃a,I a/\dN kp v (V a) (O a) nx
   |e=>∀s',bA L s'=some v->Q e s')
  (hb:∀a,I a->ax P c nt (part x p) ⟨aA L (V a),O a,nx⟩ Q):ax P c nt x s Q:=by
 obtain⟨t,h1,h2⟩:=hp
 refine ax.hole p hc (aG.bE hT hΓ hm n L h1 (jM hd) (ag.gh ?_ h2))
 rintro e v hv s' hs'
 cases e with
 |normal=>
  obtain⟨a,hI,hre⟩:=hv
  show ax P c nt (part x p) s' _
  rw[hz]
  exact ax.ja (hre.le hs' h0) ((hb a hI).mono fun e s' h=>by cases e<;>exact h)
 |ret=>exact hv s' hs'
 |exit k=>exact hv s' hs'
include hT hΓ hm in
theorem ax.Je {x y x1 zb y2:Code} (p:List Nat) {i:Nat} (hc:chain x p=true) (hx:part x p=.block i (.loop y)) (hd:cm nt x=true)
  (q:List Nat) {j:Nat} (hcq:chain y q=true) (hxq:part y q=.block j x1) (hzq:behind y q=[zb]) (r:List Nat) {i2:Nat} (hcr:chain x1 r=true) (hxr:part x1 r=.block i2 (.loop y2)) (hij:(i==j)=false)
  {kp:List Nat} (h0:Kept kp c) {f1 f2 f3 f4 f5:List Nat} (n:Nat) (L1 L2:List Nat) (nx1 nx2:Nat) {α β:Type} (V1:α->List AV) (O1:α->aC) (I1 D1:α->Prop) (μ1:α->Nat) (G:α->Prop) (R1 R2:List AV×aC->Prop)
  (V2:α->β->List AV) (O2:α->β->aC) (I2 D2:α->β->Prop) (μ2:α->β->Nat)
  (hp:∃t,aH T Γ f1 n L1 (before x p) s=some t/\t.all (Start kp V1 O1 nx1 I1 R1))
  (ho:∀a,I1 a->∃t,aH T Γ f2 n L1 (before y q) ⟨aA L1 (V1 a),O1 a,nx1⟩=some t/\t.all (Head kp V1 O1 nx1 D1 i R1 G a))
  (hi:∀a,I1 a->G a->∃t,aH T Γ f3 n L2 (before x1 r) ⟨aA L1 (V1 a),O1 a,nx1⟩=some t/\t.all (Start kp (V2 a) (O2 a) nx2 (I2 a) R2))
  (hb:∀a,I1 a->G a->∀b,I2 a b->∃t,aH T Γ f4 n L2 [y2] ⟨aA L2 (V2 a b),O2 a b,nx2⟩=some t/\t.all (Round kp (V2 a) (O2 a) nx2 (I2 a) (D2 a) (μ2 a) i2 R2 b))
  (ht:∀a,I1 a->G a->∀b,D2 a b->∃t,aH T Γ f5 n L1 (behind x1 r++[zb]) ⟨aA L2 (V2 a b),O2 a b,nx2⟩=some t/\t.all (Ln kp V1 O1 nx1 I1 μ1 a))
  (hD:∀b s',D1 b->(∃ρ,Le c ρ s' ⟨aA L1 (V1 b),O1 b,nx1⟩)->aG P c nt (behind x p) s' Q) (hR1:∀v s',R1 v->bA L1 s'=some v->Q .ret s') (hR2:∀v s',R2 v->bA L2 s'=some v->Q .ret s'):ax P c nt x s Q:=by
 have hdy:cm nt y=true:=by
  have:=yR (nt:=nt) hc hd
  rw[hx]at this
  exact aaM this
 have hdx1:cm nt x1=true:=by
  have:=yR (nt:=nt) hcq hdy
  rw[hxq]at this
  exact Zb this
 have hdz:((behind x1 r++[zb]).all fun x=>cm nt x)=true:=by
  have h1:=xb (nt:=nt) (p:=r) hdx1
  have h2:=xb (nt:=nt) (p:=q) hdy
  rw[hzq]at h2
  rw[List.all_append,h1,h2];rfl
 obtain⟨t,h1,h2⟩:=hp
 refine ax.hole p hc (aG.bE hT hΓ hm n L1 h1 (jM hd) (ag.gh ?_ h2))
 rintro e v hv s' hs'
 cases e with
 |ret=>exact hR1 v s' hv hs'
 |exit k=>exact hv.elim
 |normal=>
  obtain⟨a,hI,hre⟩:=hv
  refine(show ax P c nt (part x p) s' _ from ax.jq hx (fun a=>⟨aA L1 (V1 a),O1 a,nx1⟩) I1 μ1 a (hre.le hs' h0) hI fun a ha=>?_)
  refine ax.mono (Q:=Ch c L1 V1 O1 nx1 I1 D1 μ1 i (fun s'=>Q .ret s') a) ?_ fun e s' h=>?_
  ·refine ax.u5 hT hΓ hm q hcq hxq hzq hdy h0 (f1:=f2) n L1 nx1 (fun _:Unit=>V1 a) (fun _=>O1 a) (fun _=>G a) ?_ (fun _ hG=>?_)
   ·obtain⟨t,g1,g2⟩:=ho a ha
    refine⟨t,g1,ag.gh ?_ g2⟩
    rintro e v hv
    cases e with
    |normal=>exact⟨(),hv.1,hv.2⟩
    |exit k=>exact fun s' hs'=>⟨hv.1,hv.2.imp fun b hb=>⟨hb.1,hb.2.le hs' h0⟩⟩
    |ret=>exact fun s' hs'=>hR1 v s' hv hs'
   ·refine ax.zn hT hΓ hm r hcr hxr hdx1 h0 (f1:=f3) (f2:=f4) n L2 nx2 (V2 a) (O2 a) (I2 a) (D2 a) (μ2 a) R2 (hi a ha hG) (hb a ha hG) (fun b s' hb hle=>?_) (fun v s' hv hs'=>hR2 v s' hv hs')
    obtain⟨t,g1,g2⟩:=ht a ha hG b hb
    have key:aG P c nt (behind x1 r++[zb]) s' (Ch c L1 V1 O1 nx1 I1 D1 μ1 i (fun s'=>Q .ret s') a):=by
     refine aG.weak (by cases behind x1 r<;>rfl) hle (aG.bE hT hΓ hm n L1 g1 hdz (ag.gh ?_ g2))
     rintro e v hv s' hs'
     cases e with
     |normal=>
      obtain⟨b,k1,k2,k3⟩:=hv
      exact⟨b,k1,k2,k3.le hs' h0⟩
     |exit k=>exact hv.elim
     |ret=>exact hv.elim
    refine aG.mono ?_ (aG.append key)
    rintro e s' h
    cases e with
    |normal=>exact ax.gZ h
    |exit k=>
     simp only[inBlock]
     have hk:k=i:=h.1
     rw[if_neg (by rw[hk];simpa using hij)]
     exact h
    |ret=>exact h
  ·cases e with
   |normal=>
    obtain⟨b,g1,g2,g3⟩:=h
    exact⟨b,g3,g1,g2⟩
   |exit k=>
    obtain⟨rfl,b,g1,g2⟩:=h
    refine Ap ?_
    show aG P c nt (behind x p) s' _
    exact hD b s' g1 g2
   |ret=>exact h
include hT hΓ hm in
theorem ax.r6 {x y z x1 zb y2:Code} (p:List Nat) {i:Nat} (hc:chain x p=true) (hx:part x p=.block i (.loop y)) (hz:behind x p=[z]) (hd:cm nt x=true)
  (q:List Nat) {j:Nat} (hcq:chain y q=true) (hxq:part y q=.block j x1) (hzq:behind y q=[zb]) (r:List Nat) {i2:Nat} (hcr:chain x1 r=true) (hxr:part x1 r=.block i2 (.loop y2)) (hij:(i==j)=false)
  {kp:List Nat} (h0:Kept kp c) {f1 f2 f3 f4 f5:List Nat} (n:Nat) (L1 L2:List Nat) (nx1 nx2:Nat) {α β:Type} (V1:α->List AV) (O1:α->aC) (I1 D1:α->Prop) (μ1:α->Nat) (G:α->Prop) (R1 R2:List AV×aC->Prop)
  (V2:α->β->List AV) (O2:α->β->aC) (I2 D2:α->β->Prop) (μ2:α->β->Nat)
  (hp:∃t,aH T Γ f1 n L1 (before x p) s=some t/\t.all (Start kp V1 O1 nx1 I1 R1))
  (ho:∀a,I1 a->∃t,aH T Γ f2 n L1 (before y q) ⟨aA L1 (V1 a),O1 a,nx1⟩=some t/\t.all (Head kp V1 O1 nx1 D1 i R1 G a))
  (hi:∀a,I1 a->G a->∃t,aH T Γ f3 n L2 (before x1 r) ⟨aA L1 (V1 a),O1 a,nx1⟩=some t/\t.all (Start kp (V2 a) (O2 a) nx2 (I2 a) R2))
  (hb:∀a,I1 a->G a->∀b,I2 a b->∃t,aH T Γ f4 n L2 [y2] ⟨aA L2 (V2 a b),O2 a b,nx2⟩=some t/\t.all (Round kp (V2 a) (O2 a) nx2 (I2 a) (D2 a) (μ2 a) i2 R2 b))
  (ht:∀a,I1 a->G a->∀b,D2 a b->∃t,aH T Γ f5 n L1 (behind x1 r++[zb]) ⟨aA L2 (V2 a b),O2 a b,nx2⟩=some t/\t.all (Ln kp V1 O1 nx1 I1 μ1 a))
  (hD:∀b,D1 b->ax P c nt z ⟨aA L1 (V1 b),O1 b,nx1⟩ Q) (hR1:∀v s',R1 v->bA L1 s'=some v->Q .ret s') (hR2:∀v s',R2 v->bA L2 s'=some v->Q .ret s'):ax P c nt x s Q:=
 ax.Je hT hΓ hm p hc hx hd q hcq hxq hzq r hcr hxr hij h0 n L1 L2 nx1 nx2 V1 O1 I1 D1 μ1 G R1 R2 V2 O2 I2 D2 μ2 hp ho hi hb ht (fun b s' hb hle=>by rw[hz];exact aG.weak rfl hle (aG.one (hD b hb))) hR1 hR2
end rules
end Go.Am
namespace Go.Am
open AV
def zE (T:Types) (fn:Func) (e:aq) (s:aK):Option (ag (List AV×Option au)):=match e with
 |.exit _=>none
 |e=>match iW T s fn.results.toList with
  |some (vs,q)=>some (.need q (.leaf e (vs,look 0 s.store)))
  |none=>none
def GX (T:Types) (Γ:aX) (forks:List Nat) (n:Nat) (fn:Func) (l:List Code) (s:aK):Option (ag (List AV×Option au)):=
 match qY T Γ forks n l s with
 |some t=>t.bind (zE T fn)
 |none=>none
def Dt (us:List AV) (o:au) (v:List AV×Option au):Prop:=
 bH v.1=[]/\(v.1.all fun v=>!v.isTuple)=true/\fR v.1 us/\∃o1,v.2=some o1/\∀ρ,dK ρ o1 o
def wF (T:Types) (fn:Func) (us:List AV) (o:au) (e:aq) (s:aK):Prop:=
 (e=.normal\/e=.ret)/\(∃vs q,iW T s fn.results.toList=some (vs,q)/\az q/\bH vs=[]/\(vs.all fun v=>!v.isTuple)=true/\fR vs us)/\∃o1,look 0 s.store=some o1/\∀ρ,dK ρ o1 o
theorem M3 {T:Types} {fn:Func} {e:aq} {s:aK} {t:ag (List AV×Option au)} {us:List AV} {o:au} (h1:zE T fn e s=some t) (h2:t.all fun _ v=>Dt us o v):wF T fn us o e s:=by
 unfold zE at h1
 have key:∀{e':aq},(match iW T s fn.results.toList with
   |some (vs,q)=>some (ag.need q (.leaf e' (vs,look 0 s.store)))
   |none=>none)=some t->(∃vs q,iW T s fn.results.toList=some (vs,q)/\az q/\bH vs=[]/\(vs.all fun v=>!v.isTuple)=true/\fR vs us)/\∃o1,look 0 s.store=some o1/\∀ρ,dK ρ o1 o:=by
  intro e' h1
  cases hr:iW T s fn.results.toList with
  |none=>rw[hr]at h1;simp at h1
  |some r=>
   obtain⟨vs,q⟩:=r
   rw[hr]at h1
   simp only[ay]at h1
   subst h1
   obtain⟨g1,g2,g3,g4,g5⟩:=ag.An.1 h2
   exact⟨⟨vs,q,rfl,g1,g2,g3,g4⟩,g5⟩
 cases e with
 |normal=>exact⟨.inl rfl,key h1⟩
 |ret=>exact⟨.inr rfl,key h1⟩
 |exit i=>simp at h1
section rules
variable {P:Program} {c:Ctx} {nt:Nat} {s:aK} {Q:aq->aK->Prop} {T:Types} (hT:fu P T) {Γ:aX} (hΓ:bq P Γ) (hm:P.follows .mixedOrders=true)
include hT hΓ hm in
theorem aG.RU {fn:Func} {forks:List Nat} (n:Nat) {l:List Code} {t:ag (List AV×Option au)} (hc:GX T Γ forks n fn l s=some t) (hd:(l.all fun x=>cm nt x)=true) {us:List AV} {o:au}
  (h:t.all fun _ v=>Dt us o v):aG P c nt l s (wF T fn us o):=by
 unfold GX at hc
 split at hc
 ·rename_i u hx
  refine y7 hT hΓ hm hd hx (ag.gh ?_ (ag.kr hc h))
  rintro e s' ⟨v,h1,h2⟩
  exact M3 h1 h2
 ·simp at hc
def A6 (T:Types) (fn:Func) (L:List Nat) (us:List AV) (o:au) (v:List AV×aC):Prop:=
 ∃vs ws nx t,v.1=vs++ws/\vs.length=L.length/\bH ws=[]/\zE T fn .ret ⟨aA L vs,v.2,nx⟩=some t/\j8 nx vs=true/\iF nx v.2/\1<=nx/\t.all fun _ v=>Dt us o v
theorem A6.fin {fn:Func} {L L1:List Nat} {us:List AV} {o:au} {v:List AV×aC} {s':aK} (h0:Kept [0] c) (h:A6 T fn L us o v) (hs':bA (L++L1) s'=some v):dH c (wF T fn us o) .ret s':=by
 obtain⟨vs,ws,nx,t,h1,h2,h3,h4,h5,h6,hn,h7⟩:=h
 obtain⟨v1,v2⟩:=v
 simp only at h1
 subst h1
 obtain⟨ρ,hle⟩:=pg (jG hs' h2 h3) (fun k x hk=>by
  have:=h0 k x hk
  simp only[List.mem_cons,List.not_mem_nil,or_false]at this
  omega) h5 h6
 exact .inr ⟨_,ρ,hle,M3 h4 h7⟩
include hT in
theorem ac7 {f:FuncId} {fn:Func} {x:Code} (hf:jI P f fn x) {args args0 us:List AV} {a:Nat} {oa oa0:au} {l:List Prop} (hlen:args0.length<=fn.ntmps)
  (ha:gO (bC [(0,a)]) args args0) (hoa:az l->∀ρ,dK ρ oa oa0)
  (h:az l->∀c:Ctx,Kept [0] c->ax P c fn.ntmps x ⟨aQ 0 args0,[(0,oa0)],1⟩ (dH c (wF T fn us oa0))) (K:Nat):aS P f K args [(a,oa)] ⟨mA us,[(a,oa0)],l⟩:=by
 intro need
 refine(oO hT hf (args0:=args0) (pre0:=[(0,oa0)]) (nx:=1) [(0,a)] hlen (by simp[jE]) ha ⟨⟨a,oa,rfl,CA,hoa need _⟩,trivial⟩
  (fun x k h=>?_) (fun x o h=>.inl ?_) (fun need c h0=>?_):aS P f K args [(a,oa)] ⟨mA us,[(a,oa0)],l⟩) need
 ·simp only[bC,look]at h
  split at h
  ·simp only[ay]at h;subst h;exact⟨_,CA⟩
  ·simp at h
 ·simp only[look]at h ⊢
  split at h
  ·rename_i he;exact⟨oa,by rw[if_pos he]⟩
  ·simp at h
 have hk:Kept [0] c:=fun x y hy=>by
  have:=h0 x y hy
  simp only[bC,look]at this
  split at this
  ·rename_i he;have:=eq_of_beq he;subst this;simp
  ·simp at this
 refine(h need c hk).down.mono ?_
 rintro e s' ⟨h1,⟨vs,q,g1,g2,g3,g4,g5⟩,o1,g6,g7⟩
 refine⟨h1,bC [(a,0)],vg,.inr ⟨⟨vs,q,us,g1,g2,yX g3 g4 g5,rfl⟩,fun k o hk=>?_⟩⟩
 have he:cM (lz [(a,oa0)]) [(a,oa)]=[(a,oa0)]:=by simp[cM,lz,put]
 replace hk:=Aw hk
 rw[he]at hk
 simp only[look]at hk
 split at hk
 ·rename_i hx
  have:=eq_of_beq hx
  simp only[ay]at hk
  subst hk this
  exact⟨0,o1,by simp[bC,look],g6,g7 _⟩
 ·simp at hk
end rules
end Go.Am
namespace Go.Am
open AV
section rules
variable {P:Program} {c:Ctx} {nt:Nat} {x:Code} {s:aK} {Q:aq->aK->Prop}
theorem ax.tE {t k:Nat} {o:au} (ht:look t s.cQ=some (.ptr k 0 o.es 0 [])) (hk:look k s.store=some o) (h1:o.row=false) (h2:o.len=1) (h3:(o.f 0).keys=[])
  (h:ax P c nt x ⟨pX (some t) (.bg (o.f 0)) s.cQ,put k {o with wr:=false} s.store,s.next⟩ Q) (h4:isVoid (o.f 0)=false:=by rfl):ax P c nt x s Q:=by
 intro a w ⟨hd,hs,β,hw,hsl⟩
 have hcap:tF s.store (.ptr k 0 o.es 0 [])=some (k,o):=by
  unfold tF
  simp[hk,h1,h2,h3,h4]
 obtain⟨xv,hx,hv⟩:=hsl t _ ht
 obtain⟨cs,hc,hx2⟩:=hv.one rfl
 have key:=OY (pre:=s.store) hw (fun k o hk=>⟨o,hk,.inl rfl⟩) hc
 simp only[qC,r5,hcap,cM]at key
 obtain⟨q1,q2,q3⟩:=key
 refine h a w ⟨hd.iM hw q2,hs,β,q1,fun t' v hv'=>?_⟩
 rw[yQ]at hv'
 split at hv'
 ·rename_i he
  simp only[ay]at he hv'
  subst he
  subst hv'
  refine⟨xv,hx,bw.bT ⟨cs,q3,.inr ⟨rfl,?_⟩⟩⟩
  rcases hx2 with⟨g,_⟩|⟨_,g⟩
  ·exact Bool.noConfusion g
  ·exact g
 ·obtain⟨y,hy,hvy⟩:=hsl t' v hv'
  exact⟨y,hy,hvy.iM q2⟩
end rules
end Go.Am
namespace Go.Am
open AV
section rules
variable {P:Program} {c:Ctx} {nt:Nat} {x:Code} {s:aK} {Q:aq->aK->Prop}
theorem ax.bO {t k es s0 n:Nat} (ht:look t s.cQ=some (.own k es s0 n)) (h:∀cap,n<=cap->ax P c nt x ⟨pX (some t) (.bO cap (.own k es s0 n)) s.cQ,s.store,s.next⟩ Q):ax P c nt x s Q:=by
 intro a w ⟨hd,hs,β,hw,hsl⟩
 obtain⟨xv,hx,hv⟩:=hsl t _ ht
 have key:∃base cap,xv=.slice base n cap/\n<=cap:=by
  rcases hv.own with⟨b,o,cap,N,rfl,_,_,_,h4,_⟩|⟨rfl,_,rfl,_⟩
  ·exact⟨_,_,rfl,h4⟩
  ·exact⟨_,_,rfl,bz⟩
 obtain⟨base,cap,rfl,hn⟩:=key
 refine h cap hn a w ⟨hd,hs,β,hw,fun t' v' hv'=>?_⟩
 rw[yQ]at hv'
 split at hv'
 ·rename_i he
  simp only[ay]at he hv'
  subst he
  subst hv'
  exact⟨_,hx,bw.bT (.cD (.bO rfl (hv.cell rfl) .nil) rfl)⟩
 ·exact hsl t' v' hv'
variable {T:Types} (hT:fu P T)
end rules
end Go.Am
namespace Go.Am
open AV
def BG (st:aC) (β:aY):Nat->Prop:=fun b=>∃k o,∃N:Nat×Nat,look k st=some o/\o.wr=true/\β k=some (b,N)
section base
variable {c c1:Ctx} {st st':aC} {D D':Nat->Prop} {β β':aY} {w w':World}
theorem bF.base (h:bF c st D β w) (k0:aY) (ro:Option Nat) (hk:∀k x,k0 k=some x->β k=some x):bF {c with w0:=w,Mw:=BG st β,k0:=k0,ro:=ro} st D β w:=
 {obj:=h.obj,dS:=h.dS,inj:=h.inj,dom:=h.dom,keep:=hk,lt:=h.lt,os:=rfl,tape:=rfl,output:=rfl,size:=bz,block:=fun _ _ _=>rfl,gE:=fun b hb=>⟨Nat.lt_of_lt_of_le (h.gE b hb).1 h.size,fun⟨k,o,N,h1,h2,h3⟩=>(h.new k o b N h1 h2 h3).elim (fun h4=>Nat.not_lt.2 h4 (h.gE b hb).1) (h.gE b hb).2⟩,new:=fun k o b N h1 h2 h3=>.inr ⟨k,o,N,h1,h2,h3⟩}
theorem bF.back {k0:aY} {ro:Option Nat} (h0:bF c st D β w) (hk:∀k x,c.k0 k=some x->k0 k=some x) (h:bF {c with w0:=w,Mw:=BG st β,k0:=k0,ro:=ro} st' D' β' w'):bF c st' D' β' w':=by
 have hnw:∀b,b<c.w0.heap.size->¬c.Mw b->¬BG st β b:=fun b hb hm ⟨k,o,N,h1,h2,h3⟩=>(h0.new k o b N h1 h2 h3).elim (fun h4=>aa) hm
 exact {obj:=h.obj,dS:=h.dS,inj:=h.inj,dom:=h.dom,keep:=fun k x hx=>h.keep k x (hk k x hx),lt:=h.lt,os:=h.os.trans h0.os,tape:=h.tape.trans h0.tape,output:=h.output.trans h0.output,size:=Nat.le_trans h0.size h.size,block:=fun b hb hm=>(h.block b (Nat.lt_of_lt_of_le hb h0.size) (hnw b hb hm)).trans (h0.block b hb hm),gE:=h0.gE,new:=fun k o b N h1 h2 h3=>(h.new k o b N h1 h2 h3).elim (fun h4=>.inl (Nat.le_trans h0.size h4)) fun⟨k',o',N',g1,g2,g3⟩=>h0.new k' o' b N' g1 g2 g3}
theorem bF.hc {k0:aY} {ro:Option Nat} {c':Ctx} (hMf:c'.Mf=c.Mf) (h:bF {c with w0:=w,Mw:=BG st β,k0:=k0,ro:=ro} st' D' β' w'):HC (aO c st β) w (aO c' st' β') w':=by
 intro b x ty fr hm hb
 have hlt:=AG hb
 refine⟨(h.block b hlt fun hw=>hm (.inr hw)).trans hb,?_⟩
 rintro(hf|⟨k,o,N,g1,g2,g3⟩)
 ·exact hm (.inl (hMf▸hf))
 ·rcases h.new k o b N g1 g2 g3 with g|g
  ·exact absurd hlt (Nat.not_lt.2 g)
  ·exact hm (.inr g)
end base
section rule
variable {P:Program} {c:Ctx} {nt:Nat} {s:aK} {Q:aq->aK->Prop}
end rule
end Go.Am
namespace Go.Am
open Go Go.ChangeShapes Go.WideShapes Go.ChangeAt Go.RowKit AV IntKind
inductive PK where
 |list
 |int (k:IntKind)
 |bool
 |Bq
def P0 (P:Program):PK->TypeId->Prop
 |.list,t=>∃e,P.underlying t=some (.slice e)/\P.underlying e=some (.int .i64)/\P.cellsOf e=1
 |.int k,t=>P.underlying t=some (.int k)
 |.bool,t=>P.underlying t=some .bool
 |.Bq,t=>∃e,P.underlying t=some (.array 4 e)/\P.underlying e=some (.int .i64)/\P.cellTypes P.depth t=some [e,e,e,e]/\P.cellsOf t=4
def zH (P:Program):List PK->List TypeId->Prop
 |[],[]=>True
 |k::ks,t::ts=>(P0 P k t/\P.readableRec t=true/\t<P.types.size)/\zH P ks ts
 |_,_=>False
def MK:PK->AV->Prop
 |.list,a=>∃(n:Nat) (z:Nat->Int),a=.ak 1 n (fun i=>.int .i64 (z i))
 |.int k,a=>∃n,a=.int k n
 |.bool,a=>∃b,a=.bool b
 |.Bq,a=>∃z0 z1 z2 z3:Int,a=.agg [.int .i64 z0,.int .i64 z1,.int .i64 z2,.int .i64 z3]
def Ev:List PK->List AV->Prop
 |[],as=>as=[]
 |k::ks,as=>∃a l,as=a::l/\MK k a/\Ev ks l
section
variable {P:Program} {H:Type} {enc:TypeId×Value->H} {W:World} {base:Nat}
theorem aaB {k:PK} {t:TypeId} {v:Value} {d:DataW H} {p:List MemPlace} (hk:P0 P k t) (h:DataW.Trod enc P W 0 (fun _=>true) true t v d p) (hv:Value.okWide P W .any base t v):∃a,MK k a/\bw (fun _=>False) W bG a v:=by
 cases k with
 |int k=>
  obtain⟨n,rfl⟩:=okWide_int hk hv
  exact⟨_,⟨n,rfl⟩,.cD (.int .nil) rfl⟩
 |bool=>
  obtain⟨b,rfl⟩:=okWide_bool hk hv
  exact⟨_,⟨b,rfl⟩,.cD (.bool .nil) rfl⟩
 |Bq=>
  obtain⟨e,h1,h2,h3,h4⟩:=hk
  unfold Value.okWide at hv
  rw[h1]at hv
  obtain⟨cs,rfl,hs,ts,g1,_,g2⟩:=hv
  rw[h4]at hs
  rw[h3,ay]at g1
  subst g1
  have key:∀i,i<4->∃z:Int,cs[i]?=some (.int .i64 z):=fun i hi=>by
   obtain⟨v,hv⟩:∃v,cs[i]?=some v:=⟨_,Array.getElem?_eq_getElem aa⟩
   obtain⟨u,k1,k2⟩:=g2 i v hv
   have hu:u=e:=by
    rcases(show i=0\/i=1\/i=2\/i=3 by omega)with rfl|rfl|rfl|rfl<;>exact(Option.some.inj k1).symm
   subst hu
   obtain⟨n,rfl⟩:=okWide_int (base:=base) (r:=.any) (w:=W) h2 (by unfold Value.okWide;rw[h2];exact k2)
   exact⟨n,hv⟩
  obtain⟨z0,e0⟩:=key 0 aa
  obtain⟨z1,e1⟩:=key 1 aa
  obtain⟨z2,e2⟩:=key 2 aa
  obtain⟨z3,e3⟩:=key 3 aa
  have hc:cs=[Value.int .i64 z0,.int .i64 z1,.int .i64 z2,.int .i64 z3].toArray:=by
   refine Array.ext_getElem? fun i=>?_
   by_cases hi:i<4
   ·rcases(show i=0\/i=1\/i=2\/i=3 by omega)with rfl|rfl|rfl|rfl
    ·exact e0
    ·exact e1
    ·exact e2
    ·exact e3
   ·rw[Array.getElem?_eq_none aa,Array.getElem?_eq_none (by simpa using by omega)]
  refine⟨_,⟨z0,z1,z2,z3,rfl⟩,_,.agg (.int (.int (.int (.int .nil)))) .nil,.inl ⟨rfl,?_⟩⟩
  rw[hc];rfl
 |list=>
  obtain⟨e,h1,h2,h3⟩:=hk
  obtain⟨a0,len,cap,rfl⟩:=okWide_slice h1 hv
  obtain⟨fuel,hf⟩:=h
  have key:∀{z:Nat->Int},len<=cap->(len=0\/∃b o,a0=some ⟨b,o,none⟩/\∀i,i<len->W.cell? ⟨b,o+i,none⟩=some (.int .i64 (z i)))->bw (fun _=>False) W bG (.ak 1 len (fun i=>.int .i64 (z i))) (.slice a0 len cap):=fun {z} hcap hr=>by
   refine .cD (.ak (cf:=fun i=>[.int .i64 (z i)]) ?_ aa hcap (fun _ _=>rfl) (fun _ _=>.int .nil) .nil) rfl
   rcases hr with hr|⟨b,o,rfl,hr⟩
   ·exact .inl hr
   ·refine .inr ⟨b,o,rfl,fun i hi=>?_⟩
    have hc:=hr i hi
    simp only[World.cell?]at hc
    split at hc
    ·rename_i cs ty fr hh
     simp only[Option.isSome_none,Bool.false_eq_true,if_false]at hc
     refine⟨cs,ty,fr,hh,id,fun j v hj=>?_⟩
     have hj0:j=0:=by have:=(List.getElem?_eq_some_iff.1 hj).1;simp at this;exact this
     subst hj0
     simp only[List.getElem?_cons_zero,ay]at hj
     subst hj
     simpa using hc
    ·simp at hc
  rcases open_ints h1 h2 h3 hf with⟨hcs,hx⟩|⟨a,len',cap',zs,hcs,_,hl,hm,hz,hx,hcell,hwz⟩
  ·simp only[Value.cells,List.cons.injEq,Value.slice.injEq,and_true]at hcs
   obtain⟨rfl,rfl,rfl⟩:=hcs
   exact⟨_,⟨0,fun _=>0,rfl⟩,key (z:=fun _=>0) bz (.inl rfl)⟩
  ·simp only[Value.cells,List.cons.injEq,Value.slice.injEq,and_true]at hcs
   obtain⟨rfl,rfl,rfl⟩:=hcs
   simp only[if_true]at hz
   refine⟨_,⟨len,fun i=>zs.getD i 0,rfl⟩,key hl ?_⟩
   rcases Nat.eq_zero_or_pos len with h0|h0
   ·exact .inl h0
   ·obtain⟨b,o,m⟩:=a
    have h1:=hcell 0 aa
    have:m=none:=by
     cases m with
     |none=>rfl
     |some y=>exfalso;simp only[Addr.add,World.cell?]at h1;split at h1<;>simp at h1
    subst this
    exact .inr ⟨b,o,rfl,fun i hi=>by
     have h2:=hcell i aa
     rcases Nat.eq_zero_or_pos i with hi|hi
     ·subst hi;simpa [Addr.add]using h2
     ·simpa [Addr.add,Nat.pos_iff_ne_zero.1 hi]using h2⟩
theorem Jp:∀{ks:List PK} {ts:List TypeId} {vs:List Value} {ds:List (DataW H)} {p:List MemPlace},zH P ks ts->DataW.TrodAll enc P W 0 (fun _=>true) true ts vs ds p->(∀(j:Nat) t v,ts[j]?=some t->vs[j]?=some v->Value.okWide P W .any base t v)->
  ∃as,Ev ks as/\cH (fun _=>False) W bG as vs
 |[],[],vs,ds,p,_,h,_=>by
  obtain⟨rfl,_,_⟩:=trodAll_nil h
  exact⟨[],rfl,trivial⟩
 |k::ks,t::ts,vs,ds,p,hk,h,hv=>by
  obtain⟨v,vs',d,ds',p1,q,rfl,rfl,rfl,hd,hrest⟩:=trodAll_cons h
  obtain⟨a,h1,h2⟩:=aaB hk.1.1 hd (hv 0 t v rfl rfl)
  obtain⟨as,h3,h4⟩:=Jp hk.2 hrest fun j t v h1 h2=>hv (j+1) t v h1 h2
  exact⟨a::as,⟨a,as,rfl,h1,h3⟩,h2,h4⟩
 |[],_::_,_,_,_,h,_,_=>h.elim
 |_::_,[],_,_,_,h,_,_=>h.elim
theorem Kk {b:Nat} {sp:Nat->Bool} {held:Bool}:∀{ts:List TypeId} {vs:List Value} {ds:List (DataW H)} {p:List MemPlace},DataW.TrodAll enc P W b sp held ts vs ds p->ds.length=ts.length
 |[],vs,ds,p,h=>by
  obtain⟨_,rfl,_⟩:=trodAll_nil h
  rfl
 |t::ts,vs,ds,p,h=>by
  obtain⟨v,vs',d,ds',p1,q,rfl,rfl,rfl,hd,hrest⟩:=trodAll_cons h
  simp[Kk hrest]
theorem Ld (hl:laidOutB P=true) {W':World} (hb:Below W.heap.size W W'):∀{ks:List PK} {ts:List TypeId} {vs:List Value} {ds:List (DataW H)} {p:List MemPlace},zH P ks ts->DataW.TrodAll enc P W 0 (fun _=>true) true ts vs ds p->(∀x∈p,x.block<W.heap.size)->
  DataW.TrodAll enc P W' 0 (fun b=>decide (b<W.heap.size)) true ts vs ds p
 |[],[],vs,ds,p,_,h,_=>by
  obtain⟨rfl,rfl,rfl⟩:=trodAll_nil h
  exact trodAll_mk0
 |k::ks,t::ts,vs,ds,p,hk,h,hlt=>by
  obtain⟨v,vs',d,ds',p1,q,rfl,rfl,rfl,hd,hrest⟩:=trodAll_cons h
  exact⟨_,_,Below.trod hl hk.1.2.1 hk.1.2.2 hd hb fun x hx=>hlt x (List.mem_append_left _ hx),Ld hl hb hk.2 hrest fun x hx=>hlt x (List.mem_append_right _ hx),rfl⟩
 |[],_::_,_,_,_,h,_,_=>h.elim
 |_::_,[],_,_,_,h,_,_=>h.elim
theorem abT (hl:laidOutB P=true) {f:FuncId} {fn:Func} (hf:P.funcs[f]?=some fn) (hb:fn.body.isNone=false) {ks:List PK} {ts:List TypeId} (hk:zH P ks ts) {args:Array Value} {ds:List (DataW H)} {p:List MemPlace}
  (hA:DataW.TrodAll enc P W 0 (fun _=>true) true ts args.toList ds p) (hv:∀(j:Nat) t v,ts[j]?=some t->args[j]?=some v->Value.okWide P W .any base t v) (hlt:∀x∈p,x.block<W.heap.size) (hF:∀as,Ev ks as->aS P f 0 as [] ⟨.bool true,[],[]⟩):
  Calls P f args W fun e W'=>e=.returned (.bool true)/\Below W.heap.size W W'/\DataW.TrodAll enc P W' 0 (fun b=>decide (b<W.heap.size)) true ts args.toList ds p:=by
 obtain⟨as,h1,h2⟩:=Jp hk hA fun j t v h1 h2=>hv j t v h1 (by simpa using h2)
 obtain⟨_,hF⟩:=hF as h1 trivial
 have hrel:bF ⟨fun _=>False,W,fun _=>False,bG,none⟩ [] (fun _=>False) bG W:=
  {obj:=fun k o h=>by simp[look]at h,dS:=fun k o h=>by simp[look]at h,inj:=fun k k' o o' b N N' h=>by simp[look]at h,dom:=fun k x h=>by simp[bG]at h,keep:=fun k x h=>h,lt:=fun k b N h=>by simp[bG]at h,os:=rfl,tape:=rfl,output:=rfl,size:=bz,block:=fun _ _ _=>rfl,gE:=fun b h=>h.elim,new:=fun k o b N h=>by simp[look]at h}
 have hM:aO ⟨fun _=>False,W,fun _=>False,bG,none⟩ [] bG=fun _=>False:=by
  funext b
  simp[aO,look]
 have hinv:=hF ⟨fun _=>False,W,fun _=>False,bG,none⟩ (fun _=>False) (fun _=>True) bG W _ rfl (fun b h=>h.elim) hrel (fun k h=>h.elim) (fun k _ _=>⟨id,trivial⟩) (by rw[hM];exact h2)
 rcases hinv with⟨fn',g1,g2,g3,g4⟩|⟨x,g1,_⟩
 ·have g5:=g4
  rw[show args.toList.toArray=args from by simp]at g5
  refine g5.mono fun e W' ⟨x,he,hx⟩=>?_
  obtain⟨β',q1,q2,q3⟩:=hx
  have:=q3.bool
  subst this
  have hbl:Below W.heap.size W W':=⟨q1.os,q1.tape,q1.output,q1.size,fun k hk=>q1.block k hk id⟩
  exact⟨he,hbl,Ld hl hbl hk hA hlt⟩
 ·exfalso
  simp only[callFunc,Sem.run_bind,run_program,Result.andThen_ok,hf,hb,Bool.false_eq_true,if_false]at g1
  split at g1<;>simp at g1
end
end Go.Am
