/- Parts of code; a piece of code inside a chain; loops. -/
import Derived.Test.YtppeigelbecpbaaGreatZ1
import Derived.RangeFuncCalls
import Derived.TacticsIn
import Derived.ProofKit
import Derived.ChangeSlices
set_option linter.unusedVariables false
namespace Go.Am
def part:Code→List Nat→Code
 |c,[]=>c
 |.seq x _,0::p=>part x p
 |.seq _ y,_::p=>part y p
 |.cond _ x _,0::p=>part x p
 |.cond _ _ y,_::p=>part y p
 |.block _ x,_::p=>part x p
 |.loop x,_::p=>part x p
 |_,_=>.skip
def before:Code→List Nat→List Code
 |.seq x _,0::p=>before x p
 |.seq x y,_::p=>x::before y p
 |_,_=>[]
def behind:Code→List Nat→List Code
 |.seq x y,0::p=>behind x p++[y]
 |.seq _ y,_::p=>behind y p
 |_,_=>[]
def chain:Code→List Nat→Bool
 |_,[]=>true
 |.seq x _,0::p=>chain x p
 |.seq _ y,_::p=>chain y p
 |_,_=>false
def au (fn:Func):Code:=match fn.body with
 |some x=>x
 |none=>.skip
def dz (k:aF→Prop) (Q:aj→aF→Prop):aj→aF→Prop
 |.normal,s=>k s
 |e,s=>Q e s
def aD (P:Program) (c:Ctx) (nt:Nat):List Code→aF→(aj→aF→Prop)→Prop
 |[],s,Q=>Q .normal s
 |x::l,s,Q=>aq P c nt x s (dz (fun s'=>aD P c nt l s' Q) Q)
section rules
variable {P:Program} {c:Ctx} {nt:Nat} {s:aF} {Q:aj→aF→Prop}
theorem aq.Ow {x y:Code} (h:aq P c nt x s (dz (fun s'=>aq P c nt y s' Q) Q)):aq P c nt (.seq x y) s Q:=
 .seq (h.mono fun e s' h=>by cases e<;>exact h)
theorem aD.mono {Q Q':aj→aF→Prop} (hq:∀e s',Q e s'→Q' e s'):∀{l:List Code} {s:aF},aD P c nt l s Q→aD P c nt l s Q'
 |[],_,h=>hq _ _ h
 |x::l,s,h=>aq.mono h fun e s' h=>by
  cases e with
  |normal=>exact aD.mono hq (l:=l) h
  |exit i=>exact hq _ _ h
  |ret=>exact hq _ _ h
theorem aD.append {Q:aj→aF→Prop}:∀{a b:List Code} {s:aF},aD P c nt (a++b) s Q→aD P c nt a s (dz (fun s'=>aD P c nt b s' Q) Q)
 |[],b,s,h=>h
 |x::a,b,s,h=>aq.mono h fun e s' h=>by
  cases e with
  |normal=>exact aD.append (a:=a) h
  |exit i=>exact h
  |ret=>exact h
theorem aq.hole:∀(p:List Nat) {x:Code} {s:aF} {Q:aj→aF→Prop},chain x p=true→
  aD P c nt (before x p) s (dz (fun s'=>aq P c nt (part x p) s' (dz (fun s''=>aD P c nt (behind x p) s'' Q) Q)) Q)→aq P c nt x s Q
 |[],x,s,Q,_,h=>by
  have hb:before x []=[]:=by cases x<;>rfl
  have hh:behind x []=[]:=by cases x<;>rfl
  have hp:part x []=x:=by cases x<;>rfl
  rw[hb,hh,hp]at h
  exact aq.mono h fun e s' h=>by cases e<;>exact h
 |0::p,.seq x y,s,Q,hc,h=>by
  refine .Ow (aq.hole p (x:=x) hc ?_)
  refine aD.mono ?_ h
  intro e s' h1
  cases e with
  |normal=>
   refine aq.mono h1 ?_
   intro e s'' h2
   cases e with
   |normal=>
    refine aD.mono ?_ (aD.append h2)
    intro e s3 h3
    cases e with
    |normal=>exact aq.mono h3 fun e s' h=>by cases e<;>exact h
    |exit i=>exact h3
    |ret=>exact h3
   |exit i=>exact h2
   |ret=>exact h2
  |exit i=>exact h1
  |ret=>exact h1
 |(n+1)::p,.seq x y,s,Q,hc,h=>by
  refine .Ow (aq.mono h ?_)
  intro e s' h1
  cases e with
  |normal=>exact aq.hole p (x:=y) hc h1
  |exit i=>exact h1
  |ret=>exact h1
 |_::_,.cond _ _ _,_,_,hc,_=>by simp[chain]at hc
 |_::_,.block _ _,_,_,hc,_=>by simp[chain]at hc
 |_::_,.loop _,_,_,hc,_=>by simp[chain]at hc
 |_::_,.region _ _ _,_,_,hc,_=>by simp[chain]at hc
 |_::_,.skip,_,_,hc,_=>by simp[chain]at hc
 |_::_,.label _,_,_,hc,_=>by simp[chain]at hc
 |_::_,.exit _,_,_,hc,_=>by simp[chain]at hc
 |_::_,.ret,_,_,hc,_=>by simp[chain]at hc
 |_::_,.scope _,_,_,hc,_=>by simp[chain]at hc
 |_::_,.goto _,_,_,hc,_=>by simp[chain]at hc
 |_::_,.refuse _,_,_,hc,_=>by simp[chain]at hc
 |_::_,.rangeFunc _ _ _ _,_,_,hc,_=>by simp[chain]at hc
def inBlock (i:Nat) (Q:aj→aF→Prop):aj→aF→Prop
 |.exit j,s=>if j=i then Q .normal s else Q (.exit j) s
 |e,s=>Q e s
theorem aq.Fo {i:Nat} {x:Code} (h:aq P c nt x s (inBlock i Q)):aq P c nt (.block i x) s Q:=
 .block (h.mono fun e s' h=>by cases e<;>exact h)
theorem aq.g8 {x y:Code} {i:Nat} (hx:x=.block i (.loop y)) {α:Type} (S:α→aF) (I:α→Prop) (μ:α→Nat) (j:α) (hs:∃ρ,Le c ρ s (S j)) (h0:I j)
  (round:∀j,I j→aq P c nt y (S j) (dz (fun s'=>∃k,(∃ρ,Le c ρ s' (S k))∧I k∧μ k<μ j) (inBlock i Q))):aq P c nt x s Q:=by
 subst hx
 exact .Fo (.T8 S I μ j hs h0 fun j hj=>(round j hj).mono fun e s' h=>by cases e<;>exact h)
variable {T:Types} (hT:cY P T) {Γ:aR} (hΓ:aY P Γ) (hm:P.follows .mixedOrders=true)
def oT (T:Types) (Γ:aR) (forks:List Nat) (n:Nat):List Code→aF→Option (aa aF)
 |[],s=>some (.leaf .normal s)
 |x::l,s=>match dK T Γ forks n x s with
  |some t=>t.bind fun e s'=>match e with
   |.normal=>oT T Γ forks n l s'
   |.exit i=>some (.leaf (.exit i) s')
   |.ret=>some (.leaf .ret s')
  |none=>none
include hT hΓ hm in
theorem AS {forks:List Nat} {n:Nat}:∀{l:List Code} {s:aF} {t:aa aF},(l.all fun x=>bQ nt x)=true→oT T Γ forks n l s=some t→t.all Q→aD P c nt l s Q
 |[],s,t,_,h,ht=>by
  simp only[oT,Option.some.injEq]at h
  subst h
  exact ht
 |x::l,s,t,hd,h,ht=>by
  simp only[List.all_cons,Bool.and_eq_true]at hd
  simp only[oT]at h
  cases hx:dK T Γ forks n x s with
  |none=>rw[hx]at h;simp at h
  |some u=>
   rw[hx]at h
   refine j9 hT hΓ hm n hd.1 hx (aa.eF ?_ (aa.jo h ht))
   rintro e s' ⟨v,h1,h2⟩
   cases e with
   |normal=>exact AS hd.2 h1 h2
   |exit i=>simp only[Option.some.injEq]at h1;subst h1;exact h2
   |ret=>simp only[Option.some.injEq]at h1;subst h1;exact h2
def aH (T:Types) (Γ:aR) (forks:List Nat) (n:Nat) (ls:List Nat) (l:List Code) (s:aF):Option (aa (List AV×aC)):=
 match oT T Γ forks n l s with
 |some t=>t.bind (JU ls)
 |none=>none
include hT hΓ hm in
theorem aD.bf {forks:List Nat} (n:Nat) (ls:List Nat) {l:List Code} {s:aF} {t:aa (List AV×aC)} (hc:aH T Γ forks n ls l s=some t) (hd:(l.all fun x=>bQ nt x)=true)
  (h:t.all fun e v=>∀s',aX ls s'=some v→Q e s'):aD P c nt l s Q:=by
 unfold aH at hc
 split at hc
 ·rename_i u hx
  refine AS hT hΓ hm hd hx (aa.eF ?_ (aa.jo hc h))
  rintro e s' ⟨v,h1,h2⟩
  unfold JU at h1
  cases hv:aX ls s' with
  |none=>rw[hv]at h1;simp at h1
  |some z=>
   rw[hv]at h1
   simp only[Option.some.injEq]at h1
   subst h1
   exact h2 s' hv
 ·simp at hc
include hT hΓ hm in
theorem aq.bf {x:Code} {forks:List Nat} (n:Nat) (ls:List Nat) {t:aa (List AV×aC)} (hc:aH T Γ forks n ls [x] s=some t) (hd:bQ nt x=true)
  (h:t.all fun e v=>∀s',aX ls s'=some v→Q e s'):aq P c nt x s Q:=by
 have:=aD.bf (P:=P) (c:=c) (nt:=nt) (l:=[x]) (Q:=Q) hT hΓ hm n ls hc (by simp[hd]) h
 exact aq.mono this fun e s' h=>by cases e<;>exact h
def cm (T:Types) (Γ:aR) (forks:List Nat) (n:Nat) (fn:Func) (l:List Code) (s:aF):Option (aa (List AV)):=
 match oT T Γ forks n l s with
 |some t=>t.bind (kA T fn)
 |none=>none
def Fin (T:Types) (fn:Func) (res:AV) (e:aj) (s:aF):Prop:=(e=.normal∨e=.ret)∧Ends T fn res s
theorem CH {fn:Func} {e:aj} {s':aF} {v:aa (List AV)} {res:AV} (h1:kA T fn e s'=some v) (h2:v.all fun _ us=>dX us res):Fin T fn res e s':=by
 unfold kA at h1
 have key:∀{e':aj},(match fy T s' fn.results.toList with
   |some (vs,q)=>match ee (jQ (pick s'.store (AV.aZ vs))) vs with
    |some us=>some (aa.need q (.leaf e' us))
    |none=>none
   |none=>none)=some v→Ends T fn res s':=by
  intro e' h1
  cases hr:fy T s' fn.results.toList with
  |none=>rw[hr]at h1;simp at h1
  |some p=>
   obtain⟨vs,q⟩:=p
   rw[hr]at h1
   simp only at h1
   cases hf:ee (jQ (pick s'.store (AV.aZ vs))) vs with
   |none=>rw[hf]at h1;simp at h1
   |some us=>
    rw[hf]at h1
    simp only[Option.some.injEq]at h1
    subst h1
    obtain⟨g1,g2⟩:=aa.ze.1 h2
    exact⟨vs,q,us,hr,g1,hf,g2⟩
 cases e with
 |normal=>exact⟨.inl rfl,key h1⟩
 |ret=>exact⟨.inr rfl,key h1⟩
 |exit i=>simp at h1
include hT hΓ hm in
theorem aD.fin {fn:Func} {forks:List Nat} (n:Nat) {l:List Code} {s:aF} {t:aa (List AV)} (hc:cm T Γ forks n fn l s=some t) (hd:(l.all fun x=>bQ nt x)=true) {res:AV}
  (h:t.all fun _ us=>dX us res):aD P c nt l s (Fin T fn res):=by
 unfold cm at hc
 split at hc
 ·rename_i u hx
  refine AS hT hΓ hm hd hx (aa.eF ?_ (aa.jo hc h))
  rintro e s' ⟨v,h1,h2⟩
  exact CH h1 h2
 ·simp at hc
theorem aD.weak {l:List Code} {s2:aF} (hl:l.isEmpty=false) (hle:∃ρ,Le c ρ s s2) (h:aD P c nt l s2 Q):aD P c nt l s Q:=by
 obtain⟨ρ,hle⟩:=hle
 cases l with
 |nil=>simp at hl
 |cons x l=>exact aq.weak hle h
theorem aq.kg {x:Code} {s2:aF} (hle:∃ρ,Le c ρ s s2) (h:aq P c nt x s2 Q):aq P c nt x s Q:=by
 obtain⟨ρ,hle⟩:=hle
 exact aq.weak hle h
end rules
theorem aQ {P:Program} {f:FuncId} {fn:Func} (h:P.funcs[f]?=some fn) (hb:fn.body.isSome=true) (hn:(fn.name== "runtime.NumGoroutine")=false) (hd:bQ fn.ntmps (au fn)=true):aO P f fn (au fn):=by
 refine⟨h,?_,hn,hd⟩
 unfold au
 cases hbd:fn.body with
 |none=>rw[hbd]at hb;simp at hb
 |some x=>rfl
end Go.Am

/- Plain laws of limbs. -/
namespace Go.Am
def val:Nat→(Nat→Nat)→Nat
 |0,_=>0
 |n+1,z=>val n z+z n*2^(32*n)
theorem fq {z:Nat→Nat}:∀{n:Nat},(∀i,i<n→z i<2^32)→val n z<2^(32*n)
 |0,_=>by simp[val]
 |n+1,h=>by
  have ih:=fq (z:=z) (n:=n) fun i hi=>h i (by omega)
  have h1:=h n (by omega)
  have:z n*2^(32*n)+2^(32*n)≤2^32*2^(32*n):=by
   rw[←Nat.succ_mul];exact Nat.mul_le_mul_right _ h1
  have e:2^(32*(n+1))=2^32*2^(32*n):=by rw[←Nat.pow_add];congr 1;omega
  rw[e,val];omega
theorem val_congr {z y:Nat→Nat}:∀{n:Nat},(∀i,i<n→z i=y i)→val n z=val n y
 |0,_=>rfl
 |n+1,h=>by rw[val,val,val_congr fun i hi=>h i (by omega),h n (by omega)]
theorem mV {z:Nat→Nat} {k:Nat}:∀{n:Nat},k≤n→(∀i,k≤i→i<n→z i=0)→val n z=val k z
 |0,h,_=>by
    have:k=0:=by omega
    subst this;rfl
 |n+1,h,hz=>by
  by_cases hk:k=n+1
  ·subst hk;rfl
  ·rw[val,mV (n:=n) (by omega) fun i h1 h2=>hz i h1 (by omega),hz n (by omega) (by omega)]
   simp
theorem pn {z:Nat→Nat}:∀{n i:Nat},(∀j,j<n→z j<2^32)→i<n→az (val n z) i=z i
 |0,i,_,hi=>by omega
 |n+1,i,h,hi=>by
  unfold az
  rw[val]
  by_cases he:i=n
  ·subst he
   have:=fq (z:=z) (n:=i) fun j hj=>h j (by omega)
   rw[Nat.add_mul_div_right _ _ (Nat.two_pow_pos _),Nat.div_eq_of_lt this,Nat.zero_add]
   exact Nat.mod_eq_of_lt (h i (by omega))
  ·have ih:=pn (z:=z) (n:=n) (i:=i) (fun j hj=>h j (by omega)) (by omega)
   unfold az at ih
   have e:2^(32*n)=2^32*2^(32*(n-i-1))*2^(32*i):=by
    rw[←Nat.pow_add,←Nat.pow_add];congr 1;omega
   rw[e,←Nat.mul_assoc,Nat.add_mul_div_right _ _ (Nat.two_pow_pos _),←ih]
   rw[show z n*(2^32*2^(32*(n-i-1)))=2^32*(z n*2^(32*(n-i-1))) by
    rw[←Nat.mul_assoc,Nat.mul_comm (z n),Nat.mul_assoc]]
   rw[Nat.add_mul_mod_self_left]
theorem de {N i:Nat}:az N i<2^32:=Nat.mod_lt _ (by decide)
theorem MV {N:Nat}:∀{n:Nat},val n (az N)=N%2^(32*n)
 |0=>by simp[val,Nat.mod_one]
 |n+1=>by
  rw[val,MV,az]
  have e:2^(32*(n+1))=2^(32*n)*2^32:=by rw[←Nat.pow_add];congr 1
  rw[e,Nat.mod_mul,Nat.mul_comm (2^(32*n))]
theorem oQ {N n:Nat} (h:N<2^(32*n)):val n (az N)=N:=by rw[MV,Nat.mod_eq_of_lt h]
theorem cT {N n:Nat}:nl N≤n↔N<2^(32*n):=by
 unfold nl
 by_cases h:N=0
 ·subst h;simp[Nat.two_pow_pos]
 ·rw[if_neg h]
  rw[←Nat.log2_lt h]
  omega
theorem mQ {N:Nat}:N<2^(32*nl N):=cT.1 (Nat.le_refl _)
theorem fJ {N:Nat}:val (nl N) (az N)=N:=oQ mQ
theorem Xg {z:Nat→Nat} {n:Nat} (h0:0<n) (h:z (n-1)≠0):2^(32*(n-1))≤val n z:=by
 obtain⟨m,rfl⟩:∃m,n=m+1:=⟨n-1,by omega⟩
 rw[val]
 simp only[Nat.add_sub_cancel]at h ⊢
 have:1*2^(32*m)≤z m*2^(32*m):=Nat.mul_le_mul_right _ (by omega)
 omega
theorem Cf {z:Nat→Nat} {n:Nat} (hz:∀i,i<n→z i<2^32) (h:n=0∨z (n-1)≠0):nl (val n z)=n:=by
 rcases Nat.eq_zero_or_pos n with rfl|h0
 ·simp[val,nl]
 ·have h1:nl (val n z)≤n:=cT.2 (fq hz)
  have h2:¬nl (val n z)≤n-1:=by
   rw[cT]
   have:=Xg h0 (h.resolve_left (by omega))
   omega
  omega
theorem Cm {N:Nat} (h:N≠0):az N (nl N-1)≠0:=by
 intro h0
 have hn:0<nl N:=by unfold nl;rw[if_neg h];omega
 have h1:val (nl N) (az N)=val (nl N-1) (az N):=mV (by omega) fun i h1 h2=>by
  have:i=nl N-1:=by omega
  rw[this,h0]
 rw[fJ]at h1
 have h3:N<2^(32*(nl N-1)):=by
  exact Nat.lt_of_le_of_lt (Nat.le_of_eq h1) (fq (z:=az N) (n:=nl N-1) fun i _=>de)
 have h2:nl N≤nl N-1:=cT.2 h3
 omega
theorem fY {N:Nat}:0<nl N↔N≠0:=by
 unfold nl
 split<;>simp_all
theorem gB {a b:Nat} (h:a≤b):nl a≤nl b:=cT.2 (Nat.lt_of_le_of_lt h mQ)
theorem wrap_i64 {x:Int} (h1:-2^63≤x) (h2:x<2^63):IntKind.i64.wrap x=x:=by
 simp[IntKind.wrap,IntKind.bits,IntKind.signed];omega
theorem bN {x:Int} (h1:0≤x) (h2:x<2^64):IntKind.u64.wrap x=x:=by
 simp[IntKind.wrap,IntKind.bits,IntKind.signed];omega
theorem nh {x:Int}:IntKind.u64.wrap x=x%2^64:=by
 simp[IntKind.wrap,IntKind.bits,IntKind.signed]
theorem k9 {x:Int}:IntKind.u32.wrap x=x%2^32:=by
 simp[IntKind.wrap,IntKind.bits,IntKind.signed]
theorem wrap_u32 {x:Int} (h1:0≤x) (h2:x<2^32):IntKind.u32.wrap x=x:=by
 rw[k9];omega
theorem xA {x:Nat}:IntKind.u64.wrap (x:Int)=(x%2^64:Nat):=by
 rw[nh];omega
theorem jr {x:Nat}:IntKind.u32.wrap (x:Int)=(x%2^32:Nat):=by
 rw[k9];omega
theorem uI {a b:Nat} (ha:a<2^64) (hb:b<2^64):
  IntKind.u64.wrap ((BitVec.ofInt IntKind.u64.bits (a:Int)|||BitVec.ofInt IntKind.u64.bits (b:Int)).toNat:Int)=((a|||b:Nat):Int):=by
 have e:(BitVec.ofInt IntKind.u64.bits (a:Int)|||BitVec.ofInt IntKind.u64.bits (b:Int)).toNat=a|||b:=by
  rw[BitVec.toNat_or,BitVec.ofInt_natCast,BitVec.ofInt_natCast,BitVec.toNat_ofNat,BitVec.toNat_ofNat]
  rw[show IntKind.u64.bits=64 from rfl,Nat.mod_eq_of_lt ha,Nat.mod_eq_of_lt hb]
 rw[e]
 have:a|||b<2^64:=Nat.or_lt_two_pow ha hb
 exact bN (by omega) (by omega)
theorem ajY {a b:Nat} (ha:a<2^64) (hb:b<2^64):
  IntKind.u64.wrap ((BitVec.ofInt IntKind.u64.bits (a:Int)&&&BitVec.ofInt IntKind.u64.bits (b:Int)).toNat:Int)=((a&&&b:Nat):Int):=by
 have e:(BitVec.ofInt IntKind.u64.bits (a:Int)&&&BitVec.ofInt IntKind.u64.bits (b:Int)).toNat=a&&&b:=by
  rw[BitVec.toNat_and,BitVec.ofInt_natCast,BitVec.ofInt_natCast,BitVec.toNat_ofNat,BitVec.toNat_ofNat]
  rw[show IntKind.u64.bits=64 from rfl,Nat.mod_eq_of_lt ha,Nat.mod_eq_of_lt hb]
 rw[e]
 have:a&&&b<2^64:=Nat.and_lt_two_pow a hb
 exact bN (by omega) (by omega)
theorem rM {a b i:Nat} (h:b<2^i):a*2^i|||b=a*2^i+b:=by
 rw[←Nat.shiftLeft_eq,←Nat.shiftLeft_add_eq_or_of_lt h]
theorem kB {x:Int}:x.fdiv (2^min (Int.toNat 32) IntKind.u64.bits)=x/4294967296:=by
 have:min (Int.toNat 32) IntKind.u64.bits=32:=rfl
 rw[this,Int.fdiv_eq_ediv_of_nonneg _ (by decide)]
 rfl
theorem FT {x:Int}:x.fdiv (2^min (Int.toNat 63) IntKind.u64.bits)=x/9223372036854775808:=by
 have:min (Int.toNat 63) IntKind.u64.bits=63:=rfl
 rw[this,Int.fdiv_eq_ediv_of_nonneg _ (by decide)]
 rfl
theorem vZ {x:Int}:x*2^min (Int.toNat 32) IntKind.u64.bits=x*4294967296:=by
 have:min (Int.toNat 32) IntKind.u64.bits=32:=rfl
 rw[this];rfl
theorem Et {B c z y v t s:Nat} (hs:s=c+z+y) (h:v+c*B=t):v+s%4294967296*B+s/4294967296*(4294967296*B)=t+z*B+y*B:=by
 have h1:=Nat.div_add_mod s 4294967296
 generalize s/4294967296=q at*
 generalize s%4294967296=r at*
 subst h1 h
 have:c*B+z*B+y*B=(4294967296*q+r)*B:=by rw[←Nat.add_mul,←Nat.add_mul,hs]
 grind
theorem gz {i:Nat}:2^(32*(i+1))=4294967296*2^(32*i):=by
 rw[show 32*(i+1)=32+32*i by omega,Nat.pow_add]
end Go.Am

/- aR over natural numbers. -/
namespace Go.Am
open AV
def numOf (v:AV):Nat:=match v with
 |.int _ z=>z.toNat
 |_=>0
def dB (n:Nat) (f:Nat→AV):Prop:=∀i,i<n→∃z:Nat,z<2^32∧f i=.int .u32 z
theorem IE {z:Nat→Nat} {i:Nat}:numOf (ay z i)=z i:=by simp[numOf,ay]
theorem jn {n:Nat} {z:Nat→Nat}:(val n fun i=>numOf (ay z i))=val n z:=val_congr fun _ _=>IE
theorem fR {n:Nat} {z:Nat→Nat} (h:∀i,i<n→z i<2^32):dB n (ay z):=fun i hi=>⟨z i,h i hi,rfl⟩
def rN:AV→Option (Nat×Nat×List Prop)
 |.mag N=>some (N,nl N,[])
 |.nil=>some (0,0,[])
 |.ak es n f=>if es==1 then some (val n fun i=>numOf (f i),n,[dB n f])else none
 |_=>none
theorem ym {a:AV} {N n:Nat} {q:List Prop} (h:rN a=some (N,n,q)) (hq:ax q):∃z:Nat→Nat,(∀i,i<n→z i<2^32)∧val n z=N∧bB a (.ak 1 n (ay z)):=by
 cases a<;>simp only[rN,reduceCtorEq,Option.some.injEq,Prod.mk.injEq]at h
 case mag M=>
  obtain⟨rfl,rfl,rfl⟩:=h
  exact⟨az M,fun i _=>de,fJ,Kg rfl fun i _=>rfl⟩
 case nil=>
  obtain⟨rfl,rfl,rfl⟩:=h
  exact⟨fun _=>0,fun i hi=>by omega,rfl,kT (by omega)⟩
 case ak es m f=>
  split at h
  ·rename_i he
   simp only[Option.some.injEq,Prod.mk.injEq]at h
   obtain⟨rfl,rfl,rfl⟩:=h
   have hq:dB m f:=hq
   have he:es=1:=by simpa using he
   subst he
   refine⟨fun i=>numOf (f i),fun i hi=>?_,rfl,p5 rfl fun i hi=>?_⟩
   ·obtain⟨z,h1,h2⟩:=hq i hi
    simp only[h2,numOf];omega
   ·obtain⟨z,h1,h2⟩:=hq i hi
    simp[h2,numOf,ay]
  ·simp at h
def kW (g:Nat→Nat→cJ):List AV→Option cJ
 |[a]=>match rN a with
  |some (N,n,q)=>some ⟨(g N n).res,[],q++(g N n).gG⟩
  |none=>none
 |_=>none
def gP (g:Nat→Nat→Nat→Nat→cJ):List AV→Option cJ
 |[a,b]=>match rN a,rN b with
  |some (A,n,p),some (B,m,q)=>some ⟨(g A n B m).res,[],p++(q++(g A n B m).gG)⟩
  |_,_=>none
 |_=>none
def Dw (g:Nat→Nat→Int→cJ):List AV→Option cJ
 |[a,.int .u32 k]=>match rN a with
  |some (N,n,q)=>some ⟨(g N n k).res,[],q++(g N n k).gG⟩
  |none=>none
 |_=>none
abbrev aK (v:AV) (l:List Prop):cJ:=⟨v,[],l⟩
section oks
variable {P:Program} {f:FuncId}
theorem s4 {g:Nat→Nat→cJ} (h:∀z n K,(∀i,i<n→z i<2^32)→(g (val n z) n).need→aB P f K [.ak 1 n (ay z)] [] (aK (g (val n z) n).res [])):
  ∀K args r,aZ args=[]→kW g args=some r→r.post=[]→aB P f K args [] r:=by
 intro K args r hk hs _ need
 match args,hs with
 |[a],hs=>
  simp only[kW]at hs
  split at hs
  ·rename_i N n q hn
   simp only[Option.some.injEq]at hs
   subst hs
   obtain⟨n1,n2⟩:=dG.1 need
   obtain⟨z,hz,rfl,hle⟩:=ym hn n1
   exact gb (h z n K hz n2) hk ⟨hle,trivial⟩ [] trivial
  ·simp at hs
theorem aeD {g:Nat→Nat→Int→cJ} (h:∀z n i K,(∀i,i<n→z i<2^32)→(g (val n z) n i).need→aB P f K [.ak 1 n (ay z),.int .u32 i] [] (aK (g (val n z) n i).res [])):
  ∀K args r,aZ args=[]→Dw g args=some r→r.post=[]→aB P f K args [] r:=by
 intro K args r hk hs _ need
 unfold Dw at hs
 split at hs
 ·rename_i a i
  split at hs
  ·rename_i N n q hn
   simp only[Option.some.injEq]at hs
   subst hs
   obtain⟨n1,n2⟩:=dG.1 need
   obtain⟨z,hz,rfl,hle⟩:=ym hn n1
   exact gb (h z n i K hz n2) hk ⟨hle,.refl _,trivial⟩ [] trivial
  ·simp at hs
 ·simp at hs
theorem r4 {g:Nat→Nat→Nat→Nat→cJ} (h:∀z n y m K,(∀i,i<n→z i<2^32)→(∀i,i<m→y i<2^32)→(g (val n z) n (val m y) m).need→
   aB P f K [.ak 1 n (ay z),.ak 1 m (ay y)] [] (aK (g (val n z) n (val m y) m).res [])):
  ∀K args r,aZ args=[]→gP g args=some r→r.post=[]→aB P f K args [] r:=by
 intro K args r hk hs _ need
 match args,hs with
 |[a,b],hs=>
  simp only[gP]at hs
  split at hs
  ·rename_i N n q M m p hn hm
   simp only[Option.some.injEq]at hs
   subst hs
   obtain⟨n1,n4⟩:=dG.1 need
   obtain⟨n2,n3⟩:=dG.1 n4
   obtain⟨z,hz,rfl,hle⟩:=ym hn n1
   obtain⟨y,hy,rfl,hle2⟩:=ym hm n2
   exact gb (h z n y m K hz hy n3) hk ⟨hle,hle2,trivial⟩ [] trivial
  ·simp at hs
theorem bk {P:Program}:aY P []:=fun f s h=>by simp[look]at h
theorem aG {f:FuncId} {s:Spec} {Γ:aR} (h:∀K args pre r,s K args pre=some r→aB P f K args pre r) (hΓ:aY P Γ):aY P ((f,s)::Γ):=by
 intro f' s' hl
 simp only[look]at hl
 split at hl
 ·rename_i he
  have:f=f':=by simpa using he
  subst this
  simp only[Option.some.injEq]at hl
  subst hl
  exact h
 ·exact hΓ f' s' hl
end oks
def cA (a b:Nat):Int:=if a<b then-1 else if b<a then 1 else 0
def br (N:Nat):Nat:=if N=0 then 0 else N.log2+1
end Go.Am

/- Results that are seen; slices that may be nil. -/
namespace Go.Am
open AV
def kP (sl:List (Nat×AV)):List ResultVar→Option (List AV)
 |[]=>some []
 |.tmp t::l=>match look t sl,kP sl l with
  |some v,some m=>if v.isTuple then none else some (v::m)
  |_,_=>none
 |_=>none
def D6 (fn:Func) (sl:List (Nat×AV)):Option (List AV):=
 match kP sl fn.results.toList with
 |some us=>match aZ us with
  |[]=>ee [] us
  |_=>none
 |none=>none
theorem yD {s:aF} {t:Nat} {v:AV} (hv:v.isTuple=false):∀{ls:List Nat},look t (aA ls (jH s ls))=some v→look t s.cr=some v
 |[],h=>by simp[aA,look]at h
 |x::ls,h=>by
  simp only[jH,aA,look]at h
  split at h
  ·rename_i he
   have:x=t:=by simpa using he
   subst this
   simp only[Option.some.injEq]at h
   subst h
   exact Nz hv
  ·exact yD hv h
theorem ET {T:Types} {s:aF} {ls:List Nat}:∀{l:List ResultVar} {us:List AV},kP (aA ls (jH s ls)) l=some us→fy T s l=some (us,[])
 |[],us,h=>by simp only[kP,Option.some.injEq]at h;subst h;rfl
 |.tmp t::l,us,h=>by
  simp only[kP]at h
  split at h
  ·rename_i v m hv hm
   split at h
   ·simp at h
   ·rename_i ht
    simp only[Option.some.injEq]at h
    subst h
    simp only[fy,rT,yD (by simpa using ht) hv,ET hm]
    simp[ht]
  ·simp at h
 |.cell _ _::_,us,h=>by simp[kP]at h
theorem fZ {T:Types} {fn:Func} {ls:List Nat} {vs us:List AV} {os:aC} {e:aj} {s':aF} {res:AV} (he:e=.normal∨e=.ret) (hv:aX ls s'=some (vs,os)) (hr:D6 fn (aA ls vs)=some us) (hres:dX us res):Fin T fn res e s':=by
 unfold aX at hv
 simp only[Option.some.injEq,Prod.mk.injEq]at hv
 obtain⟨rfl,_⟩:=hv
 unfold D6 at hr
 split at hr
 ·rename_i rs hrs
  split at hr
  ·rename_i hk
   refine⟨he,rs,[],us,ET hrs,trivial,?_,hres⟩
   rw[hk];exact hr
  ·simp at hr
 ·simp at hr
theorem Li {P:Program} {f:FuncId} {K es n:Nat} {g:Nat→AV} {l:List AV} {r:cJ} (h:∀b,(b=true→n=0)→aB P f K (.dx b es n g::l) [] r):aB P f K (.ak es n g::l) [] r:=by
 intro need
 refine⟨((h false fun h=>by simp at h) need).1,fun c D D' β w vs hw0 hMw hrel hD hK hv=>?_⟩
 match vs,hv with
 |x::xs,hv=>
  obtain⟨⟨cs,h1,h2⟩,h3⟩:=hv
  have:∃b,(b=true→n=0)∧aV (aL c [] β) w β (.dx b es n g) x:=by
   cases h1 with
   |ak g1 g2 g3 g4 g5 g6=>
    rename_i base cap cs' cf
    cases g6
    refine⟨base.isNone,fun hb=>?_,_,.dx rfl g1 g2 g3 g4 g5 .nil,h2⟩
    rcases g1 with g1|⟨b,o,rfl,_⟩
    ·exact g1
    ·simp at hb
  obtain⟨b,hb0,hb⟩:=this
  exact((h b hb0) need).2 c D D' β w (x::xs) hw0 hMw hrel hD hK ⟨hb,h3⟩
theorem Ln {z y:Nat→Nat} {k:Nat}:∀{n:Nat},k<n→(∀j,k<j→j<n→z j=y j)→z k<y k→(∀i,i<n→z i<2^32)→val n z<val n y
 |0,h,_,_,_=>by omega
 |n+1,h,he,hk,hz=>by
  rw[val,val]
  by_cases hn:k=n
  ·subst hn
   have h1:=fq (z:=z) (n:=k) fun i hi=>hz i (by omega)
   have h2:(z k+1)*2^(32*k)≤y k*2^(32*k):=Nat.mul_le_mul_right _ hk
   rw[Nat.add_mul,Nat.one_mul]at h2
   omega
  ·have:=Ln (n:=n) (by omega) (fun j h1 h2=>he j h1 (by omega)) hk fun i hi=>hz i (by omega)
   rw[he n (by omega) (by omega)]
   omega
theorem Gn {A B:Nat} (hn:nl A=nl B) (h:∀i,i<nl A→az A i=az B i):A=B:=by
 rw[←fJ (N:=A),←fJ (N:=B),←hn]
 exact val_congr h
theorem Da {A B k:Nat} (hn:nl A=nl B) (hk:k<nl A) (h:∀j,k<j→j<nl A→az A j=az B j) (hlt:az A k<az B k):A<B:=by
 have:=Ln (z:=az A) (y:=az B) hk h hlt fun i _=>de
 rw[fJ,hn,fJ]at this
 exact this
theorem CR {A B:Nat} (h:nl A<nl B):A<B:=by
 rcases Nat.lt_or_ge A B with h1|h1
 ·exact h1
 ·have:=gB h1;omega
theorem e9 {ρ:Nat→Option Nat} {r w:Bool} {n m:Nat} {f:Nat→AV} {o:Nat→Nat} (hn:m=n) (h:∀j,j<n→f j=ay o j):cu ρ ⟨r,w,1,n,f⟩ ⟨r,w,1,m,ay o⟩:=
 ji hn fun j hj=>by rw[h j hj];exact aI rfl
def bU (o:Nat→Nat) (i x:Nat):Nat→Nat:=fun j=>if j=i then x else o j
theorem jM {o:Nat→Nat} {i x:Nat}:bU o i x i=x:=if_pos rfl
theorem fm {o:Nat→Nat} {i x j:Nat} (h:j≠i):bU o i x j=o j:=if_neg h
theorem gT {o:Nat→Nat} {i x b:Nat} {n:Nat} (hx:x<b) (ho:∀j,j<n→o j<b):∀j,j<n→bU o i x j<b:=fun j hj=>by
 unfold bU
 split
 ·exact hx
 ·exact ho j hj
theorem gu {o:Nat→Nat} {i x:Nat} {v:Int} (hv:v=(x:Nat)) (j:Nat):(if j=i then AV.int .u32 v else ay o j)=ay (bU o i x) j:=by
 unfold ay bU
 split
 ·rw[hv]
 ·rfl
theorem qB {o:Nat→Nat} {i x:Nat}:∀{n:Nat},i<n→o i=0→val n (bU o i x)=val n o+x*2^(32*i)
 |0,h,_=>by omega
 |n+1,h,h0=>by
  rw[val,val]
  by_cases hn:i=n
  ·subst hn
   rw[jM,h0,val_congr (y:=o) fun j hj=>fm (by omega)]
   omega
  ·rw[qB (n:=n) (by omega) h0,fm (by omega)]
   omega
theorem qO {o:Nat→Nat} {i x:Nat}:val (i+1) (bU o i x)=val i o+x*2^(32*i):=by
 rw[val,jM,val_congr (y:=o) fun j hj=>fm (by omega)]
theorem sX {x k:Nat} (h:2^k≤x):br x=k+br (x/2^k):=by
 have hk:=Nat.two_pow_pos k
 have h0:x≠0:=by omega
 have h1:x/2^k≠0:=by
  have:=(Nat.le_div_iff_mul_le hk (x:=1) (y:=x)).2 (by omega)
  omega
 unfold br
 rw[if_neg h0,if_neg h1]
 have:x.log2=k+(x/2^k).log2:=by
  obtain⟨g1,g2⟩:=(Nat.log2_eq_iff h1).1 rfl
  rw[Nat.log2_eq_iff h0]
  refine⟨?_,?_⟩
  ·rw[Nat.pow_add,Nat.mul_comm]
   exact(Nat.le_div_iff_mul_le hk).1 g1
  ·rw[show k+(x/2^k).log2+1=((x/2^k).log2+1)+k by omega,Nat.pow_add]
   exact(Nat.div_lt_iff_lt_mul hk).1 g2
 omega
theorem iI {x k:Nat}:br x≤k↔x<2^k:=by
 unfold br
 split
 ·rename_i h;subst h;simp[Nat.two_pow_pos]
 ·rename_i h;rw[←Nat.log2_lt h];omega
theorem NX {N:Nat} (h:N≠0):br N=32*(nl N-1)+br (az N (nl N-1)):=by
 have hp:=fY.2 h
 have h1:2^(32*(nl N-1))≤N:=by
  rcases Nat.lt_or_ge N (2^(32*(nl N-1)))with h1|h1
  ·have:=cT.2 h1;omega
  ·exact h1
 have h2:N/2^(32*(nl N-1))<2^32:=by
  rw[Nat.div_lt_iff_lt_mul (Nat.two_pow_pos _),←Nat.pow_add]
  have:=mQ (N:=N)
  rw[show 32+32*(nl N-1)=32*nl N by omega]
  exact this
 rw[sX h1,az,Nat.mod_eq_of_lt h2]
theorem D7 {o:Nat→Nat} {i x:Nat}:∀{n:Nat},i<n→val n (bU o i x)+o i*2^(32*i)=val n o+x*2^(32*i)
 |0,h=>by omega
 |n+1,h=>by
  rw[val,val]
  by_cases hn:i=n
  ·subst hn
   rw[jM,val_congr (y:=o) fun j hj=>fm (by omega)]
   omega
  ·have:=D7 (o:=o) (x:=x) (n:=n) (i:=i) (by omega)
   rw[fm (show n≠i by omega)]
   omega
theorem aq.ov {P:Program} {c:Ctx} {nt:Nat} {s:aF} {Q:aj→aF→Prop} {x y:Code} {i:Nat} (hx:x=.block i y) (h:aq P c nt y s (inBlock i Q)):aq P c nt x s Q:=hx▸.Fo h
theorem Lv {c x y o:Nat} (hc:c<2^32) (hx:x<2^32) (hy:y<2^32) (ho:o<2^32):
  IntKind.u64.wrap ((c:Int)+IntKind.u64.wrap (IntKind.u64.wrap (IntKind.u64.wrap (x:Int)*IntKind.u64.wrap (y:Int))+IntKind.u64.wrap (o:Int)))=((c+x*y+o:Nat):Int)∧
   c+x*y+o<2^64∧(c+x*y+o)/4294967296<2^32:=by
 have h1:x*y≤(2^32-1)*(2^32-1):=Nat.mul_le_mul (by omega) (by omega)
 have e:(x:Int)*(y:Int)=((x*y:Nat):Int):=by simp
 rw[bN (x:=(x:Int)) (by omega) (by omega),bN (x:=(y:Int)) (by omega) (by omega),bN (x:=(o:Int)) (by omega) (by omega),e]
 generalize x*y=p at*
 refine⟨?_,by omega,by omega⟩
 rw[bN (x:=(p:Int)) (by omega) (by omega),bN (x:=(p:Int)+o) (by omega) (by omega),bN (by omega) (by omega)]
 omega
theorem Pb {vo vo' oi c x yj B s q r v Bi Bj vy:Nat} (hs:s=c+x*yj+oi) (hq:4294967296*q+r=s) (hset:vo'+oi*B=vo+r*B) (hB:B=Bi*Bj) (h:vo+c*B=v+x*vy*Bi):
  vo'+q*(4294967296*B)=v+x*(vy+yj*Bj)*Bi:=by
 subst hB
 have e:(4294967296*q+r)*(Bi*Bj)=(c+x*yj+oi)*(Bi*Bj):=by rw[hq,hs]
 grind
theorem Mv {P:Program} {f:FuncId} {K:Nat} {args:List AV} {u v:AV} {l l':List Prop} (hf:aB P f K args [] ⟨u,[],l⟩) (hl:ax l'→ax l) (hk:keys u=[]) (ht:u.isTuple=false) (hle:bB u v):aB P f K args [] ⟨v,[],l'⟩:=by
 intro need
 obtain⟨h1,h2⟩:=hf (hl need)
 refine⟨fun k o ho=>by simp[look]at ho,fun c D D' β w vs hw0 hMw hrel hD hK hv=>(h2 c D D' β w vs hw0 hMw hrel hD hK hv).mono ?_⟩
 rintro x w' ⟨β',g1,g2,g3⟩
 refine⟨β',g1,g2,?_⟩
 have h3:bW _ w' β' [u] [x]:=⟨bg.one g3 ht,trivial⟩
 have h4:=CA (us:=[u]) (vs:=[v]) ⟨hle,trivial⟩ (h3.aW (by rw[Gu];exact hk))
 have h5:=h4.mono (fun b o h1 h2=>⟨h2,h1⟩) (β':=β') fun k x hx=>by simp[aW]at hx
 exact aV.bq h5.1
theorem Bx {i:Nat} {Q:aj→aF→Prop} {s:aF} (h:Q .normal s):inBlock i Q (.exit i) s:=by
 simp only[inBlock,if_true];exact h
theorem eV {i:Nat} {k:aF→Prop} {Q:aj→aF→Prop} {s:aF} (h:Q .normal s):dz k (inBlock i Q) (.exit i) s:=by
 show inBlock i Q (.exit i) s
 exact Bx h
theorem rq {i:Nat} {k:aF→Prop} {Q:aj→aF→Prop} {s:aF} (h:Q (.exit i) s):dz k Q (.exit i) s:=h
theorem OS {i:Nat} {k:aF→Prop} {Q:aj→aF→Prop} {s:aF} (h:Q .ret s):dz k (inBlock i Q) .ret s:=h
theorem eW {k:aF→Prop} {Q:aj→aF→Prop} {s:aF} (h:Q .ret s):dz k Q .ret s:=h
theorem Ft {s:aF}:∀{a b:List Nat},jH s (a++b)=jH s a++jH s b
 |[],_=>rfl
 |x::a,b=>by simp only[List.cons_append,jH,Ft]
theorem HI {s:aF}:∀{a:List Nat},(jH s a).length=a.length
 |[]=>rfl
 |x::a=>by simp only[jH,List.length_cons,HI]
theorem Nw {a b:List AV}:aZ (a++b)=aZ a++aZ b:=by
 induction a with
 |nil=>rfl
 |cons x a ih=>simp only[List.cons_append,aZ,ih,List.append_assoc]
theorem hH {s:aF} {ls l:List Nat} {vs us:List AV} {os:aC} (hv:aX (ls++l) s=some (vs++us,os)) (hl:vs.length=ls.length) (hk:aZ us=[]):aX ls s=some (vs,os):=by
 unfold aX at hv ⊢
 simp only[Option.some.injEq,Prod.mk.injEq,Ft]at hv ⊢
 obtain⟨h1,h2⟩:=hv
 obtain⟨h3,h4⟩:=List.append_inj h1 (by rw[HI,hl])
 subst h3
 refine⟨rfl,?_⟩
 rw[←h2,h4,Nw,hk,List.append_nil]
end Go.Am

/- Tables of types: what has to be shown of an entry. -/
namespace Go.Am
open AV
mutual
/-- The cells of a zero value. -/
def zeroCells:AV→Option (List Value)
 |.bool b=>some [.bool b]
 |.int k n=>some [.int k n]
 |.nil=>some [.slice none 0 0]
 |.rat q n=>if q=0∧n=1 then some [.bool false,.slice none 0 0,.slice none 0 0]else none
 |.agg l=>uG l
 |_=>none
def uG:List AV→Option (List Value)
 |[]=>some []
 |a::l=>match zeroCells a,uG l with
  |some c,some d=>some (c++d)
  |_,_=>none
end
mutual
theorem E9 {M:Nat→Prop} {w:World} {β:aP}:∀{v:AV} {cs:List Value},zeroCells v=some cs→aM M w β [v] cs
 |.bool b,cs,h=>by simp only[zeroCells,Option.some.injEq]at h;subst h;exact .bool .nil
 |.int k n,cs,h=>by simp only[zeroCells,Option.some.injEq]at h;subst h;exact .int .nil
 |.nil,cs,h=>by simp only[zeroCells,Option.some.injEq]at h;subst h;exact .vnil .nil
 |.rat q n,cs,h=>by
  simp only[zeroCells]at h
  split at h
  ·rename_i hq
   obtain⟨rfl,rfl⟩:=hq
   simp only[Option.some.injEq]at h
   subst h
   have h0:aM M w aW [.mag 0] [.slice none 0 0]:=by
    have:=aM.mag (M:=M) (w:=w) (β:=aW) (N:=0) (base:=none) (cap:=0) (.inl rfl) (by simp[uv]) .nil
    simpa [uv]using this
   have:=aM.rat (M:=M) (w:=w) (β:=β) (q:=0) (n:=1) (x:=.slice none 0 0) (y:=.slice none 0 0) (l:=[]) (cs:=[]) ⟨by decide,by decide⟩ (by simpa using h0) (by simpa using h0) .nil
   simpa using this
  ·simp at h
 |.agg l,cs,h=>by
  simp only[zeroCells]at h
  simpa using aM.agg (K8 h) .nil
 |.mag _,cs,h=>by simp[zeroCells]at h
 |.ak _ _ _,cs,h=>by simp[zeroCells]at h
 |.dx _ _ _ _,cs,h=>by simp[zeroCells]at h
 |.bI _,cs,h=>by simp[zeroCells]at h
 |.ptr _ _ _ _ _,cs,h=>by simp[zeroCells]at h
 |.own _ _ _ _,cs,h=>by simp[zeroCells]at h
 |.func _ _,cs,h=>by simp[zeroCells]at h
 |.tuple _,cs,h=>by simp[zeroCells]at h
 |.bp _ _,cs,h=>by simp[zeroCells]at h
theorem K8 {M:Nat→Prop} {w:World} {β:aP}:∀{l:List AV} {cs:List Value},uG l=some cs→aM M w β l cs
 |[],cs,h=>by simp only[uG,Option.some.injEq]at h;subst h;exact .nil
 |a::l,cs,h=>by
  simp only[uG]at h
  cases ha:zeroCells a with
  |none=>rw[ha]at h;simp at h
  |some c=>
   cases hl:uG l with
   |none=>rw[ha,hl]at h;simp at h
   |some d=>
    rw[ha,hl]at h
    simp only[Option.some.injEq]at h
    subst h
    exact(E9 ha).cons (K8 hl)
end
def FV (v:AV):Option Value:=
 match zeroCells v with
 |some cs=>if v.isAgg then some (.agg cs.toArray)else match cs with
  |[x]=>some x
  |_=>none
 |none=>none
theorem cB {P:Program} {t:TypeId} {ti:TI} (h1:P.underlying t=some ti.desc) (h2:(P.info? t).map (fun i=>(i.size,i.bytes,i.zero))=some (ti.size,ti.bytes,FV ti.zero))
  (h3:(FV ti.zero).isSome=true):bH P t ti:=by
 cases hi:P.info? t with
 |none=>rw[hi]at h2;simp at h2
 |some i=>
  rw[hi]at h2
  simp only[Option.map_some,Option.some.injEq,Prod.mk.injEq]at h2
  refine⟨h1,⟨i,hi,h2.1,h2.2.1⟩,fun _=>?_⟩
  obtain⟨z,hz⟩:=Option.isSome_iff_exists.1 h3
  refine⟨i,z,hi,by rw[h2.2.2,hz],fun M w β=>?_⟩
  unfold FV at hz
  cases hc:zeroCells ti.zero with
  |none=>rw[hc]at hz;simp at hz
  |some cs=>
   rw[hc]at hz
   simp only at hz
   split at hz
   ·rename_i ha
    simp only[Option.some.injEq]at hz
    subst hz
    exact .wv (E9 hc) ha
   ·rename_i ha
    split at hz
    ·simp only[Option.some.injEq]at hz
     subst hz
     exact .bK (E9 hc) (by simpa using ha)
    ·simp at hz
theorem iQ {P:Program} {t:TypeId} {ti:TI} (h1:P.underlying t=some ti.desc) (h2:(P.info? t).map (fun i=>(i.size,i.bytes))=some (ti.size,ti.bytes)) (h3:ti.zero=.tuple []):bH P t ti:=by
 cases hi:P.info? t with
 |none=>rw[hi]at h2;simp at h2
 |some i=>
  rw[hi]at h2
  simp only[Option.map_some,Option.some.injEq,Prod.mk.injEq]at h2
  exact⟨h1,⟨i,hi,h2.1,h2.2⟩,fun h=>by rw[h3]at h;simp[isTuple]at h⟩
theorem XF {P:Program}:cY P []:=fun t ti h=>by simp[look]at h
theorem bO {P:Program} {t:TypeId} {ti:TI} {T:Types} (h:bH P t ti) (hT:cY P T):cY P ((t,ti)::T):=by
 intro t' ti' ht
 simp only[look]at ht
 split at ht
 ·rename_i he
  have:t=t':=by simpa using he
  subst this
  simp only[Option.some.injEq]at ht
  subst ht
  exact h
 ·exact hT t' ti' ht
end Go.Am

/- aR of functions that are handed objects to write to, or give back such; loops by what is seen. -/
namespace Go.Am
open AV
theorem bW.length {M:Nat→Prop} {w:World} {β:aP}:∀{us:List AV} {xs:List Value},bW M w β us xs→us.length=xs.length
 |[],[],_=>rfl
 |_::_,_::_,h=>by simp[bW.length h.2]
 |[],_::_,h=>h.elim
 |_::_,[],h=>h.elim
theorem bW.weak {c c':Ctx} {β β2:aP} {w:World} {ρ:Nat→Option Nat} {M M':Nat→Prop} (hM:∀b,M' b→M b) (hβ:∀k2 k1,ρ k2=some k1→β2 k2=β k1):∀{us vs:List AV} {xs:List Value},fc ρ us vs→bW M w β us xs→bW M' w β2 vs xs
 |[],[],[],_,_=>trivial
 |u::us,v::vs,x::xs,h,hv=>⟨hv.1.weak hM hβ h.1.2,bW.weak (c:=c) (c':=c') hM hβ h.2 hv.2⟩
 |[],_::_,_,h,_=>h.elim
 |_::_,[],_,h,_=>h.elim
 |_::_,_::_,[],_,h=>h.elim
 |[],[],_::_,_,h=>h.elim
theorem UO {nx:Nat} {rl:List (Nat×Nat)} (hr:gD nx rl=true):∀a b k,aT rl a=some k→aT rl b=some k→a=b:=by
 intro a b k ha hb
 have:=List.all_eq_true.1 hr _ (lJ ha)
 simp only[Bool.and_eq_true,decide_eq_true_eq]at this
 simpa using List.all_eq_true.1 this.2 _ (lJ hb)
theorem Jp {nx:Nat} {rl:List (Nat×Nat)} (hr:gD nx rl=true) {a k:Nat} (ha:aT rl a=some k):a<nx:=by
 have:=List.all_eq_true.1 hr _ (lJ ha)
 simp only[Bool.and_eq_true,decide_eq_true_eq]at this
 exact this.1
theorem agk {M:Nat→Prop} {w:World} {β:aP} {us:List AV} {xs:List Value} (h:bW M w β us xs):bg M w β (iM us) (if h:xs.length=1 then xs.toArray[0]'(by simpa using(show 0<xs.length by omega))else .tuple xs.toArray):=by
 have hl:=h.length
 match us,xs,h,hl with
 |[],[],_,_=>exact⟨[],rfl,trivial⟩
 |[u],[x],h,_=>exact h.1.bq
 |u::u'::us,x::x'::xs,h,_=>simp only[List.length_cons,Nat.add_eq_right,Nat.add_eq_zero_iff,Nat.succ_ne_zero,and_false,dite_false];exact⟨_,rfl,h⟩
section core
variable {P:Program} {T:Types}
structure Bq (T:Types) (fn:Func) (τ:Nat→Option Nat) (pre:aC) (r:cJ) (s:aF):Prop where
 ends:Ends T fn r.res s
 EY:∀k o,look k (cj (er r.post) pre)=some o→∃k1 o1,τ k=some k1∧look k1 s.store=some o1∧o1.row=false∧cu τ o1 o
structure uT (T:Types) (fn:Func) (τ:Nat→Option Nat) (pre:aC) (r:cJ) (s:aF):Prop where
 ends:∃vs q us,fy T s fn.results.toList=some (vs,q)∧ax q∧fc τ vs us∧r.res=iM us
 EY:∀k o,look k (cj (er r.post) pre)=some o→∃k1 o1,τ k=some k1∧look k1 s.store=some o1∧cu τ o1 o
structure sL (rl:List (Nat×Nat)) (K:Nat) (pre:aC) (τ:Nat→Option Nat):Prop where
 inj:∀a b k,τ a=some k→τ b=some k→a=b
 dom:∀k a,τ k=some a→aT rl a=some k∨(K≤k∧k<K+cq)
theorem ah9 (hT:cY P T) {f:FuncId} {fn:Func} {x:Code} (hf:aO P f fn x) {args args0:List AV} {pre pre0:aC} {r:cJ} {K nx:Nat} (rl:List (Nat×Nat)) (hlen:args0.length≤fn.ntmps) (hr:gD nx rl=true)
  (ha:fc (aT rl) args args0) (hp:mX (aT rl) pre pre0) (hrl:∀a k,aT rl a=some k→∃o,look k pre=some o)
  (hpost:∀k o,look k r.post=some o→(∃o',look k pre=some o')∨(K≤k∧k<K+cq))
  (h:r.need→∀c:Ctx,c.ro=none→(∀k x,c.k0 k=some x→(aT rl k).isSome=true)→aq P c fn.ntmps x ⟨aN 0 args0,pre0,nx⟩ fun e s'=>(e=.normal∨e=.ret)∧∃τ,sL rl K pre τ∧(Bq T fn τ pre r s'∨uT T fn τ pre r s')):aB P f K args pre r:=by
 intro need
 refine⟨hpost,fun c D D' β w vs hw0 hMw hrel hD hK hv=>.inl ⟨fn,hf.get,hf.name,by simp[hf.body],?_⟩⟩
 have hobj0:=DQ hp
 have hβ0:∀k2 k1,aT rl k2=some k1→(fun a=>(aT rl a).bind β) k2=β k1:=fun k2 k1 h=>by simp[h]
 have hW:aU {c with k0:=fun a=>(aT rl a).bind β,ro:=none} pre0 (fun k=>k<nx) (fun a=>(aT rl a).bind β) w:=by
  refine hrel.weak (c':={c with k0:=fun a=>(aT rl a).bind β,ro:=none}) (ρ:=aT rl) rfl rfl rfl (UO hr) (fun k o h=>.inl (hobj0 k o h)) hβ0 (fun k2 k1 h=>Jp hr h) (fun k2 x hk=>?_) (fun k2 b N hk=>?_) (fun k x hk=>hk)
  ·cases h1:aT rl k2 with
   |none=>simp[h1]at hk
   |some k1=>exact Jp hr h1
  ·cases h1:aT rl k2 with
   |none=>simp[h1]at hk
   |some k1=>simp[h1]at hk;exact hrel.lt k1 b N hk
 have hv0:bW (aL {c with k0:=fun a=>(aT rl a).bind β,ro:=none} pre0 (fun a=>(aT rl a).bind β)) w (fun a=>(aT rl a).bind β) args0 vs:=
  hv.weak (c:=c) (c':=c) (ρ:=aT rl) (CT rfl (fun k o h=>.inl (hobj0 k o h)) hβ0) hβ0 ha
 have hl0:=hv0.length
 have hstart:Rel {c with k0:=fun a=>(aT rl a).bind β,ro:=none} fn.ntmps (fun k=>k<nx) (aN 0 args0) pre0 {tmps:=vs.toArray++Array.replicate (fn.ntmps-vs.toArray.size) undef,defers:=[]} w:=by
  refine⟨.nil,by simp;omega,_,hW,?_⟩
  have:=Ip (pre:=#[]) (post:=Array.replicate (fn.ntmps-vs.toArray.size) undef) hv0 rfl
  simpa using this
 refine callsIn_wide.1 (callsIn_of_wp_marks (F:=Fence.wide) (n:=3) hf.get hf.body trivial (wpIn_mono (h need {c with k0:=fun a=>(aT rl a).bind β,ro:=none} rfl (fun k x hk=>by
  cases h1:aT rl k with
  |none=>simp[h1]at hk
  |some k1=>rfl) _ w hstart) ?_))
 rintro e a' w9 ⟨ae,s',rfl,hr9,hex,τ,hτ,hends⟩
 obtain⟨w',hr',hleave⟩:=Rel.leave (P:=P) (fn:=fn) (R:=fun e w'=>∃x,e=.returned x∧dY c pre D' β w (er r.post) r.res x w') hr9
 -- what the end gives, in the function's own keys
 have hfin:∃x β1 st1,(results fn a'.tmps).run P w'=.ok x w'∧aU {c with k0:=fun a=>(aT rl a).bind β,ro:=none} st1 (fun k=>k<s'.next) β1 w'∧
   (∀k o,look k (cj (er r.post) pre)=some o→∃k1 o1,τ k=some k1∧look k1 st1=some o1∧cu τ o1 o)∧
   bg (aL {c with k0:=fun a=>(aT rl a).bind β,ro:=none} st1 β1) w' (fun k=>(τ k).bind β1) r.res x:=by
  rcases hends with hends|hends
  ·obtain⟨hdef,x,β1,st1,hrun,hw1,hvx,hrow⟩:=Jk hT hends.ends hr'
   refine⟨x,β1,st1,hrun,hw1,fun k o hk=>?_,hvx.mono (fun b o h1 h2=>⟨h2,h1⟩) fun k x hk=>by simp[aW]at hk⟩
   obtain⟨k1,o1,g1,g2,g3,g4⟩:=hends.EY k o hk
   exact⟨k1,o1,g1,hrow k1 o1 g2 g3,g4⟩
  ·obtain⟨a1,a2,β1,a3,a4⟩:=hr'
   obtain⟨vs1,q,us,h1,hq,h2,h3⟩:=hends.ends
   obtain⟨xs,hxs,hv,hlen⟩:=Ei hT a3 a4 (g:=fun x=>match x with
    |ResultVar.tmp t=>pure (a'.tmps.getD t undef)
    |ResultVar.cell r t=>do let y ←asAddr (a'.tmps.getD r undef);loadVar t y) (fun _=>rfl) (fun _ _=>rfl) h1 hq
   refine⟨if h:xs.length=1 then xs.toArray[0]'(by simpa using(show 0<xs.length by omega))else .tuple xs.toArray,β1,s'.store,?_,a3,hends.EY,?_⟩
   ·have key:results fn a'.tmps=(do
      let vs ←fn.results.mapM fun x=>match x with
       |ResultVar.tmp t=>pure (a'.tmps.getD t undef)
       |ResultVar.cell r t=>do let y ←asAddr (a'.tmps.getD r undef);loadVar t y
      pure (if h:vs.size=1 then vs[0]else Value.tuple vs)):=rfl
    rw[key,Sem.run_bind,Array.mapM_eq_mapM_toList,Sem.run_map,hxs]
    simp only[Result.andThen_ok,Sem.run_pure]
    congr 1
   ·rw[h3]
    exact agk (hv.weak (c:=c) (c':=c) (ρ:=τ) (fun _ h=>h) (fun k2 k1 h=>by simp[h]) h2)
 obtain⟨x,β1,st1,hrun,hw1,hobj1,hvx⟩:=hfin
 have hkeep1:∀k a,τ k=some a→∀y,β k=some y→β1 a=some y:=by
  intro k a hka y hy
  rcases hτ.dom k a hka with h1|⟨h1,h2⟩
  ·exact hw1.keep a y (by simp only[h1,Option.bind_some];exact hy)
  ·exact absurd (hrel.dom k y hy) (hK k h1 h2).1
 have hβ2:∀k2 k1,τ k2=some k1→(fun k=>match τ k with
   |some a=>β1 a
   |none=>β k) k2=β1 k1:=fun k2 k1 h=>by simp[h]
 have hW2:aU c (cj (er r.post) pre) D' (fun k=>match τ k with
   |some a=>β1 a
   |none=>β k) w':=by
  have hd2:∀k2 a,τ k2=some a→D' k2:=fun k2 a ha=>by
   rcases hτ.dom k2 a ha with h1|⟨h1,h2⟩
   ·obtain⟨o,ho⟩:=hrl a k2 h1
    cases hb:β k2 with
    |some x=>exact hD _ (hrel.dom k2 _ hb)
    |none=>exact hD _ (hrel.cZ k2 o ho hb).2
   ·exact(hK k2 h1 h2).2
  refine hw1.weak (c':=c) (ρ:=τ) rfl rfl rfl hτ.inj (fun k o h=>.inl (hobj1 k o h)) hβ2 hd2 (fun k2 y hk=>?_) (fun k2 b N hk=>?_) (fun k y hk=>?_)
  ·split at hk
   ·rename_i a ha
    exact hd2 k2 a ha
   ·exact hD _ (hrel.dom k2 y hk)
  ·split at hk
   ·exact hw1.lt _ b N hk
   ·exact Nat.lt_of_lt_of_le (hrel.lt k2 b N hk) (by have:=hw1.size;rw[←hw0];exact this)
  ·have hy:=hrel.keep k y hk
   split
   ·rename_i a ha
    exact hkeep1 k a ha y hy
   ·exact hy
 have hO:dY c pre D' β w (er r.post) r.res x w':=by
  refine⟨_,hW2,⟨fun b o hb ho=>?_,fun k y hk=>?_⟩,?_⟩
  ·have hlt:b<c.w0.heap.size:=by rw[hw0];exact jx ho
   have hmw:¬c.Mw b:=fun hm=>hb (hMw b hm)
   refine⟨?_,?_⟩
   ·rw[hw1.block b hlt hmw]
    show c.w0.heap[b]?=_
    rw[hw0];exact ho
   ·rintro(hm|⟨k,o',N,h1,h2,h3⟩)
    ·exact hb (.inl hm)
    ·rcases hW2.new k o' b N h1 h2 h3 with h4|h4
     ·omega
     ·exact hmw h4
  ·split
   ·rename_i a ha
    exact hkeep1 k a ha y hk
   ·exact hk
  ·refine hvx.mono (fun b o h1 h2=>⟨h2,fun h3=>h1 (CT (c:={c with k0:=fun a=>(aT rl a).bind β,ro:=none}) rfl (fun k o h=>.inl (hobj1 k o h)) hβ2 b h3)⟩) (fun k y hk=>?_)
   cases h1:τ k with
   |none=>simp[h1]at hk
   |some a=>simpa [h1]using hk
 rcases hex with rfl|rfl
 ·exact hleave x hrun ⟨x,rfl,hO⟩
 ·exact hleave x hrun ⟨x,rfl,hO⟩
theorem mK (hT:cY P T) {f:FuncId} {fn:Func} {x:Code} (hf:aO P f fn x) {args args0:List AV} {pre pre0:aC} {r:cJ} {K nx:Nat} (rl:List (Nat×Nat)) (hlen:args0.length≤fn.ntmps) (hr:gD nx rl=true)
  (ha:fc (aT rl) args args0) (hp:mX (aT rl) pre pre0) (hrl:∀a k,aT rl a=some k→∃o,look k pre=some o)
  (hpost:∀k o,look k r.post=some o→(∃o',look k pre=some o')∨(K≤k∧k<K+cq))
  (h:r.need→∀c:Ctx,(∀k x,c.k0 k=some x→(aT rl k).isSome=true)→aq P c fn.ntmps x ⟨aN 0 args0,pre0,nx⟩ fun e s'=>(e=.normal∨e=.ret)∧∃τ,sL rl K pre τ∧(Bq T fn τ pre r s'∨uT T fn τ pre r s')):aB P f K args pre r:=
 ah9 hT hf rl hlen hr ha hp hrl hpost fun need c _=>h need c
end core
def jg (nx:Nat) (vs:List AV):Bool:=(vs.all fun v=>!v.isTuple)&&(aZ vs).all fun k=>decide (k<nx)
def gn (nx:Nat):aC→Prop
 |[]=>True
 |(k,o)::l=>(k<nx∧∀i,i<o.len→keys (o.f i)=[])∧gn nx l
theorem Mg {nx:Nat}:∀{os:aC},gn nx os→∀{k:Nat} {o:ah},look k os=some o→k<nx∧∀i,i<o.len→keys (o.f i)=[]
 |[],_,k,o,h=>by simp[look]at h
 |(j,b)::l,h,k,o,hk=>by
  simp only[look]at hk
  split at hk
  ·rename_i he
   have:j=k:=by simpa using he
   subst this
   simp only[Option.some.injEq]at hk
   subst hk
   exact h.1
  ·exact Mg h.2 hk
theorem Mk {nx:Nat} {u:AV} (hk:∀k∈keys u,k<nx):fX (fun k=>if k<nx then some k else none) u u:=by
 refine⟨rfl,fun M w β cs hc=>?_⟩
 have gen:∀{l:List AV} {cs:List Value},aM M w β l cs→(∀k∈aZ l,k<nx)→aM M w (fun k=>(if k<nx then some k else none).bind β) l cs:=by
  intro l cs h
  generalize hβ:β=β' at h
  induction h with
  |nil=>exact fun _=>.nil
  |bool _ ih=>exact fun h=>.bool (ih hβ (by simpa [aZ,keys]using h))
  |int _ ih=>exact fun h=>.int (ih hβ (by simpa [aZ,keys]using h))
  |rat hs h1 h2 _ _ _ ih=>exact fun h=>.rat hs h1 h2 (ih hβ (by simpa [aZ,keys]using h))
  |mag h1 h2 _ ih=>exact fun h=>.mag h1 h2 (ih hβ (by simpa [aZ,keys]using h))
  |agg _ _ ih1 ih2=>exact fun h=>.agg (ih1 hβ fun k hk=>h k (by simp only[aZ,keys];exact List.mem_append_left _ hk)) (ih2 hβ fun k hk=>h k (by simp only[aZ];exact List.mem_append_right _ hk))
  |ak h1 h2 h3 h4 h5 _ _ ih=>exact fun h=>.ak h1 h2 h3 h4 h5 (ih hβ (by simpa [aZ,keys]using h))
  |dx hq h1 h2 h3 h4 h5 _ _ ih=>exact fun h=>.dx hq h1 h2 h3 h4 h5 (ih hβ (by simpa [aZ,keys]using h))
  |vnil _ ih=>exact fun h=>.vnil (ih hβ (by simpa [aZ,keys]using h))
  |void hx _ ih=>exact fun h=>.void hx (ih hβ (by simpa [aZ,keys]using h))
  |str _ ih=>exact fun h=>.str (ih hβ (by simpa [aZ,keys]using h))
  |bI h1 h2 _ _ ih=>exact fun h=>.bI h1 h2 (ih hβ (by simpa [aZ,keys]using h))
  |@ptr _ k _ _ _ _ _ _ _ _ hk _ ih=>
   intro h
   have:k<nx:=h k (by simp[aZ,keys])
   exact .ptr (by simp only[this,if_true,Option.bind_some];rw[←hβ]at hk ⊢;exact hk) (ih hβ fun k hk=>h k (by simp only[aZ];exact List.mem_append_right _ hk))
  |@own _ k _ _ _ _ _ _ _ _ _ hk h1 h2 h4 h3 _ ih=>
   intro h
   have:k<nx:=h k (by simp[aZ,keys])
   exact .own (by simp only[this,if_true,Option.bind_some];rw[←hβ]at hk ⊢;exact hk) h1 h2 h4 h3 (ih hβ fun k hk=>h k (by simp only[aZ];exact List.mem_append_right _ hk))
  |own0 h3 _ ih=>exact fun h=>.own0 h3 (ih hβ fun k hk=>h k (by simp only[aZ];exact List.mem_append_right _ hk))
  |bp ha _ _ ih1 ih2=>exact fun h=>.bp ha (ih1 hβ fun k hk=>h k (by simp only[aZ,keys,List.append_nil]at hk ⊢;exact List.mem_append_left _ hk)) (ih2 hβ fun k hk=>h k (by simp only[aZ];exact List.mem_append_right _ hk))
  |func _ hc _ ih1 ih2=>exact fun h=>.func (ih1 hβ fun k hk=>h k (by simp only[aZ,keys];exact List.mem_append_left _ hk)) hc (ih2 hβ fun k hk=>h k (by simp only[aZ];exact List.mem_append_right _ hk))
 exact gen hc fun k h=>hk k (by rw[Gu]at h;exact h)
theorem JN {nx:Nat}:∀{vs:List AV},jg nx vs=true→fc (fun k=>if k<nx then some k else none) vs vs
 |[],_=>trivial
 |v::vs,h=>by
  simp only[jg,List.all_cons,aZ,List.all_append,Bool.and_eq_true,Bool.not_eq_true']at h
  obtain⟨⟨h1,h2⟩,h3,h4⟩:=h
  refine⟨⟨h1,Mk fun k hk=>by simpa using List.all_eq_true.1 h3 k hk⟩,JN ?_⟩
  simp only[jg,Bool.and_eq_true]
  exact⟨h2,h4⟩
theorem mM {c:Ctx} {s':aF} {ls:List Nat} {vs:List AV} {os:aC} {nx:Nat} (hv:aX ls s'=some (vs,os)) (h0:∀k x,c.k0 k=some x→k<nx) (hok:jg nx vs=true) (ho:gn nx os):∃ρ,Le c ρ s' ⟨aA ls vs,os,nx⟩:=by
 unfold aX at hv
 simp only[Option.some.injEq,Prod.mk.injEq]at hv
 obtain⟨rfl,rfl⟩:=hv
 refine⟨fun k=>if k<nx then some k else none,?_,Ca (JN hok),fun k2 o2 hk=>?_,fun k2 k1 hk=>?_,fun k x hk=>by simp[h0 k x hk]⟩
 ·intro a b k ha hb
  split at ha<;>split at hb<;>simp_all
 ·obtain⟨h1,h2⟩:=Mg ho hk
  refine .inl ⟨k2,o2,by simp[h1],?_,⟨rfl,rfl,rfl,rfl,fun i hi=>Mk fun k hk=>by rw[h2 i hi]at hk;simp at hk⟩⟩
  rw[kX]at hk
  split at hk
  ·exact hk
  ·simp at hk
 ·split at hk
  ·assumption
  ·simp at hk
section rules
variable {P:Program} {c:Ctx} {nt:Nat} {s:aF} {Q:aj→aF→Prop} {T:Types} {Γ:aR}
theorem aq.gC {x y:Code} {i:Nat} (hx:x=.block i (.loop y)) (ls:List Nat) (nx:Nat) (h0:∀k x,c.k0 k=some x→k<nx) {α:Type} (vs:α→List AV) (os:α→aC) (hok:∀a,jg nx (vs a)=true) (ho:∀a,gn nx (os a)) (I:α→Prop) (μ:α→Nat) (j:α)
  (hv:aX ls s=some (vs j,os j)) (hI:I j)
  (round:∀j,I j→aq P c nt y ⟨aA ls (vs j),os j,nx⟩ (dz (fun s'=>∃k,aX ls s'=some (vs k,os k)∧I k∧μ k<μ j) (inBlock i Q))):aq P c nt x s Q:=
 aq.g8 hx (fun a=>⟨aA ls (vs a),os a,nx⟩) I μ j (mM hv h0 (hok j) (ho j)) hI fun j hj=>(round j hj).mono fun e s' h=>by
  cases e with
  |normal=>
   obtain⟨k,h1,h2,h3⟩:=h
   exact⟨k,mM h1 h0 (hok k) (ho k),h2,h3⟩
  |exit i=>exact h
  |ret=>exact h
theorem aq.jD {x:Code} {ls:List Nat} {nx:Nat} {vs:List AV} {os:aC} (hv:aX ls s=some (vs,os)) (h0:∀k x,c.k0 k=some x→k<nx) (hok:jg nx vs=true) (ho:gn nx os) (h:aq P c nt x ⟨aA ls vs,os,nx⟩ Q):aq P c nt x s Q:=
 .kg (mM hv h0 hok ho) h
theorem aD.jD {l:List Code} {ls:List Nat} {nx:Nat} {vs:List AV} {os:aC} (hv:aX ls s=some (vs,os)) (h0:∀k x,c.k0 k=some x→k<nx) (hl:l.isEmpty=false) (hok:jg nx vs=true) (ho:gn nx os) (h:aD P c nt l ⟨aA ls vs,os,nx⟩ Q):aD P c nt l s Q:=
 .weak hl (mM hv h0 hok ho) h
theorem aD.DO (hT:cY P T) (hΓ:aY P Γ) (hm:P.follows .mixedOrders=true) {fn:Func} {forks:List Nat} (n:Nat) {l:List Code} {ls:List Nat} {nx:Nat} {vs:List AV} {os:aC} (hv:aX ls s=some (vs,os)) (h0:∀k x,c.k0 k=some x→k<nx)
  (hok:jg nx vs=true) (ho:gn nx os) {t:aa (List AV)} (hc:cm T Γ forks n fn l ⟨aA ls vs,os,nx⟩=some t) (hd:(l.all fun x=>bQ nt x)=true) (hl:l.isEmpty=false) {res:AV} (h:t.all fun _ us=>dX us res):aD P c nt l s (Fin T fn res):=
 .jD hv h0 hl hok ho (.fin hT hΓ hm n hc hd h)
theorem aD.eH (hT:cY P T) (hΓ:aY P Γ) (hm:P.follows .mixedOrders=true) {forks:List Nat} (n:Nat) {l:List Code} {ls:List Nat} {nx:Nat} {vs:List AV} {os:aC} (hv:aX ls s=some (vs,os)) (h0:∀k x,c.k0 k=some x→k<nx)
  (hok:jg nx vs=true) (ho:gn nx os) (ls2:List Nat) {t:aa (List AV×aC)} (hc:aH T Γ forks n ls2 l ⟨aA ls vs,os,nx⟩=some t) (hd:(l.all fun x=>bQ nt x)=true) (hl:l.isEmpty=false) (h:t.all fun e v=>∀s',aX ls2 s'=some v→Q e s'):aD P c nt l s Q:=
 .jD hv h0 hl hok ho (.bf hT hΓ hm n ls2 hc hd h)
theorem aq.eH (hT:cY P T) (hΓ:aY P Γ) (hm:P.follows .mixedOrders=true) {x:Code} {forks:List Nat} (n:Nat) {ls:List Nat} {nx:Nat} {vs:List AV} {os:aC} (hv:aX ls s=some (vs,os)) (h0:∀k x,c.k0 k=some x→k<nx)
  (hok:jg nx vs=true) (ho:gn nx os) (ls2:List Nat) {t:aa (List AV×aC)} (hc:aH T Γ forks n ls2 [x] ⟨aA ls vs,os,nx⟩=some t) (hd:bQ nt x=true) (h:t.all fun e v=>∀s',aX ls2 s'=some v→Q e s'):aq P c nt x s Q:=
 .jD hv h0 hok ho (.bf hT hΓ hm n ls2 hc hd h)
end rules
theorem uj {T:Types} {fn:Func} {ls:List Nat} {vs us ws:List AV} {os ps pre:aC} {s':aF} {τ:Nat→Option Nat} {r:cJ} (hv:aX ls s'=some (vs,os)) (hr:kP (aA ls vs) fn.results.toList=some us) (hle:fc τ us ws) (hres:r.res=iM ws)
  (he:cj (er r.post) pre=ps) (ho:mX τ os ps):uT T fn τ pre r s':=by
 unfold aX at hv
 simp only[Option.some.injEq,Prod.mk.injEq]at hv
 obtain⟨rfl,rfl⟩:=hv
 refine⟨⟨us,[],ws,ET hr,trivial,hle,hres⟩,fun k o hk=>?_⟩
 rw[he]at hk
 obtain⟨k1,o1,g1,g2,g3⟩:=DQ ho k o hk
 refine⟨k1,o1,g1,?_,g3⟩
 rw[kX]at g2
 split at g2
 ·exact g2
 ·simp at g2
def sN (g:Nat→List AV→Option cJ):Spec:=fun K args pre=>match ee pre args with
 |some as=>g K as
 |none=>none
theorem DT {P:Program} {f:FuncId} {g:Nat→List AV→Option cJ} (h:∀K args r,aZ args=[]→g K args=some r→aB P f K args [] r):
  ∀K args pre r,sN g K args pre=some r→aB P f K args pre r:=by
 intro K args pre r hg
 unfold sN at hg
 split at hg
 ·rename_i as has
  have hf:=h K as r (w8 has) hg
  intro need
  obtain⟨h1,h2⟩:=hf need
  refine⟨fun k o ho=>.inr ((h1 k o ho).resolve_left fun⟨o',h⟩=>by simp[look]at h),fun c D D' β w vs hw0 hMw hrel hD hK hv=>?_⟩
  have hv':bW (aL c pre β) w aW as vs:=B4 hrel (fun _ _ h=>h) has hv
  exact(hf.frame (pre':=pre) (fun k o hk=>by simp[look]at hk)).use need hrel (fun _ _ h=>h) hD hK (hv'.mono (fun b o h1 h2=>⟨h2,h1⟩) fun k x hx=>by simp[aW]at hx)
 ·simp at hg
theorem Ii {K k a:Nat} {pre:aC} (h:K≤k∧k<K+cq):sL [] K pre (aT [(k,a)]):=
 ⟨fun x y z hx hy=>by
  simp only[aT,look]at hx hy
  split at hx<;>split at hy<;>simp_all,fun x y hx=>by
  simp only[aT,look]at hx
  split at hx
  ·rename_i he
   have:k=x:=by simpa using he
   subst this
   exact .inr h
  ·simp at hx⟩
theorem qb {K k a:Nat} {pre:aC}:sL [(a,k)] K pre (aT [(k,a)]):=
 ⟨fun x y z hx hy=>by
  simp only[aT,look]at hx hy
  split at hx<;>split at hy<;>simp_all,fun x y hx=>by
  simp only[aT,look]at hx ⊢
  split at hx
  ·rename_i he
   have:k=x:=by simpa using he
   subst this
   simp only[Option.some.injEq]at hx
   subst hx
   exact .inl (by simp)
  ·simp at hx⟩
theorem jl {c:Ctx} (h:c.k0=aW) {nx:Nat}:∀k x,c.k0 k=some x→k<nx:=fun k x hk=>by rw[h]at hk;simp[aW]at hk
theorem dm {ls:List Nat} {s':aF} {vs us:List AV} {os ps:aC} (hv:aX ls s'=some (vs,os)) (h1:vs=us) (h2:os=ps):aX ls s'=some (us,ps):=by rw[hv,h1,h2]
end Go.Am

/- Rational numbers: signs, sizes, quotients of natural numbers. -/
namespace Go.Am
open AV
def fA (b:Bool) (n:Nat):Int:=if b then-(n:Int)else n
def sQ (b:Bool) (n d:Nat):Rat:=mkRat (fA b n) d
def ct (q:Rat):Nat:=max (br q.num.natAbs) (br q.den)
theorem Dt {b:Bool} {n:Nat}:(fA b n).natAbs=n:=by unfold fA;split<;>simp
theorem adT {b:Bool}:fA b 0=0:=by unfold fA;split<;>simp
theorem VM {b:Bool} {n g:Nat} (h:g∣n):fA b n/(g:Int)=fA b (n/g):=by
 unfold fA
 split
 ·rw[Int.neg_ediv_of_dvd (Int.natCast_dvd_natCast.2 h)];simp
 ·simp
theorem iB {q:Rat}:q<0↔q.num<0:=by rw[Rat.lt_iff];simp
theorem DR {b:Bool} {n d:Nat} (hd:d≠0):(sQ b n d).num=fA b (n/Nat.gcd n d):=by
 unfold sQ
 rw[Rat.num_mkRat,if_neg hd,Dt,Nat.gcd_comm,VM (Nat.gcd_dvd_left n d)]
theorem PV {b:Bool} {n d:Nat} (hd:d≠0):(sQ b n d).den=d/Nat.gcd n d:=by
 unfold sQ
 rw[Rat.den_mkRat,if_neg hd,Dt,Nat.gcd_comm]
theorem Hr {b:Bool} {d:Nat}:sQ b 0 d=0:=by unfold sQ;rw[adT];simp
theorem akn {b:Bool} {n d:Nat} (hn:n≠0) (hd:d≠0):decide (sQ b n d<0)=b:=by
 have h1:0<n/Nat.gcd n d:=Nat.div_pos (Nat.le_of_dvd (by omega) (Nat.gcd_dvd_left n d)) (Nat.gcd_pos_of_pos_left _ (by omega))
 cases b
 ·simp only[decide_eq_false_iff_not,iB,DR hd,fA];simp;omega
 ·simp only[decide_eq_true_eq,iB,DR hd,fA];simp;omega
theorem zX {q:Rat}:Sz q (ct q):=
 ⟨Nat.lt_of_lt_of_le (iI.1 (Nat.le_refl _)) (Nat.pow_le_pow_right (by omega) (Nat.le_max_left _ _)),Nat.lt_of_lt_of_le (iI.1 (Nat.le_refl _)) (Nat.pow_le_pow_right (by omega) (Nat.le_max_right _ _))⟩
theorem afr {q:Rat} {n:Nat}:Sz q n↔ct q≤n:=by
 unfold Sz ct
 rw[←iI,←iI];omega
theorem fS {q r:Rat} {n k:Nat} (h:q=r) (hs:Sz r k):bB (.rat q n) (.rat r k):=by
 subst h
 refine⟨rfl,fun M w cs hc=>?_⟩
 cases hc with
 |rat _ h1 h2 h3=>cases h3;exact .rat hs h1 h2 .nil
theorem FN {b:Bool} {n d k:Nat} (hd:d≠0) (hn:n<2^k) (hdk:d<2^k):Sz (sQ b n d) k:=by
 refine⟨?_,?_⟩
 ·rw[DR hd,Dt];exact Nat.lt_of_le_of_lt (Nat.div_le_self _ _) hn
 ·rw[PV hd];exact Nat.lt_of_le_of_lt (Nat.div_le_self _ _) hdk
theorem ko (q:Rat):sQ (decide (q<0)) q.num.natAbs q.den=q:=by
 unfold sQ
 have:fA (decide (q<0)) q.num.natAbs=q.num:=by
  unfold fA
  by_cases h:q<0
  ·have:=iB.1 h;simp[h];omega
  ·have:¬q.num<0:=fun h'=>h (iB.2 h')
   simp[h];omega
 rw[this,Rat.mkRat_self]
theorem r7 {b:Bool} {x y n d k:Nat} (hn:n≠0) (hd:d≠0) (hx:x=n/Nat.gcd n d) (hy:y=if d/Nat.gcd n d=1 then 0 else d/Nat.gcd n d) (hs:Sz (sQ b n d) k):bB (.agg [.bool b,.mag x,.mag y]) (.rat (sQ b n d) k):=
 rO hs (akn hn hd).symm (by rw[DR hd,Dt,hx]) (by rw[PV hd,hy])
theorem lR {k:Nat}:bB (.agg [.bool false,.mag 0,.mag 0]) (.rat 0 (k+1)):=
 rO ⟨by simp[Nat.two_pow_pos],by simp⟩ (by decide) rfl rfl
section down
variable {P:Program} {c:Ctx} {nt:Nat} {s:aF} {Q:aj→aF→Prop} {T:Types}
def dO (c:Ctx) (Q:aj→aF→Prop) (e:aj) (s':aF):Prop:=Q e s'∨∃s2 ρ,Le c ρ s' s2∧Q e s2
theorem aq.down {x:Code} (h:aq P c nt x s (dO c Q)):aq P c nt x s Q:=by
 intro a w hr
 refine wpIn_mono (h a w hr) ?_
 rintro e a' w' ⟨ae,s',h1,h2,hq|⟨s2,ρ,hle,hq⟩⟩
 ·exact⟨ae,s',h1,h2,hq⟩
 ·exact⟨ae,s2,h1,hle.rel h2,hq⟩
theorem xN {fn:Func} {ls:List Nat} {vs:List AV} {os:aC} {nx:Nat} {s':aF} {e:aj} {t:aa (List AV)} {res:AV} (he:kA T fn e ⟨aA ls vs,os,nx⟩=some t) (hv:aX ls s'=some (vs,os)) (h0:∀k x,c.k0 k=some x→k<nx) (hok:jg nx vs=true) (ho:gn nx os)
  (h:t.all fun _ us=>dX us res):dO c (Fin T fn res) e s':=by
 obtain⟨ρ,hle⟩:=mM hv h0 hok ho
 exact .inr ⟨_,ρ,hle,CH he h⟩
theorem aD.jz (hT:cY P T) {Γ:aR} (hΓ:aY P Γ) (hm:P.follows .mixedOrders=true) {fn:Func} {forks:List Nat} (n:Nat) {l:List Code} {ls:List Nat} {nx:Nat} {vs:List AV} {os:aC} (hv:aX ls s=some (vs,os)) (h0:∀k x,c.k0 k=some x→k<nx)
  (hok:jg nx vs=true) (ho:gn nx os) {t:aa (List AV)} (hc:cm T Γ forks n fn l ⟨aA ls vs,os,nx⟩=some t) (hd:(l.all fun x=>bQ nt x)=true) (hl:l.isEmpty=false) {res:AV} (h:t.all fun _ us=>dX us res):aD P c nt l s (dO c (Fin T fn res)):=
 (aD.DO hT hΓ hm n hv h0 hok ho hc hd hl h).mono fun _ _ h=>.inl h
end down
theorem iq {P:Program} {T:Types} (hT:cY P T) {f:FuncId} {fn:Func} {x:Code} (hf:aO P f fn x) {args:List AV} {r:cJ} (hk:aZ args=[]) (hlen:args.length≤fn.ntmps) (hpost:r.post=[])
  (h:r.need→∀c:Ctx,(∀nx k x,c.k0 k=some x→k<nx)→aq P c fn.ntmps x ⟨aN 0 args,[],0⟩ (dO c (Fin T fn r.res))) (K:Nat) (pre:aC):aB P f K args pre r:=
 jk hT hf hk hlen hpost (fun need c h0=>.down (h need c fun _=>jl h0)) K pre
mutual
/-- What is known of the sizes of numbers in values. -/
def Yj:AV→Prop
 |.rat q n=>Sz q n
 |.agg l=>uk l
 |_=>True
def uk:List AV→Prop
 |[]=>True
 |a::l=>Yj a∧uk l
end
theorem aM.sz {M:Nat→Prop} {w:World} {β:aP} {l:List AV} {cs:List Value} (h:aM M w β l cs):uk l:=by
 induction h with
 |nil=>trivial
 |rat hs _ _ _ _ _ ih=>exact⟨hs,ih⟩
 |agg _ _ ih1 ih2=>exact⟨ih1,ih2⟩
 |ak _ _ _ _ _ _ _ ih=>exact⟨trivial,ih⟩
 |dx _ _ _ _ _ _ _ _ ih=>exact⟨trivial,ih⟩
 |bI _ _ _ _ ih=>exact⟨trivial,ih⟩
 |func _ _ _ _ ih=>exact⟨trivial,ih⟩
 |bp _ _ _ _ ih=>exact⟨trivial,ih⟩
 |_=>rename_i ih;exact⟨trivial,ih⟩
theorem bW.sz {M:Nat→Prop} {w:World} {β:aP}:∀{l:List AV} {xs:List Value},bW M w β l xs→uk l
 |[],[],_=>trivial
 |a::l,x::xs,h=>by
  obtain⟨⟨cs,h1,_⟩,h2⟩:=h
  exact⟨h1.sz.1,h2.sz⟩
 |[],_::_,h=>h.elim
 |_::_,[],h=>h.elim
theorem aiR {P:Program} {f:FuncId} {K:Nat} {args:List AV} {pre:aC} {r:cJ} (hp:∀k o,look k r.post=some o→(∃o',look k pre=some o')∨(K≤k∧k<K+cq)) (h:uk args→aB P f K args pre r):aB P f K args pre r:=
 fun need=>⟨hp,fun c D D' β w vs h1 h2 h3 h4 h5 hv=>(h hv.sz need).2 c D D' β w vs h1 h2 h3 h4 h5 hv⟩
theorem jj {P:Program} {f:FuncId} {K:Nat} {args:List AV} {pre:aC} {v:AV} {l:List Prop} (h:uk args→aB P f K args pre ⟨v,[],l⟩):aB P f K args pre ⟨v,[],l⟩:=
 aiR (fun k o hk=>by simp[look]at hk) h
theorem iZ {N n:Nat} (h:N<2^n) (hn:n<2^44):nl N<2^40:=by
 have h1:N<2^(32*(n/32+1)):=Nat.lt_of_lt_of_le h (Nat.pow_le_pow_right (by omega) (by omega))
 have:=cT.2 h1
 omega
theorem Uo {q:Rat}:(if q.den=1 then 0 else q.den)≤q.den:=by split<;>omega
theorem Sz.iK {q:Rat} {n:Nat} (h:Sz q n) (hn:n<2^44):nl q.num.natAbs<2^40∧nl q.den<2^40∧nl (if q.den=1 then 0 else q.den)<2^40:=
 ⟨iZ h.1 hn,iZ h.2 hn,Nat.lt_of_le_of_lt (gB Uo) (iZ h.2 hn)⟩
theorem Sz.pos {q:Rat} {n:Nat} (h:Sz q n):0<n:=by
 rcases Nat.eq_zero_or_pos n with h1|h1
 ·subst h1;have:=h.2;have:=q.den_nz;omega
 ·exact h1
theorem Sz.more {q:Rat} {n m:Nat} (h:Sz q n) (hm:n≤m):Sz q m:=
 ⟨Nat.lt_of_lt_of_le h.1 (Nat.pow_le_pow_right (by omega) hm),Nat.lt_of_lt_of_le h.2 (Nat.pow_le_pow_right (by omega) hm)⟩
theorem Ke {a:Int} {d:Nat}:(mkRat a d).num.natAbs≤a.natAbs:=by
 rw[Rat.num_mkRat]
 split
 ·simp
 ·rw[Int.natAbs_ediv_of_dvd]
  ·exact Nat.div_le_self _ _
  ·exact Int.ofNat_dvd_left.2 (Nat.gcd_dvd_right _ _)
theorem J3 {a:Int} {d:Nat} (h:d≠0):(mkRat a d).den≤d:=by
 rw[Rat.den_mkRat,if_neg h]
 exact Nat.div_le_self _ _
theorem Sz.add {q r:Rat} {n m:Nat} (h:Sz q n) (h':Sz r m):Sz (q+r) (n+m+1):=by
 rw[Rat.add_def']
 have d0:q.den*r.den≠0:=Nat.mul_ne_zero q.den_nz r.den_nz
 have e:2^(n+m+1)=2^n*2^m+2^n*2^m:=by rw[Nat.pow_succ,Nat.pow_add];omega
 have b1:q.num.natAbs*r.den≤2^n*2^m:=Nat.mul_le_mul (Nat.le_of_lt h.1) (Nat.le_of_lt h'.2)
 have b2:r.num.natAbs*q.den<2^m*2^n:=Nat.mul_lt_mul'' h'.1 h.2
 have b3:q.den*r.den≤2^n*2^m:=Nat.mul_le_mul (Nat.le_of_lt h.2) (Nat.le_of_lt h'.2)
 have b4:0<2^n*2^m:=Nat.mul_pos (Nat.two_pow_pos _) (Nat.two_pow_pos _)
 rw[Nat.mul_comm (2^m)]at b2
 refine⟨Nat.lt_of_le_of_lt Ke ?_,Nat.lt_of_le_of_lt (J3 d0) (by omega)⟩
 have b5:=Int.natAbs_add_le (q.num*r.den) (r.num*q.den)
 rw[Int.natAbs_mul,Int.natAbs_mul,Int.natAbs_natCast,Int.natAbs_natCast]at b5
 omega
theorem Sz.neg {q:Rat} {n:Nat} (h:Sz q n):Sz (-q) n:=by
 refine⟨?_,?_⟩
 ·rw[Rat.neg_num,Int.natAbs_neg];exact h.1
 ·rw[Rat.neg_den];exact h.2
theorem Sz.sub {q r:Rat} {n m:Nat} (h:Sz q n) (h':Sz r m):Sz (q-r) (n+m+1):=by
 rw[Rat.sub_eq_add_neg];exact h.add h'.neg
theorem Sz.mul {q r:Rat} {n m:Nat} (h:Sz q n) (h':Sz r m):Sz (q*r) (n+m):=by
 rw[Rat.mul_def']
 have d0:q.den*r.den≠0:=Nat.mul_ne_zero q.den_nz r.den_nz
 refine⟨Nat.lt_of_le_of_lt Ke ?_,Nat.lt_of_le_of_lt (J3 d0) ?_⟩
 ·rw[Int.natAbs_mul,Nat.pow_add];exact Nat.mul_lt_mul'' h.1 h'.1
 ·rw[Nat.pow_add];exact Nat.mul_lt_mul'' h.2 h'.2
theorem Sz.inv {q:Rat} {n:Nat} (h:Sz q n):Sz q⁻¹ n:=by
 by_cases h0:q=0
 ·subst h0
  rw[Rat.inv_zero]
  exact h
 ·have hn:q.num≠0:=fun h=>h0 (Rat.num_eq_zero.1 h)
  refine⟨?_,?_⟩
  ·rw[Rat.num_inv,Int.natAbs_mul,Int.natAbs_natCast,Int.natAbs_sign_of_ne_zero hn,Nat.one_mul];exact h.2
  ·rw[Rat.den_inv,if_neg hn];exact h.1
theorem Sz.div {q r:Rat} {n m:Nat} (h:Sz q n) (h':Sz r m):Sz (q/r) (n+m):=by
 rw[Rat.div_def];exact h.mul h'.inv
def eG (q:Rat):Int:=if q<0 then-1 else if 0<q then 1 else 0
def fe (q r:Rat):Int:=if q<r then-1 else if r<q then 1 else 0
end Go.Am

/- aR of functions that are handed a pointer to an object and leave it changed. -/
namespace Go.Am
open AV
def B7 (T:Types) (fn:Func) (e:aj) (s:aF):Option (aa (List AV×Option ah)):=
 match kA T fn e s with
 |some t=>t.bind fun e us=>some (.leaf e (us,look 0 s.store))
 |none=>none
def qh (T:Types) (Γ:aR) (forks:List Nat) (n:Nat) (fn:Func) (x:Code) (s:aF):Option (aa (List AV×Option ah)):=
 match dK T Γ forks n x s with
 |some t=>t.bind (B7 T fn)
 |none=>none
theorem Ay {P:Program} {T:Types} (hT:cY P T) {Γ:aR} (hΓ:aY P Γ) (hm:P.follows .mixedOrders=true) {f:FuncId} {fn:Func} {x:Code} (hf:aO P f fn x) {k idx es off:Nat} {p:List Nat} {rest:List AV} {o2 o o':ah} {res:AV} {l:List Prop}
  (hkr:aZ rest=[]) (hrt:(rest.all fun v=>!v.isTuple)=true) (hlen:rest.length+1≤fn.ntmps) (ho:∀ρ,cu ρ o2 o) {forks:List Nat} (n:Nat) {t:aa (List AV×Option ah)}
  (hc:qh T Γ forks n fn x ⟨aN 0 (.ptr 0 idx es off p::rest),[(0,o)],1⟩=some t)
  (h:ax l→t.all fun _ v=>dX v.1 res∧∃o1,v.2=some o1∧o1.row=false∧cu (aT [(k,0)]) o1 o') (K:Nat):
  aB P f K (.ptr k idx es off p::rest) [(k,o2)] ⟨res,[(k,o')],l⟩:=by
 have hrest:∀{rest:List AV},aZ rest=[]→(rest.all fun v=>!v.isTuple)=true→fc (aT [(0,k)]) rest rest:=by
  intro rest
  induction rest with
  |nil=>intro _ _;trivial
  |cons v r ih=>
   intro h1 h2
   simp only[aZ,List.append_eq_nil_iff]at h1
   simp only[List.all_cons,Bool.and_eq_true,Bool.not_eq_true']at h2
   exact⟨⟨h2.1,aI h1.1⟩,ih h1.2 h2.2⟩
 refine mK hT hf (args0:=.ptr 0 idx es off p::rest) (pre0:=[(0,o)]) (nx:=1) [(0,k)] (by simpa using hlen) (by simp[gD]) ⟨⟨rfl,mu rfl⟩,hrest hkr hrt⟩ ⟨⟨k,o2,rfl,by simp[look],ho _⟩,trivial⟩
  (fun a x h=>?_) (fun x o h=>.inl ?_) (fun need c h0=>?_)
 ·simp only[aT,look]at h
  split at h
  ·simp only[Option.some.injEq]at h;subst h;exact⟨_,by simp[look];rfl⟩
  ·simp at h
 ·simp only[look]at h
  split at h
  ·rename_i he
   exact⟨_,by simp only[look,he,if_true];rfl⟩
  ·simp at h
 have h:=h need
 unfold qh at hc
 cases hx:dK T Γ forks n x ⟨aN 0 (.ptr 0 idx es off p::rest),[(0,o)],1⟩with
 |none=>rw[hx]at hc;simp at hc
 |some u=>
  rw[hx]at hc
  refine j9 hT hΓ hm n hf.dst hx (aa.eF ?_ (aa.jo hc h))
  rintro e s' ⟨v,h1,h2⟩
  unfold B7 at h1
  split at h1
  ·rename_i v' hv'
   have h3:=aa.jo h1 h2
   have h4:v'.all fun _ us=>dX us res∧∃o1,look 0 s'.store=some o1∧o1.row=false∧cu (aT [(k,0)]) o1 o':=by
    refine aa.eF ?_ h3
    rintro e us ⟨w,g1,g2⟩
    simp only[Option.some.injEq]at g1
    subst g1
    exact g2
   have h5:Fin T fn res e s':=CH hv' (aa.eF (fun _ _ h=>h.1) h4)
   have h6:∃o1,look 0 s'.store=some o1∧o1.row=false∧cu (aT [(k,0)]) o1 o':=by
    have:∀{t:aa (List AV)},(t.all fun _ us=>dX us res∧∃o1,look 0 s'.store=some o1∧o1.row=false∧cu (aT [(k,0)]) o1 o')→∃o1,look 0 s'.store=some o1∧o1.row=false∧cu (aT [(k,0)]) o1 o':=by
     intro t
     induction t with
     |leaf e us=>exact fun h=>h.2
     |ag ps t ih=>exact fun h=>ih h.2
     |fork b t1 t2 ih1 ih2=>
      intro h
      cases b with
      |true=>exact ih1 (h.1 rfl)
      |false=>exact ih2 (h.2 rfl)
    exact this h4
   refine⟨h5.1,aT [(k,0)],qb,.inl ⟨h5.2,fun x ox hx=>?_⟩⟩
   obtain⟨o1,g1,g2,g3⟩:=h6
   have he:cj (er [(k,o')]) [(k,o2)]=[(k,o')]:=by simp[cj,er,put]
   rw[he]at hx
   simp only[look]at hx
   split at hx
   ·rename_i hk
    have:k=x:=by simpa using hk
    subst this
    simp only[Option.some.injEq]at hx
    subst hx
    exact⟨0,o1,by simp[aT,look],g1,g2,g3⟩
   ·simp at hx
  ·simp at h1
theorem ZJ {P:Program} {T:Types} (hT:cY P T) {Γ:aR} (hΓ:aY P Γ) (hm:P.follows .mixedOrders=true) {f:FuncId} {fn:Func} {x:Code} (hf:aO P f fn x) {args:List AV} {o o':ah} {a idx es off ls:Nat} {p:List Nat} {l:List Prop}
  (hka:aZ args=[]) (hrt:(args.all fun v=>!v.isTuple)=true) (hlen:args.length≤fn.ntmps) (hres:fn.results.toList=[.tmp ls]) {forks:List Nat} (n:Nat) {e:aj} {q:List Prop}
  (hc:aH T Γ forks n [ls] [x] ⟨aN 0 args,[],0⟩=some (.leaf e ([.ptr a idx es off p],[(a,o)])))
  (he:e=.normal∨e=.ret) (h:∀ρ,cu ρ o o') (K:Nat):aB P f K args [] ⟨.ptr K idx es off p,[(K,o')],l⟩:=by
 have hrest:∀{rest:List AV},aZ rest=[]→(rest.all fun v=>!v.isTuple)=true→fc (aT []) rest rest:=by
  intro rest
  induction rest with
  |nil=>intro _ _;trivial
  |cons v r ih=>
   intro h1 h2
   simp only[aZ,List.append_eq_nil_iff]at h1
   simp only[List.all_cons,Bool.and_eq_true,Bool.not_eq_true']at h2
   exact⟨⟨h2.1,aI h1.1⟩,ih h1.2 h2.2⟩
 refine mK hT hf (args0:=args) (pre0:=[]) (nx:=0) [] hlen rfl (hrest hka hrt) trivial (fun a k h=>by simp[aT,look]at h) (fun k o h=>?_) (fun _ c h0=>?_)
 ·simp only[look]at h
  split at h
  ·rename_i he
   have:K=k:=by simpa using he
   subst this
   exact .inr ⟨Nat.le_refl _,by unfold cq;omega⟩
  ·simp at h
 refine aq.bf hT hΓ hm n [ls] hc hf.dst fun s' hv=>⟨he,aT [(K,a)],Ii ⟨Nat.le_refl _,by unfold cq;omega⟩,.inr ?_⟩
 refine uj (us:=[.ptr a idx es off p]) (ws:=[.ptr K idx es off p]) (ps:=[(K,o')]) hv ?_ ⟨⟨rfl,mu (by simp[aT,look])⟩,trivial⟩ rfl rfl ⟨⟨a,_,by simp[aT,look],by simp[look],h _⟩,trivial⟩
 rw[hres]
 simp only[kP,aA,look,beq_self_eq_true,if_true]
 rfl
end Go.Am

/- aR that the evaluator itself writes: of functions that only read, without a loop of unknown length. -/
namespace Go.Am
open AV
mutual
/-- One of two values, by a condition that is not known. -/
def dZ (b:Bool):AV→AV→Option AV
 |.rat q n,.rat r m=>some (.rat (cond b q r) (max n m))
 |.int k x,.int j y=>match isKind k j with
  |true=>some (.int k (cond b x y))
  |false=>none
 |.bool x,.bool y=>some (.bool (cond b x y))
 |.ak e n f,.ak e' m g=>match e==e' with
  |true=>some (.ak e (cond b n m) fun i=>cond b (f i) (g i))
  |false=>none
 |.nil,.nil=>some .nil
 |.nil,.ak e n f=>match Nat.blt 0 e with
  |true=>some (.ak e (cond b 0 n) f)
  |false=>none
 |.ak e n f,.nil=>match Nat.blt 0 e with
  |true=>some (.ak e (cond b n 0) f)
  |false=>none
 |.agg l,.agg m=>match nP b l m with
  |some x=>some (.agg x)
  |none=>none
 |_,_=>none
def nP (b:Bool):List AV→List AV→Option (List AV)
 |[],[]=>some []
 |u::l,v::m=>match dZ b u v,nP b l m with
  |some x,some y=>some (x::y)
  |_,_=>none
 |_,_=>none
end
mutual
theorem Vq:∀{u v x:AV},dZ true u v=some x→bB u x
 |.rat q n,v,x,h=>by
  cases v<;>simp only[dZ,Option.some.injEq,reduceCtorEq]at h
  subst h;exact fC (Nat.le_max_left ..)
 |.int k a,v,x,h=>by
  cases v<;>simp only[dZ,reduceCtorEq]at h
  split at h
  ·simp only[Option.some.injEq]at h;subst h;exact .refl _
  ·simp at h
 |.bool a,v,x,h=>by
  cases v<;>simp only[dZ,Option.some.injEq,reduceCtorEq]at h
  subst h;exact .refl _
 |.ak e n f,v,x,h=>by
  cases v<;>simp only[dZ,reduceCtorEq]at h
  ·split at h
   ·simp only[Option.some.injEq]at h;subst h;exact .refl _
   ·simp at h
  ·split at h
   ·simp only[Option.some.injEq]at h;subst h;exact .refl _
   ·simp at h
 |.nil,v,x,h=>by
  cases v<;>simp only[dZ,Option.some.injEq,reduceCtorEq]at h
  ·split at h
   ·rename_i he
    simp only[Option.some.injEq]at h;subst h
    exact kT (by rw[Nat.blt_eq]at he;exact he)
   ·simp at h
  ·subst h;exact .refl _
 |.agg l,v,x,h=>by
  cases v<;>simp only[dZ,reduceCtorEq]at h
  split at h
  ·rename_i hl
   simp only[Option.some.injEq]at h;subst h;exact dn (Fz hl)
  ·simp at h
 |.mag _,v,x,h=>by simp[dZ]at h
 |.dx _ _ _ _,v,x,h=>by simp[dZ]at h
 |.void,v,x,h=>by simp[dZ]at h
 |.str _,v,x,h=>by simp[dZ]at h
 |.bI _,v,x,h=>by simp[dZ]at h
 |.ptr _ _ _ _ _,v,x,h=>by simp[dZ]at h
 |.own _ _ _ _,v,x,h=>by simp[dZ]at h
 |.func _ _,v,x,h=>by simp[dZ]at h
 |.tuple _,v,x,h=>by simp[dZ]at h
 |.bp _ _,v,x,h=>by simp[dZ]at h
theorem Fz:∀{u v x:List AV},nP true u v=some x→eJ u x
 |[],v,x,h=>by
  cases v<;>simp only[nP,Option.some.injEq,reduceCtorEq]at h
  subst h;trivial
 |a::l,v,x,h=>by
  cases v<;>simp only[nP,reduceCtorEq]at h
  split at h
  ·rename_i h1 h2
   simp only[Option.some.injEq]at h;subst h;exact⟨Vq h1,Fz h2⟩
  ·simp at h
end
mutual
theorem aek:∀{u v x:AV},dZ false u v=some x→bB v x
 |.rat q n,v,x,h=>by
  cases v<;>simp only[dZ,Option.some.injEq,reduceCtorEq]at h
  subst h;exact fC (Nat.le_max_right ..)
 |.int k a,v,x,h=>by
  cases v<;>simp only[dZ,reduceCtorEq]at h
  split at h
  ·rename_i hk
   have:=DN hk
   subst this
   simp only[Option.some.injEq]at h;subst h;exact .refl _
  ·simp at h
 |.bool a,v,x,h=>by
  cases v<;>simp only[dZ,Option.some.injEq,reduceCtorEq]at h
  subst h;exact .refl _
 |.ak e n f,v,x,h=>by
  cases v<;>simp only[dZ,reduceCtorEq]at h
  ·split at h
   ·rename_i hk
    have:=eq_of_beq hk
    subst this
    simp only[Option.some.injEq]at h;subst h;exact .refl _
   ·simp at h
  ·split at h
   ·rename_i he
    simp only[Option.some.injEq]at h;subst h
    exact kT (by rw[Nat.blt_eq]at he;exact he)
   ·simp at h
 |.nil,v,x,h=>by
  cases v<;>simp only[dZ,Option.some.injEq,reduceCtorEq]at h
  ·split at h
   ·simp only[Option.some.injEq]at h;subst h;exact .refl _
   ·simp at h
  ·subst h;exact .refl _
 |.agg l,v,x,h=>by
  cases v<;>simp only[dZ,reduceCtorEq]at h
  split at h
  ·rename_i hl
   simp only[Option.some.injEq]at h;subst h;exact dn (EL hl)
  ·simp at h
 |.mag _,v,x,h=>by simp[dZ]at h
 |.dx _ _ _ _,v,x,h=>by simp[dZ]at h
 |.void,v,x,h=>by simp[dZ]at h
 |.str _,v,x,h=>by simp[dZ]at h
 |.bI _,v,x,h=>by simp[dZ]at h
 |.ptr _ _ _ _ _,v,x,h=>by simp[dZ]at h
 |.own _ _ _ _,v,x,h=>by simp[dZ]at h
 |.func _ _,v,x,h=>by simp[dZ]at h
 |.tuple _,v,x,h=>by simp[dZ]at h
 |.bp _ _,v,x,h=>by simp[dZ]at h
theorem EL:∀{u v x:List AV},nP false u v=some x→eJ v x
 |[],v,x,h=>by
  cases v<;>simp only[nP,Option.some.injEq,reduceCtorEq]at h
  subst h;trivial
 |a::l,v,x,h=>by
  cases v<;>simp only[nP,reduceCtorEq]at h
  split at h
  ·rename_i h1 h2
   simp only[Option.some.injEq]at h;subst h;exact⟨aek h1,EL h2⟩
  ·simp at h
end
theorem eJ.trans:∀{a b c:List AV},eJ a b→eJ b c→eJ a c
 |[],[],[],_,_=>trivial
 |_::_,_::_,_::_,h,h'=>⟨h.1.trans h'.1,h.2.trans h'.2⟩
 |[],[],_::_,_,h=>h.elim
 |[],_::_,_,h,_=>h.elim
 |_::_,[],_,h,_=>h.elim
 |_::_,_::_,[],_,h=>h.elim
def pY:aa (List AV)→Option (List AV×List Prop)
 |.leaf _ us=>some (us,[])
 |.ag ps t=>match pY t with
  |some (us,qs)=>some (us,ps++qs)
  |none=>none
 |.fork b t u=>match pY t,pY u with
  |some (x,p),some (y,q)=>match nP b x y with
   |some z=>match p,q with
    |[],[]=>some (z,[])
    |p,q=>some (z,[b=true→ax p,b=false→ax q])
   |none=>none
  |_,_=>none
theorem vN:∀{t:aa (List AV)} {us:List AV} {ps:List Prop},pY t=some (us,ps)→ax ps→t.all fun _ vs=>eJ vs us
 |.leaf e vs,us,ps,h,_=>by
  simp only[pY,Option.some.injEq,Prod.mk.injEq]at h
  obtain⟨rfl,rfl⟩:=h
  exact .refl _
 |.ag l t,us,ps,h,hp=>by
  simp only[pY]at h
  split at h
  ·rename_i h1
   simp only[Option.some.injEq,Prod.mk.injEq]at h
   obtain⟨rfl,rfl⟩:=h
   obtain⟨p1,p2⟩:=dG.1 hp
   exact⟨p1,vN h1 p2⟩
  ·simp at h
 |.fork b t u,us,ps,h,hp=>by
  simp only[pY]at h
  split at h
  ·rename_i x p y q h1 h2
   split at h
   ·rename_i z hz
    have key:us=z∧(b=true→ax p)∧(b=false→ax q):=by
     split at h
     ·simp only[Option.some.injEq,Prod.mk.injEq]at h
      exact⟨h.1.symm,fun _=>trivial,fun _=>trivial⟩
     ·simp only[Option.some.injEq,Prod.mk.injEq]at h
      obtain⟨rfl,rfl⟩:=h
      exact⟨rfl,hp⟩
    obtain⟨rfl,p1,p2⟩:=key
    refine⟨fun hb=>?_,fun hb=>?_⟩
    ·subst hb
     exact aa.eF (fun _ vs hv=>hv.trans (Fz hz)) (vN h1 (p1 rfl))
    ·subst hb
     exact aa.eF (fun _ vs hv=>hv.trans (EL hz)) (vN h2 (p2 rfl))
   ·simp at h
  ·simp at h
def fT (T:Types) (Γ:aR) (forks:List Nat) (fuel:Nat) (fn:Func):Spec:=bC fun args=>
 match Nat.ble args.length fn.ntmps with
 |true=>match bF T Γ forks fuel fn (au fn) ⟨aN 0 args,[],0⟩with
  |some t=>match pY t with
   |some (us,ps)=>match us with
    |[u]=>some ⟨u,[],ps⟩
    |us=>some ⟨.tuple us,[],ps⟩
   |none=>none
  |none=>none
 |false=>none
theorem acZ {us:List AV} {v:AV} (h:eJ us [v]):dX us v:=by
 match us,h with
 |[u],h=>exact h.1
theorem agQ {us vs:List AV} (hv:∀u,vs≠[u]) (h:eJ us vs):dX us (.tuple vs):=by
 match us,vs,h with
 |[],[],h=>exact h
 |[u],[v],h=>exact absurd rfl (hv v)
 |a::b::l,_::_::_,h=>exact h
 |[u],_::_::_,h=>exact absurd h.2 (by simp[eJ])
 |a::b::l,[v],h=>exact absurd h.2 (by simp[eJ])
 |[],_::_,h=>exact h.elim
 |_::_,[],h=>exact h.elim
theorem gd {P:Program} {T:Types} (hT:cY P T) {Γ:aR} (hΓ:aY P Γ) (hm:P.follows .mixedOrders=true) {f:FuncId} {fn:Func} (hf:aO P f fn (au fn)) (forks:List Nat) (fuel:Nat):
  ∀K args pre r,fT T Γ forks fuel fn K args pre=some r→aB P f K args pre r:=by
 refine bV fun K args r hk hs hp=>?_
 split at hs
 ·rename_i hlen
  have hlen:=Nat.le_of_ble_eq_true hlen
  split at hs
  ·rename_i t ht
   split at hs
   ·rename_i us ps hc
    split at hs
    ·simp only[Option.some.injEq]at hs
     subst hs
     exact bJ (r:=⟨_,[],ps⟩) hT hΓ hm hf hk hlen rfl fuel ht (fun hn=>aa.eF (fun _ vs hv=>acZ hv) (vN hc hn)) K []
    ·rename_i hne
     simp only[Option.some.injEq]at hs
     subst hs
     exact bJ (r:=⟨_,[],ps⟩) hT hΓ hm hf hk hlen rfl fuel ht (fun hn=>aa.eF (fun _ vs hv=>agQ hne hv) (vN hc hn)) K []
   ·simp at hs
  ·simp at hs
 ·simp at hs
theorem ij {P:Program} {Γ:aR} (h:aY P Γ):aY P (sG::Γ):=aG (fun K args pre r hs=>by simp at hs) h
theorem dr {P:Program} {Γ:aR} (h:aY P Γ):aY P (nG::Γ):=aG (fun K args pre r hs=>by simp at hs) h
end Go.Am

/- Loops whose objects get other keys in each round: states up to the names of objects. -/
namespace Go.Am
open AV
def kD (rl:List (Nat×Nat)):AV→AV
 |.ptr k i e o p=>match look k rl with
  |some j=>.ptr j i e o p
  |none=>.void
 |.own k e s n=>match look k rl with
  |some j=>.own j e s n
  |none=>match s,n,e with
   |0,0,_+1=>.nil
   |_,_,_=>.void
 |.bp c (.own k e s n)=>match look k rl with
  |some j=>.bp c (.own j e s n)
  |none=>.void
 |v=>v
def jY (rl:List (Nat×Nat)):AV→Bool
 |.ptr k _ _ _ _=>(look k rl).isSome
 |.own k e s n=>(look k rl).isSome||match s,n,e with
  |0,0,_+1=>true
  |_,_,_=>false
 |.tuple _=>false
 |.bp _ (.own k _ _ _)=>(look k rl).isSome
 |v=>(keys v).isEmpty
theorem UM {ρ:Nat→Option Nat} {c c2:Nat} {u v:AV} (hc:c=c2) (hv:v.isAgg=false) (h:fX ρ u v):fX ρ (.bp c u) (.bp c2 v):=by
 subst hc
 refine⟨rfl,fun M w β cs hcs=>?_⟩
 cases hcs with
 |bp _ h1 h2=>cases h2;exact .bp hv (h.2 _ _ _ _ h1) .nil
theorem Pw {rl:List (Nat×Nat)} {u v:AV} (hu:u=kD rl v) (hv:jY rl v=true):u.isTuple=false∧fX (aT rl) u v:=by
 subst hu
 cases v with
 |ptr k i e o p=>
  simp only[jY,Option.isSome_iff_exists]at hv
  obtain⟨j,hj⟩:=hv
  simp only[kD,hj]
  exact⟨rfl,mu hj⟩
 |own k e s n=>
  simp only[jY]at hv
  cases hj:look k rl with
  |some j=>
   simp only[kD,hj]
   exact⟨rfl,cw hj rfl rfl⟩
  |none=>
   rw[hj]at hv
   simp only[Option.isSome_none,Bool.false_or]at hv
   split at hv
   ·simp only[kD,hj]
    exact⟨rfl,mo (by omega)⟩
   ·simp at hv
 |tuple l=>simp[jY]at hv
 |bp c v=>
  cases v with
  |own k e s n=>
   simp only[jY,Option.isSome_iff_exists]at hv
   obtain⟨j,hj⟩:=hv
   simp only[kD,hj]
   exact⟨rfl,UM rfl rfl (cw hj rfl rfl)⟩
  |_=>
   simp only[jY,List.isEmpty_iff]at hv
   exact⟨rfl,aI hv⟩
 |_=>
  simp only[jY,List.isEmpty_iff]at hv
  exact⟨rfl,aI hv⟩
theorem H8 {rl:List (Nat×Nat)}:∀{vs us:List AV},us=vs.map (kD rl)→vs.all (jY rl)=true→fc (aT rl) us vs
 |[],_,h,_=>by subst h;trivial
 |v::vs,_,h,hv=>by
  subst h
  simp only[List.all_cons,Bool.and_eq_true]at hv
  exact⟨Pw rfl hv.1,H8 rfl hv.2⟩
def qa:AV→Bool
 |.tuple _=>false
 |v=>(keys v).isEmpty
theorem abk {rl:List (Nat×Nat)} {v:AV} (h:qa v=true):kD rl v=v:=by
 cases v with
 |bp c v=>cases v<;>first|rfl|simp[qa,keys]at h
 |_=>first|rfl|simp[qa,keys]at h
theorem aeB {rl:List (Nat×Nat)} {v:AV} (h:qa v=true):jY rl v=true:=by
 cases v with
 |bp c v=>cases v<;>first|exact h|simp[qa,keys]at h
 |_=>first|exact h|simp[qa,keys]at h
end Go.Am

/- Functions with one loop, by what the evaluator says of its parts. -/
namespace Go.Am
open AV
def fD (rl:List (Nat×Nat)) (u v:AV):Prop:=((jY rl v=true∧u=kD rl v)∨∃us vs,u=.agg us∧v=.agg vs∧fc (aT rl) us vs)∨(keys u=[]∧bB u v)
theorem MU {ρ:Nat→Option Nat} {M:Nat→Prop} {w:World} {β:aP}:∀{us vs:List AV} {cs:List Value},fc ρ us vs→aM M w β us cs→aM M w (fun k=>(ρ k).bind β) vs cs
 |[],[],_,_,h=>by cases h;exact .nil
 |u::us,v::vs,cs,hl,h=>by
  obtain⟨c1,c2,rfl,h1,h2⟩:=h.split
  exact(hl.1.2.2 M w β c1 h1).cons (MU hl.2 h2)
 |[],_::_,_,h,_=>h.elim
 |_::_,[],_,h,_=>h.elim
theorem WV {ρ:Nat→Option Nat} {us vs:List AV} (h:fc ρ us vs):fX ρ (.agg us) (.agg vs):=by
 refine⟨rfl,fun M w β cs hc=>?_⟩
 cases hc with
 |agg h1 h2=>cases h2;exact .agg (MU h h1) .nil
theorem jd {rl:List (Nat×Nat)} {us vs:List AV} (h:fc (aT rl) us vs):fD rl (.agg us) (.agg vs):=.inl (.inr ⟨_,_,rfl,rfl,h⟩)
theorem fD.le {rl:List (Nat×Nat)} {u v:AV} (h:fD rl u v):fX (aT rl) u v:=by
 rcases h with(h|⟨us,vs,rfl,rfl,h⟩)|h
 ·exact(Pw h.2 h.1).2
 ·exact WV h
 ·exact lZ h.1 h.2
def lQ (nx:Nat) (rl:List (Nat×Nat)) (os:aC):aC→Prop
 |[]=>True
 |(k2,o2)::ps=>((look k2 rl=none∧um o2∧k2<nx)∨∃k1 o1,look k2 rl=some k1∧look k1 os=some o1∧o1.row=o2.row∧o1.wr=o2.wr∧o1.es=o2.es∧o1.len=o2.len∧∀i,i<o2.len→fD rl (o1.f i) (o2.f i))∧lQ nx rl os ps
theorem CQ {nx:Nat} {rl:List (Nat×Nat)} {os:aC}:∀{ps:aC},lQ nx rl os ps→ur nx (aT rl) os ps
 |[],_=>trivial
 |(k2,o2)::ps,h=>by
  obtain⟨h|⟨k1,o1,h1,h2,h3,h4,h5,h6,h7⟩,h8⟩:=h
  ·exact⟨.inr h,CQ h8⟩
  ·exact⟨.inl ⟨k1,o1,h1,h2,⟨h3.symm▸rfl,h4.symm▸rfl,h5.symm▸rfl,h6.symm▸rfl,fun i hi=>(h7 i (h6▸hi)).le⟩⟩,CQ h8⟩
theorem aE {rl:List (Nat×Nat)} {u v:AV} (hk:keys u=[]) (h:u=v):fD rl u v:=.inr ⟨hk,h▸.refl _⟩
theorem bh {nx:Nat} {rl:List (Nat×Nat)} {os ps:aC} {k2 k1:Nat} {r w:Bool} {es n m:Nat} {f g:Nat→AV} (hk:look k2 rl=some k1) (ho:look k1 os=some ⟨r,w,es,n,f⟩) (hn:n=m) (h:∀i,i<m→fD rl (f i) (g i))
  (hs:lQ nx rl os ps):lQ nx rl os ((k2,⟨r,w,es,m,g⟩)::ps):=⟨.inr ⟨k1,_,hk,ho,rfl,rfl,rfl,hn,h⟩,hs⟩
theorem aJ {nx:Nat} {rl:List (Nat×Nat)} {os ps:aC} {k2 k1:Nat} {r w:Bool} {es:Nat} {f g:Nat→AV} (hk:look k2 rl=some k1) (ho:look k1 os=some ⟨r,w,es,1,f⟩) (h:fD rl (f 0) (g 0))
  (hs:lQ nx rl os ps):lQ nx rl os ((k2,⟨r,w,es,1,g⟩)::ps):=bh hk ho rfl (fun i hi=>by rw[Nat.lt_one_iff.1 hi];exact h) hs
theorem mw {nx:Nat} {rl:List (Nat×Nat)} {os ps:aC} {k2 es:Nat} {w:Bool} {f:Nat→AV} (hk:look k2 rl=none) (hes:0<es) (hn:k2<nx) (hs:lQ nx rl os ps):lQ nx rl os ((k2,⟨true,w,es,0,f⟩)::ps):=⟨.inl ⟨hk,⟨rfl,rfl,hes⟩,hn⟩,hs⟩
theorem oJ {α:Type} {k:Nat} {a:α} {l:List (Nat×α)}:look k ((k,a)::l)=some a:=by simp[look]
theorem KA {α:Type} {j k:Nat} {b:α} {l:List (Nat×α)} (h:(j==k)=false):look k ((j,b)::l)=look k l:=by simp[look,h]
theorem Mt {α:Type} {k:Nat} {b:List (Nat×α)}:∀{a:List (Nat×α)},look k (a++b)=match look k a with
  |some x=>some x
  |none=>look k b
 |[]=>rfl
 |(j,x)::a=>by
  simp only[List.cons_append,look]
  split
  ·rfl
  ·exact Mt
theorem qm {P:Program} {a b:aR} (ha:aY P a) (hb:aY P b):aY P (a++b):=by
 intro f s hl
 have hl:look f (a++b)=some s:=hl
 rw[Mt]at hl
 split at hl
 ·rename_i h
  simp only[Option.some.injEq]at hl
  subst hl
  exact ha f _ h
 ·exact hb f s hl
def Kept (kp:List Nat) (c:Ctx):Prop:=∀k x,c.k0 k=some x→k∈kp
theorem qv {c:Ctx} (h0:∀nx k x,c.k0 k=some x→k<nx):Kept [] c:=fun k x hk=>absurd (h0 0 k x hk) (by omega)
def dU (kp:List Nat) (v:List AV×aC) (vs:List AV) (os:aC) (nx:Nat):Prop:=
 ∃rl,(gD nx rl&&kp.all fun k=>look k rl==some k)=true∧v.1=vs.map (kD rl)∧vs.all (jY rl)=true∧lQ nx rl v.2 os
theorem dU.le {kp:List Nat} {c:Ctx} {s':aF} {ls:List Nat} {v:List AV×aC} {vs:List AV} {os:aC} {nx:Nat} (h:dU kp v vs os nx) (hv:aX ls s'=some v) (h0:Kept kp c):∃ρ,Le c ρ s' ⟨aA ls vs,os,nx⟩:=by
 obtain⟨rl,h1,h2,h3,h4⟩:=h
 simp only[Bool.and_eq_true]at h1
 exact MM rl hv (fun k x hk=>by simpa using List.all_eq_true.1 h1.2 k (h0 k x hk)) h1.1 (H8 h2 h3) (CQ h4)
theorem dU.vals {vs:List AV} {nx:Nat} (h:vs.all qa=true):dU [] (vs,[]) vs [] nx:=by
 simp only[List.all_eq_true]at h
 refine⟨[],rfl,?_,List.all_eq_true.2 fun v hv=>aeB (h v hv),trivial⟩
 have:vs.map (kD [])=vs.map id:=List.map_congr_left fun v hv=>abk (h v hv)
 rw[this,List.map_id]
theorem od {nt:Nat}:∀{x:Code} {p:List Nat},bQ nt x=true→(before x p).all (fun x=>bQ nt x)=true
 |.seq x y,0::p,h=>by
  simp only[bQ,Bool.and_eq_true]at h
  exact od (x:=x) h.1
 |.seq x y,(n+1)::p,h=>by
  simp only[bQ,Bool.and_eq_true]at h
  simp only[before,List.all_cons,Bool.and_eq_true]
  exact⟨h.1,od (x:=y) h.2⟩
 |.seq _ _,[],_|.cond _ _ _,_,_|.block _ _,_,_|.loop _,_,_|.region _ _ _,_,_|.skip,_,_|.label _,_,_|.exit _,_,_|.ret,_,_|.scope _,_,_|.goto _,_,_|.refuse _,_,_|.rangeFunc _ _ _ _,_,_=>by simp[before]
theorem zw {nt:Nat}:∀{x:Code} {p:List Nat},bQ nt x=true→(behind x p).all (fun x=>bQ nt x)=true
 |.seq x y,0::p,h=>by
  simp only[bQ,Bool.and_eq_true]at h
  simp only[behind,List.all_append,List.all_cons,List.all_nil,Bool.and_true,Bool.and_eq_true]
  exact⟨zw (x:=x) h.1,h.2⟩
 |.seq x y,(n+1)::p,h=>by
  simp only[bQ,Bool.and_eq_true]at h
  exact zw (x:=y) (p:=p) h.2
 |.seq _ _,[],_|.cond _ _ _,_,_|.block _ _,_,_|.loop _,_,_|.region _ _ _,_,_|.skip,_,_|.label _,_,_|.exit _,_,_|.ret,_,_|.scope _,_,_|.goto _,_,_|.refuse _,_,_|.rangeFunc _ _ _ _,_,_=>by simp[behind]
theorem uy {nt:Nat}:∀{x:Code} {p:List Nat},chain x p=true→bQ nt x=true→bQ nt (part x p)=true
 |x,[],_,h=>by cases x<;>exact h
 |.seq x y,0::p,hc,h=>by
  simp only[bQ,Bool.and_eq_true]at h
  exact uy (x:=x) hc h.1
 |.seq x y,(n+1)::p,hc,h=>by
  simp only[bQ,Bool.and_eq_true]at h
  exact uy (x:=y) hc h.2
 |.cond _ _ _,_::_,hc,_|.block _ _,_::_,hc,_|.loop _,_::_,hc,_|.region _ _ _,_::_,hc,_|.skip,_::_,hc,_|.label _,_::_,hc,_|.exit _,_::_,hc,_|.ret,_::_,hc,_|.scope _,_::_,hc,_|.goto _,_::_,hc,_|.refuse _,_::_,hc,_|.rangeFunc _ _ _ _,_::_,hc,_=>by simp[chain]at hc
section rules
variable {P:Program} {c:Ctx} {nt:Nat} {s:aF} {Q:aj→aF→Prop} {T:Types} (hT:cY P T) {Γ:aR} (hΓ:aY P Γ) (hm:P.follows .mixedOrders=true)
def Round (kp:List Nat) {α:Type} (V:α→List AV) (O:α→aC) (nx:Nat) (I D:α→Prop) (μ:α→Nat) (i:Nat) (R:List AV×aC→Prop) (a:α):aj→List AV×aC→Prop
 |.normal,v=>∃b,I b∧μ b<μ a∧dU kp v (V b) (O b) nx
 |.exit k,v=>k=i∧∃b,D b∧dU kp v (V b) (O b) nx
 |.ret,v=>R v
include hT hΓ hm in
theorem aq.abt {x y:Code} {i:Nat} (hx:x=.block i (.loop y)) {kp:List Nat} (h0:Kept kp c) {forks:List Nat} (n:Nat) (L:List Nat) (nx:Nat) {α:Type} (V:α→List AV) (O:α→aC) (I D:α→Prop) (μ:α→Nat) (R:List AV×aC→Prop)
  (a0:α) (hI:I a0) (hs:∃ρ,Le c ρ s ⟨aA L (V a0),O a0,nx⟩) (hd:bQ nt y=true)
  (hb:∀a,I a→∃t,aH T Γ forks n L [y] ⟨aA L (V a),O a,nx⟩=some t∧t.all (Round kp V O nx I D μ i R a))
  (hD:∀b s',D b→(∃ρ,Le c ρ s' ⟨aA L (V b),O b,nx⟩)→Q .normal s') (hR:∀v s',R v→aX L s'=some v→Q .ret s'):aq P c nt x s Q:=by
 refine aq.g8 hx (fun a=>⟨aA L (V a),O a,nx⟩) I μ a0 hs hI fun a ha=>?_
 obtain⟨t,h1,h2⟩:=hb a ha
 refine aq.bf hT hΓ hm n L h1 hd (aa.eF ?_ h2)
 rintro e v hv s' hs'
 cases e with
 |normal=>
  obtain⟨b,g1,g2,g3⟩:=hv
  exact⟨b,g3.le hs' h0,g1,g2⟩
 |exit k=>
  obtain⟨rfl,b,g1,g2⟩:=hv
  exact Bx (hD b s' g1 (g2.le hs' h0))
 |ret=>exact hR v s' hv hs'
theorem aD.one {x:Code} (h:aq P c nt x s Q):aD P c nt [x] s Q:=h.mono fun e s' h=>by cases e<;>exact h
theorem aq.mD {x:Code} (h:aD P c nt [x] s Q):aq P c nt x s Q:=aq.mono h fun e s' h=>by cases e<;>exact h
def Start (kp:List Nat) {α:Type} (V:α→List AV) (O:α→aC) (nx:Nat) (I:α→Prop) (R:List AV×aC→Prop):aj→List AV×aC→Prop
 |.normal,v=>∃a,I a∧dU kp v (V a) (O a) nx
 |.ret,v=>R v
 |.exit _,_=>False
include hT hΓ hm in
theorem aq.xl {x y:Code} (p:List Nat) {i:Nat} (hc:chain x p=true) (hx:part x p=.block i (.loop y)) (hd:bQ nt x=true) {kp:List Nat} (h0:Kept kp c) {f1 f2:List Nat} (n:Nat) (L:List Nat) (nx:Nat) {α:Type} (V:α→List AV) (O:α→aC) (I D:α→Prop) (μ:α→Nat) (R:List AV×aC→Prop)
  (hp:∃t,aH T Γ f1 n L (before x p) s=some t∧t.all (Start kp V O nx I R))
  (hb:∀a,I a→∃t,aH T Γ f2 n L [y] ⟨aA L (V a),O a,nx⟩=some t∧t.all (Round kp V O nx I D μ i R a))
  (hD:∀b s',D b→(∃ρ,Le c ρ s' ⟨aA L (V b),O b,nx⟩)→aD P c nt (behind x p) s' Q) (hR:∀v s',R v→aX L s'=some v→Q .ret s'):aq P c nt x s Q:=by
 obtain⟨t,h1,h2⟩:=hp
 refine aq.hole p hc (aD.bf hT hΓ hm n L h1 (od hd) (aa.eF ?_ h2))
 rintro e v hv s' hs'
 cases e with
 |normal=>
  obtain⟨a,hI,hre⟩:=hv
  refine(show aq P c nt (part x p) s' _ from aq.abt hT hΓ hm hx h0 n L nx V O I D μ R a hI (hre.le hs' h0) ?_ hb (fun b s' hD' hle=>hD b s' hD' hle) fun v s' hv hs'=>hR v s' hv hs')
  have:=uy (nt:=nt) hc hd
  rw[hx]at this
  exact this
 |ret=>exact hR v s' hv hs'
 |exit k=>exact hv.elim
include hT hΓ hm in
theorem aq.nN {x y z:Code} (p:List Nat) {i:Nat} (hc:chain x p=true) (hx:part x p=.block i (.loop y)) (hz:behind x p=[z]) (hd:bQ nt x=true) {kp:List Nat} (h0:Kept kp c) {f1 f2:List Nat} (n:Nat) (L:List Nat) (nx:Nat) {α:Type} (V:α→List AV) (O:α→aC) (I D:α→Prop) (μ:α→Nat) (R:List AV×aC→Prop)
  (hp:∃t,aH T Γ f1 n L (before x p) s=some t∧t.all (Start kp V O nx I R))
  (hb:∀a,I a→∃t,aH T Γ f2 n L [y] ⟨aA L (V a),O a,nx⟩=some t∧t.all (Round kp V O nx I D μ i R a))
  (hD:∀b,D b→aq P c nt z ⟨aA L (V b),O b,nx⟩ Q) (hR:∀v s',R v→aX L s'=some v→Q .ret s'):aq P c nt x s Q:=
 aq.xl hT hΓ hm p hc hx hd h0 n L nx V O I D μ R hp hb (fun b s' hD' hle=>by rw[hz];exact aD.weak rfl hle (aD.one (hD b hD'))) hR
def C4 (c:Ctx) (L:List Nat) {α:Type} (V:α→List AV) (O:α→aC) (nx:Nat) (I D:α→Prop) (μ:α→Nat) (i:Nat) (R:aF→Prop) (a:α):aj→aF→Prop
 |.normal,s'=>∃b,I b∧μ b<μ a∧∃ρ,Le c ρ s' ⟨aA L (V b),O b,nx⟩
 |.exit k,s'=>k=i∧∃b,D b∧∃ρ,Le c ρ s' ⟨aA L (V b),O b,nx⟩
 |.ret,s'=>R s'
include hT hΓ hm in
theorem aq.yY {x y z:Code} (p:List Nat) {i:Nat} (hc:chain x p=true) (hx:part x p=.block i (.loop y)) (hz:behind x p=[z]) (hd:bQ nt x=true) {kp:List Nat} (h0:Kept kp c) {f1:List Nat} (n:Nat) (L:List Nat) (nx:Nat) {α:Type} (V:α→List AV) (O:α→aC) (I D:α→Prop) (μ:α→Nat) (R:List AV×aC→Prop)
  (hp:∃t,aH T Γ f1 n L (before x p) s=some t∧t.all (Start kp V O nx I R))
  (hb:∀a,I a→aq P c nt y ⟨aA L (V a),O a,nx⟩ (C4 c L V O nx I D μ i (fun s'=>∃v,R v∧aX L s'=some v) a))
  (hD:∀b,D b→aq P c nt z ⟨aA L (V b),O b,nx⟩ Q) (hR:∀v s',R v→aX L s'=some v→Q .ret s'):aq P c nt x s Q:=by
 obtain⟨t,h1,h2⟩:=hp
 refine aq.hole p hc (aD.bf hT hΓ hm n L h1 (od hd) (aa.eF ?_ h2))
 rintro e v hv s' hs'
 cases e with
 |normal=>
  obtain⟨a,hI,hre⟩:=hv
  refine aq.g8 hx (fun a=>⟨aA L (V a),O a,nx⟩) I μ a (hre.le hs' h0) hI fun a ha=>(hb a ha).mono fun e s' h=>?_
  cases e with
  |normal=>
   obtain⟨b,g1,g2,g3⟩:=h
   exact⟨b,g3,g1,g2⟩
  |exit k=>
   obtain⟨rfl,b,g1,g2⟩:=h
   refine Bx ?_
   show aD P c nt (behind x p) s' _
   rw[hz]
   exact aD.weak rfl g2 (aD.one (hD b g1))
  |ret=>
   obtain⟨v,g1,g2⟩:=h
   exact hR v s' g1 g2
 |ret=>exact hR v s' hv hs'
 |exit k=>exact hv.elim
include hT hΓ hm in
theorem aq.qi {y x1 zb:Code} (p:List Nat) {j:Nat} (hc:chain y p=true) (hx:part y p=.block j x1) (hz:behind y p=[zb]) (hd:bQ nt y=true) {kp:List Nat} (h0:Kept kp c) {f1:List Nat} (n:Nat) (L:List Nat) (nx:Nat) {α:Type} (V:α→List AV) (O:α→aC) (I:α→Prop)
  (hp:∃t,aH T Γ f1 n L (before y p) s=some t∧t.all fun e v=>match e with
   |.normal=>∃a,I a∧dU kp v (V a) (O a) nx
   |e=>∀s',aX L s'=some v→Q e s')
  (hb:∀a,I a→aq P c nt x1 ⟨aA L (V a),O a,nx⟩ (inBlock j (dz (fun s'=>aq P c nt zb s' Q) Q))):aq P c nt y s Q:=by
 obtain⟨t,h1,h2⟩:=hp
 refine aq.hole p hc (aD.bf hT hΓ hm n L h1 (od hd) (aa.eF ?_ h2))
 rintro e v hv s' hs'
 cases e with
 |normal=>
  obtain⟨a,hI,hre⟩:=hv
  refine aq.kg (hre.le hs' h0) (aq.ov hx ((hb a hI).mono fun e s' h=>?_))
  have key:∀{e s'},dz (fun s'=>aq P c nt zb s' Q) Q e s'→dz (fun s''=>aD P c nt (behind y p) s'' Q) Q e s':=fun {e s'} h=>by
   cases e with
   |normal=>show aD P c nt (behind y p) s' Q;rw[hz];exact aD.one h
   |exit k=>exact h
   |ret=>exact h
  cases e with
  |normal=>exact key (e:=.normal) h
  |exit k=>
   simp only[inBlock]at h ⊢
   split
   ·rename_i hk;rw[if_pos hk]at h;exact key (e:=.normal) h
   ·rename_i hk;rw[if_neg hk]at h;exact key (e:=.exit k) h
  |ret=>exact key (e:=.ret) h
 |ret=>exact hv s' hs'
 |exit k=>exact hv s' hs'
theorem aq.tail {z zb:Code} {j:Nat} (hne:∀s',Q (.exit j) s'→False) (h:aD P c nt [z,zb] s Q):aq P c nt z s (inBlock j (dz (fun s'=>aq P c nt zb s' Q) Q)):=
 aq.mono h fun e s' h=>by
  cases e with
  |normal=>exact aq.mono h fun e s' h=>by cases e<;>exact h
  |exit k=>
   simp only[inBlock]
   split
   ·rename_i hk;subst hk;exact(hne _ h).elim
   ·exact h
  |ret=>exact h
def nU (fn:Func) (L:List Nat) (res:AV) (v:List AV×aC):Prop:=∃us,D6 fn (aA L v.1)=some us∧dX us res
theorem nU.fin {fn:Func} {L:List Nat} {res:AV} {v:List AV×aC} {s':aF} (h:nU fn L res v) (hs':aX L s'=some v):dO c (Fin T fn res) .ret s':=by
 obtain⟨us,g1,g2⟩:=h
 exact .inl (fZ (.inr rfl) hs' g1 g2)
theorem xI {c:Prop} [Decidable c] {u v:AV} (hu:keys u=[]) (hv:keys v=[]):keys (if c then u else v)=[]:=by split<;>assumption
def Fg (T:Types) (fn:Func) (L:List Nat) (res:AV) (v:List AV×aC):Prop:=
 ∃vs us nx t,v.1=vs++us∧vs.length=L.length∧aZ us=[]∧kA T fn .ret ⟨aA L vs,v.2,nx⟩=some t∧jg nx vs=true∧gn nx v.2∧t.all fun _ us=>dX us res
theorem Fg.fin {fn:Func} {L L1:List Nat} {res:AV} {v:List AV×aC} {s':aF} (h0:Kept [] c) (h:Fg T fn L res v) (hs':aX (L++L1) s'=some v):dO c (Fin T fn res) .ret s':=by
 obtain⟨vs,us,nx,t,h1,h2,h3,h4,h5,h6,h7⟩:=h
 obtain⟨v1,v2⟩:=v
 simp only at h1
 subst h1
 exact xN h4 (hH hs' h2 h3) (fun k x hk=>by simpa using h0 k x hk) h5 h6 h7
include hT hΓ hm in
theorem gO {f:FuncId} {fn:Func} (hf:aO P f fn (au fn)) {args:List AV} {r:cJ} (hk:aZ args=[]) (hlen:args.length≤fn.ntmps) (hpost:r.post=[]) (p:List Nat) {i:Nat} {y z:Code} (hc:chain (au fn) p=true) (hx:part (au fn) p=.block i (.loop y)) (hz:behind (au fn) p=[z])
  {f1 f2 f3:List Nat} (n:Nat) (L:List Nat) (nx:Nat) {α:Type} (V:α→List AV) (O:α→aC) (I D:α→Prop) (μ:α→Nat)
  (h:r.need→(∃t,aH T Γ f1 n L (before (au fn) p) ⟨aN 0 args,[],0⟩=some t∧t.all (Start [] V O nx I (nU fn L r.res)))∧
   (∀a,I a→∃t,aH T Γ f2 n L [y] ⟨aA L (V a),O a,nx⟩=some t∧t.all (Round [] V O nx I D μ i (nU fn L r.res) a))∧
   ∀a,D a→∃t,cm T Γ f3 n fn [z] ⟨aA L (V a),O a,nx⟩=some t∧t.all fun _ us=>dX us r.res) (K:Nat) (pre:aC):aB P f K args pre r:=by
 refine iq hT hf hk hlen hpost (fun need c h0=>?_) K pre
 obtain⟨hp,hb,he⟩:=h need
 refine aq.nN hT hΓ hm p hc hx hz hf.dst (qv h0) n L nx V O I D μ (nU fn L r.res) hp hb (fun a ha=>?_) fun v s' hv hs'=>hv.fin hs'
 obtain⟨t,g1,g2⟩:=he a ha
 have:=zw (x:=au fn) (p:=p) hf.dst
 rw[hz]at this
 exact aq.mD ((aD.fin hT hΓ hm n g1 this g2).mono fun _ _ h=>.inl h)
def Mn (T:Types) (fn:Func) (k:Nat) (res:AV) (o':ah) (e:aj) (s':aF):Prop:=
 (e=.normal∨e=.ret)∧Ends T fn res s'∧∃o1,look 0 s'.store=some o1∧o1.row=false∧cu (aT [(k,0)]) o1 o'
def DZ (T:Types) (Γ:aR) (forks:List Nat) (n:Nat) (fn:Func) (l:List Code) (s:aF):Option (aa (List AV×Option ah)):=
 match oT T Γ forks n l s with
 |some t=>t.bind (B7 T fn)
 |none=>none
include hT hΓ hm in
theorem aD.P2 {fn:Func} {forks:List Nat} (n:Nat) {l:List Code} {s:aF} {t:aa (List AV×Option ah)} (hc:DZ T Γ forks n fn l s=some t) (hd:(l.all fun x=>bQ nt x)=true) {k:Nat} {res:AV} {o':ah}
  (h:t.all fun _ v=>dX v.1 res∧∃o1,v.2=some o1∧o1.row=false∧cu (aT [(k,0)]) o1 o'):aD P c nt l s (Mn T fn k res o'):=by
 unfold DZ at hc
 split at hc
 ·rename_i u hx
  refine AS hT hΓ hm hd hx (aa.eF ?_ (aa.jo hc h))
  rintro e s' ⟨v,h1,h2⟩
  unfold B7 at h1
  split at h1
  ·rename_i v' hv'
   have h4:v'.all fun _ us=>dX us res∧∃o1,look 0 s'.store=some o1∧o1.row=false∧cu (aT [(k,0)]) o1 o':=by
    refine aa.eF ?_ (aa.jo h1 h2)
    rintro e us ⟨w,g1,g2⟩
    simp only[Option.some.injEq]at g1
    subst g1
    exact g2
   have h5:Fin T fn res e s':=CH hv' (aa.eF (fun _ _ h=>h.1) h4)
   refine⟨h5.1,h5.2,?_⟩
   have:∀{t:aa (List AV)},(t.all fun _ us=>dX us res∧∃o1,look 0 s'.store=some o1∧o1.row=false∧cu (aT [(k,0)]) o1 o')→∃o1,look 0 s'.store=some o1∧o1.row=false∧cu (aT [(k,0)]) o1 o':=by
    intro t
    induction t with
    |leaf e us=>exact fun h=>h.2
    |ag ps t ih=>exact fun h=>ih h.2
    |fork b t1 t2 ih1 ih2=>
     intro h
     cases b with
     |true=>exact ih1 (h.1 rfl)
     |false=>exact ih2 (h.2 rfl)
   exact this h4
  ·simp at h1
 ·simp at hc
theorem DX {rl:List (Nat×Nat)}:∀{rest:List AV},aZ rest=[]→(rest.all fun v=>!v.isTuple)=true→fc (aT rl) rest rest
 |[],_,_=>trivial
 |v::r,h1,h2=>by
  simp only[aZ,List.append_eq_nil_iff]at h1
  simp only[List.all_cons,Bool.and_eq_true,Bool.not_eq_true']at h2
  exact⟨⟨h2.1,aI h1.1⟩,DX h1.2 h2.2⟩
include hT in
theorem QG {f:FuncId} {fn:Func} {x:Code} (hf:aO P f fn x) {k idx es off:Nat} {p:List Nat} {rest:List AV} {o2 o o':ah} {res:AV} {l:List Prop}
  (hkr:aZ rest=[]) (hrt:(rest.all fun v=>!v.isTuple)=true) (hlen:rest.length+1≤fn.ntmps) (ho:∀ρ,cu ρ o2 o)
  (h:ax l→∀c:Ctx,Kept [0] c→aq P c fn.ntmps x ⟨aN 0 (.ptr 0 idx es off p::rest),[(0,o)],1⟩ (Mn T fn k res o')) (K:Nat):
  aB P f K (.ptr k idx es off p::rest) [(k,o2)] ⟨res,[(k,o')],l⟩:=by
 refine mK hT hf (args0:=.ptr 0 idx es off p::rest) (pre0:=[(0,o)]) (nx:=1) [(0,k)] (by simpa using hlen) (by simp[gD]) ⟨⟨rfl,mu rfl⟩,DX hkr hrt⟩ ⟨⟨k,o2,rfl,by simp[look],ho _⟩,trivial⟩
  (fun a x h=>?_) (fun x o h=>.inl ?_) (fun need c h0=>?_)
 ·simp only[aT,look]at h
  split at h
  ·simp only[Option.some.injEq]at h;subst h;exact⟨_,by simp[look];rfl⟩
  ·simp at h
 ·simp only[look]at h
  split at h
  ·rename_i he
   exact⟨_,by simp only[look,he,if_true];rfl⟩
  ·simp at h
 have hk:Kept [0] c:=fun a y hy=>by
  have:=h0 a y hy
  simp only[aT,look]at this
  split at this
  ·rename_i he;have:=eq_of_beq he;subst this;exact List.mem_singleton_self _
  ·simp at this
 refine(h need c hk).mono fun e s' ⟨h1,h2,o1,g1,g2,g3⟩=>⟨h1,aT [(k,0)],qb,.inl ⟨h2,fun x ox hx=>?_⟩⟩
 have he:cj (er [(k,o')]) [(k,o2)]=[(k,o')]:=by simp[cj,er,put]
 rw[he]at hx
 simp only[look]at hx
 split at hx
 ·rename_i hk
  have:k=x:=by simpa using hk
  subst this
  simp only[Option.some.injEq]at hx
  subst hx
  exact⟨0,o1,by simp[aT,look],g1,g2,g3⟩
 ·simp at hx
end rules
end Go.Am

/- Functions that are handed two lists that may still be written to, and leave them as they are. -/
namespace Go.Am
open AV
theorem Fl {ρ:Nat→Option Nat}:∀{us vs:List AV},aZ us=[]→(us.all fun v=>!v.isTuple)=true→eJ us vs→fc ρ us vs
 |[],[],_,_,_=>trivial
 |u::us,v::vs,h1,h2,h=>by
  simp only[aZ,List.append_eq_nil_iff]at h1
  simp only[List.all_cons,Bool.and_eq_true,Bool.not_eq_true']at h2
  exact⟨⟨h2.1,lZ h1.1 h.1⟩,Fl h1.2 h2.2 h.2⟩
 |[],_::_,_,_,h=>h.elim
 |_::_,[],_,_,h=>h.elim
def FI (T:Types) (fn:Func) (e:aj) (s:aF):Option (aa (List AV×Option ah×Option ah)):=match e with
 |.exit _=>none
 |e=>match fy T s fn.results.toList with
  |some (vs,q)=>some (.need q (.leaf e (vs,look 0 s.store,look 1 s.store)))
  |none=>none
def OX (us:List AV) (o p:ah) (v:List AV×Option ah×Option ah):Prop:=
 aZ v.1=[]∧(v.1.all fun v=>!v.isTuple)=true∧eJ v.1 us∧(∃o1,v.2.1=some o1∧∀ρ,cu ρ o1 o)∧∃p1,v.2.2=some p1∧∀ρ,cu ρ p1 p
def NJ (T:Types) (fn:Func) (us:List AV) (o p:ah) (e:aj) (s:aF):Prop:=
 (e=.normal∨e=.ret)∧(∃vs q,fy T s fn.results.toList=some (vs,q)∧ax q∧aZ vs=[]∧(vs.all fun v=>!v.isTuple)=true∧eJ vs us)∧(∃o1,look 0 s.store=some o1∧∀ρ,cu ρ o1 o)∧∃p1,look 1 s.store=some p1∧∀ρ,cu ρ p1 p
theorem ach {T:Types} {fn:Func} {e:aj} {s:aF} {t:aa (List AV×Option ah×Option ah)} {us:List AV} {o p:ah} (h1:FI T fn e s=some t) (h2:t.all fun _ v=>OX us o p v):NJ T fn us o p e s:=by
 unfold FI at h1
 have key:∀{e':aj},(match fy T s fn.results.toList with
   |some (vs,q)=>some (aa.need q (.leaf e' (vs,look 0 s.store,look 1 s.store)))
   |none=>none)=some t→(∃vs q,fy T s fn.results.toList=some (vs,q)∧ax q∧aZ vs=[]∧(vs.all fun v=>!v.isTuple)=true∧eJ vs us)∧(∃o1,look 0 s.store=some o1∧∀ρ,cu ρ o1 o)∧∃p1,look 1 s.store=some p1∧∀ρ,cu ρ p1 p:=by
  intro e' h1
  cases hr:fy T s fn.results.toList with
  |none=>rw[hr]at h1;simp at h1
  |some r=>
   obtain⟨vs,q⟩:=r
   rw[hr]at h1
   simp only[Option.some.injEq]at h1
   subst h1
   obtain⟨g1,g2,g3,g4,g5,g6⟩:=aa.ze.1 h2
   exact⟨⟨vs,q,rfl,g1,g2,g3,g4⟩,g5,g6⟩
 cases e with
 |normal=>exact⟨.inl rfl,key h1⟩
 |ret=>exact⟨.inr rfl,key h1⟩
 |exit i=>simp at h1
section rules
variable {P:Program} {c:Ctx} {nt:Nat} {s:aF} {Q:aj→aF→Prop} {T:Types} (hT:cY P T) {Γ:aR} (hΓ:aY P Γ) (hm:P.follows .mixedOrders=true)
def JH (T:Types) (fn:Func) (L:List Nat) (us:List AV) (o p:ah) (v:List AV×aC):Prop:=
 ∃vs ws nx t,v.1=vs++ws∧vs.length=L.length∧aZ ws=[]∧FI T fn .ret ⟨aA L vs,v.2,nx⟩=some t∧jg nx vs=true∧gn nx v.2∧2≤nx∧t.all fun _ v=>OX us o p v
theorem JH.fin {fn:Func} {L L1:List Nat} {us:List AV} {o p:ah} {v:List AV×aC} {s':aF} (h0:Kept [0,1] c) (h:JH T fn L us o p v) (hs':aX (L++L1) s'=some v):dO c (NJ T fn us o p) .ret s':=by
 obtain⟨vs,ws,nx,t,h1,h2,h3,h4,h5,h6,hn,h7⟩:=h
 obtain⟨v1,v2⟩:=v
 simp only at h1
 subst h1
 obtain⟨ρ,hle⟩:=mM (hH hs' h2 h3) (fun k x hk=>by
  have:=h0 k x hk
  simp only[List.mem_cons,List.not_mem_nil,or_false]at this
  omega) h5 h6
 exact .inr ⟨_,ρ,hle,ach h4 h7⟩
end rules
end Go.Am

/- Functions that are handed a list to write to, and give back a part of it. -/
namespace Go.Am
open AV
def H9 (fn:Func) (k:Nat) (ws:List AV) (o':ah) (e:aj) (s':aF):Prop:=
 (e=.normal∨e=.ret)∧∃ls vs us os o1,aX ls s'=some (vs,os)∧kP (aA ls vs) fn.results.toList=some us∧fc (aT [(k,0)]) us ws∧look 0 os=some o1∧cu (aT [(k,0)]) o1 o'
def C7 (fn:Func) (k:Nat) (ws:List AV) (o':ah) (L:List Nat) (v:List AV×aC):Prop:=∃us o1,kP (aA L v.1) fn.results.toList=some us∧fc (aT [(k,0)]) us ws∧look 0 v.2=some o1∧cu (aT [(k,0)]) o1 o'
theorem C7.fin {fn:Func} {k:Nat} {ws:List AV} {o':ah} {L:List Nat} {v:List AV×aC} {s':aF} (h:C7 fn k ws o' L v) (hs':aX L s'=some v):H9 fn k ws o' .ret s':=by
 obtain⟨us,o1,h1,h2,h3,h4⟩:=h
 exact⟨.inr rfl,L,v.1,us,v.2,o1,hs',h1,h2,h3,h4⟩
section rules
variable {P:Program} {c:Ctx} {nt:Nat} {s:aF} {Q:aj→aF→Prop} {T:Types} (hT:cY P T) {Γ:aR} (hΓ:aY P Γ) (hm:P.follows .mixedOrders=true)
include hT hΓ hm in
theorem aq.branch {x u v:Code} {b:Operand} (p:List Nat) (hc:chain x p=true) (hx:part x p=.cond b u v) (hz:behind x p=[]) (hd:bQ nt x=true) {kp:List Nat} (h0:Kept kp c) {f1:List Nat} (n:Nat) (L:List Nat) (nx:Nat) {α:Type} (V:α→List AV) (O:α→aC) (I:α→Prop)
  (hp:∃t,aH T Γ f1 n L (before x p) s=some t∧t.all fun e v=>match e with
   |.normal=>∃a,I a∧dU kp v (V a) (O a) nx
   |e=>∀s',aX L s'=some v→Q e s')
  (hb:∀a,I a→∃t,(⟨aA L (V a),O a,nx⟩:aF).fU b=some (.bool t)∧(t=true→aq P c nt u ⟨aA L (V a),O a,nx⟩ Q)∧(t=false→aq P c nt v ⟨aA L (V a),O a,nx⟩ Q)):aq P c nt x s Q:=by
 obtain⟨t,h1,h2⟩:=hp
 refine aq.hole p hc (aD.bf hT hΓ hm n L h1 (od hd) (aa.eF ?_ h2))
 rintro e v hv s' hs'
 cases e with
 |normal=>
  obtain⟨a,hI,hre⟩:=hv
  obtain⟨t,g1,g2,g3⟩:=hb a hI
  show aq P c nt (part x p) s' _
  rw[hx,hz]
  have key:∀{y:Code} {s:aF},aq P c nt y s Q→aq P c nt y s (dz (fun s''=>aD P c nt [] s'' Q) Q):=fun h=>h.mono fun e s' h=>by cases e<;>exact h
  exact aq.kg (hre.le hs' h0) (aq.cond g1 (fun ht=>key (g2 ht)) fun ht=>key (g3 ht))
 |ret=>exact hv s' hs'
 |exit k=>exact hv s' hs'
include hT in
theorem aij {f:FuncId} {fn:Func} {x:Code} (hf:aO P f fn x) {k es st n:Nat} {rest ws:List AV} {o2 o o':ah} {l:List Prop}
  (hkr:aZ rest=[]) (hrt:(rest.all fun v=>!v.isTuple)=true) (hlen:rest.length+1≤fn.ntmps) (ho:∀ρ,cu ρ o2 o)
  (h:ax l→∀c:Ctx,Kept [0] c→aq P c fn.ntmps x ⟨aN 0 (.own 0 es st n::rest),[(0,o)],1⟩ (H9 fn k ws o')) (K:Nat):
  aB P f K (.own k es st n::rest) [(k,o2)] ⟨iM ws,[(k,o')],l⟩:=by
 refine mK hT hf (args0:=.own 0 es st n::rest) (pre0:=[(0,o)]) (nx:=1) [(0,k)] (by simpa using hlen) (by simp[gD]) ⟨⟨rfl,cw rfl rfl rfl⟩,DX hkr hrt⟩ ⟨⟨k,o2,rfl,by simp[look],ho _⟩,trivial⟩
  (fun a x h=>?_) (fun x o h=>.inl ?_) (fun need c h0=>?_)
 ·simp only[aT,look]at h
  split at h
  ·simp only[Option.some.injEq]at h;subst h;exact⟨_,by simp[look];rfl⟩
  ·simp at h
 ·simp only[look]at h
  split at h
  ·rename_i he
   exact⟨_,by simp only[look,he,if_true];rfl⟩
  ·simp at h
 have hk:Kept [0] c:=fun a y hy=>by
  have:=h0 a y hy
  simp only[aT,look]at this
  split at this
  ·rename_i he;have:=eq_of_beq he;subst this;exact List.mem_singleton_self _
  ·simp at this
 refine(h need c hk).mono fun e s' ⟨h1,ls,vs,us,os,o1,g1,g2,g3,g4,g5⟩=>⟨h1,aT [(k,0)],qb,.inr (uj (ws:=ws) (ps:=[(k,o')]) g1 g2 g3 rfl (by simp[cj,er,put]) ⟨⟨0,o1,by simp[aT,look],g4,g5⟩,trivial⟩)⟩
include hT in
theorem NQ {f:FuncId} {fn:Func} {x:Code} (hf:aO P f fn x) {args args0 ws:List AV} {o':ah} {K:Nat} {l:List Prop} (ha:ax l→fc (aT []) args args0) (hlen:args0.length≤fn.ntmps)
  (h:ax l→∀c:Ctx,Kept [] c→aq P c fn.ntmps x ⟨aN 0 args0,[],0⟩ fun e s'=>(e=.normal∨e=.ret)∧∃ls vs us os a o,aX ls s'=some (vs,os)∧kP (aA ls vs) fn.results.toList=some us∧fc (aT [(K,a)]) us ws∧look a os=some o∧cu (aT [(K,a)]) o o'):
  aB P f K args [] ⟨iM ws,[(K,o')],l⟩:=by
 intro need
 refine(mK hT hf (args0:=args0) (pre0:=[]) (nx:=0) [] hlen rfl (ha need) trivial (fun a k h=>by simp[aT,look]at h) (fun k o h=>?_) (fun need c h0=>?_):aB P f K args [] ⟨iM ws,[(K,o')],l⟩) need
 ·simp only[look]at h
  split at h
  ·rename_i he
   have:K=k:=by simpa using he
   subst this
   exact .inr ⟨Nat.le_refl _,by unfold cq;omega⟩
  ·simp at h
 ·refine(h need c fun k x hk=>by simpa [aT,look]using h0 k x hk).mono ?_
  rintro e s' ⟨h1,ls,vs,us,os,a,o,h2,h3,h4,h5,h6⟩
  exact⟨h1,aT [(K,a)],Ii ⟨Nat.le_refl _,by unfold cq;omega⟩,.inr (uj (ws:=ws) (ps:=[(K,o')]) h2 h3 h4 rfl rfl ⟨⟨a,o,by simp[aT,look],h5,h6⟩,trivial⟩)⟩
end rules
end Go.Am

/- A loop in a loop. -/
namespace Go.Am
open AV
section rules
variable {P:Program} {c:Ctx} {nt:Nat} {s:aF} {Q:aj→aF→Prop} {T:Types} (hT:cY P T) {Γ:aR} (hΓ:aY P Γ) (hm:P.follows .mixedOrders=true)
def Head (kp:List Nat) {α:Type} (V:α→List AV) (O:α→aC) (nx:Nat) (D:α→Prop) (i:Nat) (R:List AV×aC→Prop) (G:α→Prop) (a:α):aj→List AV×aC→Prop
 |.normal,v=>G a∧dU kp v (V a) (O a) nx
 |.exit k,v=>k=i∧∃b,D b∧dU kp v (V b) (O b) nx
 |.ret,v=>R v
def ZK (kp:List Nat) {α:Type} (V:α→List AV) (O:α→aC) (nx:Nat) (I:α→Prop) (μ:α→Nat) (a:α):aj→List AV×aC→Prop
 |.normal,v=>∃b,I b∧μ b<μ a∧dU kp v (V b) (O b) nx
 |_,_=>False
theorem aby {i:Nat} {y:Code} (h:bQ nt (.block i (.loop y))=true):bQ nt y=true:=by simpa [bQ]using h
theorem Y5 {i:Nat} {y:Code} (h:bQ nt (.block i y)=true):bQ nt y=true:=by simpa [bQ]using h
include hT hΓ hm in
theorem aq.VL {x y x1 zb y2:Code} (p:List Nat) {i:Nat} (hc:chain x p=true) (hx:part x p=.block i (.loop y)) (hd:bQ nt x=true)
  (q:List Nat) {j:Nat} (hcq:chain y q=true) (hxq:part y q=.block j x1) (hzq:behind y q=[zb]) (r:List Nat) {i2:Nat} (hcr:chain x1 r=true) (hxr:part x1 r=.block i2 (.loop y2)) (hij:(i==j)=false)
  {kp:List Nat} (h0:Kept kp c) {f1 f2 f3 f4 f5:List Nat} (n:Nat) (L1 L2:List Nat) (nx1 nx2:Nat) {α β:Type} (V1:α→List AV) (O1:α→aC) (I1 D1:α→Prop) (μ1:α→Nat) (G:α→Prop) (R1 R2:List AV×aC→Prop)
  (V2:α→β→List AV) (O2:α→β→aC) (I2 D2:α→β→Prop) (μ2:α→β→Nat)
  (hp:∃t,aH T Γ f1 n L1 (before x p) s=some t∧t.all (Start kp V1 O1 nx1 I1 R1))
  (ho:∀a,I1 a→∃t,aH T Γ f2 n L1 (before y q) ⟨aA L1 (V1 a),O1 a,nx1⟩=some t∧t.all (Head kp V1 O1 nx1 D1 i R1 G a))
  (hi:∀a,I1 a→G a→∃t,aH T Γ f3 n L2 (before x1 r) ⟨aA L1 (V1 a),O1 a,nx1⟩=some t∧t.all (Start kp (V2 a) (O2 a) nx2 (I2 a) R2))
  (hb:∀a,I1 a→G a→∀b,I2 a b→∃t,aH T Γ f4 n L2 [y2] ⟨aA L2 (V2 a b),O2 a b,nx2⟩=some t∧t.all (Round kp (V2 a) (O2 a) nx2 (I2 a) (D2 a) (μ2 a) i2 R2 b))
  (ht:∀a,I1 a→G a→∀b,D2 a b→∃t,aH T Γ f5 n L1 (behind x1 r++[zb]) ⟨aA L2 (V2 a b),O2 a b,nx2⟩=some t∧t.all (ZK kp V1 O1 nx1 I1 μ1 a))
  (hD:∀b s',D1 b→(∃ρ,Le c ρ s' ⟨aA L1 (V1 b),O1 b,nx1⟩)→aD P c nt (behind x p) s' Q) (hR1:∀v s',R1 v→aX L1 s'=some v→Q .ret s') (hR2:∀v s',R2 v→aX L2 s'=some v→Q .ret s'):aq P c nt x s Q:=by
 have hdy:bQ nt y=true:=by
  have:=uy (nt:=nt) hc hd
  rw[hx]at this
  exact aby this
 have hdx1:bQ nt x1=true:=by
  have:=uy (nt:=nt) hcq hdy
  rw[hxq]at this
  exact Y5 this
 have hdz:((behind x1 r++[zb]).all fun x=>bQ nt x)=true:=by
  have h1:=zw (nt:=nt) (p:=r) hdx1
  have h2:=zw (nt:=nt) (p:=q) hdy
  rw[hzq]at h2
  rw[List.all_append,h1,h2];rfl
 obtain⟨t,h1,h2⟩:=hp
 refine aq.hole p hc (aD.bf hT hΓ hm n L1 h1 (od hd) (aa.eF ?_ h2))
 rintro e v hv s' hs'
 cases e with
 |ret=>exact hR1 v s' hv hs'
 |exit k=>exact hv.elim
 |normal=>
  obtain⟨a,hI,hre⟩:=hv
  refine(show aq P c nt (part x p) s' _ from aq.g8 hx (fun a=>⟨aA L1 (V1 a),O1 a,nx1⟩) I1 μ1 a (hre.le hs' h0) hI fun a ha=>?_)
  refine aq.mono (Q:=C4 c L1 V1 O1 nx1 I1 D1 μ1 i (fun s'=>Q .ret s') a) ?_ fun e s' h=>?_
  ·refine aq.qi hT hΓ hm q hcq hxq hzq hdy h0 (f1:=f2) n L1 nx1 (fun _:Unit=>V1 a) (fun _=>O1 a) (fun _=>G a) ?_ (fun _ hG=>?_)
   ·obtain⟨t,g1,g2⟩:=ho a ha
    refine⟨t,g1,aa.eF ?_ g2⟩
    rintro e v hv
    cases e with
    |normal=>exact⟨(),hv.1,hv.2⟩
    |exit k=>exact fun s' hs'=>⟨hv.1,hv.2.imp fun b hb=>⟨hb.1,hb.2.le hs' h0⟩⟩
    |ret=>exact fun s' hs'=>hR1 v s' hv hs'
   ·refine aq.xl hT hΓ hm r hcr hxr hdx1 h0 (f1:=f3) (f2:=f4) n L2 nx2 (V2 a) (O2 a) (I2 a) (D2 a) (μ2 a) R2 (hi a ha hG) (hb a ha hG) (fun b s' hb hle=>?_) (fun v s' hv hs'=>hR2 v s' hv hs')
    obtain⟨t,g1,g2⟩:=ht a ha hG b hb
    have key:aD P c nt (behind x1 r++[zb]) s' (C4 c L1 V1 O1 nx1 I1 D1 μ1 i (fun s'=>Q .ret s') a):=by
     refine aD.weak (by cases behind x1 r<;>rfl) hle (aD.bf hT hΓ hm n L1 g1 hdz (aa.eF ?_ g2))
     rintro e v hv s' hs'
     cases e with
     |normal=>
      obtain⟨b,k1,k2,k3⟩:=hv
      exact⟨b,k1,k2,k3.le hs' h0⟩
     |exit k=>exact hv.elim
     |ret=>exact hv.elim
    refine aD.mono ?_ (aD.append key)
    rintro e s' h
    cases e with
    |normal=>exact aq.mD h
    |exit k=>
     simp only[inBlock]
     have hk:k=i:=h.1
     rw[if_neg (by rw[hk];simpa using hij)]
     exact h
    |ret=>exact h
  ·cases e with
   |normal=>
    obtain⟨b,g1,g2,g3⟩:=h
    exact⟨b,g3,g1,g2⟩
   |exit k=>
    obtain⟨rfl,b,g1,g2⟩:=h
    refine Bx ?_
    show aD P c nt (behind x p) s' _
    exact hD b s' g1 g2
   |ret=>exact h
end rules
end Go.Am

/- Functions that are handed one list that may still be written to, and leave it as it is. -/
namespace Go.Am
open AV
def xh (T:Types) (fn:Func) (e:aj) (s:aF):Option (aa (List AV×Option ah)):=match e with
 |.exit _=>none
 |e=>match fy T s fn.results.toList with
  |some (vs,q)=>some (.need q (.leaf e (vs,look 0 s.store)))
  |none=>none
def Eh (T:Types) (Γ:aR) (forks:List Nat) (n:Nat) (fn:Func) (l:List Code) (s:aF):Option (aa (List AV×Option ah)):=
 match oT T Γ forks n l s with
 |some t=>t.bind (xh T fn)
 |none=>none
def Ia (us:List AV) (o:ah) (v:List AV×Option ah):Prop:=
 aZ v.1=[]∧(v.1.all fun v=>!v.isTuple)=true∧eJ v.1 us∧∃o1,v.2=some o1∧∀ρ,cu ρ o1 o
def vI (T:Types) (fn:Func) (us:List AV) (o:ah) (e:aj) (s:aF):Prop:=
 (e=.normal∨e=.ret)∧(∃vs q,fy T s fn.results.toList=some (vs,q)∧ax q∧aZ vs=[]∧(vs.all fun v=>!v.isTuple)=true∧eJ vs us)∧∃o1,look 0 s.store=some o1∧∀ρ,cu ρ o1 o
theorem Kf {T:Types} {fn:Func} {e:aj} {s:aF} {t:aa (List AV×Option ah)} {us:List AV} {o:ah} (h1:xh T fn e s=some t) (h2:t.all fun _ v=>Ia us o v):vI T fn us o e s:=by
 unfold xh at h1
 have key:∀{e':aj},(match fy T s fn.results.toList with
   |some (vs,q)=>some (aa.need q (.leaf e' (vs,look 0 s.store)))
   |none=>none)=some t→(∃vs q,fy T s fn.results.toList=some (vs,q)∧ax q∧aZ vs=[]∧(vs.all fun v=>!v.isTuple)=true∧eJ vs us)∧∃o1,look 0 s.store=some o1∧∀ρ,cu ρ o1 o:=by
  intro e' h1
  cases hr:fy T s fn.results.toList with
  |none=>rw[hr]at h1;simp at h1
  |some r=>
   obtain⟨vs,q⟩:=r
   rw[hr]at h1
   simp only[Option.some.injEq]at h1
   subst h1
   obtain⟨g1,g2,g3,g4,g5⟩:=aa.ze.1 h2
   exact⟨⟨vs,q,rfl,g1,g2,g3,g4⟩,g5⟩
 cases e with
 |normal=>exact⟨.inl rfl,key h1⟩
 |ret=>exact⟨.inr rfl,key h1⟩
 |exit i=>simp at h1
section rules
variable {P:Program} {c:Ctx} {nt:Nat} {s:aF} {Q:aj→aF→Prop} {T:Types} (hT:cY P T) {Γ:aR} (hΓ:aY P Γ) (hm:P.follows .mixedOrders=true)
include hT hΓ hm in
theorem aD.akE {fn:Func} {forks:List Nat} (n:Nat) {l:List Code} {t:aa (List AV×Option ah)} (hc:Eh T Γ forks n fn l s=some t) (hd:(l.all fun x=>bQ nt x)=true) {us:List AV} {o:ah}
  (h:t.all fun _ v=>Ia us o v):aD P c nt l s (vI T fn us o):=by
 unfold Eh at hc
 split at hc
 ·rename_i u hx
  refine AS hT hΓ hm hd hx (aa.eF ?_ (aa.jo hc h))
  rintro e s' ⟨v,h1,h2⟩
  exact Kf h1 h2
 ·simp at hc
def CL (T:Types) (fn:Func) (L:List Nat) (us:List AV) (o:ah) (v:List AV×aC):Prop:=
 ∃vs ws nx t,v.1=vs++ws∧vs.length=L.length∧aZ ws=[]∧xh T fn .ret ⟨aA L vs,v.2,nx⟩=some t∧jg nx vs=true∧gn nx v.2∧1≤nx∧t.all fun _ v=>Ia us o v
theorem CL.fin {fn:Func} {L L1:List Nat} {us:List AV} {o:ah} {v:List AV×aC} {s':aF} (h0:Kept [0] c) (h:CL T fn L us o v) (hs':aX (L++L1) s'=some v):dO c (vI T fn us o) .ret s':=by
 obtain⟨vs,ws,nx,t,h1,h2,h3,h4,h5,h6,hn,h7⟩:=h
 obtain⟨v1,v2⟩:=v
 simp only at h1
 subst h1
 obtain⟨ρ,hle⟩:=mM (hH hs' h2 h3) (fun k x hk=>by
  have:=h0 k x hk
  simp only[List.mem_cons,List.not_mem_nil,or_false]at this
  omega) h5 h6
 exact .inr ⟨_,ρ,hle,Kf h4 h7⟩
include hT in
theorem XH {f:FuncId} {fn:Func} {x:Code} (hf:aO P f fn x) {args args0 us:List AV} {a:Nat} {oa oa0:ah} {l:List Prop} (hlen:args0.length≤fn.ntmps)
  (ha:fc (aT [(0,a)]) args args0) (hoa:ax l→∀ρ,cu ρ oa oa0)
  (h:ax l→∀c:Ctx,Kept [0] c→aq P c fn.ntmps x ⟨aN 0 args0,[(0,oa0)],1⟩ (dO c (vI T fn us oa0))) (K:Nat):aB P f K args [(a,oa)] ⟨iM us,[(a,oa0)],l⟩:=by
 intro need
 refine(mK hT hf (args0:=args0) (pre0:=[(0,oa0)]) (nx:=1) [(0,a)] hlen (by simp[gD]) ha ⟨⟨a,oa,rfl,oJ,hoa need _⟩,trivial⟩
  (fun x k h=>?_) (fun x o h=>.inl ?_) (fun need c h0=>?_):aB P f K args [(a,oa)] ⟨iM us,[(a,oa0)],l⟩) need
 ·simp only[aT,look]at h
  split at h
  ·simp only[Option.some.injEq]at h;subst h;exact⟨_,oJ⟩
  ·simp at h
 ·simp only[look]at h ⊢
  split at h
  ·rename_i he;exact⟨oa,by rw[if_pos he]⟩
  ·simp at h
 have hk:Kept [0] c:=fun x y hy=>by
  have:=h0 x y hy
  simp only[aT,look]at this
  split at this
  ·rename_i he;have:=eq_of_beq he;subst this;simp
  ·simp at this
 refine(h need c hk).down.mono ?_
 rintro e s' ⟨h1,⟨vs,q,g1,g2,g3,g4,g5⟩,o1,g6,g7⟩
 refine⟨h1,aT [(a,0)],qb,.inr ⟨⟨vs,q,us,g1,g2,Fl g3 g4 g5,rfl⟩,fun k o hk=>?_⟩⟩
 have he:cj (er [(a,oa0)]) [(a,oa)]=[(a,oa0)]:=by simp[cj,er,put]
 rw[he]at hk
 simp only[look]at hk
 split at hk
 ·rename_i hx
  have:=eq_of_beq hx
  simp only[Option.some.injEq]at hk
  subst hk this
  exact⟨0,o1,by simp[aT,look],g6,g7 _⟩
 ·simp at hk
end rules
end Go.Am

/- A range over a function. -/
namespace Go.Am
open AV
theorem JB {ro:Option Nat} {n m:Nat} {P:Program} {x:Code} {Q:Exit→Act→World→Prop} {a:Act} {w:World} (h:x.wpIn (fM ro) n P Q a w):x.wpIn (fM ro) m P Q a w:=
 fun b k cs h1 h2 _=>h b k cs h1 h2 fun d hd=>by simp[fM]at hd
def mC (st:aC) (β:aP):Nat→Prop:=fun b=>∃k o,∃N:Nat×Nat,look k st=some o∧o.wr=true∧β k=some (b,N)
section base
variable {c c1:Ctx} {st st':aC} {D D':Nat→Prop} {β β':aP} {w w':World}
theorem aU.Pk (h:aU c st D β w) {b:Nat} (hb:mC st β b):∃cs ty,w.heap[b]?=some (.cells cs ty (0,0)):=by
 obtain⟨k,o,N,h1,_,h3⟩:=hb
 obtain⟨b',N',cs,ty,q1,q2,_⟩:=h.obj k o h1 _ h3
 rw[h3]at q1
 cases q1
 exact⟨cs,ty,q2⟩
theorem aU.base (h:aU c st D β w) (k0:aP) (ro:Option Nat) (hk:∀k x,k0 k=some x→β k=some x):aU {c with w0:=w,Mw:=mC st β,k0:=k0,ro:=ro} st D β w:=
 {obj:=h.obj,cZ:=h.cZ,inj:=h.inj,dom:=h.dom,keep:=hk,lt:=h.lt,os:=rfl,tape:=rfl,output:=rfl,size:=Nat.le_refl _,block:=fun _ _ _=>rfl,fE:=fun b hb=>⟨Nat.lt_of_lt_of_le (h.fE b hb).1 h.size,fun⟨k,o,N,h1,h2,h3⟩=>(h.new k o b N h1 h2 h3).elim (fun h4=>Nat.not_lt.2 h4 (h.fE b hb).1) (h.fE b hb).2⟩,new:=fun k o b N h1 h2 h3=>.inr ⟨k,o,N,h1,h2,h3⟩}
theorem aU.back {k0:aP} {ro:Option Nat} (h0:aU c st D β w) (hk:∀k x,c.k0 k=some x→k0 k=some x) (h:aU {c with w0:=w,Mw:=mC st β,k0:=k0,ro:=ro} st' D' β' w'):aU c st' D' β' w':=by
 have hnw:∀b,b<c.w0.heap.size→¬c.Mw b→¬mC st β b:=fun b hb hm ⟨k,o,N,h1,h2,h3⟩=>(h0.new k o b N h1 h2 h3).elim (fun h4=>by omega) hm
 exact {obj:=h.obj,cZ:=h.cZ,inj:=h.inj,dom:=h.dom,keep:=fun k x hx=>h.keep k x (hk k x hx),lt:=h.lt,os:=h.os.trans h0.os,tape:=h.tape.trans h0.tape,output:=h.output.trans h0.output,size:=Nat.le_trans h0.size h.size,block:=fun b hb hm=>(h.block b (Nat.lt_of_lt_of_le hb h0.size) (hnw b hb hm)).trans (h0.block b hb hm),fE:=h0.fE,new:=fun k o b N h1 h2 h3=>(h.new k o b N h1 h2 h3).elim (fun h4=>.inl (Nat.le_trans h0.size h4)) fun⟨k',o',N',g1,g2,g3⟩=>h0.new k' o' b N' g1 g2 g3}
theorem aU.hc {k0:aP} {ro:Option Nat} {c':Ctx} (hMf:c'.Mf=c.Mf) (h:aU {c with w0:=w,Mw:=mC st β,k0:=k0,ro:=ro} st' D' β' w'):HC (aL c st β) w (aL c' st' β') w':=by
 intro b x ty fr hm hb
 have hlt:=jx hb
 refine⟨(h.block b hlt fun hw=>hm (.inr hw)).trans hb,?_⟩
 rintro(hf|⟨k,o,N,g1,g2,g3⟩)
 ·exact hm (.inl (hMf▸hf))
 ·rcases h.new k o b N g1 g2 g3 with g|g
  ·exact absurd hlt (Nat.not_lt.2 g)
  ·exact hm (.inr g)
end base
def W8 (P:Program) (gf:FuncId) (lb:Array Value) (n:Nat) (encs:Nat→Array Value) (I:World→Prop):Prop:=
 ∀(l:Nat) (J:Nat→World→Prop),(∀i W,J i W→I W)→(∀i W,i<n→J i W→YieldAt Fence.wide 1 P l (encs i) W fun e W'=>e=.returned (.bool true)∧J (i+1) W')→
  ∀W,J 0 W→CallsIn Fence.wide 2 P gf (#[.func (.yield l) #[] #[]]++lb) W fun e W'=>(∃v,e=.returned v)∧J n W'
def yg (P:Program) (gf:FuncId) (caps:List AV) (n:Nat) (u v:Nat→AV):Prop:=
 ∀(M:Nat→Prop) (w:World) (β:aP) (lb:List Value),aM M w β caps lb→∃x y:Nat→Value,(∀i,i<n→bg M w aW (u i) (x i)∧bg M w aW (v i) (y i))∧
  W8 P gf lb.toArray n (fun i=>#[x i,y i]) fun W=>∀b cs ty fr,¬M b→w.heap[b]?=some (.cells cs ty fr)→W.heap[b]?=some (.cells cs ty fr)
section rule
variable {P:Program} {c:Ctx} {nt:Nat} {s:aF} {Q:aj→aF→Prop}
theorem aq.ad6 {g:Operand} {p0 p1:Tmp} {assign body:Code} {gf:FuncId} {caps:List AV} {n:Nat} {u v:Nat→AV} {sl:List (Nat×AV)} {st:Nat→aC} {nx:Nat→Nat} {ρ:Nat→Option Nat} (hro:c.ro=none) (h0:Le c ρ s ⟨sl,st 0,nx 0⟩)
  (hg:aF.fU ⟨sl,st 0,nx 0⟩ g=some (.func gf caps)) (heg:∀args w,(callFunc gf args).run P w=.ok (.enter gf args) w) (hit:yg P gf caps n u v) (hp0:p0<nt) (hp1:p1<nt) (hne:p0≠p1)
  (hround:∀c':Ctx,(∀k x,c'.k0 k=some x→(ρ k).isSome=true)→∀i,i<n→aq P c' nt assign ⟨put p1 (v i) (put p0 (u i) sl),st i,nx i⟩ fun e s'=>e=.normal∧
   ∀c':Ctx,(∀k x,c'.k0 k=some x→(ρ k).isSome=true)→aq P c' nt body s' fun e s'=>e=.normal∧∃ρ',Le c' ρ' ⟨[],s'.store,s'.next⟩ ⟨[],st (i+1),nx (i+1)⟩)
  (hend:Q .normal ⟨sl,st n,nx n⟩):aq P c nt (.rangeFunc g #[p0,p1] assign body) s Q:=by
 intro a w hr
 obtain⟨hdf,hsz,β',hW',hs'⟩:=id hr
 have hr1:=h0.rel hr
 -- the keys at the start
 obtain⟨β0,hβk,hW,hs⟩:∃β0:aP,(∀k x,β0 k=some x→(ρ k).isSome=true)∧aU c (st 0) (fun k=>k<nx 0) β0 w∧nc (aL c (st 0) β0) w β0 sl a.tmps:=by
  exact⟨_,fun k x hk=>by cases h:ρ k<;>simp[h]at hk ⊢,h0.D9 hW' hs'⟩
 obtain⟨lb,hev,hcaps,-⟩:=(E6 hs g _ hg).func
 obtain⟨x,y,hxy,hiter⟩:=hit _ _ _ _ hcaps
 have hro':fM c.ro=Fence.wide:=by rw[hro];rfl
 rw[hro']
 refine wpIn_rangeFunc ?_
 intro fn _
 let rec':LoopState→Loop:=fun q=>{state:=q,pending:=none,fn,tmps:=a.tmps,params:=#[p0,p1],assign,body,defers:=w.heap.size}
 let W1:=(w.alloc (.deferred (some []))).alloc (.loop (rec' .ready))
 let c1:Ctx:={c with w0:=w,Mw:=mC (st 0) β0,k0:=β0,ro:=none}
 have hc1:aU c1 (st 0) (fun k=>k<nx 0) β0 w:=hW.base β0 none fun _ _ h=>h
 let J:Nat→World→Prop:=fun i W=>∃β,aU c1 (st i) (fun k=>k<nx i) β W∧W.heap[w.heap.size+1]?=some (.loop (rec' .ready))∧W.heap[w.heap.size]?=some (.deferred (some []))
 have hcells:∀{W W':World} {l:Nat} {o o':Obj},W.heap[l]?=some o→o.isCells=false→∀(b:Nat) x ty fr,W.heap[b]?=some (Obj.cells x ty fr)→(W.putObj l o').heap[b]?=some (Obj.cells x ty fr):=by
  intro W W' l o o' h1 h2 b x ty fr h3
  rw[World.putObj_heap_other (fun e=>by subst e;rw[h1]at h3;cases h3;cases h2)];exact h3
 have hJ0:J 0 W1:=by
  refine⟨β0,hc1.xb (fun b x ty fr hb=>?_) rfl rfl rfl (by simp[W1];omega) (fun b hb=>?_),?_,?_⟩
  ·have hlt:=jx hb
   rw[show W1.heap[b]?=w.heap[b]? from(qq (by simp;omega)).trans (qq hlt)];exact hb
  ·exact(qq (by simp;exact Nat.lt_succ_of_lt hb)).trans (qq hb)
  ·have:=World.alloc_heap_new (w.alloc (.deferred (some []))) (.loop (rec' .ready));rwa [World.size_alloc]at this
  ·exact(qq (by simp)).trans (World.alloc_heap_new w _)
 refine⟨w.heap.size+1,[MX w.heap.size],W1,{target:=.fn (.func gf) lb.toArray,args:=#[.func (.yield (w.heap.size+1)) #[] #[]]},W1,gf,#[.func (.yield (w.heap.size+1)) #[] #[]]++lb.toArray,W1,?_,?_,fun _ _=>trivial,?_,fun _=>by decide,?_⟩
 ·exact run_enterLoop_outer _ _ _ _ _
 ·simp only[resolve,hev]
  simp[go_sem]
 ·simp[invoke,go_sem,heg]
 have hnl:∀{st:aC} {β:aP} {D:Nat→Prop} {W:World} {c:Ctx} {r:Loop} {l:Nat},aU c st D β W→W.heap[l]?=some (.loop r)→¬mC st β l:=by
  intro st β D W c r l h h1 h2
  obtain⟨cs,ty,h3⟩:=h.Pk h2
  rw[h1]at h3
  cases h3
 have hnd:∀{st:aC} {β:aP} {D:Nat→Prop} {W:World} {c:Ctx} {l:Nat},aU c st D β W→W.heap[l]?=some (.deferred (some []))→¬mC st β l:=by
  intro st β D W c l h h1 h2
  obtain⟨cs,ty,h3⟩:=h.Pk h2
  rw[h1]at h3
  cases h3
 have hsl:∀{i:Nat} {β:aP} {W W':World},aU c1 (st i) (fun k=>k<nx i) β W→(∀(b:Nat) x ty fr,W.heap[b]?=some (Obj.cells x ty fr)→W'.heap[b]?=some (Obj.cells x ty fr))→nc (aL c (st i) β) W' β sl a.tmps:=by
  intro i β W W' h hh t v ht
  obtain⟨z,hz,hv⟩:=hs t v ht
  exact⟨z,hz,hv.gh (fun b x ty fr m g=>let ⟨g1,g2⟩:=aU.hc (c':=c) rfl h b x ty fr m g;⟨hh _ _ _ _ g1,g2⟩) fun k x hk=>h.keep k x hk⟩
 refine CallsIn.mono (hiter (w.heap.size+1) J ?_ ?_ W1 hJ0) ?_
 ·rintro i W ⟨β,h,_,_⟩ b cs ty fr hm hb
  exact(aU.hc (c':=c) rfl h b cs ty fr hm hb).1
 ·rintro i W hi ⟨β,h,hl,hk⟩
  refine⟨fn,_,assign,body,run_yield (P:=P) (args:=#[x i,y i]) hl rfl,roundIn_of_wpIn trivial ?_⟩
  have hwl:=jx hl
  refine JB (ro:=some (w.heap.size+1)) (wpIn_mono (hround {c1 with w0:=W,Mw:=mC (st i) β,k0:=β0,ro:=some (w.heap.size+1)} hβk i hi _ W ⟨.nil,?_,β,h.base β0 _ fun k x hx=>h.keep k x hx,?_⟩) ?_)
  ·simp[rec',hsz]
  ·intro t z ht
   have hsl1:=hsl h (fun _ _ _ _ h=>h)
   have hxy1:=hxy i hi
   have hmono:∀{v:AV} {z:Value},bg (aL c (st 0) β0) w aW v z→bg (aL c (st i) β) W β v z:=fun hv=>
    hv.gh (aU.hc (c':=c) rfl h) fun k x hk=>by simp[aW]at hk
   simp only[DY]at ht
   split at ht
   ·rename_i e
    subst e
    simp only[Option.some.injEq]at ht
    subst ht
    exact⟨y i,by simp[rec',hsz,hp1],hmono hxy1.2⟩
   ·rename_i e1
    split at ht
    ·rename_i e2
     subst e2
     simp only[Option.some.injEq]at ht
     subst ht
     exact⟨x i,by simp[rec',hsz,hp0,Ne.symm hne],hmono hxy1.1⟩
    ·rename_i e2
     obtain⟨q,hq,hv⟩:=hsl1 t z ht
     exact⟨q,by simp[rec',Ne.symm e1,Ne.symm e2,hq],hv⟩
  ·rintro e a1 Wa ⟨ae,s1,rfl,hr2,rfl,hB⟩
   obtain⟨hd1,hsz1,β1,h3,hs1⟩:=hr2
   have hl1:Wa.heap[w.heap.size+1]?=some (.loop (rec' .ready)):=(h3.block _ hwl (hnl h hl)).trans hl
   have hk1:Wa.heap[w.heap.size]?=some (.deferred (some [])):=(h3.block _ (jx hk) (hnd h hk)).trans hk
   refine⟨_,run_beginRound hl1 rfl,?_⟩
   have h3':aU c1 s1.store (fun k=>k<s1.next) β1 Wa:=h.back (fun _ _ h=>h) h3
   obtain⟨Wb,hWb⟩:∃Wb,Wa.putObj (w.heap.size+1) (.loop {rec' .ready with state:=.busy})=Wb:=⟨_,rfl⟩
   have hcb:∀(b:Nat) x ty fr,Wa.heap[b]?=some (Obj.cells x ty fr)→Wb.heap[b]?=some (Obj.cells x ty fr):=by
    rw[←hWb];exact hcells (W':=w) hl1 rfl
   have h4:aU c1 s1.store (fun k=>k<s1.next) β1 Wb:=h3'.xb hcb (by rw[←hWb];rfl) (by rw[←hWb];rfl) (by rw[←hWb];rfl) (by rw[←hWb];simp) (fun b hb=>by rw[←hWb];exact World.putObj_heap_other (by have:b<w.heap.size:=hb;omega))
   have hlb:Wb.heap[w.heap.size+1]?=some (.loop {rec' .ready with state:=.busy}):=by rw[←hWb];exact World.putObj_heap_same (jx hl1)
   have hkb:Wb.heap[w.heap.size]?=some (.deferred (some [])):=by rw[←hWb];exact(World.putObj_heap_other (by omega)).trans hk1
   rw[hWb]
   refine JB (ro:=some (w.heap.size+1)) (wpIn_mono (hB {c1 with w0:=Wb,Mw:=mC s1.store β1,k0:=β0,ro:=some (w.heap.size+1)} hβk a1 Wb ⟨?_,hsz1,β1,h4.base β0 _ fun k x hx=>h4.keep k x hx,?_⟩) ?_)
   ·rw[hd1.1 rfl];exact .nil
   ·intro t z ht
    obtain⟨q,hq,hv⟩:=hs1 t z ht
    exact⟨q,hq,hv.gh (fun b x ty fr m g=>⟨hcb _ _ _ _ g,m⟩) fun _ _ h=>h⟩
   ·rintro e a3 W3 ⟨ae,s2,rfl,hr3,rfl,ρ',hle⟩
    obtain⟨_,_,β2,h6,_⟩:=hr3
    have hl3:W3.heap[w.heap.size+1]?=some (.loop {rec' .ready with state:=.busy}):=(h6.block _ (jx hlb) (hnl h4 hlb)).trans hlb
    have hk3:W3.heap[w.heap.size]?=some (.deferred (some [])):=(h6.block _ (jx hkb) (hnd h4 hkb)).trans hkb
    have h7:=(hle.D9 (tmps:=#[]) h6 fun t v ht=>by simp[look]at ht).1
    have h8:=h4.back (fun _ _ h=>h) h7
    refine⟨_,_,run_endRound none hl3,rfl,_,h8.xb (hcells (W':=w) hl3 rfl) rfl rfl rfl (by simp) (fun b hb=>World.putObj_heap_other (by have:b<w.heap.size:=hb;omega)),World.putObj_heap_same (jx hl3),(World.putObj_heap_other (by omega)).trans hk3⟩
 ·rintro e W2 ⟨⟨v,rfl⟩,β,h,hl,hk⟩
  refine⟨none,_,run_endLoop hl (by simp[rec']),.normal,_,rfl,⟨⟨fun h=>by rw[hro]at h;simp at h,?_⟩,hsz,β,(hW.back (fun k x hk=>hW.keep k x hk) h).xb (hcells (W':=w) hl rfl) rfl rfl rfl (by simp) (fun b hb=>World.putObj_heap_other (by have:=hW.size;omega)),hsl h (hcells (W':=w) hl rfl)⟩,hend⟩
  obtain⟨_,Ds,e1,e2,e3⟩:=hdf
  refine⟨w.heap.size::Ds,by simp[e1],List.nodup_cons.2 ⟨fun hm=>?_,e2⟩,fun D hD=>?_⟩
  ·have:=jx (e3 _ hm).1
   omega
  ·rcases List.mem_cons.1 hD with rfl|hD
   ·exact⟨(World.putObj_heap_other (by omega)).trans hk,hW.size⟩
   ·have hlt:=jx (e3 D hD).1
    refine⟨(World.putObj_heap_other (by omega)).trans ((h.block D hlt (hnd hW (e3 D hD).1)).trans (e3 D hD).1),(e3 D hD).2⟩
end rule
end Go.Am

/- slices.Backward: what its iterator FF. -/
namespace Go.Am
open AV
def YF (c:Code) (p:List Nat):Array Oper:=match part c p with
 |.region _ ops _=>ops
 |_=>#[]
def BV (c:Code) (p:List Nat):Nat:=match part c p with
 |.region i _ _=>i
 |_=>0
def aiS:Oper:={dst:=none,op:=.move (.const undef),type:=0,pos:= "",after:=#[],guard:=none}
def cV (c:Code) (p:List Nat) (i:Nat):Oper:=match(YF c p).toList[i]? with
 |some o=>o
 |none=>aiS
def fk (o:Oper) (d:Tmp) (op:Op):Prop:=o.dst=some d∧o.op=op∧o.guard=none
structure Em (x:Code) (tS tE tI:TypeId):Prop where
 shape:x=.seq (.region (BV x [0]) #[cV x [0] 0,cV x [0] 1,cV x [0] 2,cV x [0] 3] false) (.block 0 (.loop (.seq
  (.seq (.region (BV x [1,0,0,0,0]) #[cV x [1,0,0,0,0] 0,cV x [1,0,0,0,0] 1] false) (.cond (.tmp 8) .skip (.exit 0)))
  (.seq (.block 1 (.seq (.region (BV x [1,0,0,1,0,0,0]) #[cV x [1,0,0,1,0,0,0] 0,cV x [1,0,0,1,0,0,0] 1,cV x [1,0,0,1,0,0,0] 2,cV x [1,0,0,1,0,0,0] 3,cV x [1,0,0,1,0,0,0] 4,cV x [1,0,0,1,0,0,0] 5,cV x [1,0,0,1,0,0,0] 6,cV x [1,0,0,1,0,0,0] 7] false) (.cond (.tmp 18) .ret .skip)))
   (.region (BV x [1,0,0,1,1]) #[cV x [1,0,0,1,1] 0,cV x [1,0,0,1,1] 1,cV x [1,0,0,1,1] 2] false)))))
 o0:fk (cV x [0] 0) 4 (.load tS (.tmp 1))
 o1:fk (cV x [0] 1) 5 (.call ⟨.builtin .len,#[.tmp 4],#[tS]⟩)
 o2:fk (cV x [0] 2) 6 (.binOp .sub tI (.tmp 5) (.const (.int .i64 1)) tI)
 o3:fk (cV x [0] 3) 3 (.assign (.tmp 6))
 p0:fk (cV x [1,0,0,0,0] 0) 7 (.move (.tmp 3))
 p1:fk (cV x [1,0,0,0,0] 1) 8 (.binOp .geq tI (.tmp 7) (.const (.int .i64 0)) tI)
 q0:fk (cV x [1,0,0,1,0,0,0] 0) 11 (.move (.tmp 0))
 q1:fk (cV x [1,0,0,1,0,0,0] 1) 12 (.move (.tmp 3))
 q2:fk (cV x [1,0,0,1,0,0,0] 2) 13 (.load tS (.tmp 1))
 q3:fk (cV x [1,0,0,1,0,0,0] 3) 14 (.move (.tmp 3))
 q4:fk (cV x [1,0,0,1,0,0,0] 4) 15 (.indexAddr tS (.tmp 13) (.tmp 14))
 q5:fk (cV x [1,0,0,1,0,0,0] 5) 16 (.load tE (.tmp 15))
 q6:∃ts,fk (cV x [1,0,0,1,0,0,0] 6) 17 (.call ⟨.value (.tmp 11),#[.tmp 12,.tmp 16],ts⟩)
 q7:∃t,fk (cV x [1,0,0,1,0,0,0] 7) 18 (.unOp .not t (.tmp 17))
 s0:fk (cV x [1,0,0,1,1] 0) 9 (.move (.tmp 3))
 s1:fk (cV x [1,0,0,1,1] 1) 10 (.binOp .sub tI (.tmp 9) (.const (.int .i64 1)) tI)
 s2:fk (cV x [1,0,0,1,1] 2) 3 (.assign (.tmp 10))
section steps
variable {P:Program} {n:Nat} {ops:Array Oper} {Q:Exit→Act→World→Prop} {a:Act} {w:World} {rest:List Oper}
theorem iN {o:Oper} {d:Tmp} {op:Op} (h:fk o d op) (hd:∀c,op≠.defer c) {v:Value} (hrun:(execOp a.eval o).run P w=.ok (.value v) w)
  (hn:wpListIn Fence.wide n P ops Q rest (a.put (some d) v) w):wpListIn Fence.wide n P ops Q (o::rest) a w:=by
 refine wpListIn_plain h.2.2 fun K hK=>⟨fun _ _=>trivial,?_⟩
 rw[Oper.semAt_eq _ _ _ (by rw[h.2.1];exact hd),hrun]
 show K (a.put o.dst v) w
 rw[h.1];exact hK _ _ hn
theorem ff {d t:Tmp} {v:Value}:(a.put (some d) v).tmps[t]?=if t=d then(if d<a.tmps.size then some v else none)else a.tmps[t]?:=by
 simp only[Act.put,Array.getElem?_setIfInBounds]
 by_cases h:d=t
 ·subst h;simp
 ·have:¬t=d:=fun e=>h e.symm
  simp[h,this]
theorem fh {d:Tmp} {v:Value}:(a.put (some d) v).tmps.size=a.tmps.size:=by simp[Act.put]
theorem put_defers {d:Tmp} {v:Value}:(a.put (some d) v).defers=a.defers:=rfl
theorem gl {t:Tmp} {v:Value} (h:a.tmps[t]?=some v):a.eval (.tmp t)=v:=by simp[Act.eval,Array.getD_eq_getD_getElem?,h]
theorem yB {o:Oper} {d:Tmp} {x:Operand} (h:fk o d (.move x)):(execOp a.eval o).run P w=.ok (.value (a.eval x)) w:=by
 simp[execOp,h.2.1]
theorem Nv {o:Oper} {d:Tmp} {x:Operand} (h:fk o d (.assign x)):(execOp a.eval o).run P w=.ok (.value (a.eval x)) w:=by
 simp[execOp,h.2.1]
theorem Pf {T:Types} (hT:cY P T) {o:Oper} {d:Tmp} {b:BinOp} {t u:TypeId} {x y:Operand} (h:fk o d (.binOp b t x y u)) {m k:Int} (hx:a.eval x=.int .i64 m) (hy:a.eval y=.int .i64 k) {r:dF} (hr:nQ T t b (.int .i64 m) (.int .i64 k)=some r) (need:r.need)
  {v:Value} (hv:∀z,aV (fun _=>False) w aW r.val z→z=v):(execOp a.eval o).run P w=.ok (.value v) w:=by
 have hint:∀k,bg (aL {Mf:=fun _=>False,w0:=w,Mw:=fun _=>False,k0:=aW} [] aW) w aW (.int .i64 k) (.int .i64 k):=fun k=>aV.bq (.bK (.int .nil) rfl)
 have hM:aL {Mf:=fun _=>False,w0:=w,Mw:=fun _=>False,k0:=aW} [] aW=fun _=>False:=by
  funext b;simp[aL,look]
 obtain⟨_,z,hz,hz2⟩:=LZ (P:=P) hT (t':=t) (x:=x) (y:=y) (hint m) (hint k) hr need
 rw[hM]at hz2
 have:=hv z hz2
 subst this
 simp only[execOp,h.2.1,hx,hy]
 simp only[Sem.run_bind]at hz ⊢
 revert hz
 cases (eqGuard b t x y (.int .i64 m) (.int .i64 k)).run P w with
 |ok u w'=>
  simp only[Result.andThen_ok]
  intro hz
  rw[hz];rfl
 |_=>intro hz;simp[Result.andThen]at hz
theorem run_load {o:Oper} {d:Tmp} {t:TypeId} {x:Operand} (h:fk o d (.load t x)) {v:Value} (hv:(Instr.loadAt t (a.eval x)).run P w=.ok v w):(execOp a.eval o).run P w=.ok (.value v) w:=by
 simp only[execOp,h.2.1,Sem.run_bind,hv,Result.andThen_ok,Sem.run_pure]
theorem agP {o:Oper} {d:Tmp} {t:TypeId} {x y:Operand} (h:fk o d (.indexAddr t x y)) {v:Value} (hv:(Instr.indexAt t (a.eval x) (a.eval y)).run P w=.ok v w):(execOp a.eval o).run P w=.ok (.value v) w:=by
 simp only[execOp,h.2.1,Sem.run_bind,hv,Result.andThen_ok,Sem.run_pure]
theorem VG {o:Oper} {d:Tmp} {t:TypeId} {x:Operand} (h:fk o d (.unOp .not t x)) {b:Bool} (hv:a.eval x=.bool b):(execOp a.eval o).run P w=.ok (.value (.bool !b)) w:=by
 simp[execOp,h.2.1,hv,Op.unary]
theorem ake {o:Oper} {d:Tmp} {t e:TypeId} {x:Operand} (h:fk o d (.call ⟨.builtin .len,#[x],#[t]⟩)) (hu:P.underlying t=some (.slice e)) {base:Option Addr} {m cap:Nat} (hv:a.eval x=.slice base m cap):
  (execOp a.eval o).run P w=.ok (.value (.int .i64 m)) w:=by
 have hres:(execOp a.eval o:Sem Next)=builtin .len #[t] o.type (#[x].map fun|.const _=>true|_=>false) (Array.map a.eval #[x]):=by
  simp only[execOp,h.2.1];rfl
 rw[hres]
 simp[builtin,Builtin.len_,run_underlying hu,goInt,hv]
theorem afD {o:Oper} {d:Tmp} {f:Operand} {xs:Array Operand} {ts:Array TypeId} (h:fk o d (.call ⟨.value f,xs,ts⟩)) {l:Nat} (hf:a.eval f=.func (.yield l) #[] #[]) {vs:Array Value} (hvs:xs.map a.eval=vs)
  {R:Ending→World→Prop} (hy:YieldAt Fence.wide n P l vs w R) (hR:∀e w',R e w'→∃v,e=.returned v∧wpListIn Fence.wide (n+1) P ops Q rest (a.put (some d) v) w'):wpListIn Fence.wide (n+1) P ops Q (o::rest) a w:=by
 refine wpListIn_plain h.2.2 fun K hK=>⟨fun _ _=>trivial,?_⟩
 rw[Oper.semAt_eq _ _ _ (by rw[h.2.1];intro c hc;cases hc)]
 obtain⟨fn,tmps,assign,body,h1,h2⟩:=hy
 have hrun:(execOp a.eval o).run P w=.ok (.round l fn tmps assign body) w:=by
  have:(execOp a.eval o:Sem Next)=Instr.yield l vs:=by
   simp only[execOp,h.2.1,resolve,hf,Deferred.ofValue,hvs]
   simp[invoke]
  rw[this];exact h1
 rw[hrun]
 refine⟨fun _=>by omega,RoundIn.mono h2 ?_⟩
 intro e w' he
 obtain⟨v,rfl,hv⟩:=hR e w' he
 show K (a.put o.dst v) w'
 rw[h.1];exact hK _ _ hv
end steps
theorem Wx {P:Program} {T:Types} (hT:cY P T) {t:TypeId} {ti:TI} (ht:look t T=some ti) (ha:jP ti.desc=true) {w:World} {b o:Nat} {ps:List Value} (hr:w.rangeAt b o ps) (hl:ps.length=ti.size):
  (Instr.loadAt t (.pointer (some ⟨b,o,none⟩))).run P w=.ok (.agg ps.toArray) w:=by
 obtain⟨i,hi,his,_⟩:=(hT t ti ht).info
 refine run_loadAt_mid (P:=P) w b o t ps ti.desc hr (hT t ti ht).cE ?_ (by rw[hi];simp[his,hl])
 cases hd:ti.desc<;>simp_all [jP,TypeDesc.isRow]
theorem XT {P:Program} {T:Types} (hT:cY P T) {t:TypeId} {ti:TI} (ht:look t T=some ti) {e:TypeId} (hd:ti.desc=.slice e) {w:World} {b o:Nat} {x:Value} (hr:w.rangeAt b o [x]):
  (Instr.loadAt t (.pointer (some ⟨b,o,none⟩))).run P w=.ok x w:=by
 have hc:w.cell? ⟨b,o,none⟩=some x:=by simpa using hr 0 x (by simp)
 have hg:(isAgg t).run P w=.ok false w:=by
  unfold Go.isAgg
  rw[Sem.run_bind,run_underlying (hT t ti ht).cE w,hd];simp
 simp[Instr.loadAt,Instr.sureAddr,loadVar,Sem.run_bind,hg,hc]
def La (n l b0 off0:Nat) (J:Nat→World→Prop) (i:Nat) (a:Act) (W:World):Prop:=
 i≤n∧a.tmps.size=19∧a.tmps[0]?=some (.func (.yield l) #[] #[])∧a.tmps[1]?=some (.pointer (some ⟨b0,off0,none⟩))∧a.tmps[3]?=some (.int .i64 ((n:Int)-1-i))∧a.defers=[]∧J i W
set_option maxHeartbeats 400000 in
theorem Ju {P:Program} {T:Types} (hT:cY P T) {tS tE tI:TypeId} {tiS tiE:TI} (hS:look tS T=some tiS) (hdS:tiS.desc=.slice tE) (hE:look tE T=some tiE) (hA:jP tiE.desc=true) {gf:FuncId} {fn:Func} {x:Code}
  (hf:P.funcs[gf]?=some fn) (hb:fn.body=some x) (hnt:fn.ntmps=19) (hres:fn.results=#[]) (hx:Em x tS tE tI) {n es:Nat} {f:Nat→AV} (hn:n<2^62) (hes:tiE.size=es) (hag:∀i,i<n→(f i).isAgg=true∧(f i).isTuple=false):
  yg P gf [.bI (.ak es n f)] n (fun i=>.int .i64 ((n:Int)-1-i)) (fun i=>f (n-1-i)):=by
 intro M w β lb hlb
 obtain⟨b0,off0,ps0,hlb0,hps,hmem⟩:∃b o ps,lb=[.pointer (some ⟨b,o,none⟩)]∧aM M w aW [.ak es n f] ps∧fP M w b o ps:=by
  cases hlb with
  |bI h1 h2 h3=>cases h3;exact⟨_,_,_,rfl,h1,h2⟩
 subst hlb0
 obtain⟨base,cap,cf,hps0,g1,g2,g3,g4,g5⟩:∃base cap,∃cf:Nat→List Value,ps0=[.slice base n cap]∧(n=0∨∃b o,base=some ⟨b,o,none⟩∧∀i,i<n→fP M w b (o+i*es) (cf i))∧0<es∧n≤cap∧
   (∀i,i<n→(cf i).length=es)∧∀i,i<n→aM M w aW [f i] (cf i):=by
  cases hps with
  |ak h1 h2 h3 h4 h5 h6=>cases h6;exact⟨_,_,_,rfl,h1,h2,h3,h4,h5⟩
 subst hps0
 refine⟨fun i=>.int .i64 ((n:Int)-1-i),fun i=>.agg (cf (n-1-i)).toArray,fun i hi=>⟨aV.bq (.bK (.int .nil) rfl),?_⟩,?_⟩
 ·exact aV.bq (aV.wv (g5 _ (by omega)) (hag _ (by omega)).1)
 intro l J hJ hY W0 hW0
 have hu:=hdS▸(hT tS tiS hS).cE
 have hls:∀i W,J i W→(Instr.loadAt tS (.pointer (some ⟨b0,off0,none⟩))).run P W=.ok (.slice base n cap) W:=fun i W hj=>by
  obtain⟨c,ty,fr,h1,h2,h3⟩:=hmem
  refine XT hT hS hdS ?_
  intro j v hv
  rw[uo (hJ i W hj _ _ _ _ h2 h1)]
  exact h3 j v hv
 refine callsIn_of_wp hf hb trivial ?_ rfl
 generalize ha0:({tmps:=(#[Value.func (.yield l) #[] #[]]++[Value.pointer (some ⟨b0,off0,none⟩)].toArray)++Array.replicate (fn.ntmps-(#[Value.func (.yield l) #[] #[]]++[Value.pointer (some ⟨b0,off0,none⟩)].toArray).size) undef,defers:=[]}:Act)=a0
 have hB:a0.tmps.size=19∧a0.tmps[0]?=some (.func (.yield l) #[] #[])∧a0.tmps[1]?=some (.pointer (some ⟨b0,off0,none⟩))∧a0.defers=[]:=by
  subst ha0;rw[hnt];exact⟨by simp,by simp,by simp,rfl⟩
 clear ha0
 rw[hx.shape]
 have key:∀{F:Fence} {n:Nat} {Q:Exit→Act→World→Prop} {a:Act} {w:World} {i:Nat} {l:List Oper},wpListIn F n P l.toArray Q l a w→(Code.region i l.toArray false).wpIn F n P Q a w:=fun h=>wpIn_region_lit h
 have sb:∀{a:Act} {w:World} {o:Oper} {d t s:Tmp} {m:Int},fk o d (.binOp .sub tI (.tmp t) (.const (.int .i64 1)) tI)→a.tmps[t]?=some (.int .i64 m)→-2^62≤m→m≤2^62→(execOp a.eval o).run P w=.ok (.value (.int .i64 (m-1))) w:=by
  intro a w o d t s m ho ht h1 h2
  refine Pf hT ho (gl ht) rfl (r:=⟨.int .i64 (IntKind.i64.wrap (m-1)),[],[]⟩) rfl trivial fun z hz=>?_
  rw[wrap64 (n:=m-1) (by omega)]at hz
  exact hz.bq.int
 have ge:∀{a:Act} {w:World} {o:Oper} {d t s:Tmp} {m:Int},fk o d (.binOp .geq tI (.tmp t) (.const (.int .i64 0)) tI)→a.tmps[t]?=some (.int .i64 m)→(execOp a.eval o).run P w=.ok (.value (.bool (decide (m≥0)))) w:=by
  intro a w o d t s m ho ht
  exact Pf hT ho (gl ht) rfl (r:=⟨.bool (decide (m≥0)),[],[]⟩) rfl trivial fun z hz=>hz.bq.bool
 refine wpIn_seq (wpIn_mono (Q:=fun e a w=>e=.normal∧w=W0∧a.tmps.size=19∧a.tmps[0]?=some (.func (.yield l) #[] #[])∧a.tmps[1]?=some (.pointer (some ⟨b0,off0,none⟩))∧a.tmps[3]?=some (.int .i64 ((n:Int)-1))∧a.defers=[]) (key (l:=[_,_,_,_]) ?_) ?_)
 ·obtain⟨z1,z2,z3,z4⟩:=hB
  refine iN hx.o0 (fun _ h=>by cases h) (run_load hx.o0 (by rw[gl z3];exact hls 0 W0 hW0)) ?_
  refine iN hx.o1 (fun _ h=>by cases h) (ake hx.o1 hu (base:=base) (m:=n) (cap:=cap) (gl (by simp only[ff,z1,Nat.reduceLT,if_true]))) ?_
  refine iN hx.o2 (fun _ h=>by cases h) (sb (s:=0) (m:=n) hx.o2 (by simp only[ff,fh,z1,Nat.reduceEqDiff,Nat.reduceLT,if_true,if_false]) (by omega) (by omega)) ?_
  refine iN hx.o3 (fun _ h=>by cases h) (Nv hx.o3) (wpListIn_nil ?_)
  rw[gl (v:=.int .i64 ((n:Int)-1)) (by simp only[ff,fh,z1,Nat.reduceEqDiff,Nat.reduceLT,if_true,if_false])]
  refine⟨rfl,rfl,by simp only[fh];exact z1,?_,?_,?_,by simp only[put_defers];exact z4⟩
  ·simp only[ff,fh,z1,z2,Nat.reduceEqDiff,Nat.reduceLT,if_true,if_false]
  ·simp only[ff,fh,z1,z3,Nat.reduceEqDiff,Nat.reduceLT,if_true,if_false]
  ·simp only[ff,fh,z1,Nat.reduceEqDiff,Nat.reduceLT,if_true,if_false]
 rintro e a1 W1 ⟨rfl,rfl,z1,z2,z3,z4,z5⟩
 show(Code.block 0 _).wpIn Fence.wide 2 P (bodyPost P fn _) a1 W1
 refine wpIn_block (Fv (P:=P) (La n l b0 off0 J) (fun i=>n-i) (s:=0) ?_ ⟨by omega,z1,z2,z3,by rw[z4];congr 2;omega,z5,hW0⟩)
 rintro i a W ⟨hi,y1,y2,y3,y4,y5,hj⟩
 refine wpIn_seq (wpIn_mono (Q:=fun e a' w'=>(e=.normal∧i<n∧W=w'∧a'.tmps.size=19∧a'.tmps[0]?=some (.func (.yield l) #[] #[])∧a'.tmps[1]?=some (.pointer (some ⟨b0,off0,none⟩))∧a'.tmps[3]?=some (.int .i64 ((n:Int)-1-i))∧a'.defers=[])∨(e=.exit 0∧i=n∧W=w'∧a'.defers=[])) ?_ ?_)
 ·refine wpIn_seq (key (l:=[_,_]) ?_)
  refine iN hx.p0 (fun _ h=>by cases h) (yB hx.p0) ?_
  rw[gl y4]
  refine iN hx.p1 (fun _ h=>by cases h) (ge (s:=0) (m:=(n:Int)-1-i) hx.p1 (by simp only[ff,y1,Nat.reduceLT,if_true])) (wpListIn_nil ?_)
  have q8:((a.put (some 7) (Value.int .i64 ((n:Int)-1-i))).put (some 8) (.bool (decide ((n:Int)-1-i≥0)))).eval (.tmp 8)=.bool (decide ((n:Int)-1-i≥0)):=gl (by simp only[ff,fh,y1,Nat.reduceEqDiff,Nat.reduceLT,if_true,if_false])
  by_cases hlt:i<n
  ·rw[show decide ((n:Int)-1-i≥0)=true by simp;omega]at q8 ⊢
   refine wpIn_cond_true q8 (wpIn_skip (.inl ⟨rfl,hlt,rfl,by simp only[fh];exact y1,?_,?_,?_,by simp only[put_defers];exact y5⟩))
   ·simp only[ff,fh,y1,y2,Nat.reduceEqDiff,Nat.reduceLT,if_true,if_false]
   ·simp only[ff,fh,y1,y3,Nat.reduceEqDiff,Nat.reduceLT,if_true,if_false]
   ·simp only[ff,fh,y1,y4,Nat.reduceEqDiff,Nat.reduceLT,if_true,if_false]
  ·rw[show decide ((n:Int)-1-i≥0)=false by simp;omega]at q8 ⊢
   exact wpIn_cond_false q8 (wpIn_exit (.inr ⟨rfl,by omega,rfl,by simp only[put_defers];exact y5⟩))
 rintro e a2 W2 (⟨rfl,hlt,rfl,y1,y2,y3,y4,y5⟩|⟨rfl,rfl,rfl,y5⟩)
 rotate_left
 ·exact⟨y5,.tuple #[],results_none hres _ _ _,⟨_,rfl⟩,hj⟩
 obtain⟨b,off,rfl,g1'⟩:=g1.resolve_left (by omega)
 have hle:(Instr.loadAt tE (.pointer (some ⟨b,off+(n-1-i)*es,none⟩))).run P W=.ok (.agg (cf (n-1-i)).toArray) W:=by
  refine Wx hT hE hA ?_ (by rw[g4 _ (by omega),hes])
  obtain⟨c,ty,fr,h1,h2,h3⟩:=g1' (n-1-i) (by omega)
  intro j v hv
  rw[uo (hJ i W hj _ _ _ _ h2 h1)]
  exact h3 j v hv
 have hix:(Instr.indexAt tS (.slice (some ⟨b,off,none⟩) n cap) (.int .i64 ((n:Int)-1-i))).run P W=.ok (.pointer (some ⟨b,off+(n-1-i)*es,none⟩)) W:=by
  have:=AM (P:=P) (w:=W) hT hS hdS hE (b:=b) (o:=off) (n:=n) (cap:=cap) (kd:=.i64) (i:=(n:Int)-1-i) (by omega) (by omega)
  rw[this,hes,show((n:Int)-1-i).toNat=n-1-i by omega]
 obtain⟨ts,hq6⟩:=hx.q6
 obtain⟨tn,hq7⟩:=hx.q7
 show(Code.seq _ _).wpIn Fence.wide 2 P _ a2 W
 refine wpIn_seq (wpIn_block (wpIn_seq (key (l:=[_,_,_,_,_,_,_,_]) ?_)))
 refine iN hx.q0 (fun _ h=>by cases h) (yB hx.q0) ?_
 rw[gl y2]
 refine iN hx.q1 (fun _ h=>by cases h) (yB hx.q1) ?_
 rw[gl (v:=.int .i64 ((n:Int)-1-i)) (by simp only[ff,y1,y4,Nat.reduceEqDiff,Nat.reduceLT,if_true,if_false])]
 refine iN hx.q2 (fun _ h=>by cases h) (run_load hx.q2 (by rw[gl (v:=.pointer (some ⟨b0,off0,none⟩)) (by simp only[ff,fh,y1,y3,Nat.reduceEqDiff,Nat.reduceLT,if_true,if_false])];exact hls i W hj)) ?_
 refine iN hx.q3 (fun _ h=>by cases h) (yB hx.q3) ?_
 rw[gl (v:=.int .i64 ((n:Int)-1-i)) (by simp only[ff,fh,y1,y4,Nat.reduceEqDiff,Nat.reduceLT,if_true,if_false])]
 refine iN hx.q4 (fun _ h=>by cases h) (agP hx.q4 (v:=.pointer (some ⟨b,off+(n-1-i)*es,none⟩)) ?_) ?_
 ·rw[gl (v:=.slice (some ⟨b,off,none⟩) n cap) (by simp only[ff,fh,y1,Nat.reduceEqDiff,Nat.reduceLT,if_true,if_false]),gl (v:=.int .i64 ((n:Int)-1-i)) (by simp only[ff,fh,y1,Nat.reduceEqDiff,Nat.reduceLT,if_true,if_false])]
  exact hix
 refine iN hx.q5 (fun _ h=>by cases h) (run_load hx.q5 (by rw[gl (v:=.pointer (some ⟨b,off+(n-1-i)*es,none⟩)) (by simp only[ff,fh,y1,Nat.reduceEqDiff,Nat.reduceLT,if_true,if_false])];exact hle)) ?_
 refine afD hq6 (l:=l) (gl (by simp only[ff,fh,y1,Nat.reduceEqDiff,Nat.reduceLT,if_true,if_false])) (vs:=#[.int .i64 ((n:Int)-1-i),.agg (cf (n-1-i)).toArray]) ?_ (hY i W hlt hj) ?_
 ·simp only[List.map_toArray,List.map_cons,List.map_nil]
  rw[gl (v:=.int .i64 ((n:Int)-1-i)) (by simp only[ff,fh,y1,Nat.reduceEqDiff,Nat.reduceLT,if_true,if_false]),gl (v:=.agg (cf (n-1-i)).toArray) (by simp only[ff,fh,y1,Nat.reduceEqDiff,Nat.reduceLT,if_true,if_false])]
 rintro e W3 ⟨rfl,hj3⟩
 refine⟨_,rfl,?_⟩
 refine iN hq7 (fun _ h=>by cases h) (VG hq7 (b:=true) (gl (by simp only[ff,fh,y1,Nat.reduceEqDiff,Nat.reduceLT,if_true,if_false]))) (wpListIn_nil ?_)
 refine wpIn_cond_false (gl (by simp only[ff,fh,y1,Nat.reduceEqDiff,Nat.reduceLT,if_true,if_false,Bool.not_true])) (wpIn_skip ?_)
 refine key (l:=[_,_,_]) ?_
 refine iN hx.s0 (fun _ h=>by cases h) (yB hx.s0) ?_
 rw[gl (v:=.int .i64 ((n:Int)-1-i)) (by simp only[ff,fh,y1,y4,Nat.reduceEqDiff,Nat.reduceLT,if_true,if_false])]
 refine iN hx.s1 (fun _ h=>by cases h) (sb (s:=0) (m:=(n:Int)-1-i) hx.s1 (by simp only[ff,fh,y1,Nat.reduceEqDiff,Nat.reduceLT,if_true,if_false]) (by omega) (by omega)) ?_
 refine iN hx.s2 (fun _ h=>by cases h) (Nv hx.s2) (wpListIn_nil ?_)
 rw[gl (v:=.int .i64 ((n:Int)-1-i-1)) (by simp only[ff,fh,y1,Nat.reduceEqDiff,Nat.reduceLT,if_true,if_false])]
 have hI:La n l b0 off0 J (i+1) ((((a2.put (some 11) (.func (.yield l) #[] #[])).put (some 12) (.int .i64 ((n:Int)-1-i))).put (some 13) (.slice (some ⟨b,off,none⟩) n cap)|>.put (some 14) (.int .i64 ((n:Int)-1-i))|>.put (some 15) (.pointer (some ⟨b,off+(n-1-i)*es,none⟩))|>.put (some 16) (.agg (cf (n-1-i)).toArray)|>.put (some 17) (.bool true)|>.put (some 18) (.bool !true)|>.put (some 9) (.int .i64 ((n:Int)-1-i))|>.put (some 10) (.int .i64 ((n:Int)-1-i-1))|>.put (some 3) (.int .i64 ((n:Int)-1-i-1)))) W3:=by
  refine⟨by omega,by simp only[fh];exact y1,?_,?_,?_,by simp only[put_defers];exact y5,hj3⟩
  ·simp only[ff,fh,y1,y2,Nat.reduceEqDiff,Nat.reduceLT,if_true,if_false]
  ·simp only[ff,fh,y1,y3,Nat.reduceEqDiff,Nat.reduceLT,if_true,if_false]
  ·simp only[ff,fh,y1,y4,Nat.reduceEqDiff,Nat.reduceLT,if_true,if_false];congr 2;omega
 have hμ:n-(i+1)<n-i:=by omega
 exact⟨i+1,hI,hμ⟩
section funcs
variable {P:Program} {T:Types} (hT:cY P T)
include hT in
theorem Mu {f:FuncId} {fn:Func} {x:Code} (hf:aO P f fn x) {args:List AV} {r:cJ} (hk:aZ args=[]) (hlen:args.length≤fn.ntmps) (hpost:r.post=[])
  (h:r.need→∀c:Ctx,c.ro=none→Kept [] c→aq P c fn.ntmps x ⟨aN 0 args,[],0⟩ (dO c (Fin T fn r.res))) (K:Nat) (pre:aC):aB P f K args pre r:=
 Ou hT hf hk hlen hpost (fun need c h0 hro=>.down (h need c hro (qv fun _=>jl h0))) K pre
end funcs
theorem Le.bare {c:Ctx} {ρ:Nat→Option Nat} {s s2:aF} (h:Le c ρ s s2):Le c ρ ⟨[],s.store,s.next⟩ ⟨[],s2.store,s2.next⟩:=
 ⟨h.inj,fun t v ht=>by simp[look]at ht,h.store,h.dom,h.keep⟩
theorem ads {c:Ctx} {s':aF} {ls:List Nat} {us vs:List AV} {os ps:aC} {nx:Nat} (rl:List (Nat×Nat)) (hv:aX ls s'=some (us,os)) (hk0:∀k x,c.k0 k=some x→look k rl=some k) (hr:gD nx rl=true)
  (hs:fc (aT rl) us vs) (ho:ur nx (aT rl) os ps):Le c (aT rl) s' ⟨aA ls vs,ps,nx⟩:=by
 unfold aX at hv
 simp only[Option.some.injEq,Prod.mk.injEq]at hv
 obtain⟨rfl,rfl⟩:=hv
 have hall:∀p∈rl,p.1<nx∧∀q∈rl,p.2=q.2→p.1=q.1:=fun p hp=>by
  have:=List.all_eq_true.1 hr p hp
  simp only[Bool.and_eq_true,decide_eq_true_eq]at this
  refine⟨this.1,fun q hq he=>?_⟩
  have h3:=List.all_eq_true.1 this.2 q hq
  simpa [he]using h3
 refine⟨?_,Ca hs,fun k2 o2 hk=>?_,fun k2 k1 hk=>(hall _ (lJ hk)).1,hk0⟩
 ·intro a b k ha hb
  exact(hall _ (lJ ha)).2 _ (lJ hb) rfl
 ·refine(EK ho k2 o2 hk).imp (fun⟨k1,o1,g1,g2,g3⟩=>⟨k1,o1,g1,?_,g3⟩) id
  rw[kX]at g2
  split at g2
  ·exact g2
  ·simp at g2
theorem aO.enters {P:Program} {f:FuncId} {fn:Func} {x:Code} (h:aO P f fn x):∀args w,(callFunc f args).run P w=.ok (.enter f args) w:=fun args w=>by
 have hb:fn.body.isNone=false:=by rw[h.body];rfl
 simp only[callFunc,Sem.run_bind,run_program,Result.andThen_ok,h.get,h.name,hb,Bool.false_eq_true,if_false,Sem.run_pure]
section rule
variable {P:Program} {c:Ctx} {nt:Nat} {s:aF} {Q:aj→aF→Prop} {T:Types} (hT:cY P T) {Γ:aR} (hΓ:aY P Γ) (hm:P.follows .mixedOrders=true)
include hT hΓ hm in
theorem aq.Ob {x assign body:Code} {g p0 p1:Tmp} (p:List Nat) {i:Nat} (hc:chain x p=true) (hx:part x p=.block i (.rangeFunc (.tmp g) #[p0,p1] assign body)) (hd:bQ nt x=true) (hro:c.ro=none) (h0:Kept [] c)
  {gf:FuncId} {caps:List AV} {n:Nat} {u v:Nat→AV} (heg:∀args w,(callFunc gf args).run P w=.ok (.enter gf args) w) (hit:yg P gf caps n u v) (hp0:p0<nt) (hp1:p1<nt) (hne:p0≠p1)
  {f1 f2 f3:List Nat} (N:Nat) (L LA:List Nat) (V:List AV) (hL:∀i,put p1 (v i) (put p0 (u i) (aA L V))=aA (L++[p0,p1]) (V++[u i,v i])) (hg:look g (aA L V)=some (.func gf caps)) (st:Nat→aC) (nx nA:Nat) (VA:Nat→List AV) (OA:Nat→aC) (kp:List Nat)
  (hp:∃t,aH T Γ f1 N L (before x p) s=some t∧t.all fun e w=>e=.normal∧∃rl,(gD nx rl&&rl.all fun q=>kp.contains q.1)=true∧w.1=V.map (kD rl)∧V.all (jY rl)=true∧lQ nx rl w.2 (st 0))
  (ha:∀i,i<n→∃t,aH T Γ f2 N LA [assign] ⟨aA (L++[p0,p1]) (V++[u i,v i]),st i,nx⟩=some t∧t.all fun e w=>e=.normal∧dU kp w (VA i) (OA i) nA)
  (hb:∀i,i<n→∃t,aH T Γ f3 N L [body] ⟨aA LA (VA i),OA i,nA⟩=some t∧t.all fun e w=>e=.normal∧dU kp w V (st (i+1)) nx)
  (hend:aD P c nt (behind x p) ⟨aA L V,st n,nx⟩ Q):aq P c nt x s Q:=by
 obtain⟨t,h1,h2⟩:=hp
 have hdb:=uy (p:=p) hc hd
 rw[hx]at hdb
 simp only[bQ,Bool.and_eq_true]at hdb
 refine aq.hole p hc (aD.bf hT hΓ hm N L h1 (od hd) (aa.eF ?_ h2))
 rintro e w ⟨rfl,rl,g1,g2,g3,g4⟩ s' hs'
 simp only[Bool.and_eq_true]at g1
 show aq P c nt (part x p) s' _
 rw[hx]
 refine aq.Fo (aq.ad6 (gf:=gf) (caps:=caps) (n:=n) (u:=u) (v:=v) (sl:=aA L V) (st:=st) (nx:=fun _=>nx) hro (ads rl hs' (fun k y hk=>absurd (h0 k y hk) (by simp)) g1.1 (H8 g2 g3) (CQ g4)) hg heg hit hp0 hp1 hne ?_ ?_)
 ·intro c' hk' i hi
  have hkp:∀{c':Ctx},(∀k y,c'.k0 k=some y→(aT rl k).isSome=true)→Kept kp c':=fun {c'} hk' k y hk=>by
   obtain⟨j,hj⟩:=Option.isSome_iff_exists.1 (hk' k y hk)
   have:=List.all_eq_true.1 g1.2 _ (lJ hj)
   simpa using this
  rw[hL]
  obtain⟨t,a1,a2⟩:=ha i hi
  refine aq.bf hT hΓ hm N LA a1 hdb.1 (aa.eF ?_ a2)
  rintro e w ⟨rfl,hre⟩ s2 hs2
  refine⟨rfl,fun c2 hk2=>aq.kg (hre.le hs2 (hkp hk2)) ?_⟩
  obtain⟨t,b1,b2⟩:=hb i hi
  refine aq.bf hT hΓ hm N L b1 hdb.2 (aa.eF ?_ b2)
  rintro e w ⟨rfl,hre⟩ s3 hs3
  obtain⟨ρ',hle⟩:=hre.le hs3 (hkp hk2)
  exact⟨rfl,ρ',hle.bare⟩
 ·show aD P c nt (behind x p) _ Q
  exact hend
end rule
end Go.Am

/- Functions that give back new objects: two of them; one beside an object that is handed by a pointer. -/
namespace Go.Am
open Go AV
section rules
variable {P:Program} {T:Types} (hT:cY P T)
def oV (T:Types) (sl:List (Nat×AV)) (os:aC):List ResultVar→Option (List AV×List Prop)
 |[]=>some ([],[])
 |.tmp t::l=>match look t sl,oV T sl os l with
  |some v,some (m,q)=>if v.isTuple then none else some (v::m,q)
  |_,_=>none
 |.cell a t::l=>match look t T,look a sl,oV T sl os l with
  |some ti,some (.ptr k i es off p),some (m,q)=>match kZ os ti (.ptr k i es off p)with
   |some r=>some (r.val::m,r.gG++q)
   |none=>none
  |_,_,_=>none
theorem ab6 {st:aC} {ks:List Nat} {ti:TI} {k i es off:Nat} {p:List Nat} {r:dF} (h:kZ (pick st ks) ti (.ptr k i es off p)=some r):kZ st ti (.ptr k i es off p)=some r:=by
 have:∀o,look k (pick st ks)=some o→look k st=some o:=fun o ho=>by
  rw[kX]at ho
  split at ho
  ·exact ho
  ·simp at ho
 simp only[kZ]at h ⊢
 cases hl:look k (pick st ks)with
 |none=>simp[hl]at h
 |some o=>rw[hl]at h;rw[this o hl];exact h
theorem Iz {T:Types} {s:aF} {ls ks:List Nat}:∀{l:List ResultVar} {us:List AV} {q:List Prop},oV T (aA ls (jH s ls)) (pick s.store ks) l=some (us,q)→fy T s l=some (us,q)
 |[],us,q,h=>by simp only[oV,Option.some.injEq,Prod.mk.injEq]at h;obtain⟨rfl,rfl⟩:=h;rfl
 |.tmp t::l,us,q,h=>by
  simp only[oV]at h
  split at h
  ·rename_i v m q' hv hm
   split at h
   ·simp at h
   ·rename_i ht
    simp only[Option.some.injEq,Prod.mk.injEq]at h
    obtain⟨rfl,rfl⟩:=h
    simp only[fy,rT,yD (by simpa using ht) hv,Iz hm]
    simp[ht]
  ·simp at h
 |.cell a t::l,us,q,h=>by
  simp only[oV]at h
  split at h
  ·rename_i ti k i es off p m q' h1 h2 hm
   split at h
   ·rename_i r hr
    simp only[Option.some.injEq,Prod.mk.injEq]at h
    obtain⟨rfl,rfl⟩:=h
    simp only[fy,rT,h1,yD rfl h2,ab6 hr,Iz hm]
   ·simp at h
  ·simp at h
theorem aaG {T:Types} {fn:Func} {ls:List Nat} {vs us ws:List AV} {os ps pre:aC} {s':aF} {τ:Nat→Option Nat} {r:cJ} {q:List Prop} (hv:aX ls s'=some (vs,os)) (hr:oV T (aA ls vs) os fn.results.toList=some (us,q)) (hq:ax q) (hle:fc τ us ws) (hres:r.res=iM ws)
  (he:cj (er r.post) pre=ps) (ho:mX τ os ps):uT T fn τ pre r s':=by
 unfold aX at hv
 simp only[Option.some.injEq,Prod.mk.injEq]at hv
 obtain⟨rfl,rfl⟩:=hv
 refine⟨⟨us,q,ws,Iz hr,hq,hle,hres⟩,fun k o hk=>?_⟩
 rw[he]at hk
 obtain⟨k1,o1,g1,g2,g3⟩:=DQ ho k o hk
 refine⟨k1,o1,g1,?_,g3⟩
 rw[kX]at g2
 split at g2
 ·exact g2
 ·simp at g2
end rules
section
variable {P:Program} {c:Ctx} {nt:Nat} {s:aF} {Q:aj→aF→Prop} {T:Types} (hT:cY P T) {Γ:aR} (hΓ:aY P Γ) (hm:P.follows .mixedOrders=true)
end
end Go.Am

/- A list that may be written to, with its capacity. -/
namespace Go.Am
open AV
theorem ajP {τ:Nat→Option Nat} {cap:Nat} {u v:AV} (hu:u.isAgg=false) (h:fX τ u v):fX τ (.bp cap u) v:=by
 refine⟨h.1.trans hu,fun M w β cs hc=>?_⟩
 cases hc with
 |bp ha h1 h2=>cases h2;exact h.2 _ _ _ _ h1
section rules
variable {P:Program} {c:Ctx} {nt:Nat} {x:Code} {s:aF} {Q:aj→aF→Prop}
theorem aq.bp {t k es s0 n:Nat} (ht:look t s.cr=some (.own k es s0 n)) (h:∀cap,n≤cap→aq P c nt x ⟨qV (some t) (.bp cap (.own k es s0 n)) s.cr,s.store,s.next⟩ Q):aq P c nt x s Q:=by
 intro a w ⟨hd,hs,β,hw,hsl⟩
 obtain⟨xv,hx,hv⟩:=hsl t _ ht
 have key:∃base cap,xv=.slice base n cap∧n≤cap:=by
  rcases hv.own with⟨b,o,cap,N,rfl,_,_,_,h4,_⟩|⟨rfl,_,rfl,_⟩
  ·exact⟨_,_,rfl,h4⟩
  ·exact⟨_,_,rfl,Nat.le_refl _⟩
 obtain⟨base,cap,rfl,hn⟩:=key
 refine h cap hn a w ⟨hd,hs,β,hw,fun t' v' hv'=>?_⟩
 rw[Bp]at hv'
 split at hv'
 ·rename_i he
  simp only[Option.some.injEq]at he hv'
  subst he
  subst hv'
  exact⟨_,hx,aV.bq (.bK (.bp rfl (hv.cell rfl) .nil) rfl)⟩
 ·exact hsl t' v' hv'
variable {T:Types} (hT:cY P T)
include hT in
theorem aep {f:FuncId} {fn:Func} {x:Code} (hf:aO P f fn x) {k es s0 n:Nat} {rest ws:List AV} {o2 o oa:ah} {K:Nat} {l:List Prop}
  (hkr:aZ rest=[]) (hrt:(rest.all fun v=>!v.isTuple)=true) (hlen:rest.length+1≤fn.ntmps) (ho:ax l→∀ρ,cu ρ o2 o)
  (h:ax l→∀c:Ctx,Kept [0] c→aq P c fn.ntmps x ⟨aN 0 (.own 0 es s0 n::rest),[(0,o)],1⟩ fun e s'=>(e=.normal∨e=.ret)∧∃ls vs us q os o1,aX ls s'=some (vs,os)∧oV T (aA ls vs) os fn.results.toList=some (us,q)∧ax q∧fc (aT [(k,0)]) us ws∧
   look 0 os=some o1∧cu (aT [(k,0)]) o1 oa):
  aB P f K (.own k es s0 n::rest) [(k,o2)] ⟨iM ws,[(k,oa)],l⟩:=by
 intro need
 refine(mK hT hf (args0:=.own 0 es s0 n::rest) (pre0:=[(0,o)]) (nx:=1) [(0,k)] (by simpa using hlen) (by simp[gD]) ⟨⟨rfl,cw rfl rfl rfl⟩,DX hkr hrt⟩ ⟨⟨k,o2,rfl,oJ,ho need _⟩,trivial⟩
  (fun x k' h=>?_) (fun x o h=>.inl ?_) (fun need c h0=>?_):aB P f K (.own k es s0 n::rest) [(k,o2)] ⟨iM ws,[(k,oa)],l⟩) need
 ·simp only[aT,look]at h
  split at h
  ·simp only[Option.some.injEq]at h;subst h;exact⟨_,oJ⟩
  ·simp at h
 ·simp only[look]at h ⊢
  split at h
  ·rename_i he;exact⟨o2,by rw[if_pos he]⟩
  ·simp at h
 have hk:Kept [0] c:=fun a y hy=>by
  have:=h0 a y hy
  simp only[aT,look]at this
  split at this
  ·rename_i he;have:=eq_of_beq he;subst this;exact List.mem_singleton_self _
  ·simp at this
 refine(h need c hk).mono ?_
 rintro e s' ⟨h1,ls,vs,us,q,os,o1,h2,h3,hq,h4,h5,h6⟩
 exact⟨h1,aT [(k,0)],qb,.inr (aaG (ws:=ws) (ps:=[(k,oa)]) h2 h3 hq h4 rfl (by simp[cj,er,put]) ⟨⟨0,o1,oJ,h5,h6⟩,trivial⟩)⟩
end rules
end Go.Am

/- A variable that nothing writes to any more, as final data. -/
namespace Go.Am
open AV
section rules
variable {P:Program} {c:Ctx} {nt:Nat} {x:Code} {s:aF} {Q:aj→aF→Prop}
end rules
end Go.Am

/- The call of a law, from its contract: whatever the arguments. -/
namespace Go.Am
open Go Go.ChangeShapes Go.WideShapes Go.ChangeAt Go.RowKit AV
inductive PK where
 |list
 |int (k:IntKind)
 |bool
def MP (P:Program):PK→TypeId→Prop
 |.list,t=>∃e,P.underlying t=some (.slice e)∧P.underlying e=some (.int .i64)∧P.cellsOf e=1
 |.int k,t=>P.underlying t=some (.int k)
 |.bool,t=>P.underlying t=some .bool
def x7 (P:Program):List PK→List TypeId→Prop
 |[],[]=>True
 |k::ks,t::ts=>(MP P k t∧P.readableRec t=true∧t<P.types.size)∧x7 P ks ts
 |_,_=>False
def OM:PK→AV→Prop
 |.list,a=>∃(n:Nat) (z:Nat→Int),a=.ak 1 n (fun i=>.int .i64 (z i))
 |.int k,a=>∃n,a=.int k n
 |.bool,a=>∃b,a=.bool b
def Ew:List PK→List AV→Prop
 |[],as=>as=[]
 |k::ks,as=>∃a l,as=a::l∧OM k a∧Ew ks l
section
variable {P:Program} {H:Type} {enc:TypeId×Value→H} {W:World} {base:Nat}
theorem VI {k:PK} {t:TypeId} {v:Value} {d:DataW H} {p:List MemPlace} (hk:MP P k t) (h:DataW.Trod enc P W 0 (fun _=>true) true t v d p) (hv:Value.okWide P W .any base t v):∃a,OM k a∧aV (fun _=>False) W aW a v:=by
 cases k with
 |int k=>
  obtain⟨n,rfl⟩:=okWide_int hk hv
  exact⟨_,⟨n,rfl⟩,.bK (.int .nil) rfl⟩
 |bool=>
  obtain⟨b,rfl⟩:=okWide_bool hk hv
  exact⟨_,⟨b,rfl⟩,.bK (.bool .nil) rfl⟩
 |list=>
  obtain⟨e,h1,h2,h3⟩:=hk
  obtain⟨a0,len,cap,rfl⟩:=okWide_slice h1 hv
  obtain⟨fuel,hf⟩:=h
  have key:∀{z:Nat→Int},len≤cap→(len=0∨∃b o,a0=some ⟨b,o,none⟩∧∀i,i<len→W.cell? ⟨b,o+i,none⟩=some (.int .i64 (z i)))→aV (fun _=>False) W aW (.ak 1 len (fun i=>.int .i64 (z i))) (.slice a0 len cap):=fun {z} hcap hr=>by
   refine .bK (.ak (cf:=fun i=>[.int .i64 (z i)]) ?_ (by omega) hcap (fun _ _=>rfl) (fun _ _=>.int .nil) .nil) rfl
   rcases hr with hr|⟨b,o,rfl,hr⟩
   ·exact .inl hr
   ·refine .inr ⟨b,o,rfl,fun i hi=>?_⟩
    have hc:=hr i hi
    simp only[World.cell?]at hc
    split at hc
    ·rename_i cs ty fr hh
     simp only[Option.isSome_none,Bool.false_eq_true,if_false]at hc
     refine⟨cs,ty,fr,hh,id,fun j v hj=>?_⟩
     have hj0:j=0:=by have:=(List.getElem?_eq_some_iff.1 hj).1;simp at this;exact this
     subst hj0
     simp only[List.getElem?_cons_zero,Option.some.injEq]at hj
     subst hj
     simpa using hc
    ·simp at hc
  rcases open_ints h1 h2 h3 hf with⟨hcs,hx⟩|⟨a,len',cap',zs,hcs,_,hl,hm,hz,hx,hcell,hwz⟩
  ·simp only[Value.cells,List.cons.injEq,Value.slice.injEq,and_true]at hcs
   obtain⟨rfl,rfl,rfl⟩:=hcs
   exact⟨_,⟨0,fun _=>0,rfl⟩,key (z:=fun _=>0) (Nat.le_refl _) (.inl rfl)⟩
  ·simp only[Value.cells,List.cons.injEq,Value.slice.injEq,and_true]at hcs
   obtain⟨rfl,rfl,rfl⟩:=hcs
   simp only[if_true]at hz
   refine⟨_,⟨len,fun i=>zs.getD i 0,rfl⟩,key hl ?_⟩
   rcases Nat.eq_zero_or_pos len with h0|h0
   ·exact .inl h0
   ·obtain⟨b,o,m⟩:=a
    have h1:=hcell 0 (by omega)
    have:m=none:=by
     cases m with
     |none=>rfl
     |some y=>exfalso;simp only[Addr.add,World.cell?]at h1;split at h1<;>simp at h1
    subst this
    exact .inr ⟨b,o,rfl,fun i hi=>by
     have h2:=hcell i (by omega)
     rcases Nat.eq_zero_or_pos i with hi|hi
     ·subst hi;simpa [Addr.add]using h2
     ·simpa [Addr.add,Nat.pos_iff_ne_zero.1 hi]using h2⟩
theorem LI:∀{ks:List PK} {ts:List TypeId} {vs:List Value} {ds:List (DataW H)} {p:List MemPlace},x7 P ks ts→DataW.TrodAll enc P W 0 (fun _=>true) true ts vs ds p→(∀(j:Nat) t v,ts[j]?=some t→vs[j]?=some v→Value.okWide P W .any base t v)→
  ∃as,Ew ks as∧bW (fun _=>False) W aW as vs
 |[],[],vs,ds,p,_,h,_=>by
  obtain⟨rfl,_,_⟩:=trodAll_nil h
  exact⟨[],rfl,trivial⟩
 |k::ks,t::ts,vs,ds,p,hk,h,hv=>by
  obtain⟨v,vs',d,ds',p1,q,rfl,rfl,rfl,hd,hrest⟩:=trodAll_cons h
  obtain⟨a,h1,h2⟩:=VI hk.1.1 hd (hv 0 t v rfl rfl)
  obtain⟨as,h3,h4⟩:=LI hk.2 hrest fun j t v h1 h2=>hv (j+1) t v h1 h2
  exact⟨a::as,⟨a,as,rfl,h1,h3⟩,h2,h4⟩
 |[],_::_,_,_,_,h,_,_=>h.elim
 |_::_,[],_,_,_,h,_,_=>h.elim
theorem LF {b:Nat} {sp:Nat→Bool} {held:Bool}:∀{ts:List TypeId} {vs:List Value} {ds:List (DataW H)} {p:List MemPlace},DataW.TrodAll enc P W b sp held ts vs ds p→ds.length=ts.length
 |[],vs,ds,p,h=>by
  obtain⟨_,rfl,_⟩:=trodAll_nil h
  rfl
 |t::ts,vs,ds,p,h=>by
  obtain⟨v,vs',d,ds',p1,q,rfl,rfl,rfl,hd,hrest⟩:=trodAll_cons h
  simp[LF hrest]
theorem OF (hl:laidOutB P=true) {W':World} (hb:Below W.heap.size W W'):∀{ks:List PK} {ts:List TypeId} {vs:List Value} {ds:List (DataW H)} {p:List MemPlace},x7 P ks ts→DataW.TrodAll enc P W 0 (fun _=>true) true ts vs ds p→(∀x∈p,x.block<W.heap.size)→
  DataW.TrodAll enc P W' 0 (fun b=>decide (b<W.heap.size)) true ts vs ds p
 |[],[],vs,ds,p,_,h,_=>by
  obtain⟨rfl,rfl,rfl⟩:=trodAll_nil h
  exact trodAll_mk0
 |k::ks,t::ts,vs,ds,p,hk,h,hlt=>by
  obtain⟨v,vs',d,ds',p1,q,rfl,rfl,rfl,hd,hrest⟩:=trodAll_cons h
  exact⟨_,_,Below.trod hl hk.1.2.1 hk.1.2.2 hd hb fun x hx=>hlt x (List.mem_append_left _ hx),OF hl hb hk.2 hrest fun x hx=>hlt x (List.mem_append_right _ hx),rfl⟩
 |[],_::_,_,_,_,h,_,_=>h.elim
 |_::_,[],_,_,_,h,_,_=>h.elim
theorem aaK (hl:laidOutB P=true) {f:FuncId} {fn:Func} (hf:P.funcs[f]?=some fn) (hb:fn.body.isNone=false) {ks:List PK} {ts:List TypeId} (hk:x7 P ks ts) {args:Array Value} {ds:List (DataW H)} {p:List MemPlace}
  (hA:DataW.TrodAll enc P W 0 (fun _=>true) true ts args.toList ds p) (hv:∀(j:Nat) t v,ts[j]?=some t→args[j]?=some v→Value.okWide P W .any base t v) (hlt:∀x∈p,x.block<W.heap.size) (hF:∀as,Ew ks as→aB P f 0 as [] ⟨.bool true,[],[]⟩):
  Calls P f args W fun e W'=>e=.returned (.bool true)∧Below W.heap.size W W'∧DataW.TrodAll enc P W' 0 (fun b=>decide (b<W.heap.size)) true ts args.toList ds p:=by
 obtain⟨as,h1,h2⟩:=LI hk hA fun j t v h1 h2=>hv j t v h1 (by simpa using h2)
 obtain⟨_,hF⟩:=hF as h1 trivial
 have hrel:aU ⟨fun _=>False,W,fun _=>False,aW,none⟩ [] (fun _=>False) aW W:=
  {obj:=fun k o h=>by simp[look]at h,cZ:=fun k o h=>by simp[look]at h,inj:=fun k k' o o' b N N' h=>by simp[look]at h,dom:=fun k x h=>by simp[aW]at h,keep:=fun k x h=>h,lt:=fun k b N h=>by simp[aW]at h,os:=rfl,tape:=rfl,output:=rfl,size:=Nat.le_refl _,block:=fun _ _ _=>rfl,fE:=fun b h=>h.elim,new:=fun k o b N h=>by simp[look]at h}
 have hM:aL ⟨fun _=>False,W,fun _=>False,aW,none⟩ [] aW=fun _=>False:=by
  funext b
  simp[aL,look]
 have hinv:=hF ⟨fun _=>False,W,fun _=>False,aW,none⟩ (fun _=>False) (fun _=>True) aW W _ rfl (fun b h=>h.elim) hrel (fun k h=>h.elim) (fun k _ _=>⟨id,trivial⟩) (by rw[hM];exact h2)
 rcases hinv with⟨fn',g1,g2,g3,g4⟩|⟨x,g1,_⟩
 ·have g5:=g4
  rw[show args.toList.toArray=args from by simp]at g5
  refine g5.mono fun e W' ⟨x,he,hx⟩=>?_
  obtain⟨β',q1,q2,q3⟩:=hx
  have:=q3.bool
  subst this
  have hbl:Below W.heap.size W W':=⟨q1.os,q1.tape,q1.output,q1.size,fun k hk=>q1.block k hk id⟩
  exact⟨he,hbl,OF hl hbl hk hA hlt⟩
 ·exfalso
  simp only[callFunc,Sem.run_bind,run_program,Result.andThen_ok,hf,hb,Bool.false_eq_true,if_false]at g1
  split at g1<;>simp at g1
end
end Go.Am
